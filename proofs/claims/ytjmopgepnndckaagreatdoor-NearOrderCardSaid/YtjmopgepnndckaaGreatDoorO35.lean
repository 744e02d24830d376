/-
  Contracts and laws: SortL Drawn SortQ.
-/
import Derived.Test.YtjmopgepnndckaaGreatDoorO34
import Derived.Shelf.SlLaysF0
import Derived.Shelf.SlLaysF
import Derived.Shelf.SlLaysE0
import Derived.Shelf.SlGeneric
import Derived.Ground.SlsfProg
import Derived.Ground.SlgnProg
import Derived.Test.YtjmopgepnndckaaGreatDoorProg
import Derived.Calls
import Derived.Sort.Grow
import Derived.Deep.Draws
import Derived.Shelf.SlSortCmp.WholeK
import Derived.Shelf.SlicesE.Clone
set_option linter.unusedSimpArgs false
set_option linter.unusedVariables false
namespace Go.Proofs
open Go.Shelf
def Tryz.sortH_ren : Go.Shelf.Ren := ⟨fun | 6 => 51 | 15 => 90 | 14 => 89 | 28 => 135 | 29 => 136 | 20 => 127 | 21 => 128 | 22 => 129 | 23 => 130 | 24 => 131 | 25 => 132 | 26 => 133 | 27 => 134 | 46 => 160 | 47 => 161 | 48 => 162 | 49 => 163 | 50 => 164 | 57 => 190 | n => n, fun | 22 => 29 | 24 => 51 | 25 => 109 | 3 => 3 | 39 => 91 | 0 => 0 | 53 => 162 | 55 => 43 | 4 => 4 | 46 => 190 | 45 => 189 | 50 => 194 | 5 => 5 | 9 => 9 | 66 => 215 | 70 => 219 | 76 => 249 | 77 => 62 | n => n, fun | n => n⟩
theorem Tryz.sortH : Go.Proofs.SlLaysF0.n6 Tryz.prog Tryz.sortH_ren := {
 mixed := by kernel_rfl
 f6 := ⟨Tryz.f51.name, by decide, Tryz.func51.trans (congrArg some (by kernel_rfl))⟩
 f14 := ⟨Tryz.f89.name, by decide, Tryz.func89.trans (congrArg some (by kernel_rfl))⟩
 f15 := Tryz.func90.trans (congrArg some (by kernel_rfl))
 f20 := ⟨Tryz.f127.name, by decide, Tryz.func127.trans (congrArg some (by kernel_rfl))⟩
 f21 := ⟨Tryz.f128.name, by decide, Tryz.func128.trans (congrArg some (by kernel_rfl))⟩
 f22 := ⟨Tryz.f129.name, by decide, Tryz.func129.trans (congrArg some (by kernel_rfl))⟩
 f23 := ⟨Tryz.f130.name, by decide, Tryz.func130.trans (congrArg some (by kernel_rfl))⟩
 f24 := ⟨Tryz.f131.name, by decide, Tryz.func131.trans (congrArg some (by kernel_rfl))⟩
 f25 := ⟨Tryz.f132.name, by decide, Tryz.func132.trans (congrArg some (by kernel_rfl))⟩
 f26 := ⟨Tryz.f133.name, by decide, Tryz.func133.trans (congrArg some (by kernel_rfl))⟩
 f27 := ⟨Tryz.f134.name, by decide, Tryz.func134.trans (congrArg some (by kernel_rfl))⟩
 f28 := Tryz.func135.trans (congrArg some (by kernel_rfl))
 f29 := Tryz.func136.trans (congrArg some (by kernel_rfl))
 f46 := ⟨Tryz.f160.name, by decide, Tryz.func160.trans (congrArg some (by kernel_rfl))⟩
 f47 := Tryz.func161.trans (congrArg some (by kernel_rfl))
 f48 := Tryz.func162.trans (congrArg some (by kernel_rfl))
 f49 := ⟨Tryz.f163.name, by decide, Tryz.func163.trans (congrArg some (by kernel_rfl))⟩
 f50 := ⟨Tryz.f164.name, by decide, Tryz.func164.trans (congrArg some (by kernel_rfl))⟩
 f57 := ⟨Tryz.f190.name, by decide, Tryz.func190.trans (congrArg some (by kernel_rfl))⟩
 t0 := Tryz.underlying0
 a0 := Tryz.isAgg0
 z0 := Tryz.sizeOf0
 v0 := Tryz.zeroValue0
 t3 := Tryz.underlying3
 a3 := Tryz.isAgg3
 z3 := Tryz.sizeOf3
 v3 := Tryz.zeroValue3
 t4 := Tryz.underlying4
 a4 := Tryz.isAgg4
 z4 := Tryz.sizeOf4
 v4 := Tryz.zeroValue4
 t5 := Tryz.underlying5
 a5 := Tryz.isAgg5
 z5 := Tryz.sizeOf5
 v5 := Tryz.zeroValue5
 t9 := Tryz.underlying9
 a9 := Tryz.isAgg9
 z9 := Tryz.sizeOf9
 v9 := Tryz.zeroValue9
 t22 := Tryz.underlying29
 a22 := Tryz.isAgg29
 z22 := Tryz.sizeOf29
 v22 := Tryz.zeroValue29
 t25 := Tryz.underlying109
 a25 := Tryz.isAgg109
 z25 := Tryz.sizeOf109
 v25 := Tryz.zeroValue109
 t39 := Tryz.underlying91
 a39 := Tryz.isAgg91
 z39 := Tryz.sizeOf91
 v39 := Tryz.zeroValue91
 t45 := Tryz.underlying189
 a45 := Tryz.isAgg189
 z45 := Tryz.sizeOf189
 v45 := Tryz.zeroValue189
 t46 := Tryz.underlying190
 a46 := Tryz.isAgg190
 z46 := Tryz.sizeOf190
 v46 := Tryz.zeroValue190
 t50 := Tryz.underlying194
 a50 := Tryz.isAgg194
 z50 := Tryz.sizeOf194
 v50 := Tryz.zeroValue194
 t53 := Tryz.underlying162
 a53 := Tryz.isAgg162
 z53 := Tryz.sizeOf162
 v53 := Tryz.zeroValue162
 t55 := Tryz.underlying43
 a55 := Tryz.isAgg43
 z55 := Tryz.sizeOf43
 v55 := Tryz.zeroValue43
 t66 := Tryz.underlying215
 a66 := Tryz.isAgg215
 z66 := Tryz.sizeOf215
 v66 := Tryz.zeroValue215
 t70 := Tryz.underlying219
 a70 := Tryz.isAgg219
 z70 := Tryz.sizeOf219
 v70 := Tryz.zeroValue219
 t76 := Tryz.underlying249
 a76 := Tryz.isAgg249
 z76 := Tryz.sizeOf249
 v76 := Tryz.zeroValue249
 t77 := Tryz.underlying62
 a77 := Tryz.isAgg62
 z77 := Tryz.sizeOf62
 v77 := Tryz.zeroValue62 }
def Tryz.cloneH_ren : Go.Shelf.Ren := ⟨fun | 41 => 53 | n => n, fun | 22 => 29 | 23 => 51 | 4 => 4 | n => n, fun | n => n⟩
theorem Tryz.cloneH : Go.Proofs.SlLaysE0.n41 Tryz.prog Tryz.cloneH_ren := {
 mixed := by kernel_rfl
 f41 := ⟨Tryz.f53.name, by decide, Tryz.func53.trans (congrArg some (by kernel_rfl))⟩
 t4 := Tryz.underlying4
 a4 := Tryz.isAgg4
 z4 := Tryz.sizeOf4
 v4 := Tryz.zeroValue4
 t22 := Tryz.underlying29
 a22 := Tryz.isAgg29
 z22 := Tryz.sizeOf29
 v22 := Tryz.zeroValue29 }
def Tryz.cloneQ_ren : Go.Shelf.Ren := ⟨fun | 41 => 65 | n => n, fun | 22 => 35 | 23 => 49 | 4 => 4 | n => n, fun | n => n⟩
theorem Tryz.cloneQ : Go.Proofs.SlLaysE0.n41 Tryz.prog Tryz.cloneQ_ren := {
 mixed := by kernel_rfl
 f41 := ⟨Tryz.f65.name, by decide, Tryz.func65.trans (congrArg some (by kernel_rfl))⟩
 t4 := Tryz.underlying4
 a4 := Tryz.isAgg4
 z4 := Tryz.sizeOf4
 v4 := Tryz.zeroValue4
 t22 := Tryz.underlying35
 a22 := Tryz.isAgg35
 z22 := Tryz.sizeOf35
 v22 := Tryz.zeroValue35 }
end Go.Proofs
namespace Go.Proofs.YtjmopgepnndckaaGreatDoor
open Go
theorem ask_drawn {α : Type} : ∀ (k : Ask α) (w : World), w.drawn ≤ (w.ask k).2.drawn
 | .done a, w => Nat.le_refl _
 | .ask what range k, w => by
  unfold World.ask
  simp only
  split
  ·exact ask_drawn (k 0) w
  ·exact Nat.le_of_succ_le (ask_drawn (k ((Question.extern what range).cut (w.tape w.drawn (Question.extern what range)))) { w with drawn := w.drawn + 1 })
theorem sys_drawn (w : World) (c : Sys) : w.drawn ≤ (w.sys c).2.drawn := by
 unfold World.sys
 have h := ask_drawn (Kernel.perform c w.os) w
 split
 ·exact Nat.le_refl _
 ·rename_i r os w' e
  rw [e] at h
  exact h
theorem far_drawn {P : Program} {w w' : World} {a : Addr} {v : Value} {b : Bool} {l : List Addr} (h : w.farStore P a v b = .ok (w', l)) : w'.drawn = w.drawn := by
 unfold World.farStore at h
 split at h
 ·split at h
  ·rename_i r e
   cases h
   unfold World.viewStore at e
   simp only [bind, Except.bind, pure, Except.pure, throw, throwThe, MonadExceptOf.throw] at e
   repeat' split at e
   all_goals first | cases e | skip
   all_goals rfl
  ·cases h
 ·cases h
theorem freeze_drawn (w : World) (a : Addr) (n : Nat) : (w.freeze a n).drawn = w.drawn := by
 unfold World.freeze
 split <;> rfl
def rw' {α : Type} : Result α → World
 | .ok _ w => w
 | .halt _ w => w
/-- a run never takes a draw back -/
theorem run_drawn {α : Type} (P : Program) (s : Sem α) : ∀ w : World, w.drawn ≤ (rw' (s.run P w)).drawn := by
 induction s with
 | pure a => intro w; exact Nat.le_refl _
 | load m a k ih =>
  intro w
  unfold Sem.run
  split
  ·exact ih _ w
  ·split
   ·exact ih _ w
   ·exact Nat.le_refl _
 | store m a v k ih =>
  intro w
  have key : w.drawn ≤ (rw' (match w.cell? a with
   | some _ => if w.frozen? a then .halt (.unsupported (.unsafePointer "a write to bytes that a string shares")) w else k.run P (w.setCell a v)
   | none => match w.farStore P a v (m == .atomic) with
    | .ok (w, _) => k.run P w
    | .error h => .halt h w)).drawn := by
   split
   ·split
    ·exact Nat.le_refl _
    ·exact ih (w.setCell a v)
   ·split
    ·rename_i w' l e
     exact Nat.le_trans (Nat.le_of_eq (far_drawn e).symm) (ih _)
    ·exact Nat.le_refl _
  cases v <;> first | exact Nat.le_refl _ | exact key
 | new o k ih => intro w; exact ih _ { w with heap := w.heap.push o }
 | shape r k ih => intro w; exact ih _ w
 | freeze a n k ih => intro w; exact Nat.le_trans (Nat.le_of_eq (freeze_drawn w a n).symm) (ih _)
 | frozen a k ih => intro w; exact ih _ w
 | getObj r k ih =>
  intro w
  unfold Sem.run
  split <;> first | exact Nat.le_refl _ | exact ih _ w
 | setObj r o k ih =>
  intro w
  unfold Sem.run
  split <;> first | exact Nat.le_refl _ | exact ih { w with heap := w.heap.setIfInBounds r o }
 | choose q k ih =>
  intro w
  unfold Sem.run
  split
  ·exact ih _ w
  ·exact Nat.le_of_succ_le (ih _ { w with drawn := w.drawn + 1 })
 | sys c k ih => intro w; exact Nat.le_trans (sys_drawn w c) (ih _ _)
 | program k ih => intro w; exact ih _ w
 | mark m k ih => intro w; exact ih w
 | halt h => intro w; exact Nat.le_refl _
theorem runT_drawn {α : Type} (P : Program) (s : Sem α) : ∀ (w : World) (es : Array Event), w.drawn ≤ (rw' (s.runT P w es).1).drawn := by
 induction s with
 | pure a => intro w es; exact Nat.le_refl _
 | load m a k ih =>
  intro w es
  unfold Sem.runT
  split
  ·exact ih _ w _
  ·split
   ·exact ih _ w _
   ·exact Nat.le_refl _
 | store m a v k ih =>
  intro w es
  have key : w.drawn ≤ (rw' (match w.cell? a with
   | some _ => if w.frozen? a then ((.halt (.unsupported (.unsafePointer "a write to bytes that a string shares")) w, es) : Result _ × Array Event) else k.runT P (w.setCell a v) (es.push (⟨.cell a, true, m == Mode.atomic⟩ : Event))
   | none => match w.farStore P a v (m == Mode.atomic) with
    | .ok (w, touched) => k.runT P w (es ++ touched.toArray.map fun x => (⟨.cell x, true, m == Mode.atomic⟩ : Event))
    | .error h => (.halt h w, es)).1).drawn := by
   split
   ·split
    ·exact Nat.le_refl _
    ·exact ih (w.setCell a v) _
   ·split
    ·rename_i w' l e
     exact Nat.le_trans (Nat.le_of_eq (far_drawn e).symm) (ih _ _)
    ·exact Nat.le_refl _
  cases v <;> first | exact Nat.le_refl _ | exact key
 | new o k ih => intro w es; exact ih _ { w with heap := w.heap.push o } _
 | shape r k ih => intro w es; exact ih _ w _
 | freeze a n k ih => intro w es; exact Nat.le_trans (Nat.le_of_eq (freeze_drawn w a n).symm) (ih _ _)
 | frozen a k ih => intro w es; exact ih _ w _
 | getObj r k ih =>
  intro w es
  unfold Sem.runT
  split <;> first | exact Nat.le_refl _ | exact ih _ w _
 | setObj r o k ih =>
  intro w es
  unfold Sem.runT
  split <;> first | exact Nat.le_refl _ | exact ih { w with heap := w.heap.setIfInBounds r o } _
 | choose q k ih =>
  intro w es
  unfold Sem.runT
  split
  ·exact ih _ w _
  ·exact Nat.le_of_succ_le (ih _ { w with drawn := w.drawn + 1 } _)
 | sys c k ih => intro w es; exact Nat.le_trans (sys_drawn w c) (ih _ _ _)
 | program k ih => intro w es; exact ih _ w _
 | mark m k ih => intro w es; exact ih w _
 | halt h => intro w es; exact Nat.le_refl _
/-- the world of a step -/
def gw : GStep → World
 | .go _ w _ | .comm _ _ _ _ w _ | .spawn _ _ w _ | .count _ w _ | .timer _ _ w _ | .alone _ _ w _ | .newcoro _ _ _ w _ | .coroswitch _ _ _ w _ | .collect _ w _ | .watch _ w _ | .ended _ w _ => w
theorem after_gw (es : Array Event) (s : GStep) : gw (GStep.after es s) = gw s := by
 cases s <;> rfl
theorem run_eq {α : Type} {P : Program} {s : Sem α} {w : World} {x : Result α} (h : s.run P w = x) : w.drawn ≤ (rw' x).drawn := h ▸ run_drawn P s w
theorem runT_eq {α : Type} {P : Program} {s : Sem α} {w : World} {es : Array Event} {x : Result α × Array Event} (h : s.runT P w es = x) : w.drawn ≤ (rw' x.1).drawn := h ▸ runT_drawn P s w es
theorem doReturn_gw (p : Program) (main : Bool) (fr : Frame) (cs : List Frame) (d : Option Dying) (v : Value) (w : World) : gw (doReturn p main fr cs d v w) = w := by
 unfold doReturn
 repeat' split
 all_goals rfl
theorem endWith_gw (w : World) (fd : Nat) (t : ByteArray) (o : Outcome) : w.drawn ≤ (gw (endWith w fd t o)).drawn := by
 unfold endWith
 have h := sys_drawn w (.write fd t)
 generalize w.sys (.write fd t) = x at h ⊢
 obtain ⟨r, w'⟩ := x
 simp only at h ⊢
 cases r <;> simp only <;> (repeat' split) <;> exact h
theorem endPrinting_gw (p : Program) (fr : Frame) (v : Value) (w : World) : gw (endPrinting p fr v w) = w := by
 unfold endPrinting
 simp only
 split <;> rfl
theorem endFatal_gw (p : Program) (fr : Frame) (cs : List Frame) (d : Option Dying) (m : String) (w : World) : w.drawn ≤ (gw (endFatal p fr cs d m w)).drawn := by
 unfold endFatal
 simp only
 split
 all_goals
  rename_i e
  exact run_eq e
theorem writeOn_gw (p : Program) (fr : Frame) (d : Dying) (f : Fatal) (w : World) : w.drawn ≤ (gw (writeOn p fr d f w)).drawn := by
 unfold writeOn
 simp only
 split
 ·exact Nat.le_refl _
 ·split
  all_goals
   rename_i e
   exact runT_eq e
theorem die_gw (p : Program) (fr : Frame) (d : Dying) (w : World) : w.drawn ≤ (gw (die p fr d w)).drawn := by
 unfold die
 split
 ·exact writeOn_gw _ _ _ _ _
 ·split
  ·split
   ·exact Nat.le_refl _
   ·exact endWith_gw _ _ _ _
  ·simp only
   split
   ·exact Nat.le_refl _
   ·split
    all_goals
     rename_i e
     exact run_eq e
   ·rename_i t recv name _
    generalize hx : Sem.runT p _ w _ = x
    have h := runT_eq hx
    obtain ⟨r, es⟩ := x
    simp only at h ⊢
    rw [after_gw]
    split
    all_goals first | exact Nat.le_refl _ | exact h | (rw [endPrinting_gw]; exact h)
   ·exact Nat.le_refl _
theorem ite_gw {c : Prop} [Decidable c] {a b : GStep} {n : Nat} (ha : n ≤ (gw a).drawn) (hb : n ≤ (gw b).drawn) : n ≤ (gw (if c then a else b)).drawn := by
 split
 ·exact ha
 ·exact hb
theorem callDeferred_gw (p : Program) (fr : Frame) (cs : List Frame) (dy : Option Dying) (d : Deferred) (w : World) : w.drawn ≤ (gw (callDeferred p fr cs dy d w)).drawn := by
 unfold callDeferred
 refine ite_gw (Nat.le_refl _) ?_
 ·generalize hx : Sem.runT p _ w _ = x
  have h := runT_eq hx
  obtain ⟨r, es⟩ := x
  simp only at h ⊢
  rw [after_gw]
  repeat' split
  all_goals first | exact h | exact Nat.le_trans h (endFatal_gw _ _ _ _ _ _) | skip
theorem unwind_gw (p : Program) (main : Bool) (fr : Frame) (cs : List Frame) (dy : Option Dying) (w : World) : w.drawn ≤ (gw (unwind p main fr cs dy w)).drawn := by
 unfold unwind
 split
 ·generalize hx : Sem.runT p _ w _ = x
  have h := runT_eq hx
  obtain ⟨r, es⟩ := x
  simp only at h ⊢
  rw [after_gw]
  split <;> exact h
 ·exact callDeferred_gw _ _ _ _ _ _
 ·split
  ·exact Nat.le_refl _
  ·split
   ·exact Nat.le_refl _
   ·split
    ·exact Nat.le_refl _
    ·split
     ·split
      ·exact Nat.le_refl _
      ·split
       all_goals
        rename_i e
        exact run_eq e
     ·split
      ·rw [endPrinting_gw]; exact Nat.le_refl _
      ·exact Nat.le_refl _
  ·split
   ·rw [doReturn_gw]; exact Nat.le_refl _
   ·generalize hx : Sem.runT p _ w _ = x
    have h := runT_eq hx
    obtain ⟨r, es⟩ := x
    simp only at h ⊢
    rw [after_gw]
    split
    ·rw [doReturn_gw]; exact h
    ·exact h
    ·exact h
theorem early_gw (p : Program) (fr : Frame) (cs : List Frame) (dy : Option Dying) (g : Nat) (w : World) : w.drawn ≤ (gw (early p fr cs dy g w)).drawn := by
 have hn : ∀ w : World, w.drawn ≤ (gw (match w.heap[g]? with
  | some (.pending c elem) => GStep.go { frame := fr, callers := cs, status := .running, dying := dy } { w with heap := w.heap.setIfInBounds g (.cells c elem) }
  | _ => .ended (.stuck "early: the variable does not wait" (fr.pos p)) w)).drawn := fun w => by
  split <;> exact Nat.le_refl _
 unfold early
 simp only
 repeat' split
 all_goals first | exact Nat.le_refl _ | exact hn w | exact run_eq ‹Sem.run p (choose (Question.early g)) w = _›
theorem apply_gw (p : Program) (main listen : Bool) (fr : Frame) (cs : List Frame) (dy : Option Dying) (s : Sem Next) (w : World) : w.drawn ≤ (gw (stepG.apply p listen fr cs dy s w)).drawn := by
 unfold stepG.apply
 simp only
 have h : w.drawn ≤ (rw' (if listen = true then s.runT p w #[] else (s.run p w, #[])).1).drawn := by
  split
  ·exact runT_drawn p s w #[]
  ·exact run_drawn p s w
 generalize (if listen = true then s.runT p w #[] else (s.run p w, #[])) = x at h ⊢
 obtain ⟨r, es⟩ := x
 simp only at h ⊢
 rw [after_gw]
 repeat' split
 all_goals first | exact h | exact Nat.le_trans h (endFatal_gw _ _ _ _ _ _) | exact Nat.le_trans h (early_gw _ _ _ _ _ _) | skip
theorem oper_gw (p : Program) (main listen : Bool) (fr : Frame) (cs : List Frame) (dy : Option Dying) (w : World) : w.drawn ≤ (gw (stepG.oper p listen fr cs dy w)).drawn := by
 unfold stepG.oper
 split
 ·exact Nat.le_refl _
 ·split <;> exact apply_gw _ true _ _ _ _ _ _
theorem exec_gw (p : Program) (main listen : Bool) (fr : Frame) (cs : List Frame) (dy : Option Dying) (w : World) : w.drawn ≤ (gw (stepG.exec p main listen fr cs dy w)).drawn := by
  have hr : ∀ (l : Nat) (jump : Option Code) (why : String), w.drawn ≤ (gw (GStep.after (seen p fr.fn (Sem.runT p (Instr.endRound l jump) w #[]).snd) (match (Sem.runT p (Instr.endRound l jump) w #[]).fst with
        | .ok v w => doReturn p main fr cs dy v w
        | .halt _ w => .ended (.stuck why (fr.pos p)) w))).drawn := fun l jump why => by
    have h := runT_drawn p (Instr.endRound l jump) w #[]
    rw [after_gw]
    split
    · rename_i e; rw [e] at h; rw [doReturn_gw]; exact h
    · rename_i e; rw [e] at h; exact h
  unfold stepG.exec
  simp only
  split
  case h_1 => split; exact ite_gw (Nat.le_refl _) (Nat.le_refl _); exact hr _ _ _
  case h_2 => split; exact ite_gw (Nat.le_refl _) (Nat.le_refl _); exact hr _ _ _
  case h_13 =>
    cases exitTo _ _
    · simp only [Option.elim]; split; exact ite_gw (Nat.le_refl _) (Nat.le_refl _); exact hr _ _ _
    · exact Nat.le_refl _
  case h_14 =>
    cases gotoIn _ _
    · simp only [Option.elim]; split; exact ite_gw (Nat.le_refl _) (Nat.le_refl _); exact hr _ _ _
    · exact Nat.le_refl _
  all_goals first | exact Nat.le_refl _ | (with_reducible exact apply_gw _ true _ _ _ _ _ _) | (with_reducible exact oper_gw _ true _ _ _ _ _) | skip
  case h_8 => split <;> exact Nat.le_refl _
  case h_15 =>
    rename_i params assign body k _
    have h := runT_drawn p (Instr.enterLoop fr.fn fr.tmps params assign body fr.roundOf) w #[]
    rw [after_gw]
    split
    · rename_i e; rw [e] at h; exact Nat.le_trans h (apply_gw _ true _ _ _ _ _ _)
    · rename_i e; rw [e] at h; exact h
  case h_18 =>
    rename_i l k _
    have h := runT_drawn p (Instr.endLoop l) w #[]
    rw [after_gw]
    split
    all_goals
      rename_i e; rw [e] at h; exact h
  case h_21 =>
    rename_i row _ _ _
    cases Extern.next row
    · exact Nat.le_refl _
    · exact apply_gw _ true _ _ _ _ _ _
  case h_22 =>
    refine ite_gw (Nat.le_refl _) ?_
    split
    all_goals
      rename_i e; exact run_eq e
  case h_24 => split; exact oper_gw _ true _ _ _ _ _; exact Nat.le_refl _
theorem stepG_gw (p : Program) (main : Bool) (g : Goroutine) (w : World) (listen : Bool) : w.drawn ≤ (gw (stepG p main g w listen)).drawn := by
 unfold stepG
 split
 split
 ·exact die_gw _ _ _ _
 ·exact exec_gw _ _ _ _ _ _ _
 ·exact unwind_gw _ _ _ _ _ _
/-- what a step leaves has drawn no less -/
def Nd (n : Nat) : Stepped → Prop
 | .next m => n ≤ m.world.drawn
 | _ => True
theorem Nd.weak {n k : Nat} (h : n ≤ k) : ∀ {s : Stepped}, Nd k s → Nd n s
 | .next _, e => Nat.le_trans h e
 | .ended _ _, _ => trivial
theorem look_nd (p : Program) (gs : Array Goroutine) (rest : Rest) (w : World) : Nd w.drawn (look p gs rest w) := by
 unfold look
 split
 ·simp only
  split
  ·exact trivial
  ·split
   ·exact trivial
   ·split
    ·rename_i e
     exact run_eq e
    all_goals exact trivial
 ·exact trivial
theorem serve_nd (p : Program) (m : Machine) (k : Nat) : Nd m.world.drawn (serve p m k) := by
 unfold serve
 split
 ·exact trivial
 ·exact Nat.le_refl _
 ·simp only
  split
  ·exact trivial
  ·exact Nat.le_refl _
theorem waitingAt_drawn {rest : Rest} {cases : Array CommCase} {w w' : World} (h : waitingAt rest cases w = some w') : w'.drawn = w.drawn := by
 unfold waitingAt at h
 split at h
 ·split at h
  ·cases h; rfl
  ·cases h
 ·cases h; rfl
theorem drain_drawn (w : World) (c : Nat) : (drain w c).2.drawn = w.drawn := by
 unfold drain
 split <;> rfl
theorem retime_drawn (m : Machine) (k : Nat) (t : Timer) (a b : Nat) : (retime m k t a b).2.world.drawn = m.world.drawn := by
 unfold retime
 split
 rename_i e
 split at e
 ·have h := drain_drawn m.world ‹Nat›
  rw [e] at h
  exact h
 ·cases e; rfl
theorem communicate_nd (p : Program) (rest : Rest) (gs : Array Goroutine) (i : Nat) (g : Goroutine) (cases : Array CommCase) (blocking : Bool) (shape : CommShape) (w : World) : Nd w.drawn (communicate p rest gs i g cases blocking shape w).1 := by
 unfold communicate
 simp only
 split
 ·exact trivial
 ·split
  ·split
   ·split
    ·rename_i e
     exact Nat.le_of_eq (waitingAt_drawn e).symm
    ·exact trivial
   ·exact Nat.le_refl _
  ·split
   ·exact trivial
   ·rename_i e
    have h := run_eq e
    clear e
    split
    ·split
     ·rename_i e
      exact Nat.le_trans h (run_eq e)
     ·exact trivial
    ·exact h
    ·exact h
    ·split
     ·exact h
     ·split
      ·rename_i e
       exact Nat.le_trans h (run_eq e)
      ·exact trivial
    ·exact h
    ·exact h
    ·exact trivial
theorem named_drawn {m : Machine} {var : Addr} {f : Nat → Timer → Value × Machine} (hf : ∀ k t, (f k t).2.world.drawn = m.world.drawn) {v : Value} {m' : Machine} (m0 : Machine) (h : timerOp.named m0 var f = .ok (v, m')) : m'.world.drawn = m.world.drawn := by
 unfold timerOp.named at h
 split at h
 ·injection h with h
  have := hf ‹Nat› (m0.rest.timers.getD ‹Nat› default)
  rw [h] at this
  exact this
 ·cases h
theorem opened_drawn {m m' : Machine} {var : Addr} (h : timerOp.opened m var = some m') : m'.world.drawn = m.world.drawn := by
 unfold timerOp.opened at h
 split at h
 ·split at h
  ·cases h; rfl
  ·cases h
 ·cases h; rfl
theorem timerOp_drawn {m m' : Machine} {op : TimerOp} {v : Value} (h : timerOp m op = .ok (v, m')) : m'.world.drawn = m.world.drawn := by
 unfold timerOp at h
 split at h
 ·split at h
  ·cases h; rfl
  ·split at h
   ·split at h
    ·cases h
    ·cases h; rfl
   ·cases h
 ·exact named_drawn (m := m) (fun k t => retime_drawn _ _ _ _ _) _ h
 ·split at h
  ·rename_i m1 e
   exact (named_drawn (m := m1) (fun k t => retime_drawn _ _ _ _ _) _ h).trans (opened_drawn e)
  ·cases h
 ·cases h; rfl
theorem gw_endThrow {fr : Frame} {s : String} {w w' : World} {g : Goroutine} {es : Array Event} (h : endThrow fr s w = .go g w' es) : w'.drawn = w.drawn := by
 cases h; rfl
theorem runT_nd (p : Program) (m : Machine) (i : Nat) (listen : Bool) : Nd m.world.drawn (Go.runT p m i listen).1 := by
 unfold Go.runT
 simp only
 have hs : ∀ (g : Goroutine) (s : GStep), stepG p (i == 0) g m.world listen = s → m.world.drawn ≤ (gw s).drawn := fun g s e => e ▸ stepG_gw p (i == 0) g m.world listen
 split
 all_goals
  rename_i e
  have h := hs _ _ e
  clear hs e
 ·exact trivial
 ·exact Nd.weak h (communicate_nd _ _ _ _ _ _ _ _ _)
 ·exact h
 ·exact h
 ·simp only
  split
  ·exact trivial
  ·exact h
 ·exact h
 ·exact Nd.weak h (look_nd _ _ _ _)
 ·exact h
 ·exact h
 ·simp only
  split
  ·exact h
  ·split
   ·rename_i e2
    exact Nat.le_trans h (Nat.le_of_eq (gw_endThrow e2).symm)
   ·exact trivial
  ·exact trivial
 ·simp only
  split
  ·rename_i e
   exact Nat.le_trans h (Nat.le_of_eq (timerOp_drawn e).symm)
  ·split
   ·rename_i e2
    exact Nat.le_trans h (Nat.le_of_eq (gw_endThrow e2).symm)
   ·exact trivial
  ·exact trivial
  ·exact trivial
/-- what a move leaves has drawn no less -/
def Md (n : Nat) : _root_.Go.Move → Prop
 | .goroutine m _ => n ≤ m.world.drawn
 | .machine s _ => Nd n s
theorem Md.weak {n k : Nat} (h : n ≤ k) : ∀ {s : _root_.Go.Move}, Md k s → Md n s
 | .goroutine _ _, e => Nat.le_trans h e
 | .machine _ _, e => Nd.weak h e
theorem askOn_md (p : Program) (m : Machine) : Md m.world.drawn (askOn p m) := by
  unfold askOn
  simp only
  split
  · exact trivial
  · rename_i k w e
    have h := run_eq e
    split
    · exact Nd.weak h (serve_nd _ _ _)
    · split
      · split
        · exact h
        · split
          · exact h
          · repeat' split
            all_goals exact trivial
      · have pick : ∀ m' : Machine, m.world.drawn ≤ m'.world.drawn → Md m.world.drawn (match (choose (.sched (runnable m.gs m.world.os.mono).length)).run p m'.world with
            | .halt _ w => .machine (.ended (.stuck "sched" "") w)
            | .ok k world =>
              if (runnable m.gs m.world.os.mono).length ≤ 1 then .goroutine { m' with world } ((runnable m.gs m.world.os.mono).getD k 0) else
              match (choose (.extern "sched.slice" 65536)).run p world with
              | .halt _ w => .machine (.ended (.stuck "sched.slice" "") w)
              | .ok n world => .goroutine { m' with world, rest := { m'.rest with slice := if n = 0 then none else some ((runnable m.gs m.world.os.mono).getD k 0, n) } } ((runnable m.gs m.world.os.mono).getD k 0)) := fun m' hm => by
          split
          · exact trivial
          · rename_i e1
            have h1 := Nat.le_trans hm (run_eq e1)
            split
            · exact h1
            · split
              · exact trivial
              · rename_i e2
                exact Nat.le_trans h1 (run_eq e2)
        split
        · exact pick { m with world := w } h
        · split
          · exact trivial
          · rename_i e1
            have h1 := Nat.le_trans h (run_eq e1)
            exact pick { m with world := ‹World› } h1
          · rename_i e1
            exact Nat.le_trans h (run_eq e1)
          · rename_i e1
            have h1 := Nat.le_trans h (run_eq e1)
            exact pick _ h1
theorem ask_md (p : Program) (m : Machine) : Md m.world.drawn (Go.ask p m) := by
 unfold Go.ask
 split
 ·split
  ·exact trivial
  ·rename_i e
   have h := run_eq e
   have hl := look_nd p m.gs m.rest ‹World›
   split
   ·rename_i e2
    rw [e2] at hl
    exact Md.weak (Nat.le_trans h hl) (askOn_md _ _)
   ·exact Nd.weak h hl
  ·rename_i e
   exact Md.weak (run_eq e) (askOn_md _ _)
 ·exact askOn_md _ _
theorem move_md (p : Program) (m : Machine) : Md m.world.drawn (Go.move p m) := by
 unfold Go.move
 split
 ·split
  ·exact Nat.le_refl _
  ·exact trivial
 ·split
  ·split
   ·exact Nat.le_refl _
   ·exact ask_md _ _
  ·exact ask_md _ _
theorem step_nd (p : Program) (m : Machine) : Nd m.world.drawn (Go.step p m) := by
 unfold Go.step stepT
 have h := move_md p m
 split
 ·rename_i e
  rw [e] at h
  exact Nd.weak h (runT_nd _ _ _ _)
 ·rename_i e
  rw [e] at h
  exact h
theorem runN_nd (p : Program) : ∀ (n : Nat) (m : Machine), Nd m.world.drawn (runN p n m)
 | 0, m => Nat.le_refl _
 | n + 1, m => by
  unfold runN
  have h := step_nd p m
  split
  ·rename_i e
   rw [e] at h
   exact Nd.weak h (runN_nd p n _)
  ·exact h
theorem steps_drawn {P : Program} {m m' : Machine} (h : Steps P m m') : m.world.drawn ≤ m'.world.drawn := by
 obtain ⟨n, e⟩ := h
 have := runN_nd P n m
 rw [e] at this
 exact this
theorem comes_drawn {P : Program} {m m' : Machine} {e : Ending} (h : Comes P m m' e) (he : e ≠ .outgrown) : m.world.drawn ≤ m'.world.drawn := by
 cases e with
 | returned v => exact steps_drawn h
 | panicked chain => exact steps_drawn h
 | outgrown => exact absurd rfl he
/-- a call that ends takes no draw back -/
theorem calls_drawn {P : Program} {f : FuncId} {args : Array Value} {w : World} {R : Ending → World → Prop} (h : Calls P f args w R) :
  Calls P f args w fun e w' => R e w' ∧ (e ≠ .outgrown → w.drawn ≤ w'.drawn) :=
 fun cs => let ⟨e, w', fr, r, hc, rest⟩ := h cs; ⟨e, w', fr, ⟨r, fun he => comes_drawn hc he⟩, hc, rest⟩
open Go.RowKit
/-- growth, no draw taken back: draws and blocks of its own -/
theorem grow_of {W w' : World} (h : Grow W w') (hd : W.drawn ≤ w'.drawn) : ∃ q os, w' = Go.Sort.grow (W.drewN q) os := by
 refine ⟨w'.drawn - W.drawn, w'.heap.extract W.heap.size w'.heap.size, ?_⟩
 have hh : w'.heap = W.heap ++ w'.heap.extract W.heap.size w'.heap.size := by
  apply Array.ext_getElem?
  intro i
  rw [Array.getElem?_append]
  split
  ·rename_i hi
   exact h.block i hi
  ·rename_i hi
   rw [Array.getElem?_extract]
   split
   ·rw [show W.heap.size + (i - W.heap.size) = i by omega]
   ·rename_i hj
    rw [Array.getElem?_eq_none]
    have := h.size
    omega
 have e1 := h.os
 have e2 := h.tape
 have e3 := h.output
 cases W
 cases w'
 simp only at *
 subst e1 e2 e3
 simp only [Go.Sort.grow, World.drewN, World.mk.injEq, true_and, and_true]
 exact ⟨hh, by omega⟩
theorem calls_grown {P : Program} {f : FuncId} {args : Array Value} {w : World} {v : Value} (h : Calls P f args w fun e w' => e = .returned v ∧ Grow w w') :
  Calls P f args w fun e w' => e = .returned v ∧ ∃ q os, w' = Go.Sort.grow (w.drewN q) os :=
 (calls_drawn h).mono fun e w' ⟨⟨he, hg⟩, hd⟩ => ⟨he, grow_of hg (hd (by rw [he]; intro h; cases h))⟩
end Go.Proofs.YtjmopgepnndckaaGreatDoor
namespace Go.Proofs.YtjmopgepnndckaaGreatDoor
open Go Go.RowKit Go.Sort Go.Shelf
/-- rationals of a bounded size -/
abbrev Bq (s : Nat) := {x : Rat // qs x ≤ s + qs 0}
instance (s : Nat) : Inhabited (Bq s) := ⟨⟨0, Nat.le_add_left _ _⟩⟩
theorem grow_sortK {α : Type} [Inhabited α] {enc : α → List Value} {k : Nat} {w w1 : World} (h : Grow w w1) {g : Nat} (hg : w.heap.size ≤ g) (off n : Nat) (d : Array α) (os : Array Obj) : Grow w (sortWorldK enc k w1 g off n d os) := by
 refine Below.trans h ⟨rfl, rfl, rfl, ?_, fun j hj => ?_⟩
 ·show _ ≤ ((w1.heap.modify g _) ++ os).size
  rw [Array.size_append, Array.size_modify]
  omega
 ·show ((w1.heap.modify g _) ++ os)[j]? = _
  have := h.size
  rw [Array.getElem?_append, if_pos (by rw [Array.size_modify]; omega), Array.getElem?_modify, if_neg (by omega)]
end Go.Proofs.YtjmopgepnndckaaGreatDoor
