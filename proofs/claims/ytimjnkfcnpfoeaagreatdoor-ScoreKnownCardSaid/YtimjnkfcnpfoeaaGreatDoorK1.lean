/-
  Contracts and plain laws, part 1: lemmas for the claim; each says its own conditions.
-/
import Derived.StillTail
import Derived.OrdersHeld
import Derived.Tactics
import Derived.WalkKit
import Derived.Lib.Endian
import Derived.Lib.BitFns
import Derived.Shelf.Strings.Builder1
import Derived.Shelf.Strings.Builder2
import Derived.Shelf.Small.Bits
import Derived.Shelf.Strings.BuilderF
import Derived.Shelf.Strings.BuilderK
import Derived.Shelf.Strings.Builder2Cap
import Derived.Shelf.Strconv.Itoa0
import Derived.Shelf.Bits.Mul64
import Derived.Shelf.Strings.BuilderCap
import Derived.Test.YtimjnkfcnpfoeaaGreatDoorProg
import Derived.WalkSpells
import Derived.WalkLawsBesides
import Derived.Deep.QuietTactic
import Derived.BigQuiet
import Derived.Lib.EndianBits
import Derived.Lib.Hide
import Derived.Lib.IndexBytes
import Derived.Deep.RegionHeld3
import Derived.Shelf.Spec.BitsCarry
set_option linter.unusedSimpArgs false
set_option linter.unusedVariables false
/-
  Plain mathematics of digits: what a list of digits stands for; the digits of a number; Knuth's guess. Nothing of the program.
-/
namespace Go.Proofs.YtimjnkfcnpfoeaaGreatDoor
/-- the number that a list of digits in base B stands for, the lowest first -/
def val (B : Nat) : List Nat → Nat
  | [] => 0
  | x :: l => x + B * val B l

theorem val_nil (B : Nat) : val B [] = 0 := rfl
theorem val_cons (B x : Nat) (l : List Nat) : val B (x :: l) = x + B * val B l := rfl
theorem val_append (B : Nat) (l m : List Nat) : val B (l ++ m) = val B l + B ^ l.length * val B m := by
  induction l with
  | nil => simp [val]
  | cons x l ih => simp [val, ih, Nat.pow_succ]; grind
theorem val_snoc (B : Nat) (l : List Nat) (x : Nat) : val B (l ++ [x]) = val B l + B ^ l.length * x := by
  rw [val_append]; simp [val]
theorem val_take_succ (B : Nat) (l : List Nat) (i : Nat) (h : i < l.length) : val B (l.take (i + 1)) = val B (l.take i) + B ^ i * l[i] := by
  rw [List.take_succ_eq_append_getElem h, val_snoc, List.length_take, Nat.min_eq_left (by omega)]
theorem val_take_over (B : Nat) (l : List Nat) (i : Nat) (h : l.length ≤ i) : val B (l.take i) = val B l := by
  rw [List.take_of_length_le h]
def Dig (B : Nat) (l : List Nat) : Prop := ∀ x ∈ l, x < B
theorem val_lt {B : Nat} {l : List Nat} (h : Dig B l) : val B l < B ^ l.length := by
  induction l with
  | nil => simp [val]
  | cons x l ih =>
    have hx : x < B := h x (by simp)
    have hl := ih (fun y hy => h y (by simp [hy]))
    simp only [val, List.length_cons, Nat.pow_succ]
    have : B * (val B l + 1) ≤ B * B ^ l.length := Nat.mul_le_mul_left _ hl
    grind
theorem val_zeros (B n : Nat) : val B (List.replicate n 0) = 0 := by
  induction n with
  | zero => rfl
  | succ n ih => simp [List.replicate_succ, val, ih]
theorem val_append_zero (B n : Nat) (l : List Nat) : val B (l ++ List.replicate n 0) = val B l := by
  rw [val_append, val_zeros]; simp

/-- no highest digit 0 -/
def Tight (l : List Nat) : Prop := l = [] ∨ l.getLast? ≠ some 0

/-- the digits of a number in base B, the lowest first, none for 0 -/
def digsF (B : Nat) : Nat → Nat → List Nat
  | 0, _ => []
  | f + 1, a => if a = 0 then [] else a % B :: digsF B f (a / B)
def digs (B a : Nat) : List Nat := digsF B a a

theorem digsF_eq {B : Nat} (hB : 2 ≤ B) : ∀ (f a : Nat), a ≤ f → digsF B f a = if a = 0 then [] else a % B :: digsF B (a / B) (a / B)
  | 0, a, h => by simp [digsF]; omega
  | f + 1, a, h => by
    by_cases ha : a = 0
    · simp [digsF, ha]
    · have hlt : a / B < a := Nat.div_lt_self (by omega) (by omega)
      simp only [digsF, ha, if_false, List.cons.injEq, true_and]
      rw [digsF_eq hB f (a / B) (by omega), digsF_eq hB (a / B) (a / B) (Nat.le_refl _)]
theorem digs_zero (B : Nat) : digs B 0 = [] := rfl
theorem digs_pos {B a : Nat} (hB : 2 ≤ B) (ha : a ≠ 0) : digs B a = a % B :: digs B (a / B) := by
  unfold digs; rw [digsF_eq hB a a (Nat.le_refl _), if_neg ha]
theorem val_digs {B : Nat} (hB : 2 ≤ B) (a : Nat) : val B (digs B a) = a := by
  induction a using Nat.strongRecOn with
  | ind a ih =>
    by_cases ha : a = 0
    · subst ha; rfl
    · rw [digs_pos hB ha, val, ih _ (Nat.div_lt_self (by omega) (by omega)), Nat.mod_add_div]
theorem dig_digs {B : Nat} (hB : 2 ≤ B) (a : Nat) : Dig B (digs B a) := by
  induction a using Nat.strongRecOn with
  | ind a ih =>
    by_cases ha : a = 0
    · subst ha; intro x hx; simp [digs_zero] at hx
    · rw [digs_pos hB ha]
      intro x hx
      rcases List.mem_cons.1 hx with rfl | hx
      · exact Nat.mod_lt _ (by omega)
      · exact ih _ (Nat.div_lt_self (by omega) (by omega)) x hx
theorem digs_of {B : Nat} (hB : 2 ≤ B) : ∀ (l : List Nat), Dig B l → Tight l → digs B (val B l) = l
  | [], _, _ => rfl
  | x :: l, hd, ht => by
    have hx : x < B := hd x (by simp)
    have hl : Dig B l := fun y hy => hd y (by simp [hy])
    have htl : Tight l := by
      rcases l with _ | ⟨y, l⟩
      · exact .inl rfl
      · rcases ht with h | h
        · cases h
        · exact .inr (by simpa [List.getLast?_cons_cons] using h)
    have hne : val B (x :: l) ≠ 0 := by
      intro h0
      simp only [val] at h0
      have hx0 : x = 0 := by omega
      have hv0 : val B l = 0 := by
        have : B * val B l = 0 := by omega
        rcases Nat.mul_eq_zero.1 this with h | h
        · omega
        · exact h
      have := digs_of hB l hl htl
      rw [hv0, digs_zero] at this
      subst this; subst hx0
      rcases ht with h | h
      · cases h
      · simp at h
    rw [digs_pos hB hne]
    have e1 : val B (x :: l) % B = x := by simp only [val]; rw [Nat.add_mul_mod_self_left, Nat.mod_eq_of_lt hx]
    have e2 : val B (x :: l) / B = val B l := by simp only [val]; rw [Nat.add_mul_div_left _ _ (by omega), Nat.div_eq_of_lt hx, Nat.zero_add]
    rw [e1, e2, digs_of hB l hl htl]
theorem tight_digs {B : Nat} (hB : 2 ≤ B) (a : Nat) : Tight (digs B a) := by
  induction a using Nat.strongRecOn with
  | ind a ih =>
    by_cases ha : a = 0
    · subst ha; exact .inl rfl
    · have h := ih _ (Nat.div_lt_self (Nat.pos_of_ne_zero ha) hB)
      rw [digs_pos hB ha]
      by_cases hq : a / B = 0
      · rw [hq, digs_zero]
        refine .inr ?_
        simp only [List.getLast?_singleton, ne_eq, Option.some.injEq]
        have := Nat.mod_add_div a B
        rw [hq] at this
        omega
      · rw [digs_pos hB hq] at h ⊢
        rcases h with h | h
        · cases h
        · exact .inr (by simpa [List.getLast?_cons_cons] using h)
theorem tight_iff {B : Nat} {l : List Nat} (hd : Dig B l) : Tight l ↔ (l = [] ∨ B ^ (l.length - 1) ≤ val B l) := by
  constructor
  · intro ht
    rcases List.eq_nil_or_concat l with rfl | ⟨m, x, rfl⟩
    · exact .inl rfl
    · refine .inr ?_
      rcases ht with h | h
      · simp at h
      · simp at h
        simp [val_snoc]
        have : B ^ m.length * 1 ≤ B ^ m.length * x := Nat.mul_le_mul_left _ (by omega)
        omega
  · intro h
    rcases List.eq_nil_or_concat l with rfl | ⟨m, x, rfl⟩
    · exact .inl rfl
    · refine .inr ?_
      rcases h with h | h
      · simp at h
      · simp [val_snoc] at h ⊢
        rintro rfl
        have := val_lt (l := m) (fun y hy => hd y (by simp [hy]))
        simp at h
        omega
theorem digs_length_le {B a n : Nat} (hB : 2 ≤ B) (h : a < B ^ n) : (digs B a).length ≤ n := by
  by_cases h0 : a = 0
  · subst h0; simp [digs_zero]
  · have ht := (tight_iff (dig_digs hB a)).1 (tight_digs hB a)
    rw [val_digs hB] at ht
    rcases ht with ht | ht
    · rw [ht]; simp
    · have hlt : B ^ ((digs B a).length - 1) < B ^ n := Nat.lt_of_le_of_lt ht h
      have := (Nat.pow_lt_pow_iff_right (by omega)).1 hlt
      omega
theorem digs_length_gt {B a n : Nat} (hB : 2 ≤ B) (h : B ^ n ≤ a) : n < (digs B a).length := by
  have hv := val_lt (dig_digs hB a)
  rw [val_digs hB] at hv
  exact (Nat.pow_lt_pow_iff_right (a := B) (by omega)).1 (Nat.lt_of_le_of_lt h hv)
theorem digs_inj {B a b : Nat} (hB : 2 ≤ B) (h : digs B a = digs B b) : a = b := by
  rw [← val_digs hB a, h, val_digs hB]
/-- the guess from three digits by two is the digit or one above it -/
theorem guess_hi {V2 U3 p vl ul g B : Nat} (_hp : 0 < p) (_hvl : vl < p) (_hul : ul < p) (hV2 : B ≤ V2) (hg : g < B) (hle : g * V2 ≤ U3) :
    g * (V2 * p + vl) < (U3 * p + ul) + (V2 * p + vl) := by
  have h1 : g * V2 * p ≤ U3 * p := Nat.mul_le_mul_right _ hle
  have h2 : g * vl ≤ g * p := Nat.mul_le_mul_left _ (by omega)
  have h3 : (g + 1) * p ≤ V2 * p := Nat.mul_le_mul_right _ (by omega)
  have e : g * (V2 * p + vl) = g * V2 * p + g * vl := by grind
  have e3 : (g + 1) * p = g * p + p := by grind
  omega
theorem guess_lo {V2 U3 p vl ul q : Nat} (_hul : ul < p) (hq : q * (V2 * p + vl) ≤ U3 * p + ul) : q * V2 ≤ U3 := by
  have h : q * V2 * p < (U3 + 1) * p := by
    have e : q * (V2 * p + vl) = q * V2 * p + q * vl := by grind
    have e3 : (U3 + 1) * p = U3 * p + p := by grind
    omega
  have := Nat.lt_of_mul_lt_mul_right h
  omega
/-- a guess that is not below the digit and at most one above it -/
theorem guess_cases {U V g : Nat} (hV : 0 < V) (hlo : U / V ≤ g) (hhi : g * V < U + V) : g = U / V ∨ (g = U / V + 1 ∧ U < g * V) := by
  have h1 : U / V * V ≤ U := Nat.div_mul_le_self _ _
  have h2 : U < (U / V + 1) * V := by have := Nat.lt_div_mul_add hV (a := U); rw [Nat.add_mul]; omega
  rcases Nat.lt_or_ge (U / V) g with h | h
  · right
    have : g < U / V + 2 := by
      have : g * V < (U / V + 2) * V := by
        have e : (U / V + 2) * V = (U / V + 1) * V + V := by grind
        omega
      exact Nat.lt_of_mul_lt_mul_right this
    have e : g = U / V + 1 := by omega
    exact ⟨e, by rw [e]; exact h2⟩
  · left; omega

/-- the digit at place k, 0 beyond the end -/
def dg (l : List Nat) (k : Nat) : Nat := (l[k]?).getD 0
theorem dg_lt {B : Nat} {l : List Nat} (hB : 0 < B) (h : Dig B l) (k : Nat) : dg l k < B := by
  unfold dg
  cases hk : l[k]? with
  | none => exact hB
  | some x => exact h x (List.mem_of_getElem? hk)
theorem dg_eq {l : List Nat} {k : Nat} (h : k < l.length) : dg l k = l[k] := by
  unfold dg; rw [List.getElem?_eq_getElem h]; rfl
theorem dg_over {l : List Nat} {k : Nat} (h : l.length ≤ k) : dg l k = 0 := by
  unfold dg; rw [List.getElem?_eq_none h]; rfl
theorem val_take_dg (B : Nat) (l : List Nat) (k : Nat) : val B (l.take (k + 1)) = val B (l.take k) + B ^ k * dg l k := by
  rcases Nat.lt_or_ge k l.length with h | h
  · rw [val_take_succ B l k h, dg_eq h]
  · rw [val_take_over B l _ (by omega), val_take_over B l _ h, dg_over h]; simp
theorem divmod_mul (B p s : Nat) : p * (s % B) + s / B * (p * B) = p * s := by
  have h := Nat.mod_add_div s B
  calc p * (s % B) + s / B * (p * B) = p * (s % B + B * (s / B)) := by grind
    _ = p * s := by rw [h]
/-- one round of an addition with carry -/
theorem add_step {B : Nat} {zs lx ly : List Nat} {k cy : Nat} (hz : zs.length = k) (h : val B zs + cy * B ^ k = val B (lx.take k) + val B (ly.take k)) :
    val B (zs ++ [(dg lx k + dg ly k + cy) % B]) + (dg lx k + dg ly k + cy) / B * B ^ (k + 1) = val B (lx.take (k + 1)) + val B (ly.take (k + 1)) := by
  have h1 := divmod_mul B (B ^ k) (dg lx k + dg ly k + cy)
  rw [val_snoc, hz, val_take_dg, val_take_dg, Nat.pow_succ]
  have h2 : B ^ k * (dg lx k + dg ly k + cy) = B ^ k * dg lx k + B ^ k * dg ly k + cy * B ^ k := by grind
  omega
/-- one round of a subtraction with borrow -/
theorem sub_step {B : Nat} {zs lx ly : List Nat} {k br : Nat} (hbr : br ≤ 1) (hx : dg lx k < B) (hy : dg ly k < B) (hz : zs.length = k) (h : val B zs + val B (ly.take k) = val B (lx.take k) + br * B ^ k) :
    val B (zs ++ [(dg lx k + B - dg ly k - br) % B]) + val B (ly.take (k + 1)) = val B (lx.take (k + 1)) + (if dg lx k < dg ly k + br then 1 else 0) * B ^ (k + 1) := by
  rw [val_snoc, hz, val_take_dg, val_take_dg, Nat.pow_succ]
  split
  · rename_i hlt
    rw [Nat.mod_eq_of_lt (by omega)]
    obtain ⟨d, hd⟩ : ∃ d, d = dg lx k + B - dg ly k - br := ⟨_, rfl⟩
    rw [← hd]
    have h3 : d + dg ly k + br = dg lx k + B := by omega
    have h2 : B ^ k * d + B ^ k * dg ly k + br * B ^ k = B ^ k * dg lx k + B ^ k * B := by
      calc B ^ k * d + B ^ k * dg ly k + br * B ^ k = B ^ k * (d + dg ly k + br) := by grind
        _ = B ^ k * (dg lx k + B) := by rw [h3]
        _ = _ := by grind
    omega
  · rename_i hge
    have e : (dg lx k + B - dg ly k - br) % B = dg lx k - dg ly k - br := by
      rw [show dg lx k + B - dg ly k - br = (dg lx k - dg ly k - br) + B by omega, Nat.add_mod_right, Nat.mod_eq_of_lt (by omega)]
    rw [e]
    obtain ⟨d, hd⟩ : ∃ d, d = dg lx k - dg ly k - br := ⟨_, rfl⟩
    rw [← hd]
    have h3 : d + dg ly k + br = dg lx k := by omega
    have h2 : B ^ k * d + B ^ k * dg ly k + br * B ^ k = B ^ k * dg lx k := by
      calc B ^ k * d + B ^ k * dg ly k + br * B ^ k = B ^ k * (d + dg ly k + br) := by grind
        _ = _ := by rw [h3]
    omega

/-- the highest digit in which two numbers differ decides -/
theorem val_lt_of_digit {B : Nat} {la lb : List Nat} {k : Nat} (ha : Dig B la) (hl : la.length = lb.length) (hk : k < la.length) (hd : la.drop (k + 1) = lb.drop (k + 1)) (h : dg la k < dg lb k) : val B la < val B lb := by
  have e1 : la = la.take k ++ (dg la k :: la.drop (k + 1)) := by
    rw [dg_eq hk, ← List.drop_eq_getElem_cons hk, List.take_append_drop]
  have e2 : lb = lb.take k ++ (dg lb k :: lb.drop (k + 1)) := by
    rw [dg_eq (by omega), ← List.drop_eq_getElem_cons (by omega), List.take_append_drop]
  have l1 : (la.take k).length = k := by rw [List.length_take]; omega
  have l2 : (lb.take k).length = k := by rw [List.length_take]; omega
  have h1 : val B (la.take k) < B ^ k := by
    have := val_lt (B := B) (l := la.take k) (fun x hx => ha x (List.mem_of_mem_take hx))
    rw [l1] at this
    exact this
  rw [e1, e2, val_append, val_append, l1, l2, val_cons, val_cons, hd]
  have h2 : B ^ k * (dg la k + 1) ≤ B ^ k * dg lb k := Nat.mul_le_mul_left _ h
  rw [Nat.mul_add, Nat.mul_add]
  rw [Nat.mul_add, Nat.mul_one] at h2
  omega
def cmpN (a b : Nat) : Int := if a < b then -1 else if b < a then 1 else 0
theorem cmpN_lt {a b : Nat} (h : a < b) : cmpN a b = -1 := if_pos h
theorem cmpN_gt {a b : Nat} (h : b < a) : cmpN a b = 1 := by unfold cmpN; rw [if_neg (by omega), if_pos h]
theorem cmpN_eq {a b : Nat} (h : a = b) : cmpN a b = 0 := by unfold cmpN; rw [if_neg (by omega), if_neg (by omega)]
end Go.Proofs.YtimjnkfcnpfoeaaGreatDoor

/-
  A statement whose order Go leaves open, whatever the order: each operation of the head either only looks (kind 0: the same value in every world in which the facts F hold),
  or is run and makes memory at most (kind 1: calls; what it leaves is told by facts that later worlds keep), or makes a new block out of nothing (kind 2); then a tail in its forced order.
  Own text, over any program.
-/
namespace Go.Proofs.YtimjnkfcnpfoeaaGreatDoor
open Go Go.RowKit

/-- the world has only grown: whatever block there was is as it was -/
def Grow (w w' : World) : Prop := Below w.heap.size w w'
theorem Grow.refl (w : World) : Grow w w := Below.refl _ _
theorem Grow.trans {a b c : World} (h : Grow a b) (k : Grow b c) : Grow a c := Below.trans h (Below.mono k h.size)
theorem Grow.drew (w : World) : Grow w w.drew := Below.drew (Below.refl _ _)
theorem Grow.alloc (w : World) (o : Obj) : Grow w (w.alloc o) := Below.alloc (Below.refl _ _) (Nat.le_refl _) o
/-- block b is just these cells, none frozen -/
def Blk (w : World) (b : Nat) (t : TypeId) (cs : Array Value) : Prop := w.heap[b]? = some (.cells cs t (0, 0))
theorem Blk.lt {w : World} {b : Nat} {t : TypeId} {cs : Array Value} (h : Blk w b t cs) : b < w.heap.size := by
  rcases Nat.lt_or_ge b w.heap.size with hlt | hge
  · exact hlt
  · unfold Blk at h; rw [Array.getElem?_eq_none hge] at h; cases h
theorem Blk.grow {w w' : World} {b : Nat} {t : TypeId} {cs : Array Value} (hg : Grow w w') (h : Blk w b t cs) : Blk w' b t cs := (hg.block b h.lt).trans h
theorem Blk.new (w : World) (t : TypeId) (cs : Array Value) : Blk (w.alloc (.cells cs t)) w.heap.size t cs := by
  show (w.heap.push _)[w.heap.size]? = _
  simp

section
variable {P : Program} {ops : Array Oper} {md : Region.Mode} {Q : Exit → Act → World → Prop} {L : Act → World → Prop}

/-- the post, but nothing at a panic -/
def NoP (Q : Exit → Act → World → Prop) : Exit → Act → World → Prop
  | .panic _, _, _ => False
  | .normal, a, w => Q .normal a w
  | _, _, _ => False
theorem NoP.up : ∀ (e : Exit) (a : Act) (w : World), NoP Q e a w → Q e a w := fun e a w h => by
  cases e <;> first | exact h | exact (h : False).elim

/-- what an operation that is run comes to: f x for some x, with the facts T x, in a world that has only grown -/
def UponM (P : Program) {X : Type} (f : X → Value) (T : X → World → Prop) (w : World) : Result Next → Prop
  | .ok (.value v) w' => ∃ x, v = f x ∧ T x w' ∧ Grow w w'
  | .ok (.enter g args) w' => Calls P g args w' fun e w'' => ∃ x, e = .returned (f x) ∧ T x w'' ∧ Grow w w''
  | _ => False
def StepM (P : Program) (ops : Array Oper) {X : Type} (o : Oper) (a : Act) (f : X → Value) (T : X → World → Prop) (w : World) : Prop :=
  if Region.wanted o (yielded ops a.tmps) then UponM P f T w ((execOp a.eval o).run P w) else ∃ x, f x = undef ∧ T x w

/-- an operation that makes a new block out of nothing -/
def newObj (P : Program) (o : Oper) : Obj := match (execOp (fun _ => undef) o).run P default with
  | .ok _ w' => (w'.heap[(default : World).heap.size]?).getD (.cells #[] 0)
  | _ => .cells #[] 0
def AllocOp (P : Program) (ops : Array Oper) (o : Oper) : Prop :=
  ∀ (a : Act) (w : World), Region.wanted o (yielded ops a.tmps) = true ∧ (execOp a.eval o).run P w = .ok (.value (.pointer (some ⟨w.heap.size, 0, none⟩))) (w.alloc (newObj P o))

/-- B: new blocks are numbered from B on; tk: the new blocks that are named already -/
def OKs (P : Program) (ops : Array Oper) (L : Act → World → Prop) (B : Nat) : List (Nat × Oper) → List Nat → Act → (World → Prop) → Prop
  | [], _, a, F => ∀ w, F w → L a w
  | (0, o) :: r, tk, a, F => ∃ v, YieldsIf P ops F o v a ∧ OKs P ops L B r tk (a.put o.dst v) F
  | (1, o) :: r, tk, a, F => ∃ (X : Type) (f : X → Value) (T : X → World → Prop), (∀ x w w', Grow w w' → T x w → T x w') ∧ (∀ w, F w → StepM P ops o a f T w) ∧
      ∀ x, OKs P ops L B r tk (a.put o.dst (f x)) (fun w => F w ∧ T x w)
  | (_, o) :: r, tk, a, F => ∀ b, B ≤ b → b ∉ tk → OKs P ops L B r (b :: tk) (a.put o.dst (.pointer (some ⟨b, 0, none⟩))) (fun w => F w ∧ w.heap[b]? = some (newObj P o))

theorem OKs.weaken {B : Nat} : ∀ (r : List (Nat × Oper)) (tk tk' : List Nat) (a : Act) (F F' : World → Prop), (∀ w, F' w → F w) → (∀ b, b ∈ tk → b ∈ tk') → OKs P ops L B r tk a F → OKs P ops L B r tk' a F'
  | [], _, _, _, _, _, hF, _, h => fun w hw => h w (hF w hw)
  | (0, o) :: r, tk, tk', a, F, F', hF, ht, h => by
    obtain ⟨v, hy, h'⟩ := h
    exact ⟨v, hy.imp (fun ⟨hw, hv⟩ => ⟨hw, fun w hw' => hv w (hF w hw')⟩) id, OKs.weaken r tk tk' _ F F' hF ht h'⟩
  | (1, o) :: r, tk, tk', a, F, F', hF, ht, h => by
    obtain ⟨X, f, T, hm, hs, h'⟩ := h
    exact ⟨X, f, T, hm, fun w hw => hs w (hF w hw), fun x => OKs.weaken r tk tk' _ _ _ (fun w hw => ⟨hF w hw.1, hw.2⟩) ht (h' x)⟩
  | (k + 2, o) :: r, tk, tk', a, F, F', hF, ht, h => fun b hb hn => OKs.weaken r (b :: tk) (b :: tk') _ _ _ (fun w hw => ⟨hF w hw.1, hw.2⟩) (fun c hc => by
      rcases List.mem_cons.1 hc with rfl | hc
      · simp
      · exact List.mem_cons_of_mem _ (ht c hc)) (h b hb (fun hc => hn (ht b hc)))

/-- x stands ahead of e; e may be brought ahead of x -/
def swapB (ops : Array Oper) (x e : Nat × Oper) : Bool := x.2.apart ops e.2 && (decide (2 ≤ e.1) || decide (x.1 = 0))

theorem YieldsIf.put {F : World → Prop} {o : Oper} {v u : Value} {a : Act} {d : Option Tmp} (hs : ∀ cs b, o.op ≠ .select cs b) (hd : ∀ t, d = some t → t ∉ o.looksAt ops) : YieldsIf P ops F o v a ↔ YieldsIf P ops F o v (a.put d u) :=
  ⟨fun h => h.of_same (execOp_put o hs a d u hd) (wanted_put o a d u hd), fun h => h.of_same (execOp_put o hs a d u hd).symm (wanted_put o a d u hd).symm⟩
theorem StepM.put {X : Type} {f : X → Value} {T : X → World → Prop} {w : World} {o : Oper} {u : Value} {a : Act} {d : Option Tmp} (hs : ∀ cs b, o.op ≠ .select cs b) (hd : ∀ t, d = some t → t ∉ o.looksAt ops) : StepM P ops o (a.put d u) f T w ↔ StepM P ops o a f T w := by
  unfold StepM
  rw [execOp_put o hs a d u hd, wanted_put o a d u hd]

theorem OKs.swap {B : Nat} {tk : List Nat} {x e : Nat × Oper} {r : List (Nat × Oper)} {a : Act} {F : World → Prop} (hsx : ∀ cs b, x.2.op ≠ .select cs b) (hse : ∀ cs b, e.2.op ≠ .select cs b) (hB : swapB ops x e = true)
    (h : OKs P ops L B (x :: e :: r) tk a F) : OKs P ops L B (e :: x :: r) tk a F := by
  obtain ⟨kx, ox⟩ := x
  obtain ⟨ke, oe⟩ := e
  simp only [swapB, Bool.and_eq_true, Bool.or_eq_true, decide_eq_true_eq] at hB
  obtain ⟨hap, hk⟩ := hB
  obtain ⟨h1, h2, h3⟩ := Oper.apart_spec hap
  simp only at hsx hse hk h1 h2 h3
  match kx, ke with
  | 0, 0 =>
    obtain ⟨v, hy, u, hy', h'⟩ := h
    exact ⟨u, (YieldsIf.put hse h1).2 hy', v, (YieldsIf.put hsx h3).1 hy, by rw [← Act.put_comm a v u h2]; exact h'⟩
  | 0, 1 =>
    obtain ⟨v, hy, X, f, T, hm, hs, h'⟩ := h
    refine ⟨X, f, T, hm, fun w hw => (StepM.put hse h1).1 (hs w hw), fun x => ⟨v, ?_, by rw [← Act.put_comm a v _ h2]; exact h' x⟩⟩
    exact ((YieldsIf.put hsx h3).1 hy).imp (fun ⟨hw, hv⟩ => ⟨hw, fun w hw' => hv w hw'.1⟩) id
  | 0, k + 2 =>
    obtain ⟨v, hy, h'⟩ := h
    refine fun b hb hn => ⟨v, ?_, by rw [← Act.put_comm a v _ h2]; exact h' b hb hn⟩
    exact ((YieldsIf.put hsx h3).1 hy).imp (fun ⟨hw, hv⟩ => ⟨hw, fun w hw' => hv w hw'.1⟩) id
  | 1, k + 2 =>
    obtain ⟨X, f, T, hm, hs, h'⟩ := h
    refine fun b hb hn => ⟨X, f, T, hm, fun w hw => (StepM.put hsx h3).2 (hs w hw.1), fun x => ?_⟩
    rw [← Act.put_comm a _ _ h2]
    exact OKs.weaken _ _ _ _ _ _ (fun w hw => ⟨⟨hw.1.1, hw.2⟩, hw.1.2⟩) (fun _ hc => hc) (h' x b hb hn)
  | j + 2, k + 2 =>
    intro b hb hn b' hb' hn'
    rw [← Act.put_comm a _ _ h2]
    have hne : b' ≠ b := fun e => hn' (by simp [e])
    refine OKs.weaken _ (b :: b' :: tk) _ _ _ _ (fun w hw => ⟨⟨hw.1.1, hw.2⟩, hw.1.2⟩) (fun c hc => ?_) (h b' hb' (fun hc => hn' (List.mem_cons_of_mem _ hc)) b hb (fun hc => ?_))
    · simp only [List.mem_cons] at hc ⊢
      rcases hc with h | h | h
      · exact .inr (.inl h)
      · exact .inl h
      · exact .inr (.inr h)
    · rcases List.mem_cons.1 hc with hc | hc
      · exact hne hc.symm
      · exact hn hc
  | 1, 0 => omega
  | 1, 1 => omega
  | j + 2, 0 => omega
  | j + 2, 1 => omega

/-- e brought ahead of all of pre -/
theorem OKs.front {B : Nat} {e : Nat × Oper} {post : List (Nat × Oper)} (hse : ∀ cs b, e.2.op ≠ .select cs b) : ∀ (pre : List (Nat × Oper)) (tk : List Nat) (a : Act) (F : World → Prop), (∀ x ∈ pre, (∀ cs b, x.2.op ≠ .select cs b) ∧ swapB ops x e = true) →
    OKs P ops L B (pre ++ e :: post) tk a F → OKs P ops L B (e :: (pre ++ post)) tk a F
  | [], _, _, _, _, h => h
  | x :: pre, tk, a, F, hp, h => by
    have hx := hp x (by simp)
    refine OKs.swap hx.1 hse hx.2 ?_
    have ih := fun (tk : List Nat) (a : Act) (F : World → Prop) (h : OKs P ops L B (pre ++ e :: post) tk a F) => OKs.front (post := post) hse pre tk a F (fun y hy => hp y (by simp [hy])) h
    obtain ⟨kx, ox⟩ := x
    match kx with
    | 0 => obtain ⟨v, hy, h'⟩ := h; exact ⟨v, hy, ih _ _ _ h'⟩
    | 1 => obtain ⟨X, f, T, hm, hs, h'⟩ := h; exact ⟨X, f, T, hm, hs, fun x => ih _ _ _ (h' x)⟩
    | k + 2 => exact fun b hb hn => ih _ _ _ (h b hb hn)

/-- one step of the run, whichever operation is taken -/
theorem OKs.step {B : Nat} {tk : List Nat} {k i : Nat} {o : Oper} {r : List (Nat × Oper)} {a : Act} {F : World → Prop} {w : World} (hi : ops[i]? = some o) (hA : 2 ≤ k → AllocOp P ops o) (hmono : ∀ w w', Grow w w' → F w → F w') (hw : F w)
    (hFB : ∀ w, F w → B ≤ w.heap.size ∧ ∀ b ∈ tk, b < w.heap.size) (h : OKs P ops L B ((k, o) :: r) tk a F) :
    wpOp P ops (NoP Q) i (fun a' w' => ∃ (F' : World → Prop) (tk' : List Nat), (∀ w w', Grow w w' → F' w → F' w') ∧ F' w' ∧ (∀ w, F' w → B ≤ w.heap.size ∧ ∀ b ∈ tk', b < w.heap.size) ∧ OKs P ops L B r tk' a' F') a w := by
  match k with
  | 0 =>
    obtain ⟨v, hy, h'⟩ := h
    exact hy.wpOp hi hw ⟨F, tk, hmono, hw, hFB, h'⟩
  | 1 =>
    obtain ⟨X, f, T, hm, hs, h'⟩ := h
    have hs' := hs w hw
    have next : ∀ (x : X) (w' : World), T x w' → Grow w w' → ∃ (F' : World → Prop) (tk' : List Nat), (∀ w w', Grow w w' → F' w → F' w') ∧ F' w' ∧ (∀ w, F' w → B ≤ w.heap.size ∧ ∀ b ∈ tk', b < w.heap.size) ∧ OKs P ops L B r tk' (a.put o.dst (f x)) F' := fun x w' ht hg =>
      ⟨fun w => F w ∧ T x w, tk, fun u u' hu hh => ⟨hmono u u' hu hh.1, hm x u u' hu hh.2⟩, ⟨hmono w w' hg hw, ht⟩, fun u hu => hFB u hu.1, h' x⟩
    unfold StepM at hs'
    unfold wpOp
    simp only [hi]
    split
    · rename_i hwa
      rw [if_pos hwa] at hs'
      refine .inl ?_
      unfold Oper.wp
      revert hs'
      generalize (execOp a.eval o).run P w = res
      intro hs'
      cases res with
      | ok n w' =>
        cases n with
        | value v =>
          obtain ⟨x, rfl, ht, hg⟩ := hs'
          exact next x w' ht hg
        | enter g args =>
          refine Calls.mono hs' fun e w'' he => ?_
          obtain ⟨x, rfl, ht, hg⟩ := he
          exact next x w'' ht hg
        | _ => exact (hs' : False).elim
      | halt x w' => exact (hs' : False).elim
    · rename_i hwa
      rw [if_neg hwa] at hs'
      obtain ⟨x, hx, ht⟩ := hs'
      rw [← hx]
      exact next x w ht (Grow.refl w)
  | k + 2 =>
    obtain ⟨hwa, hrun⟩ := hA (by omega) a w
    unfold wpOp
    simp only [hi, hwa, if_true]
    refine .inl ?_
    unfold Oper.wp
    rw [hrun]
    have hin : ∀ u : World, u.heap[w.heap.size]? = some (newObj P o) → w.heap.size < u.heap.size := fun u hh => by
      rcases Nat.lt_or_ge w.heap.size u.heap.size with h' | h'
      · exact h'
      · rw [Array.getElem?_eq_none h'] at hh; cases hh
    refine ⟨fun u => F u ∧ u.heap[w.heap.size]? = some (newObj P o), w.heap.size :: tk, fun u u' hu hh => ⟨hmono u u' hu hh.1, ?_⟩, ⟨hmono _ _ (Grow.alloc w _) hw, ?_⟩, fun u hu => ⟨(hFB u hu.1).1, fun b hb => ?_⟩,
      h w.heap.size (hFB w hw).1 (fun hc => Nat.lt_irrefl _ ((hFB w hw).2 _ hc))⟩
    · rw [hu.block w.heap.size (hin u hh.2)]
      exact hh.2
    · show (w.heap.push _)[w.heap.size]? = _
      simp
    · rcases List.mem_cons.1 hb with rfl | hb
      · exact hin u hu.2
      · exact (hFB u hu.1).2 b hb

/-- what must stand ahead of operation i, by edges, in so many steps -/
def waitB (ops : Array Oper) : Nat → Nat → Nat → Bool
  | 0, _, _ => false
  | f + 1, i, j => match ops[i]? with
    | some o => o.after.any fun e => Region.binds .any e && (e.on == j || waitB ops f e.on j)
    | none => false

theorem waitB_listed {n : Nat} {listed : Array Bool} (inv : HeadInv .any ops n listed) : ∀ (f i j : Nat), waitB ops f i j = true →
    (∀ o, ops[i]? = some o → ∀ e ∈ o.after, Region.binds .any e = true → listed.getD e.on false = true) → listed.getD j false = true
  | 0, _, _, h, _ => by simp [waitB] at h
  | f + 1, i, j, h, hl => by
    unfold waitB at h
    split at h
    · rename_i o ho
      obtain ⟨e, he, hb⟩ := Array.any_eq_true'.1 h
      simp only [Bool.and_eq_true, Bool.or_eq_true, beq_iff_eq] at hb
      have h1 := hl o ho e he hb.1
      rcases hb.2 with h2 | h2
      · rw [← h2]; exact h1
      · exact waitB_listed inv f e.on j h2 (fun o' ho' e' he' hb' => inv.closed e.on o' ho' h1 e' he' hb')
    · cases h

/-- the order s of the head (kind, place): each pair either bound by edges or free to be turned round; each operation's edges lead to what stands ahead -/
def pairB (ops : Array Oper) : List (Nat × Nat) → Bool
  | [] => true
  | (k, i) :: r => (r.all fun e => waitB ops ops.size e.2 i || (match ops[i]?, ops[e.2]? with
      | some oi, some oe => swapB ops (k, oi) (e.1, oe)
      | _, _ => false)) && pairB ops r
def backB (ops : Array Oper) (n : Nat) (s : List Nat) : Bool :=
  (List.range n).all fun i => match ops[i]? with
    | some o => o.after.all fun e => !Region.binds .any e || (decide (e.on < n) && decide (s.idxOf e.on < s.idxOf i))
    | none => false
def pickOps (ops : Array Oper) : List (Nat × Nat) → List (Nat × Oper)
  | [] => []
  | (k, i) :: r => match ops[i]? with
    | some o => (k, o) :: pickOps ops r
    | none => pickOps ops r

theorem pickOps_append (x y : List (Nat × Nat)) : pickOps ops (x ++ y) = pickOps ops x ++ pickOps ops y := by
  induction x with
  | nil => rfl
  | cons e x ih =>
    obtain ⟨k, i⟩ := e
    simp only [List.cons_append, pickOps]
    split <;> simp [ih]
theorem mem_pickOps {s : List (Nat × Nat)} {k : Nat} {o : Oper} (h : (k, o) ∈ pickOps ops s) : ∃ i, (k, i) ∈ s ∧ ops[i]? = some o := by
  induction s with
  | nil => simp [pickOps] at h
  | cons e s ih =>
    obtain ⟨k', i'⟩ := e
    simp only [pickOps] at h
    split at h
    · rename_i o' ho'
      rcases List.mem_cons.1 h with h | h
      · injection h with h1 h2
        subst h1; subst h2
        exact ⟨i', by simp, ho'⟩
      · obtain ⟨i, hi, ho⟩ := ih h
        exact ⟨i, by simp [hi], ho⟩
    · obtain ⟨i, hi, ho⟩ := ih h
      exact ⟨i, by simp [hi], ho⟩
theorem pairB_sub {s t : List (Nat × Nat)} (h : s.Sublist t) (hp : pairB ops t = true) : pairB ops s = true := by
  induction h with
  | slnil => rfl
  | cons a _ ih => simp only [pairB, Bool.and_eq_true] at hp; exact ih hp.2
  | cons_cons a hs ih =>
    simp only [pairB, Bool.and_eq_true, List.all_eq_true] at hp ⊢
    exact ⟨fun e he => hp.1 e (hs.subset he), ih hp.2⟩
theorem pairB_at {pre post : List (Nat × Nat)} {k i : Nat} (hp : pairB ops (pre ++ (k, i) :: post) = true) : ∀ x ∈ pre, waitB ops ops.size i x.2 = true ∨ ∃ ox oi, ops[x.2]? = some ox ∧ ops[i]? = some oi ∧ swapB ops (x.1, ox) (k, oi) = true := by
  induction pre with
  | nil => intro x hx; cases hx
  | cons y pre ih =>
    intro x hx
    simp only [List.cons_append, pairB, Bool.and_eq_true, List.all_eq_true] at hp
    rcases List.mem_cons.1 hx with rfl | hx
    · have h := hp.1 (k, i) (by simp)
      simp only [Bool.or_eq_true] at h
      rcases h with h | h
      · exact .inl h
      · revert h
        cases ho : ops[x.2]? with
        | none => simp
        | some ox =>
          cases hi : ops[i]? with
          | none => simp
          | some oi => intro h; exact .inr ⟨ox, oi, rfl, rfl, h⟩
    · exact ih hp.2 x hx

theorem grow_sound {B n g : Nat} {s0 : List Nat} (hsel : Region.noSelect ops = true) (hn : n ≤ ops.size) (hback : backB ops n s0 = true)
    (hT : ∀ listed, HeadInv .any ops n listed → ∀ i, i < n → listed.getD i true = false → ∀ t, n ≤ t → t ∉ Region.ready .any ops listed)
    (hL : ∀ listed a w, HeadInv .any ops n listed → (∀ i, i < n → listed.getD i true = true) → L a w → wpAny P .any ops (NoP Q) g listed a w) :
    ∀ (m : Nat) (s : List (Nat × Nat)) (listed : Array Bool) (tk : List Nat) (a : Act) (F : World → Prop) (w : World), s.length = m → (∀ i, i ∈ s.map (·.2) ↔ (i < n ∧ listed.getD i true = false)) → (s.map (·.2)).Nodup →
      HeadInv .any ops n listed → pairB ops s = true → (∀ e ∈ s, 2 ≤ e.1 → ∀ o, ops[e.2]? = some o → AllocOp P ops o) → (∀ w w', Grow w w' → F w → F w') → F w → (∀ w, F w → B ≤ w.heap.size ∧ ∀ b ∈ tk, b < w.heap.size) → OKs P ops L B (pickOps ops s) tk a F → wpAny P .any ops (NoP Q) (m + g) listed a w := by
  intro m
  induction m with
  | zero =>
    intro s listed tk a F w hlen hset _ inv _ _ _ hw _ h
    have hs : s = [] := List.eq_nil_of_length_eq_zero hlen
    subst hs
    rw [Nat.zero_add]
    refine hL listed a w inv (fun i hi => ?_) (h w hw)
    cases hl : listed.getD i true with
    | true => rfl
    | false => have := (hset i).2 ⟨hi, hl⟩; simp at this
  | succ m ih =>
    intro s listed tk a F w hlen hset hnd inv hp hA hmono hw hFB h
    have hne : Region.ready .any ops listed ≠ [] := by
      intro h0
      have key : ∀ p i, i < n → listed.getD i true = false → s0.idxOf i = p → False := by
        intro p
        induction p using Nat.strongRecOn with
        | ind p ihp =>
          intro i hi hun hpos
          have hb := List.all_eq_true.1 hback i (List.mem_range.2 hi)
          have hio : ops[i]? = some ops[i] := by simp
          rw [hio] at hb
          simp only [Array.all_eq_true_iff_forall_mem, Bool.or_eq_true, Bool.not_eq_true', Bool.and_eq_true, decide_eq_true_eq] at hb
          have : i ∈ Region.ready .any ops listed := mem_ready.2 ⟨hun, ops[i], hio, fun e he hbi => by
            rcases hb e he with h1 | h1
            · rw [h1] at hbi; cases hbi
            · cases hl : listed.getD e.on false with
              | true => rfl
              | false =>
                have hlt : e.on < listed.size := by rw [inv.size]; omega
                exact (ihp (s0.idxOf e.on) (by omega) e.on h1.1 (getD_in hlt hl) rfl).elim⟩
          rw [h0] at this
          cases this
      cases s with
      | nil => simp at hlen
      | cons e s =>
        have he := (hset e.2).1 (by simp)
        exact key _ e.2 he.1 he.2 rfl
    rw [show m + 1 + g = (m + g) + 1 by omega]
    refine ⟨fun h0 => absurd h0 hne, fun i hi => ?_⟩
    have hun := (mem_ready.1 hi).1
    have hin : i < n := by
      rcases Nat.lt_or_ge i n with h' | h'
      · exact h'
      · exfalso
        cases s with
        | nil => simp at hlen
        | cons e s =>
          have he := (hset e.2).1 (by simp)
          exact hT listed inv e.2 he.1 he.2 i h' hi
    obtain ⟨_, oi, hoi, hall⟩ := mem_ready.1 hi
    have hmem := (hset i).2 ⟨hin, hun⟩
    obtain ⟨⟨k, i'⟩, hki, hii⟩ := List.mem_map.1 hmem
    simp only at hii
    subst hii
    obtain ⟨pre, post, rfl⟩ := List.append_of_mem hki
    have hsw : ∀ x ∈ pickOps ops pre, (∀ cs b, x.2.op ≠ .select cs b) ∧ swapB ops x (k, oi) = true := by
      rintro ⟨kx, ox⟩ hx
      obtain ⟨j, hj, hoj⟩ := mem_pickOps hx
      refine ⟨fun cs b => Region.noSelect_spec hsel j ox cs b hoj, ?_⟩
      rcases pairB_at hp (kx, j) hj with h1 | ⟨ox', oi', h1, h2, h3⟩
      · exfalso
        have hl := waitB_listed inv _ i' j h1 (fun o ho e he hb => by
          have : o = oi := Option.some.inj (ho.symm.trans hoi)
          subst this
          exact hall e he hb)
        have hju := ((hset j).1 (by simp only [List.map_append, List.mem_append]; exact .inl (List.mem_map.2 ⟨(kx, j), hj, rfl⟩))).2
        rw [getD_both hju] at hl
        cases hl
      · have e1 : ox' = ox := Option.some.inj (h1.symm.trans hoj)
        have e2 : oi' = oi := Option.some.inj (h2.symm.trans hoi)
        subst e1; subst e2
        exact h3
    have hfr : OKs P ops L B ((k, oi) :: pickOps ops (pre ++ post)) tk a F := by
      rw [pickOps_append] at h ⊢
      have hpk : pickOps ops ((k, i') :: post) = (k, oi) :: pickOps ops post := by simp [pickOps, hoi]
      rw [hpk] at h
      exact OKs.front (fun cs b => Region.noSelect_spec hsel i' oi cs b hoi) (pickOps ops pre) tk a F hsw h
    refine wpOp_mono (fun a' w' h3 => ?_) (OKs.step (Q := Q) hoi (fun hk => hA (k, i') (by simp) hk oi hoi) hmono hw hFB hfr)
    obtain ⟨F', tk', hmono', hw', hFB', h'⟩ := h3
    have hnd' : (pre.map (·.2)).Nodup ∧ (i' ∉ post.map (·.2) ∧ (post.map (·.2)).Nodup) ∧ ∀ x ∈ pre.map (·.2), x ≠ i' ∧ x ∉ post.map (·.2) := by
      simp only [List.map_append, List.map_cons, List.nodup_append, List.nodup_cons] at hnd
      refine ⟨hnd.1, hnd.2.1, fun x hx => ⟨fun e => hnd.2.2 x hx i' (by simp) e, fun hx' => hnd.2.2 x hx x (by simp only [List.mem_cons]; exact .inr hx') rfl⟩⟩
    refine ih (pre ++ post) (listed.setIfInBounds i' true) tk' a' F' w' (by simp at hlen ⊢; omega) (fun j => ?_) ?_ (inv.set hi hin) (pairB_sub ?_ hp) (fun e he => hA e ?_) hmono' hw' hFB' h'
    · by_cases hji : i' = j
      · subst hji
        constructor
        · intro hj
          simp only [List.map_append, List.mem_append] at hj
          rcases hj with hj | hj
          · exact absurd rfl (hnd'.2.2 _ hj).1
          · exact absurd hj hnd'.2.1.1
        · rintro ⟨_, hj⟩
          have hlt : i' < listed.size := by rw [inv.size]; omega
          simp [hlt] at hj
      · rw [getD_set_ne true hji, ← hset j]
        simp only [List.map_append, List.map_cons, List.mem_append, List.mem_cons]
        constructor
        · rintro (h1 | h1)
          · exact .inl h1
          · exact .inr (.inr h1)
        · rintro (h1 | h1 | h1)
          · exact .inl h1
          · exact absurd h1.symm hji
          · exact .inr h1
    · rw [List.map_append, List.nodup_append]
      exact ⟨hnd'.1, hnd'.2.1.2, fun x hx y hy hxy => (hnd'.2.2 x hx).2 (hxy ▸ hy)⟩
    · exact (List.Sublist.refl pre).append (List.sublist_cons_self _ _)
    · simp only [List.mem_append, List.mem_cons] at he ⊢
      rcases he with he | he
      · exact .inl he
      · exact .inr (.inr he)

def setB (s : List Nat) (n : Nat) : Bool := (List.range n).all (fun i => s.contains i) && s.all (fun i => decide (i < n)) && decide s.Nodup
def headEnd (n m : Nat) : Array Bool := Array.ofFn (n := m) fun i => decide (i.val < n)

/-- the new blocks of the head are of these types, unguarded -/
def allocB (ts : List TypeId) (ops : Array Oper) (s : List (Nat × Nat)) : Bool := s.all fun e => decide (e.1 < 2) || match ops[e.2]? with
  | some o => (match o.op with | .alloc t => ts.contains t | _ => false) && o.guard.isNone
  | none => false
def AllocT (P : Program) (t : TypeId) : Prop := ∀ (d : Option Tmp) (ty : TypeId) (pos : String) (af : Array Edge) (a : Act) (w : World),
  (execOp a.eval ⟨d, .alloc t, ty, pos, af, none⟩).run P w = .ok (.value (.pointer (some ⟨w.heap.size, 0, none⟩))) (w.alloc (newObj P ⟨d, .alloc t, ty, pos, af, none⟩))
theorem allocOp_of {ts : List TypeId} (hts : ∀ t ∈ ts, AllocT P t) {s : List (Nat × Nat)} (hB : allocB ts ops s = true) : ∀ e ∈ s, 2 ≤ e.1 → ∀ o, ops[e.2]? = some o → AllocOp P ops o := by
  intro e he hk o ho a w
  have h := List.all_eq_true.1 hB e he
  simp only [Bool.or_eq_true, decide_eq_true_eq] at h
  rcases h with h | h
  · omega
  · rw [ho] at h
    obtain ⟨d, op, ty, pos, af, gd⟩ := o
    simp only [Bool.and_eq_true, Option.isNone_iff_eq_none] at h
    obtain ⟨h1, h2⟩ := h
    subst h2
    cases op <;> simp only [Bool.false_eq_true] at h1
    rename_i t
    exact ⟨rfl, hts t (by simpa using h1) d ty pos af a w⟩

def growB (ts : List TypeId) (l : List Oper) (n : Nat) (s : List (Nat × Nat)) : Bool :=
  Region.noSelect l.toArray && decide (n < l.toArray.size) && Region.sinkB .any l.toArray n && Region.chainB .any l.toArray n && setB (s.map (·.2)) n && pairB l.toArray s && backB l.toArray n (s.map (·.2)) &&
    Region.seqB .any l.toArray (l.toArray.size - n) n (headEnd n l.toArray.size) && allocB ts l.toArray s

/-- A region that draws its order: a head of n operations, in the order s (kind, place); then a tail in its forced order. -/
theorem wp_region_grow {id : Nat} {a : Act} {w : World} {l : List Oper} {ts : List TypeId} (hts : ∀ t ∈ ts, AllocT P t) (n : Nat) (s : List (Nat × Nat)) (F : World → Prop) (hm : P.follows .mixedOrders = true) (hB : growB ts l n s = true)
    (hmono : ∀ w w', Grow w w' → F w → F w') (hF : F w) (h : OKs P l.toArray (fun a' w' => wpList P l.toArray (NoP Q) (l.drop n) a' w') w.heap.size (pickOps l.toArray s) [] a (fun u => Grow w u ∧ F u)) : (Code.region id l.toArray true).wp P Q a w := by
  simp only [growB, setB, Bool.and_eq_true, decide_eq_true_eq, List.all_eq_true, List.mem_range, List.contains_iff_mem] at hB
  obtain ⟨⟨⟨⟨⟨⟨⟨⟨hsel, hn⟩, hs⟩, hc⟩, ⟨⟨hset1, hset2⟩, hnd⟩⟩, hpair⟩, hback⟩, hseq⟩, hall⟩ := hB
  have hdl : (l.drop n).length = l.toArray.size - n := by simp
  have inv0 : HeadInv .any l.toArray n (Array.replicate l.toArray.size false) :=
    ⟨by simp, fun j oj _ hl => (by rw [getD_replicate_false] at hl; cases hl), fun t _ ht => getD_in (by simpa using ht) (getD_replicate_false _ _)⟩
  have hun0 : ∀ i, i < n → (Array.replicate l.toArray.size false).getD i true = false := fun i hi => getD_in (by simp at hn ⊢; omega) (getD_replicate_false _ _)
  have hlen : s.length = n := by
    have h1 : (s.map (·.2)).Perm (List.range n) := (List.perm_ext_iff_of_nodup hnd List.nodup_range).2 fun i => ⟨fun hi => List.mem_range.2 (hset2 i hi), fun hi => hset1 i (List.mem_range.1 hi)⟩
    simpa using h1.length_eq
  refine Code.wp_mono NoP.up (wp_region_any hm ?_)
  have H := grow_sound (P := P) (Q := Q) (B := w.heap.size) (L := fun a' w' => wpList P l.toArray (NoP Q) (l.drop n) a' w') (g := l.toArray.size - n) hsel (Nat.le_of_lt hn) hback (fun listed inv i hi hun t ht => tail_waits hs hc hn inv (n - i) i rfl hi hun t ht)
    (fun listed a' w' inv hall hK => by
      have hl : listed = headEnd n l.toArray.size := by
        refine Array.ext (by simp [headEnd, inv.size]) fun i h1 h2 => ?_
        have hi : i < l.toArray.size := by rw [← inv.size]; exact h1
        simp only [headEnd, Array.getElem_ofFn]
        by_cases hin : i < n
        · have := hall i hin
          simpa [h1, hin] using this
        · have := inv.tail i (by omega) hi
          simpa [h1, hin] using this
      have := wpAny_of_seq (md := .any) (Q' := NoP Q) (l.drop n) n listed a' w' (fun j => by simp [List.getElem?_drop]) (by rw [hdl, hl]; exact hseq) hK
      rwa [hdl] at this)
    n s (Array.replicate l.toArray.size false) [] a (fun u => Grow w u ∧ F u) w.drew hlen (fun i => ⟨fun hi => ⟨hset2 i hi, hun0 i (hset2 i hi)⟩, fun hi => hset1 i hi.1⟩) hnd inv0 hpair (allocOp_of hts hall)
    (fun u u' hu hh => ⟨hh.1.trans hu, hmono u u' hu hh.2⟩) ⟨Grow.drew w, hmono _ _ (Grow.drew w) hF⟩ (fun u hu => ⟨hu.1.size, fun b hb => by cases hb⟩) h
  rw [show n + (l.toArray.size - n) = l.toArray.size by omega] at H
  exact H

/-- the operations one after the other -/
theorem OKs.seq {B : Nat} {tl : List Oper} : ∀ (s : List (Nat × Oper)) (tk : List Nat) (a : Act) (F : World → Prop) (w : World), (∀ e ∈ s, 2 ≤ e.1 → AllocOp P ops e.2) → (∀ w w', Grow w w' → F w → F w') → F w →
    (∀ w, F w → B ≤ w.heap.size ∧ ∀ b ∈ tk, b < w.heap.size) → OKs P ops (fun a' w' => wpList P ops (NoP Q) tl a' w') B s tk a F → wpList P ops (NoP Q) (s.map (·.2) ++ tl) a w
  | [], _, _, _, w, _, _, hw, _, h => h w hw
  | (k, o) :: s, tk, a, F, w, hA, hmono, hw, hFB, h => by
    have ih : ∀ a' w', (∃ (F' : World → Prop) (tk' : List Nat), (∀ w w', Grow w w' → F' w → F' w') ∧ F' w' ∧ (∀ w, F' w → B ≤ w.heap.size ∧ ∀ b ∈ tk', b < w.heap.size) ∧ OKs P ops (fun a' w' => wpList P ops (NoP Q) tl a' w') B s tk' a' F') → wpList P ops (NoP Q) (s.map (·.2) ++ tl) a' w' := by
      rintro a' w' ⟨F', tk', h1, h2, h3, h4⟩
      exact OKs.seq s tk' a' F' w' (fun e he => hA e (List.mem_cons_of_mem _ he)) h1 h2 h3 h4
    refine wpList_step fun N hN => ?_
    have hN' : ∀ a' w', (∃ (F' : World → Prop) (tk' : List Nat), (∀ w w', Grow w w' → F' w → F' w') ∧ F' w' ∧ (∀ w, F' w → B ≤ w.heap.size ∧ ∀ b ∈ tk', b < w.heap.size) ∧ OKs P ops (fun a' w' => wpList P ops (NoP Q) tl a' w') B s tk' a' F') → N a' w' := fun a' w' h => hN a' w' (ih a' w' h)
    match k, h with
    | 0, h =>
      obtain ⟨v, hy, h'⟩ := h
      rcases hy with ⟨h1, h2⟩ | ⟨h1, rfl⟩
      · rw [if_pos h1]
        unfold Oper.wp
        rw [h2 w hw]
        exact hN' _ _ ⟨F, tk, hmono, hw, hFB, h'⟩
      · rw [h1]
        exact hN' _ _ ⟨F, tk, hmono, hw, hFB, h'⟩
    | 1, h =>
      obtain ⟨X, f, T, hm, hs, h'⟩ := h
      have hs' := hs w hw
      have next : ∀ (x : X) (w' : World), T x w' → Grow w w' → N (a.put o.dst (f x)) w' := fun x w' ht hg =>
        hN' _ _ ⟨fun w => F w ∧ T x w, tk, fun u u' hu hh => ⟨hmono u u' hu hh.1, hm x u u' hu hh.2⟩, ⟨hmono w w' hg hw, ht⟩, fun u hu => hFB u hu.1, h' x⟩
      unfold StepM at hs'
      split
      · rename_i hwa
        rw [if_pos hwa] at hs'
        unfold Oper.wp
        revert hs'
        generalize (execOp a.eval o).run P w = res
        intro hs'
        cases res with
        | ok n w' =>
          cases n with
          | value v =>
            obtain ⟨x, rfl, ht, hg⟩ := hs'
            exact next x w' ht hg
          | enter g args =>
            refine Calls.mono hs' fun e w'' he => ?_
            obtain ⟨x, rfl, ht, hg⟩ := he
            exact next x w'' ht hg
          | _ => exact (hs' : False).elim
        | halt x w' => exact (hs' : False).elim
      · rename_i hwa
        rw [if_neg hwa] at hs'
        obtain ⟨x, hx, ht⟩ := hs'
        rw [← hx]
        exact next x w ht (Grow.refl w)
    | k + 2, h =>
      obtain ⟨hwa, hrun⟩ := hA (k + 2, o) (by simp) (by simp) a w
      have hin : ∀ u : World, u.heap[w.heap.size]? = some (newObj P o) → w.heap.size < u.heap.size := fun u hh => by
        rcases Nat.lt_or_ge w.heap.size u.heap.size with h' | h'
        · exact h'
        · rw [Array.getElem?_eq_none h'] at hh; cases hh
      simp only at hwa hrun
      rw [if_pos hwa]
      unfold Oper.wp
      rw [hrun]
      refine hN' _ _ ⟨fun u => F u ∧ u.heap[w.heap.size]? = some (newObj P o), w.heap.size :: tk, fun u u' hu hh => ⟨hmono u u' hu hh.1, ?_⟩, ⟨hmono _ _ (Grow.alloc w _) hw, ?_⟩, fun u hu => ⟨(hFB u hu.1).1, fun b hb => ?_⟩,
        h w.heap.size (hFB w hw).1 (fun hc => Nat.lt_irrefl _ ((hFB w hw).2 _ hc))⟩
      · rw [hu.block w.heap.size (hin u hh.2)]
        exact hh.2
      · show (w.heap.push _)[w.heap.size]? = _
        simp
      · rcases List.mem_cons.1 hb with rfl | hb
        · exact hin u hu.2
        · exact (hFB u hu.1).2 b hb

def seqsB (ts : List TypeId) (l : List Oper) (n : Nat) (ks : List Nat) : Bool := decide (ks.length = n) && decide (n ≤ l.length) && allocB ts l.toArray (ks.zip (List.range n))

theorem map_zip_snd {α : Type} {β : Type} : ∀ (ks : List α) (l : List β), ks.length = l.length → (ks.zip l).map (·.2) = l
  | [], [], _ => rfl
  | [], _ :: _, h => by simp at h
  | _ :: _, [], h => by simp at h
  | k :: ks, x :: l, h => by simp only [List.zip_cons_cons, List.map_cons, map_zip_snd ks l (by simpa using h)]

/-- A region in its own order, by the same steps: the kinds of its first n operations, then the rest. -/
theorem wp_region_seq {id : Nat} {a : Act} {w : World} {l : List Oper} {ts : List TypeId} (hts : ∀ t ∈ ts, AllocT P t) (n : Nat) (ks : List Nat) (F : World → Prop) (hB : seqsB ts l n ks = true)
    (hmono : ∀ w w', Grow w w' → F w → F w') (hF : F w) (h : OKs P l.toArray (fun a' w' => wpList P l.toArray (NoP Q) (l.drop n) a' w') w.heap.size (ks.zip l) [] a (fun u => Grow w u ∧ F u)) : (Code.region id l.toArray false).wp P Q a w := by
  simp only [seqsB, Bool.and_eq_true, decide_eq_true_eq] at hB
  obtain ⟨⟨hlen, hn⟩, hall⟩ := hB
  refine Code.wp_mono NoP.up (wp_region_lit ?_)
  have hz : ks.zip l = ks.zip (l.take n) := by
    rw [← hlen]
    clear hlen hn hall h hF hmono
    induction ks generalizing l with
    | nil => simp
    | cons k ks ih => cases l with
      | nil => simp
      | cons o l => simp only [List.length_cons, List.take_succ_cons, List.zip_cons_cons]; rw [ih]
  rw [hz] at h
  have H := OKs.seq (Q := Q) (B := w.heap.size) (tl := l.drop n) (ks.zip (l.take n)) [] a (fun u => Grow w u ∧ F u) w (fun e he hk => ?_) (fun u u' hu hh => ⟨hh.1.trans hu, hmono u u' hu hh.2⟩) ⟨Grow.refl w, hF⟩ (fun u hu => ⟨hu.1.size, fun b hb => by cases hb⟩) h
  · rw [map_zip_snd ks (l.take n) (by simp; omega), List.take_append_drop] at H
    exact H
  · obtain ⟨i, hi, hie⟩ := List.mem_iff_getElem.1 he
    simp only [List.length_zip, List.length_take] at hi
    have h2 : e = (ks[i]'(by omega), l[i]'(by omega)) := by rw [← hie]; simp
    have h3 : (ks[i]'(by omega), i) ∈ ks.zip (List.range n) := List.mem_iff_getElem.2 ⟨i, by simp; omega, by simp⟩
    have hk' : 2 ≤ ks[i]'(by omega) := by rw [h2] at hk; exact hk
    have h4 := allocOp_of (P := P) hts hall _ h3 hk' (l[i]'(by omega)) (by simp)
    rw [h2]
    exact h4

/-- what an operation that only looks comes to -/
def LookUpon (w : World) (N : Value → Prop) : Result Next → Prop
  | .ok (.value v) w' => w' = w ∧ N v
  | _ => False
def Look (P : Program) (o : Oper) (a : Act) (w : World) (N : Value → Prop) : Prop := LookUpon w N ((execOp a.eval o).run P w)
/-- what an operation that is run comes to -/
def MoveUpon (P : Program) (N : Value → World → Prop) : Result Next → Prop
  | .ok (.value v) w' => N v w'
  | .ok (.enter g args) w' => Calls P g args w' fun e w'' => ∃ u, e = .returned u ∧ N u w''
  | _ => False
def Move (P : Program) (o : Oper) (a : Act) (w : World) (N : Value → World → Prop) : Prop := MoveUpon P N ((execOp a.eval o).run P w)

section
variable {o : Oper} {r : List (Nat × Oper)} {B : Nat} {tk : List Nat} {a : Act} {F : World → Prop}
/-- a step that only looks -/
theorem gy (v : Value) (hw : Region.wanted o (yielded ops a.tmps) = true) (h : ∀ w, F w → ∀ N : Value → Prop, N v → Look P o a w N) (hr : OKs P ops L B r tk (a.put o.dst v) F) : OKs P ops L B ((0, o) :: r) tk a F := by
  refine ⟨v, .inl ⟨hw, fun w hF => ?_⟩, hr⟩
  have h1 := h w hF (fun u => u = v) rfl
  unfold Look at h1
  revert h1
  generalize (execOp a.eval o).run P w = res
  intro h1
  cases res with
  | ok n w'' =>
    cases n <;> simp only [LookUpon] at h1
    obtain ⟨rfl, rfl⟩ := h1
    rfl
  | halt x w'' => simp only [LookUpon] at h1
/-- a step whose guard says no -/
theorem gn (hw : Region.wanted o (yielded ops a.tmps) = false) (hr : OKs P ops L B r tk (a.put o.dst undef) F) : OKs P ops L B ((0, o) :: r) tk a F :=
  ⟨undef, .inr ⟨hw, rfl⟩, hr⟩
theorem step_of_move {X : Type} {f : X → Value} {T : X → World → Prop} {w : World} (hw : Region.wanted o (yielded ops a.tmps) = true)
    (h : ∀ N : Value → World → Prop, (∀ x w', T x w' → Grow w w' → N (f x) w') → Move P o a w N) : StepM P ops o a f T w := by
  unfold StepM
  rw [if_pos hw]
  have h1 := h (fun u w' => ∃ x, u = f x ∧ T x w' ∧ Grow w w') (fun x w' ht hg => ⟨x, rfl, ht, hg⟩)
  unfold Move at h1
  revert h1
  generalize (execOp a.eval o).run P w = res
  intro h1
  cases res with
  | ok n w'' =>
    cases n with
    | value v => exact h1
    | enter g args =>
      refine Calls.mono h1 fun e w' he => ?_
      obtain ⟨u, rfl, x, rfl, ht, hg⟩ := he
      exact ⟨x, rfl, ht, hg⟩
    | _ => exact (h1 : False).elim
  | halt x w'' => exact (h1 : False).elim
/-- a call whose answer is known -/
theorem gm (v : Value) (hw : Region.wanted o (yielded ops a.tmps) = true) (h : ∀ w, F w → ∀ N : Value → World → Prop, (∀ w', Grow w w' → N v w') → Move P o a w N) (hr : OKs P ops L B r tk (a.put o.dst v) F) : OKs P ops L B ((1, o) :: r) tk a F :=
  ⟨Unit, fun _ => v, fun _ _ => True, fun _ _ _ _ _ => trivial, fun w hF => step_of_move hw fun N hN => h w hF N fun w' hg => hN () w' trivial hg,
    fun _ => OKs.weaken _ _ _ _ _ _ (fun _ hw => hw.1) (fun _ hc => hc) hr⟩
/-- a call whose answer is told by facts that stay -/
theorem gx (X : Type) (f : X → Value) (T : X → World → Prop) (hm : ∀ x w w', Grow w w' → T x w → T x w') (hw : Region.wanted o (yielded ops a.tmps) = true)
    (h : ∀ w, F w → ∀ N : Value → World → Prop, (∀ x w', T x w' → Grow w w' → N (f x) w') → Move P o a w N) (hr : ∀ x, OKs P ops L B r tk (a.put o.dst (f x)) (fun w => F w ∧ T x w)) : OKs P ops L B ((1, o) :: r) tk a F :=
  ⟨X, f, T, hm, fun w hF => step_of_move hw fun N hN => h w hF N hN, hr⟩
/-- a call whose guard says no -/
theorem gmn (hw : Region.wanted o (yielded ops a.tmps) = false) (hr : OKs P ops L B r tk (a.put o.dst undef) F) : OKs P ops L B ((1, o) :: r) tk a F :=
  ⟨Unit, fun _ => undef, fun _ _ => True, fun _ _ _ _ _ => trivial, fun _ _ => by unfold StepM; rw [hw]; exact ⟨(), rfl, trivial⟩,
    fun _ => OKs.weaken _ _ _ _ _ _ (fun _ hw => hw.1) (fun _ hc => hc) hr⟩
/-- a new block out of nothing -/
theorem ga {t : TypeId} {zs : Array Value} (hz : newObj P o = .cells zs t) (hr : ∀ b, B ≤ b → b ∉ tk → OKs P ops L B r (b :: tk) (a.put o.dst (.pointer (some ⟨b, 0, none⟩))) (fun w => F w ∧ Blk w b t zs)) : OKs P ops L B ((2, o) :: r) tk a F := by
  intro b hb hn
  rw [hz]
  exact hr b hb hn
theorem gend (h : ∀ w, F w → L a w) : OKs P ops L B [] tk a F := h
end
end

/-- the boxes (block, type, cells) lie in the world as they are listed -/
def Bx (u : World) (l : List (Nat × TypeId × Array Value)) : Prop := ∀ e ∈ l, Blk u e.1 e.2.1 e.2.2
theorem Bx.nil (u : World) : Bx u [] := fun _ h => by cases h
theorem Bx.cons {u : World} {l : List (Nat × TypeId × Array Value)} {b : Nat} {t : TypeId} {cs : Array Value} (h : Blk u b t cs) (hl : Bx u l) : Bx u ((b, t, cs) :: l) := fun e he => by
  rcases List.mem_cons.1 he with rfl | he
  · exact h
  · exact hl e he
theorem Bx.head {u : World} {l : List (Nat × TypeId × Array Value)} {b : Nat} {t : TypeId} {cs : Array Value} (h : Bx u ((b, t, cs) :: l)) : Blk u b t cs := h (b, t, cs) (by simp)
theorem Bx.tail {u : World} {l : List (Nat × TypeId × Array Value)} {e : Nat × TypeId × Array Value} (h : Bx u (e :: l)) : Bx u l := fun x hx => h x (by simp [hx])
theorem Bx.grow {u u' : World} {l : List (Nat × TypeId × Array Value)} (hg : Grow u u') (h : Bx u l) : Bx u' l := fun e he => (h e he).grow hg
theorem Blk.cell {w : World} {b : Nat} {t : TypeId} {cs : Array Value} (h : Blk w b t cs) (i : Nat) : w.cell? ⟨b, i, none⟩ = cs[i]? := cell_of_row w b i cs t (0, 0) h
theorem Blk.frozen {w : World} {b : Nat} {t : TypeId} {cs : Array Value} (h : Blk w b t cs) (i : Nat) : w.frozen? ⟨b, i, none⟩ = false := by
  unfold Blk at h
  simp [World.frozen?, h]
theorem Blk.set_ {w : World} {b : Nat} {t : TypeId} {cs : Array Value} (h : Blk w b t cs) (i : Nat) (u : Value) : Blk (w.setCell ⟨b, i, none⟩ u) b t (cs.setIfInBounds i u) := by
  unfold Blk at h ⊢
  simp [World.setCell, Array.getElem?_modify, h]
theorem Blk.far {w : World} {b : Nat} {t : TypeId} {cs : Array Value} (h : Blk w b t cs) {p : Addr} (hp : b ≠ p.block) (u : Value) : Blk (w.setCell p u) b t cs := (Below.heap_setCell w p u b hp).trans h
/-- what the walk reads off the boxes -/
def BxR (u : World) : List (Nat × TypeId × Array Value) → Prop
  | [] => True
  | (b, _, cs) :: l => (∀ i, u.cell? ⟨b, i, none⟩ = cs[i]?) ∧ (∀ i, u.frozen? ⟨b, i, none⟩ = false) ∧ BxR u l
theorem Bx.r {u : World} : ∀ {l : List (Nat × TypeId × Array Value)}, Bx u l → BxR u l
  | [], _ => trivial
  | (_, _, _) :: _, h => ⟨h.head.cell, h.head.frozen, h.tail.r⟩
/-- blocks of the call's own, each another -/
def Fr (w : World) (l : List Nat) : Prop := (∀ b ∈ l, w.heap.size ≤ b) ∧ l.Nodup
theorem Fr.nil (w : World) : Fr w [] := ⟨fun _ h => (by cases h), List.nodup_nil⟩
theorem Grow.setCell {w u : World} (h : Grow w u) {p : Addr} (hp : w.heap.size ≤ p.block) (v : Value) : Grow w (u.setCell p v) := Below.setCell h hp v
theorem Fr.cons {w : World} {l : List Nat} {b : Nat} (h : Fr w l) (hb : w.heap.size ≤ b) (hn : b ∉ l) : Fr w (b :: l) :=
  ⟨fun c hc => (List.mem_cons.1 hc).elim (fun e => e ▸ hb) (h.1 c), List.nodup_cons.2 ⟨hn, h.2⟩⟩
/-- box number k is written at its cell i -/
theorem Bx.set {w u : World} {l : List (Nat × TypeId × Array Value)} (h : Bx u l) (hn : Fr w (l.map (·.1))) (k : Nat) {b : Nat} (hk : (l.map (·.1))[k]? = some b) (i : Nat) (v : Value) :
    Bx (u.setCell ⟨b, i, none⟩ v) (l.modify k fun e => (e.1, e.2.1, e.2.2.setIfInBounds i v)) := fun e he => by
  obtain ⟨j, hj, hje⟩ := List.mem_iff_getElem.1 he
  rw [List.getElem_modify] at hje
  rw [List.length_modify] at hj
  rw [List.getElem?_map] at hk
  obtain ⟨x, hx, hxb⟩ := Option.map_eq_some_iff.1 hk
  obtain ⟨hkl, hkx⟩ := List.getElem?_eq_some_iff.1 hx
  by_cases hjk : k = j
  · subst hjk
    rw [if_pos rfl] at hje
    subst hje
    have h1 := h l[k] (List.getElem_mem _)
    rw [hkx] at h1 ⊢
    rw [← hxb]
    exact h1.set_ i v
  · rw [if_neg hjk] at hje
    subst hje
    refine (h l[j] (List.getElem_mem _)).far (p := ⟨b, i, none⟩) ?_ v
    intro e
    have e1 : l[j].1 = b := e
    have hlt1 : j < (l.map (·.1)).length := by simpa using hj
    have hlt2 : k < (l.map (·.1)).length := by simpa using hkl
    have hnd := List.pairwise_iff_getElem.1 hn.2
    have e2 : (l.map (·.1))[j] = (l.map (·.1))[k] := by
      simp only [List.getElem_map, hkx]
      exact e1.trans hxb.symm
    rcases Nat.lt_or_gt_of_ne hjk with hlt | hlt
    · exact hnd k j hlt2 hlt1 hlt e2.symm
    · exact hnd j k hlt1 hlt2 hlt e2

section
variable {P : Program} {Q : Exit → Act → World → Prop}
/-- the law over boxes (and over facts G that stay) -/
theorem wp_region_bx {id : Nat} {a : Act} {w u : World} {l : List Oper} {ts : List TypeId} {bl : List (Nat × TypeId × Array Value)} (hts : ∀ t ∈ ts, AllocT P t) (n : Nat) (s : List (Nat × Nat)) (hm : P.follows .mixedOrders = true) (hB : growB ts l n s = true)
    (hb : Bx u bl) (hG : Grow w u) (h : OKs P l.toArray (fun a' w' => wpList P l.toArray (NoP Q) (l.drop n) a' w') u.heap.size (pickOps l.toArray s) [] a (fun v => Grow u v ∧ Bx v bl ∧ Grow w v)) : (Code.region id l.toArray true).wp P Q a u :=
  wp_region_grow hts n s (fun v => Bx v bl ∧ Grow w v) hm hB (fun _ _ hg hh => ⟨hh.1.grow hg, hh.2.trans hg⟩) ⟨hb, hG⟩ h
theorem wp_region_bs {id : Nat} {a : Act} {w u : World} {l : List Oper} {ts : List TypeId} {bl : List (Nat × TypeId × Array Value)} (hts : ∀ t ∈ ts, AllocT P t) (n : Nat) (ks : List Nat) (hB : seqsB ts l n ks = true)
    (hb : Bx u bl) (hG : Grow w u) (h : OKs P l.toArray (fun a' w' => wpList P l.toArray (NoP Q) (l.drop n) a' w') u.heap.size (ks.zip l) [] a (fun v => Grow u v ∧ Bx v bl ∧ Grow w v)) : (Code.region id l.toArray false).wp P Q a u :=
  wp_region_seq hts n ks (fun v => Bx v bl ∧ Grow w v) hB (fun _ _ hg hh => ⟨hh.1.grow hg, hh.2.trans hg⟩) ⟨hb, hG⟩ h
theorem wp_region_bxg {id : Nat} {a : Act} {w u : World} {l : List Oper} {ts : List TypeId} {bl : List (Nat × TypeId × Array Value)} (hts : ∀ t ∈ ts, AllocT P t) (n : Nat) (s : List (Nat × Nat)) (hm : P.follows .mixedOrders = true) (hB : growB ts l n s = true)
    (G : World → Prop) (hGm : ∀ u u', Grow u u' → G u → G u') (hb : Bx u bl) (hG : Grow w u) (hg : G u) (h : OKs P l.toArray (fun a' w' => wpList P l.toArray (NoP Q) (l.drop n) a' w') u.heap.size (pickOps l.toArray s) [] a (fun v => Grow u v ∧ Bx v bl ∧ Grow w v ∧ G v)) : (Code.region id l.toArray true).wp P Q a u :=
  wp_region_grow hts n s (fun v => Bx v bl ∧ Grow w v ∧ G v) hm hB (fun _ _ hg hh => ⟨hh.1.grow hg, hh.2.1.trans hg, hGm _ _ hg hh.2.2⟩) ⟨hb, hG, hg⟩ h
theorem wp_region_bsg {id : Nat} {a : Act} {w u : World} {l : List Oper} {ts : List TypeId} {bl : List (Nat × TypeId × Array Value)} (hts : ∀ t ∈ ts, AllocT P t) (n : Nat) (ks : List Nat) (hB : seqsB ts l n ks = true)
    (G : World → Prop) (hGm : ∀ u u', Grow u u' → G u → G u') (hb : Bx u bl) (hG : Grow w u) (hg : G u) (h : OKs P l.toArray (fun a' w' => wpList P l.toArray (NoP Q) (l.drop n) a' w') u.heap.size (ks.zip l) [] a (fun v => Grow u v ∧ Bx v bl ∧ Grow w v ∧ G v)) : (Code.region id l.toArray false).wp P Q a u :=
  wp_region_seq hts n ks (fun v => Bx v bl ∧ Grow w v ∧ G v) hB (fun _ _ hg hh => ⟨hh.1.grow hg, hh.2.1.trans hg, hGm _ _ hg hh.2.2⟩) ⟨hb, hG, hg⟩ h
theorem NoP.norm {a : Act} {w : World} (h : Q .normal a w) : NoP Q .normal a w := h
end

/-- k cells written into box number k, from its first cell on -/
def putAll (u : World) (b i : Nat) : List Value → World
  | [] => u
  | v :: vs => putAll (u.setCell ⟨b, i, none⟩ v) b (i + 1) vs
def wrAll (cs : Array Value) (i : Nat) : List Value → Array Value
  | [] => cs
  | v :: vs => wrAll (cs.setIfInBounds i v) (i + 1) vs
theorem modify_fst (l : List (Nat × TypeId × Array Value)) (k : Nat) (f : Array Value → Array Value) : (l.modify k fun e => (e.1, e.2.1, f e.2.2)).map (·.1) = l.map (·.1) := by
  refine List.ext_getElem (by simp) fun i h1 h2 => ?_
  simp only [List.getElem_map, List.getElem_modify]
  split <;> rfl
theorem modify_modify' (l : List (Nat × TypeId × Array Value)) (k : Nat) (f g : Array Value → Array Value) : (l.modify k fun e => (e.1, e.2.1, f e.2.2)).modify k (fun e => (e.1, e.2.1, g e.2.2)) = l.modify k fun e => (e.1, e.2.1, g (f e.2.2)) := by
  refine List.ext_getElem (by simp) fun i h1 h2 => ?_
  simp only [List.getElem_modify]
  split <;> rfl
theorem Bx.put {w : World} (k : Nat) {b : Nat} : ∀ (vs : List Value) (i : Nat) (u : World) (l : List (Nat × TypeId × Array Value)), Bx u l → Fr w (l.map (·.1)) → (l.map (·.1))[k]? = some b →
    Bx (putAll u b i vs) (l.modify k fun e => (e.1, e.2.1, wrAll e.2.2 i vs))
  | [], _, _, l, h, _, _ => by
    have : (l.modify k fun e => (e.1, e.2.1, wrAll e.2.2 0 [])) = l := by
      refine List.ext_getElem (by simp) fun j h1 h2 => ?_
      simp only [List.getElem_modify, wrAll]
      split <;> rfl
    simp only [wrAll] at this ⊢
    rw [this]
    exact h
  | v :: vs, i, u, l, h, hf, hk => by
    have h1 := Bx.put k vs (i + 1) (u.setCell ⟨b, i, none⟩ v) _ (h.set hf k hk i v) (by rw [modify_fst l k (fun c => c.setIfInBounds i v)]; exact hf) (by rw [modify_fst l k (fun c => c.setIfInBounds i v)]; exact hk)
    rw [modify_modify' l k (fun c => c.setIfInBounds i v) (fun c => wrAll c (i + 1) vs)] at h1
    exact h1
theorem Grow.put {w : World} {b : Nat} (hb : w.heap.size ≤ b) : ∀ (vs : List Value) (i : Nat) (u : World), Grow w u → Grow w (putAll u b i vs)
  | [], _, _, h => h
  | v :: vs, i, _, h => Grow.put hb vs (i + 1) _ (h.setCell (p := ⟨b, i, none⟩) hb v)
/-- the same in one breath: what the walk shows as nested stores, named u' -/
theorem Bx.over {w u u' : World} {l : List (Nat × TypeId × Array Value)} (h : Bx u l) (hf : Fr w (l.map (·.1))) (hG : Grow w u) (k : Nat) {b : Nat} (hk : (l.map (·.1))[k]? = some b) (i : Nat) (vs : List Value) (hu : putAll u b i vs = u') :
    Bx u' (l.modify k fun e => (e.1, e.2.1, wrAll e.2.2 i vs)) ∧ Grow w u' := by
  subst hu
  exact ⟨Bx.put k vs i u l h hf hk, Grow.put (hf.1 b (List.mem_of_getElem? hk)) vs i u hG⟩

/-- the boxes that a call makes first -/
def allocAll (w : World) : List (TypeId × Array Value) → World
  | [] => w
  | (t, cs) :: l => allocAll (w.alloc (.cells cs t)) l
def numbered (n : Nat) : List (TypeId × Array Value) → List (Nat × TypeId × Array Value)
  | [] => []
  | (t, cs) :: l => (n, t, cs) :: numbered (n + 1) l
theorem alloc_size (w : World) (o : Obj) : (w.alloc o).heap.size = w.heap.size + 1 := by simp
theorem bx_first : ∀ (l : List (TypeId × Array Value)) (w u : World), allocAll w l = u → Bx u (numbered w.heap.size l) ∧ Grow w u
  | [], w, u, h => by
    have : w = u := h
    subst this
    exact ⟨Bx.nil _, Grow.refl _⟩
  | (t, cs) :: l, w, u, h => by
    obtain ⟨h1, h2⟩ := bx_first l (w.alloc (.cells cs t)) u h
    rw [alloc_size] at h1
    exact ⟨Bx.cons ((Blk.new w t cs).grow h2) h1, (Grow.alloc w _).trans h2⟩
theorem numbered_ge : ∀ (l : List (TypeId × Array Value)) (n b : Nat), b ∈ (numbered n l).map (·.1) → n ≤ b
  | [], _, _, h => by simp [numbered] at h
  | (_, _) :: l, n, b, h => by
    simp only [numbered, List.map_cons, List.mem_cons] at h
    rcases h with h | h
    · omega
    · have := numbered_ge l (n + 1) b h; omega
theorem fr_first (w : World) (l : List (TypeId × Array Value)) : Fr w ((numbered w.heap.size l).map (·.1)) := by
  refine ⟨fun b hb => numbered_ge l _ b hb, ?_⟩
  generalize w.heap.size = n
  induction l generalizing n with
  | nil => simp [numbered]
  | cons e l ih =>
    obtain ⟨t, cs⟩ := e
    simp only [numbered, List.map_cons, List.nodup_cons]
    exact ⟨fun h => by have := numbered_ge l _ _ h; omega, ih (n + 1)⟩

theorem Bx.far_ {u : World} {l : List (Nat × TypeId × Array Value)} (h : Bx u l) {p : Addr} (hp : ∀ e ∈ l, e.1 ≠ p.block) (v : Value) : Bx (u.setCell p v) l := fun e he => (h e he).far (hp e he) v
theorem Bx.grown_ {u u' : World} {row : Option Nat} {l : List (Nat × TypeId × Array Value)} (h : Bx u l) (hg : u.grownBy u' row) (hp : ∀ e ∈ l, some e.1 ≠ row) : Bx u' l := fun e he => (hg.block e.1 (h e he).lt (hp e he)).trans (h e he)
theorem Grow.grown {w u u' : World} {row : Option Nat} (h : Grow w u) (hg : u.grownBy u' row) (hr : ∀ k, row = some k → w.heap.size ≤ k) : Grow w u' := Below.grown h hg h.size hr
theorem Bx.fresh {u : World} {l : List (Nat × TypeId × Array Value)} (h : Bx u l) {b : Nat} (hb : u.heap.size ≤ b) : b ∉ l.map (·.1) := fun hm => by
  obtain ⟨e, he, rfl⟩ := List.mem_map.1 hm
  have := (h e he).lt
  omega
theorem Fr.new {w u : World} {l : List (Nat × TypeId × Array Value)} {tk : List Nat} {b : Nat} (hF : Fr w (tk ++ l.map (·.1))) (hB : Bx u l) (hG : Grow w u) (hb : u.heap.size ≤ b) (hn : b ∉ tk) : Fr w ((b :: tk) ++ l.map (·.1)) :=
  hF.cons (Nat.le_trans hG.size hb) (fun hm => (List.mem_append.1 hm).elim hn (hB.fresh hb))

/-- a function's end -/
def ResUpon (w : World) (N : Value → Prop) : Result Value → Prop
  | .ok v w' => w' = w ∧ N v
  | _ => False
theorem ret_k {P : Program} {fn : Func} {R : Ending → World → Prop} {a : Act} {w : World} (hd : a.defers = []) (h : ∀ N : Value → Prop, (∀ v, R (.returned v) w → N v) → ResUpon w N ((results fn a.tmps).run P w)) : Code.ret.wp P (bodyPost P fn R) a w := by
  refine wp_ret ?_
  have h1 := h (fun v => R (.returned v) w) (fun v hv => hv)
  revert h1
  cases hres : (results fn a.tmps).run P w with
  | ok v w' =>
    rintro ⟨rfl, hv⟩
    exact bodyPost_ret hres hd hv
  | halt x w' => exact fun h => (h : False).elim
theorem ret_q {P : Program} {fn : Func} {R : Ending → World → Prop} {Q : Exit → Act → World → Prop} {a : Act} {w : World} (hQ : bodyPost P fn R .ret a w → Q .ret a w) (hd : a.defers = []) (h : ∀ N : Value → Prop, (∀ v, R (.returned v) w → N v) → ResUpon w N ((results fn a.tmps).run P w)) : Code.ret.wp P Q a w := by
  refine wp_ret (hQ ?_)
  have h1 := h (fun v => R (.returned v) w) (fun v hv => hv)
  revert h1
  cases hres : (results fn a.tmps).run P w with
  | ok v w' =>
    rintro ⟨rfl, hv⟩
    exact bodyPost_ret hres hd hv
  | halt x w' => exact fun h => (h : False).elim
theorem then_norm {n : Act → World → Prop} {Q : Exit → Act → World → Prop} {a : Act} {w : World} (h : n a w) : Exit.then n Q .normal a w := h
theorem ret_k1 {P : Program} {fn : Func} {R : Ending → World → Prop} {n : Act → World → Prop} {a : Act} {w : World} (hd : a.defers = []) (h : ∀ N : Value → Prop, (∀ v, R (.returned v) w → N v) → ResUpon w N ((results fn a.tmps).run P w)) : Code.ret.wp P (Exit.then n (bodyPost P fn R)) a w :=
  ret_q (fn := fn) (R := R) (fun h => h) hd h
theorem ret_k2 {P : Program} {fn : Func} {R : Ending → World → Prop} {n m : Act → World → Prop} {a : Act} {w : World} (hd : a.defers = []) (h : ∀ N : Value → Prop, (∀ v, R (.returned v) w → N v) → ResUpon w N ((results fn a.tmps).run P w)) : Code.ret.wp P (Exit.then n (Exit.then m (bodyPost P fn R))) a w :=
  ret_q (fn := fn) (R := R) (fun h => h) hd h
theorem ret_k3 {P : Program} {fn : Func} {R : Ending → World → Prop} {n m l : Act → World → Prop} {a : Act} {w : World} (hd : a.defers = []) (h : ∀ N : Value → Prop, (∀ v, R (.returned v) w → N v) → ResUpon w N ((results fn a.tmps).run P w)) : Code.ret.wp P (Exit.then n (Exit.then m (Exit.then l (bodyPost P fn R)))) a w :=
  ret_q (fn := fn) (R := R) (fun h => h) hd h
theorem ret_k4 {P : Program} {fn : Func} {R : Ending → World → Prop} {n m l k : Act → World → Prop} {a : Act} {w : World} (hd : a.defers = []) (h : ∀ N : Value → Prop, (∀ v, R (.returned v) w → N v) → ResUpon w N ((results fn a.tmps).run P w)) : Code.ret.wp P (Exit.then n (Exit.then m (Exit.then l (Exit.then k (bodyPost P fn R))))) a w :=
  ret_q (fn := fn) (R := R) (fun h => h) hd h
attribute [go_sem] LookUpon Look MoveUpon Move ResUpon
end Go.Proofs.YtimjnkfcnpfoeaaGreatDoor

/-
  The program's numbers as values: a natural number is its lowest word and the bytes of the words above; an integer a sign ahead of that; a fraction two of them. Facts on bytes and bit lengths.
-/
namespace Go.Proofs.YtimjnkfcnpfoeaaGreatDoor
open Go

def W64 : Nat := 18446744073709551616
theorem W64_ge : 2 ≤ W64 := by unfold W64; omega
theorem W64_pos : 0 < W64 := by unfold W64; omega
theorem W64_pow : W64 = 2 ^ 64 := rfl

/-- the number of bits, none for 0 -/
def bl (a : Nat) : Nat := if a = 0 then 0 else a.log2 + 1
theorem bl_zero : bl 0 = 0 := rfl
theorem bl_le {a k : Nat} : bl a ≤ k ↔ a < 2 ^ k := by
  unfold bl
  split
  · rename_i h; subst h; simp [Nat.two_pow_pos]
  · rename_i h; rw [Nat.add_one_le_iff, Nat.log2_lt h]
theorem bl_lt {a k : Nat} : k < bl a ↔ 2 ^ k ≤ a := by
  rw [← Nat.not_le, bl_le, Nat.not_lt]
theorem lt_bl (a : Nat) : a < 2 ^ bl a := bl_le.1 (Nat.le_refl _)
theorem bl_mono {a b : Nat} (h : a ≤ b) : bl a ≤ bl b := bl_le.2 (Nat.lt_of_le_of_lt h (lt_bl b))
theorem bl_eq_zero {a : Nat} : bl a = 0 ↔ a = 0 := by
  rw [← Nat.le_zero, bl_le]; simp
theorem bl_pos {a : Nat} : 0 < bl a ↔ a ≠ 0 := by
  have := @bl_eq_zero a; omega
theorem bl_eq_one {a : Nat} : bl a = 1 ↔ a = 1 := by
  have h1 := @bl_le a 1
  have h2 := @bl_eq_zero a
  simp at h1
  omega
theorem bl_eq {a k : Nat} (h1 : 2 ^ k ≤ a) (h2 : a < 2 ^ (k + 1)) : bl a = k + 1 := by
  have := bl_lt.2 h1
  have := bl_le.2 h2
  omega
theorem bl_add_le (a b : Nat) : bl (a + b) ≤ max (bl a) (bl b) + 1 := by
  rw [bl_le, Nat.pow_succ]
  have h1 := Nat.lt_of_lt_of_le (lt_bl a) (Nat.pow_le_pow_right (by omega) (Nat.le_max_left (bl a) (bl b)))
  have h2 := Nat.lt_of_lt_of_le (lt_bl b) (Nat.pow_le_pow_right (by omega) (Nat.le_max_right (bl a) (bl b)))
  omega
theorem bl_mul_le (a b : Nat) : bl (a * b) ≤ bl a + bl b := by
  rw [bl_le, Nat.pow_add]
  rcases Nat.eq_zero_or_pos b with rfl | hb
  · simp [Nat.two_pow_pos]
  · exact Nat.lt_of_lt_of_le (Nat.mul_lt_mul_of_pos_right (lt_bl a) hb) (Nat.mul_le_mul_left _ (Nat.le_of_lt (lt_bl b)))
theorem bl_div_le (a b : Nat) : bl (a / b) ≤ bl a := bl_mono (Nat.div_le_self a b)
theorem bl_mod_le (a b : Nat) : bl (a % b) ≤ bl a := bl_mono (Nat.mod_le a b)
theorem bl_sub_le (a b : Nat) : bl (a - b) ≤ bl a := bl_mono (Nat.sub_le a b)
theorem bl_gcd_le (a b : Nat) (ha : a ≠ 0) : bl (a.gcd b) ≤ bl a := bl_mono (Nat.gcd_le_left b (by omega))
theorem bl_gcd_le' (a b : Nat) (hb : b ≠ 0) : bl (a.gcd b) ≤ bl b := bl_mono (Nat.gcd_le_right a (by omega))
theorem bl_split {x y k : Nat} (hx : x < 2 ^ k) (hy : y ≠ 0) : bl (x + 2 ^ k * y) = k + bl y := by
  obtain ⟨m, hm⟩ : ∃ m, bl y = m + 1 := ⟨bl y - 1, by have := bl_pos.2 hy; omega⟩
  have h1 : 2 ^ m ≤ y := bl_lt.1 (by omega)
  have h2 : y < 2 ^ (m + 1) := by rw [← hm]; exact lt_bl y
  rw [hm, ← Nat.add_assoc]
  refine bl_eq ?_ ?_
  · rw [Nat.pow_add]
    have := Nat.mul_le_mul_left (2 ^ k) h1
    omega
  · rw [Nat.add_assoc, Nat.pow_add]
    have h3 : 2 ^ k * (y + 1) ≤ 2 ^ k * 2 ^ (m + 1) := Nat.mul_le_mul_left _ h2
    rw [Nat.mul_add, Nat.mul_one] at h3
    omega
theorem bitLen_eq (x : Nat) (h : x < 2 ^ 64) : Lib.bitLen x = bl x := by
  have key : ∀ f y, y < 2 ^ f → Lib.bitLenAux f y = bl y := by
    intro f
    induction f with
    | zero => intro y hy; have : y = 0 := by simp at hy; omega
              subst this; rfl
    | succ f ih =>
      intro y hy
      simp only [Lib.bitLenAux]
      split
      · rename_i h0; subst h0; rfl
      · rename_i h0
        rw [Nat.pow_succ] at hy
        rw [ih (y / 2) (by omega)]
        by_cases h1 : y / 2 = 0
        · have hy1 : y = 1 := by omega
          subst hy1; rfl
        · have := bl_split (x := y % 2) (y := y / 2) (k := 1) (by omega) h1
          rw [show y % 2 + 2 ^ 1 * (y / 2) = y by omega] at this
          omega
  exact key 64 x h

/-- the words above the lowest one -/
def upper (a : Nat) : List Nat := digs W64 (a / W64)
def natLo (a : Nat) : Int := (a % W64 : Nat)
def natMo (a : Nat) : ByteArray := ⟨((upper a).flatMap (Lib.leBytes 8)).toArray⟩
def intNeg (z : Int) : Bool := decide (z < 0)
/-- the denominator as it is kept: 0 for 1 -/
def keptDen (d : Nat) : Nat := if d = 1 then 0 else d
abbrev natV (a : Nat) : Value := .agg #[.int .u64 (natLo a), .string (natMo a)]
abbrev intV (z : Int) : Value := .agg #[.bool (intNeg z), .int .u64 (natLo z.natAbs), .string (natMo z.natAbs)]
abbrev qV (q : Rat) : Value := .agg #[.bool (intNeg q.num), .int .u64 (natLo q.num.natAbs), .string (natMo q.num.natAbs), .int .u64 (natLo (keptDen q.den)), .string (natMo (keptDen q.den))]

theorem upper_small {a : Nat} (h : a < W64) : upper a = [] := by
  unfold upper; rw [Nat.div_eq_of_lt h]; rfl
theorem natMo_small {a : Nat} (h : a < W64) : natMo a = ⟨#[]⟩ := by
  unfold natMo; rw [upper_small h]; rfl
theorem natLo_small {a : Nat} (h : a < W64) : natLo a = a := by
  unfold natLo; rw [Nat.mod_eq_of_lt h]
theorem natLo_zero : natLo 0 = 0 := rfl
theorem natMo_zero : natMo 0 = ⟨#[]⟩ := rfl
theorem natLo_nonneg (a : Nat) : 0 ≤ natLo a := Int.natCast_nonneg _
theorem natLo_lt (a : Nat) : natLo a < 18446744073709551616 := by
  have := Nat.mod_lt a W64_pos; unfold natLo; unfold W64 at *; omega
theorem natLo_toNat (a : Nat) : (natLo a).toNat = a % W64 := by unfold natLo; omega
theorem leBytes_length (k v : Nat) : (Lib.leBytes k v).length = k := by
  induction k generalizing v with
  | zero => rfl
  | succ k ih => simp [Lib.leBytes, ih]
theorem flat_length (l : List Nat) : (l.flatMap (Lib.leBytes 8)).length = 8 * l.length := by
  induction l with
  | nil => rfl
  | cons x l ih => simp [List.flatMap_cons, leBytes_length, ih]; omega
theorem natMo_size (a : Nat) : (natMo a).size = 8 * (upper a).length := by
  show ((upper a).flatMap (Lib.leBytes 8)).toArray.size = _
  rw [List.size_toArray, flat_length]
theorem natMo_list (a : Nat) : (natMo a).data.toList = (upper a).flatMap (Lib.leBytes 8) := rfl
theorem flat_drop (l : List Nat) (i : Nat) : (l.flatMap (Lib.leBytes 8)).drop (8 * i) = (l.drop i).flatMap (Lib.leBytes 8) := by
  induction i generalizing l with
  | zero => simp
  | succ i ih =>
    cases l with
    | nil => simp
    | cons x l =>
      rw [List.flatMap_cons, show 8 * (i + 1) = 8 + 8 * i by omega, ← List.drop_drop, List.drop_left' (leBytes_length 8 x), ih]
      rfl
theorem flat_take8 (x : Nat) (l : List Nat) : ((x :: l).flatMap (Lib.leBytes 8)).take 8 = Lib.leBytes 8 x := by
  rw [List.flatMap_cons, List.take_left' (leBytes_length 8 x)]
theorem dig_upper (a : Nat) : Dig W64 (upper a) := dig_digs W64_ge _
theorem natMo_word (a i : Nat) (h : i < (upper a).length) : Lib.leNat (((natMo a).data.toList.drop (8 * i)).take 8) = (upper a)[i] := by
  rw [natMo_list, flat_drop, List.drop_eq_getElem_cons h, flat_take8]
  exact Lib.leNat_leBytes 8 _ (by have := dig_upper a (upper a)[i] (List.getElem_mem h); unfold W64 at this; omega)
theorem digs_upper {a : Nat} (h : a ≠ 0) : digs W64 a = a % W64 :: upper a := digs_pos W64_ge h
theorem upper_nil {a : Nat} : upper a = [] ↔ a < W64 := by
  constructor
  · intro h
    have h1 := val_digs W64_ge (a / W64)
    have h2 : digs W64 (a / W64) = [] := h
    rw [h2] at h1
    have h3 : a / W64 = 0 := h1.symm
    rcases Nat.div_eq_zero_iff.1 h3 with h4 | h4
    · exact absurd h4 (Nat.ne_of_gt W64_pos)
    · exact h4
  · exact upper_small
theorem natMo_isEmpty (a : Nat) : (natMo a).toList.isEmpty = decide (a < W64) := by
  rw [Bool.eq_iff_iff, List.isEmpty_iff, decide_eq_true_eq, ← upper_nil]
  have hs : (natMo a).toList = (natMo a).data.toList := ByteArray.toList_eq _
  rw [hs, natMo_list]
  constructor
  · intro h
    have := flat_length (upper a)
    rw [h] at this
    simp only [List.length_nil] at this
    exact List.eq_nil_of_length_eq_zero (by omega)
  · intro h; rw [h]; rfl
theorem upper_length_le {a : Nat} {k : Nat} (h : bl a ≤ 64 * (k + 1)) : (upper a).length ≤ k := by
  refine digs_length_le W64_ge ?_
  rw [bl_le] at h
  refine Nat.div_lt_of_lt_mul ?_
  have : W64 * W64 ^ k = 2 ^ (64 * (k + 1)) := by
    rw [W64_pow, ← Nat.pow_mul, ← Nat.pow_add]
    congr 1
    omega
  omega
theorem upper_bits (a : Nat) : 64 * (upper a).length ≤ bl a := by
  rcases Nat.eq_zero_or_pos (upper a).length with h | h
  · omega
  · have hne : a / W64 ≠ 0 := by
      intro h0
      have : upper a = [] := by unfold upper; rw [h0]; rfl
      rw [this] at h; simp at h
    have ht := (tight_iff (dig_digs W64_ge (a / W64))).1 (tight_digs W64_ge (a / W64))
    rw [val_digs W64_ge] at ht
    rcases ht with ht | ht
    · have : upper a = [] := ht
      rw [this] at h; simp at h
    · have h1 : W64 ^ (upper a).length ≤ a := by
        have h2 : W64 * W64 ^ ((upper a).length - 1) ≤ a := Nat.le_trans (Nat.mul_le_mul_left _ ht) (Nat.mul_div_le a W64)
        rw [← Nat.pow_succ', Nat.succ_eq_add_one, Nat.sub_add_cancel h] at h2
        exact h2
      rw [W64_pow, ← Nat.pow_mul] at h1
      exact Nat.le_of_lt (bl_lt.2 h1)
/-- the length in bits, as the program reckons it -/
theorem bl_words {a : Nat} (h : W64 ≤ a) : ∃ x, (upper a).getLast? = some x ∧ x < 2 ^ 64 ∧ bl a = 64 * (upper a).length + bl x := by
  have hne : upper a ≠ [] := by rw [Ne, upper_nil]; omega
  obtain ⟨m, x, hmx⟩ : ∃ m x, upper a = m ++ [x] := ⟨_, _, (List.dropLast_concat_getLast hne).symm⟩
  have hx : x < W64 := dig_upper a x (by rw [hmx]; simp)
  have hx0 : x ≠ 0 := by
    have ht : Tight (upper a) := tight_digs W64_ge _
    rcases ht with ht | ht
    · exact absurd ht hne
    · rw [hmx] at ht; simpa using ht
  refine ⟨x, by rw [hmx]; simp, by rw [← W64_pow]; exact hx, ?_⟩
  have hv : val W64 (a % W64 :: upper a) = a := by
    have h0 : a ≠ 0 := by have := W64_pos; omega
    rw [← digs_upper h0, val_digs W64_ge]
  have hd : Dig W64 (a % W64 :: m) := by
    intro y hy
    rcases List.mem_cons.1 hy with rfl | hy
    · exact Nat.mod_lt _ W64_pos
    · exact dig_upper a y (by rw [hmx]; simp [hy])
  have hs : a = val W64 (a % W64 :: m) + 2 ^ (64 * (upper a).length) * x := by
    have h1 : a % W64 :: upper a = (a % W64 :: m) ++ [x] := by rw [hmx]; rfl
    rw [h1, val_snoc] at hv
    rw [hmx]
    simp only [List.length_append, List.length_cons, List.length_nil] at hv ⊢
    rw [Nat.pow_mul, ← W64_pow]
    exact hv.symm
  have hlt : val W64 (a % W64 :: m) < 2 ^ (64 * (upper a).length) := by
    have := val_lt hd
    rw [hmx]
    simp only [List.length_append, List.length_cons, List.length_nil] at this ⊢
    rw [Nat.pow_mul, ← W64_pow]
    exact this
  rw [hs, bl_split hlt hx0, ← hs]
theorem bl_small {a : Nat} (h : a < W64) : bl a ≤ 64 := bl_le.2 (by rw [← W64_pow]; exact h)
end Go.Proofs.YtimjnkfcnpfoeaaGreatDoor

/-
  DERIVED: THE SHELF's CONTRACTS AT THIS DUMP, IN PLAIN WORDS (tools/lay-plain.mjs out of 'TryzShelf.lean', which tools/lay-shelf.mjs wrote): THE SAME DECLARATIONS UNDER THE SAME NAMES: 'import', 'namespace', 'open', 'def', 'theorem' AND NOTHING ELSE: no command of the shelf's: FOR A HAND-IN. Each laying: the table of numbers ('.._ren') and one theorem, a field a fact of the dump's own or the kernel's comparison; each contract: ONE APPLICATION.
-/
namespace Go.Proofs
open Go.Shelf
def Tryz.lays169_ren : Go.Shelf.Ren := ⟨fun | 169 => 169 | n => n, fun | 70 => 203 | 9 => 9 | 0 => 0 | 72 => 205 | 37 => 180 | 127 => 228 | 3 => 3 | 5 => 5 | n => n, fun | n => n⟩
theorem Tryz.lays169 : Go.Proofs.Lays.n169 Tryz.prog Tryz.lays169_ren := {
  mixed := by kernel_rfl
  f169 := Tryz.func169.trans (congrArg some (by kernel_rfl))
  t0 := Tryz.underlying0
  a0 := Tryz.isAgg0
  z0 := Tryz.sizeOf0
  v0 := Tryz.zeroValue0
  t3 := Tryz.underlying3
  a3 := Tryz.isAgg3
  z3 := Tryz.sizeOf3
  v3 := Tryz.zeroValue3
  t9 := Tryz.underlying9
  a9 := Tryz.isAgg9
  z9 := Tryz.sizeOf9
  v9 := Tryz.zeroValue9
  t37 := Tryz.underlying180
  a37 := Tryz.isAgg180
  z37 := Tryz.sizeOf180
  v37 := Tryz.zeroValue180
  t70 := Tryz.underlying203
  a70 := Tryz.isAgg203
  z70 := Tryz.sizeOf203
  v70 := Tryz.zeroValue203
  t72 := Tryz.underlying205
  a72 := Tryz.isAgg205
  z72 := Tryz.sizeOf205
  v72 := Tryz.zeroValue205
  t127 := Tryz.underlying228
  a127 := Tryz.isAgg228
  z127 := Tryz.sizeOf228
  v127 := Tryz.zeroValue228 }
theorem Tryz.Builder_Extra_169 : Builder.Extra Tryz.prog Tryz.lays169_ren := {
  sizeBuilder := by kernel_rfl
  liesBuilder := by kernel_rfl
  t5 := Tryz.underlying5
  a5 := Tryz.isAgg5
  z5 := Tryz.sizeOf5
  v5 := Tryz.zeroValue5
  infoByte := by kernel_rfl
  cellsByte := by kernel_rfl
  sizeByte := by kernel_rfl
  neB5 := by decide }
open Go.RowKit in
/-- (*strings.Builder).String: "String returns the accumulated string.": OF A BUILDER THAT HOLDS AT LEAST ONE BYTE. ✋ THE MODEL FREEZES THOSE BYTES IN THE BUFFER (unsafe.String): a later write INTO them ends the model's run without an answer; a later append BEHIND them goes on. The statement's order of evaluation is drawn: one draw. (LAID: no walk: one application.) -/
theorem Tryz.Builder_String (B b : Nat) (l : List UInt8) (w : World) (h : Lib.IsBuilder 205 5 B b (Lib.byteCells l) w) (h0 : l ≠ []) :
    Calls Tryz.prog 169 #[.pointer (some ⟨b, 0, none⟩)] w fun e w' => e = .returned (.string ⟨l.toArray⟩) ∧ Below B w w' := Any.Builder_String Tryz.lays169 Tryz.Builder_Extra_169 B b l w h h0
open Go.RowKit in
/-- (*strings.Builder).String OF A BUILDER THAT HOLDS NO BYTE: the empty string. (Its buffer is nil, or a row of which it has taken nothing yet; where that row has NO capacity the model lays one new block for unsafe.SliceData's 'some address'.) One draw. (LAID: no walk: one application.) -/
theorem Tryz.Builder_String_empty (B b : Nat) (w : World) (h : Lib.IsBuilder 205 5 B b [] w) (hBw : B ≤ w.heap.size) :
    Calls Tryz.prog 169 #[.pointer (some ⟨b, 0, none⟩)] w fun e w' => e = .returned (.string ⟨#[]⟩) ∧ Below B w w' := Any.Builder_String_empty Tryz.lays169 Tryz.Builder_Extra_169 B b w h hBw
open Go.RowKit in
/-- (*strings.Builder).String: "String returns the accumulated string.": WHATEVER THE BUILDER HOLDS. (LAID: no walk: one application.) -/
theorem Tryz.Builder_String_any (B b : Nat) (l : List UInt8) (w : World) (h : Lib.IsBuilder 205 5 B b (Lib.byteCells l) w) (hBw : B ≤ w.heap.size) :
    Calls Tryz.prog 169 #[.pointer (some ⟨b, 0, none⟩)] w fun e w' => e = .returned (.string ⟨l.toArray⟩) ∧ Below B w w' := Any.Builder_String_any Tryz.lays169 Tryz.Builder_Extra_169 B b l w h hBw
def Tryz.lays241_ren : Go.Shelf.Ren := ⟨fun | 241 => 195 | 277 => 211 | n => n, fun | 70 => 203 | 3 => 3 | 0 => 0 | 72 => 205 | 37 => 180 | 5 => 5 | n => n, fun | n => n⟩
theorem Tryz.lays241 : Go.Proofs.Lays.n241 Tryz.prog Tryz.lays241_ren := {
  mixed := by kernel_rfl
  f241 := Tryz.func195.trans (congrArg some (by kernel_rfl))
  f277 := Tryz.func211.trans (congrArg some (by kernel_rfl))
  t0 := Tryz.underlying0
  a0 := Tryz.isAgg0
  z0 := Tryz.sizeOf0
  v0 := Tryz.zeroValue0
  t3 := Tryz.underlying3
  a3 := Tryz.isAgg3
  z3 := Tryz.sizeOf3
  v3 := Tryz.zeroValue3
  t37 := Tryz.underlying180
  a37 := Tryz.isAgg180
  z37 := Tryz.sizeOf180
  v37 := Tryz.zeroValue180
  t70 := Tryz.underlying203
  a70 := Tryz.isAgg203
  z70 := Tryz.sizeOf203
  v70 := Tryz.zeroValue203
  t72 := Tryz.underlying205
  a72 := Tryz.isAgg205
  z72 := Tryz.sizeOf205
  v72 := Tryz.zeroValue205 }
theorem Tryz.Builder_Extra_241 : Builder.Extra Tryz.prog Tryz.lays241_ren := {
  sizeBuilder := by kernel_rfl
  liesBuilder := by kernel_rfl
  t5 := Tryz.underlying5
  a5 := Tryz.isAgg5
  z5 := Tryz.sizeOf5
  v5 := Tryz.zeroValue5
  infoByte := by kernel_rfl
  cellsByte := by kernel_rfl
  sizeByte := by kernel_rfl
  neB5 := by decide }
open Go.RowKit in
/-- (*strings.Builder).grow (no doc but "grow copies the buffer to a new, larger buffer so that there are at least n bytes of capacity beyond len(b.buf)."): AT A BUILDER WITHOUT A BUFFER: a new row of whatever bytes for its buffer, none of them its own yet. Three draws. (LAID: no walk: one application.) -/
theorem Tryz.Builder_grow_fresh (B b n : Nat) (w : World) (hB : B ≤ b) (hbk : w.heap[b]? = some (.cells #[.pointer (some ⟨b, 0, none⟩), .slice none 0 0] 205 (0, 0))) (hBw : B ≤ w.heap.size) (hn : n ≤ 281474976710656) :
    Calls Tryz.prog 195 #[.pointer (some ⟨b, 0, none⟩), .int .i64 n] w fun e w' => e = .returned (.tuple #[]) ∧ (Lib.BuilderAt 205 5 B b (.pointer (some ⟨b, 0, none⟩)) [] w' ∧ Below B w w') := Any.Builder_grow_fresh Tryz.lays241 Tryz.Builder_Extra_241 B b n w hB hbk hBw hn
def Tryz.lays165_ren : Go.Shelf.Ren := ⟨fun | 165 => 167 | 240 => 194 | 241 => 195 | 276 => 210 | 277 => 211 | n => n, fun | 70 => 203 | 3 => 3 | 0 => 0 | 4 => 4 | 9 => 9 | 20 => 20 | 72 => 205 | 37 => 180 | 164 => 242 | 5 => 5 | n => n, fun | n => n⟩
theorem Tryz.lays165 : Go.Proofs.Lays.n165 Tryz.prog Tryz.lays165_ren := {
  mixed := by kernel_rfl
  f165 := Tryz.func167.trans (congrArg some (by kernel_rfl))
  f240 := Tryz.func194.trans (congrArg some (by kernel_rfl))
  f241 := Tryz.func195.trans (congrArg some (by kernel_rfl))
  f276 := Tryz.func210.trans (congrArg some (by kernel_rfl))
  f277 := Tryz.func211.trans (congrArg some (by kernel_rfl))
  t0 := Tryz.underlying0
  a0 := Tryz.isAgg0
  z0 := Tryz.sizeOf0
  v0 := Tryz.zeroValue0
  t3 := Tryz.underlying3
  a3 := Tryz.isAgg3
  z3 := Tryz.sizeOf3
  v3 := Tryz.zeroValue3
  t4 := Tryz.underlying4
  a4 := Tryz.isAgg4
  z4 := Tryz.sizeOf4
  v4 := Tryz.zeroValue4
  t9 := Tryz.underlying9
  a9 := Tryz.isAgg9
  z9 := Tryz.sizeOf9
  v9 := Tryz.zeroValue9
  t20 := Tryz.underlying20
  a20 := Tryz.isAgg20
  z20 := Tryz.sizeOf20
  v20 := Tryz.zeroValue20
  t37 := Tryz.underlying180
  a37 := Tryz.isAgg180
  z37 := Tryz.sizeOf180
  v37 := Tryz.zeroValue180
  t70 := Tryz.underlying203
  a70 := Tryz.isAgg203
  z70 := Tryz.sizeOf203
  v70 := Tryz.zeroValue203
  t72 := Tryz.underlying205
  a72 := Tryz.isAgg205
  z72 := Tryz.sizeOf205
  v72 := Tryz.zeroValue205
  t164 := Tryz.underlying242
  a164 := Tryz.isAgg242
  z164 := Tryz.sizeOf242
  v164 := Tryz.zeroValue242 }
theorem Tryz.Builder_Extra_165 : Builder.Extra Tryz.prog Tryz.lays165_ren := {
  sizeBuilder := by kernel_rfl
  liesBuilder := by kernel_rfl
  t5 := Tryz.underlying5
  a5 := Tryz.isAgg5
  z5 := Tryz.sizeOf5
  v5 := Tryz.zeroValue5
  infoByte := by kernel_rfl
  cellsByte := by kernel_rfl
  sizeByte := by kernel_rfl
  neB5 := by decide }
open Go.RowKit in
/-- (*strings.Builder).Grow AT A BUILDER THAT HAS NOT BEEN WRITTEN ('var b strings.Builder; b.Grow(n)'): "Grow grows b's capacity, if necessary, to guarantee space for another n bytes.": it holds no byte behind it as before it. (LAID: no walk: one application.) -/
theorem Tryz.Builder_Grow_fresh (B b n : Nat) (w : World) (hB : B ≤ b) (hbk : w.heap[b]? = some (.cells #[.pointer none, .slice none 0 0] 205 (0, 0))) (hBw : B ≤ w.heap.size) (hn : n ≤ 281474976710656) :
    Calls Tryz.prog 167 #[.pointer (some ⟨b, 0, none⟩), .int .i64 n] w fun e w' => e = .returned (.tuple #[]) ∧ (Lib.BuilderAt 205 5 B b (.pointer (some ⟨b, 0, none⟩)) [] w' ∧ Below B w w') := Any.Builder_Grow_fresh Tryz.lays165 Tryz.Builder_Extra_165 B b n w hB hbk hBw hn
def Tryz.lays128_ren : Go.Shelf.Ren := ⟨fun | 128 => 185 | n => n, fun | 51 => 157 | 3 => 3 | 4 => 4 | 46 => 177 | 5 => 5 | 9 => 9 | n => n, fun | n => n⟩
theorem Tryz.lays128 : Go.Proofs.Lays.n128 Tryz.prog Tryz.lays128_ren := {
  mixed := by kernel_rfl
  f128 := Tryz.func185.trans (congrArg some (by kernel_rfl))
  t3 := Tryz.underlying3
  a3 := Tryz.isAgg3
  z3 := Tryz.sizeOf3
  v3 := Tryz.zeroValue3
  t4 := Tryz.underlying4
  a4 := Tryz.isAgg4
  z4 := Tryz.sizeOf4
  v4 := Tryz.zeroValue4
  t5 := Tryz.underlying5
  a5 := Tryz.isAgg5
  z5 := Tryz.sizeOf5
  v5 := Tryz.zeroValue5
  t9 := Tryz.underlying9
  a9 := Tryz.isAgg9
  z9 := Tryz.sizeOf9
  v9 := Tryz.zeroValue9
  t46 := Tryz.underlying177
  a46 := Tryz.isAgg177
  z46 := Tryz.sizeOf177
  v46 := Tryz.zeroValue177
  t51 := Tryz.underlying157
  a51 := Tryz.isAgg157
  z51 := Tryz.sizeOf157
  v51 := Tryz.zeroValue157 }
/-- bits.Len32: "Len32 returns the minimum number of bits required to represent x; the result is 0 for x == 0.": IT RETURNS 'Lib.bitLen x'; the world is as it was. ('h0', 'h1': x is a uint32.) (LAID: no walk: one application.) -/
theorem Tryz.bits_Len32 (x : Int) (w : World) (h0 : 0 ≤ x) (h1 : x ≤ 4294967295) :
    Calls Tryz.prog 185 #[.int .u32 x] w fun e w' => e = .returned (.int .i64 (Lib.bitLen x.toNat)) ∧ w' = w := Any.bits_Len32 Tryz.lays128 x w h0 h1
def Tryz.lays125_ren : Go.Shelf.Ren := ⟨fun | 125 => 147 | 128 => 185 | 129 => 152 | n => n, fun | 46 => 177 | 3 => 3 | 51 => 157 | 53 => 26 | 4 => 4 | 5 => 5 | 9 => 9 | n => n, fun | n => n⟩
theorem Tryz.lays125 : Go.Proofs.Lays.n125 Tryz.prog Tryz.lays125_ren := {
  mixed := by kernel_rfl
  f125 := Tryz.func147.trans (congrArg some (by kernel_rfl))
  f128 := Tryz.func185.trans (congrArg some (by kernel_rfl))
  f129 := Tryz.func152.trans (congrArg some (by kernel_rfl))
  t3 := Tryz.underlying3
  a3 := Tryz.isAgg3
  z3 := Tryz.sizeOf3
  v3 := Tryz.zeroValue3
  t4 := Tryz.underlying4
  a4 := Tryz.isAgg4
  z4 := Tryz.sizeOf4
  v4 := Tryz.zeroValue4
  t5 := Tryz.underlying5
  a5 := Tryz.isAgg5
  z5 := Tryz.sizeOf5
  v5 := Tryz.zeroValue5
  t9 := Tryz.underlying9
  a9 := Tryz.isAgg9
  z9 := Tryz.sizeOf9
  v9 := Tryz.zeroValue9
  t46 := Tryz.underlying177
  a46 := Tryz.isAgg177
  z46 := Tryz.sizeOf177
  v46 := Tryz.zeroValue177
  t51 := Tryz.underlying157
  a51 := Tryz.isAgg157
  z51 := Tryz.sizeOf157
  v51 := Tryz.zeroValue157
  t53 := Tryz.underlying26
  a53 := Tryz.isAgg26
  z53 := Tryz.sizeOf26
  v53 := Tryz.zeroValue26 }
/-- bits.Len: "Len returns the minimum number of bits required to represent x; the result is 0 for x == 0.": IT RETURNS 'Lib.bitLen x'; the world is as it was. (A uint has 64 bits in the model.) ITS CALLEE bits.Len64 IS MET BY ITS OWN CONTRACT OFF THE SHELF (lay that first). (LAID: no walk: one application.) -/
theorem Tryz.bits_Len (x : Int) (w : World) (h0 : 0 ≤ x) (h1 : x ≤ 18446744073709551615) :
    Calls Tryz.prog 147 #[.int .u64 x] w fun e w' => e = .returned (.int .i64 (Lib.bitLen x.toNat)) ∧ w' = w := Any.bits_Len Tryz.lays125 x w h0 h1
def Tryz.lays134_ren : Go.Shelf.Ren := ⟨fun | 134 => 188 | 129 => 152 | n => n, fun | 53 => 26 | 3 => 3 | 4 => 4 | 46 => 177 | 5 => 5 | 9 => 9 | n => n, fun | n => n⟩
theorem Tryz.lays134 : Go.Proofs.Lays.n134 Tryz.prog Tryz.lays134_ren := {
  mixed := by kernel_rfl
  f129 := Tryz.func152.trans (congrArg some (by kernel_rfl))
  f134 := Tryz.func188.trans (congrArg some (by kernel_rfl))
  t3 := Tryz.underlying3
  a3 := Tryz.isAgg3
  z3 := Tryz.sizeOf3
  v3 := Tryz.zeroValue3
  t4 := Tryz.underlying4
  a4 := Tryz.isAgg4
  z4 := Tryz.sizeOf4
  v4 := Tryz.zeroValue4
  t5 := Tryz.underlying5
  a5 := Tryz.isAgg5
  z5 := Tryz.sizeOf5
  v5 := Tryz.zeroValue5
  t9 := Tryz.underlying9
  a9 := Tryz.isAgg9
  z9 := Tryz.sizeOf9
  v9 := Tryz.zeroValue9
  t46 := Tryz.underlying177
  a46 := Tryz.isAgg177
  z46 := Tryz.sizeOf177
  v46 := Tryz.zeroValue177
  t53 := Tryz.underlying26
  a53 := Tryz.isAgg26
  z53 := Tryz.sizeOf26
  v53 := Tryz.zeroValue26 }
/-- bits.LeadingZeros64: "LeadingZeros64 returns the number of leading zero bits in x; the result is 64 for x == 0.": IT RETURNS '64 - Lib.bitLen x'; the world is as it was. ITS CALLEE bits.Len64 IS MET BY ITS OWN CONTRACT OFF THE SHELF (lay that first): entered in place it sends the kernel out of memory. (LAID: no walk: one application.) -/
theorem Tryz.bits_LeadingZeros64 (x : Int) (w : World) (h0 : 0 ≤ x) (h1 : x ≤ 18446744073709551615) :
    Calls Tryz.prog 188 #[.int .u64 x] w fun e w' => e = .returned (.int .i64 (64 - (Lib.bitLen x.toNat : Int))) ∧ w' = w := Any.bits_LeadingZeros64 Tryz.lays134 x w h0 h1
open Go.RowKit in
/-- (*strings.Builder).String: "String returns the accumulated string.": OF A BUILDER THAT HOLDS AT LEAST ONE BYTE. ✋ THE MODEL FREEZES THOSE BYTES IN THE BUFFER (unsafe.String): a later write INTO them ends the model's run without an answer; a later append BEHIND them goes on. The statement's order of evaluation is drawn: one draw. THE FORM '_f': IT SAYS BESIDES THAT THE BUILDER IS A BUILDER STILL ('Lib.IsBuilderF', the same bytes): SO IT CAN BE WRITTEN ON: 'b.WriteString(b.String()[:k])'. (LAID: no walk: one application.) -/
theorem Tryz.Builder_String_f (B b : Nat) (l : List UInt8) (w : World) (h : Lib.IsBuilderF 205 5 B b (Lib.byteCells l) w) (h0 : l ≠ []) :
    Calls Tryz.prog 169 #[.pointer (some ⟨b, 0, none⟩)] w fun e w' => e = .returned (.string ⟨l.toArray⟩) ∧ (Lib.IsBuilderF 205 5 B b (Lib.byteCells l) w' ∧ Below B w w') := Any.Builder_String_f Tryz.lays169 Tryz.Builder_Extra_169 B b l w h h0
open Go.RowKit in
/-- (*strings.Builder).String OF A BUILDER THAT HOLDS NO BYTE: the empty string; THE FORM '_f': a builder still. (LAID: no walk: one application.) -/
theorem Tryz.Builder_String_empty_f (B b : Nat) (w : World) (h : Lib.IsBuilderF 205 5 B b [] w) (hBw : B ≤ w.heap.size) :
    Calls Tryz.prog 169 #[.pointer (some ⟨b, 0, none⟩)] w fun e w' => e = .returned (.string ⟨#[]⟩) ∧ (Lib.IsBuilderF 205 5 B b [] w' ∧ Below B w w') := Any.Builder_String_empty_f Tryz.lays169 Tryz.Builder_Extra_169 B b w h hBw
open Go.RowKit in
/-- (*strings.Builder).String: "String returns the accumulated string.": WHATEVER THE BUILDER HOLDS; THE FORM '_f': OF A BUILDER THAT MAY HAVE BEEN READ BEFORE; AND IT IS A BUILDER STILL, holding the same bytes: it can be written on. (LAID: no walk: one application.) -/
theorem Tryz.Builder_String_any_f (B b : Nat) (l : List UInt8) (w : World) (h : Lib.IsBuilderF 205 5 B b (Lib.byteCells l) w) (hBw : B ≤ w.heap.size) :
    Calls Tryz.prog 169 #[.pointer (some ⟨b, 0, none⟩)] w fun e w' => e = .returned (.string ⟨l.toArray⟩) ∧ (Lib.IsBuilderF 205 5 B b (Lib.byteCells l) w' ∧ Below B w w') := Any.Builder_String_any_f Tryz.lays169 Tryz.Builder_Extra_169 B b l w h hBw
open Go.RowKit in
/-- (*strings.Builder).String: "String returns the accumulated string.": OF A BUILDER THAT HOLDS AT LEAST ONE BYTE. ✋ THE MODEL FREEZES THOSE BYTES IN THE BUFFER (unsafe.String): a later write INTO them ends the model's run without an answer; a later append BEHIND them goes on. The statement's order of evaluation is drawn: one draw. THE FORM '_k': OVER 'Lib.IsBuilderF' (a builder that 'String()' may have read), AND WITH THE FRAME THAT REACHES ABOVE THE BUILDER: 'Lib.OthersKept': every block that is not b and is no row of uint8's stands as it stood: the iterator of a range among them. (LAID: no walk: one application.) -/
theorem Tryz.Builder_String_k (B b : Nat) (l : List UInt8) (w : World) (h : Lib.IsBuilderF 205 5 B b (Lib.byteCells l) w) (h0 : l ≠ []) :
    Calls Tryz.prog 169 #[.pointer (some ⟨b, 0, none⟩)] w fun e w' => e = .returned (.string ⟨l.toArray⟩) ∧ (Lib.IsBuilderF 205 5 B b (Lib.byteCells l) w' ∧ Below B w w' ∧ Lib.OthersKept 5 (some b) w w') := Any.Builder_String_k Tryz.lays169 Tryz.Builder_Extra_169 B b l w h h0
open Go.RowKit in
/-- (*strings.Builder).String OF A BUILDER THAT HOLDS NO BYTE: the empty string; THE FORM '_k': OVER 'Lib.IsBuilderF' (a builder that 'String()' may have read), AND WITH THE FRAME THAT REACHES ABOVE THE BUILDER: 'Lib.OthersKept': every block that is not b and is no row of uint8's stands as it stood: the iterator of a range among them. (LAID: no walk: one application.) -/
theorem Tryz.Builder_String_empty_k (B b : Nat) (w : World) (h : Lib.IsBuilderF 205 5 B b [] w) (hBw : B ≤ w.heap.size) :
    Calls Tryz.prog 169 #[.pointer (some ⟨b, 0, none⟩)] w fun e w' => e = .returned (.string ⟨#[]⟩) ∧ (Lib.IsBuilderF 205 5 B b [] w' ∧ Below B w w' ∧ Lib.OthersKept 5 (some b) w w') := Any.Builder_String_empty_k Tryz.lays169 Tryz.Builder_Extra_169 B b w h hBw
open Go.RowKit in
/-- (*strings.Builder).String: "String returns the accumulated string.": WHATEVER THE BUILDER HOLDS; THE FORM '_k': OVER 'Lib.IsBuilderF' (a builder that 'String()' may have read), AND WITH THE FRAME THAT REACHES ABOVE THE BUILDER: 'Lib.OthersKept': every block that is not b and is no row of uint8's stands as it stood: the iterator of a range among them. (LAID: no walk: one application.) -/
theorem Tryz.Builder_String_any_k (B b : Nat) (l : List UInt8) (w : World) (h : Lib.IsBuilderF 205 5 B b (Lib.byteCells l) w) (hBw : B ≤ w.heap.size) :
    Calls Tryz.prog 169 #[.pointer (some ⟨b, 0, none⟩)] w fun e w' => e = .returned (.string ⟨l.toArray⟩) ∧ (Lib.IsBuilderF 205 5 B b (Lib.byteCells l) w' ∧ Below B w w' ∧ Lib.OthersKept 5 (some b) w w') := Any.Builder_String_any_k Tryz.lays169 Tryz.Builder_Extra_169 B b l w h hBw
open Go.RowKit in
/-- (*strings.Builder).grow (no doc but "grow copies the buffer to a new, larger buffer so that there are at least n bytes of capacity beyond len(b.buf)."): AT A BUILDER WITHOUT A BUFFER: a new row of whatever bytes for its buffer, none of them its own yet. Three draws. (LAID: no walk: one application.) -/
theorem Tryz.Builder_grow_fresh_cap (B b n : Nat) (w : World) (hB : B ≤ b) (hbk : w.heap[b]? = some (.cells #[.pointer (some ⟨b, 0, none⟩), .slice none 0 0] 205 (0, 0))) (hBw : B ≤ w.heap.size) (hn : n ≤ 281474976710656) :
    Calls Tryz.prog 195 #[.pointer (some ⟨b, 0, none⟩), .int .i64 n] w fun e w' => e = .returned (.tuple #[]) ∧ (Lib.BuilderAt 205 5 B b (.pointer (some ⟨b, 0, none⟩)) [] w' ∧ Below B w w') ∧ ∃ p cap, w'.cell? ⟨b, 1, none⟩ = some (.slice p 0 cap) ∧ n ≤ cap := Any.Builder_grow_fresh_cap Tryz.lays241 Tryz.Builder_Extra_241 B b n w hB hbk hBw hn
open Go.RowKit in
/-- (*strings.Builder).Grow AT A BUILDER THAT HAS NOT BEEN WRITTEN ('var b strings.Builder; b.Grow(n)'): "Grow grows b's capacity, if necessary, to guarantee space for another n bytes.": it holds no byte behind it as before it. (LAID: no walk: one application.) -/
theorem Tryz.Builder_Grow_fresh_cap (B b n : Nat) (w : World) (hB : B ≤ b) (hbk : w.heap[b]? = some (.cells #[.pointer none, .slice none 0 0] 205 (0, 0))) (hBw : B ≤ w.heap.size) (hn : n ≤ 281474976710656) :
    Calls Tryz.prog 167 #[.pointer (some ⟨b, 0, none⟩), .int .i64 n] w fun e w' => e = .returned (.tuple #[]) ∧ (Lib.BuilderAt 205 5 B b (.pointer (some ⟨b, 0, none⟩)) [] w' ∧ Below B w w') ∧ ∃ p cap, w'.cell? ⟨b, 1, none⟩ = some (.slice p 0 cap) ∧ n ≤ cap := Any.Builder_Grow_fresh_cap Tryz.lays165 Tryz.Builder_Extra_165 B b n w hB hbk hBw hn
def Tryz.lays129_ren : Go.Shelf.Ren := ⟨fun | 129 => 152 | n => n, fun | 53 => 26 | 3 => 3 | 4 => 4 | 46 => 177 | 5 => 5 | 9 => 9 | n => n, fun | n => n⟩
theorem Tryz.lays129 : Go.Proofs.Lays.n129 Tryz.prog Tryz.lays129_ren := {
  mixed := by kernel_rfl
  f129 := Tryz.func152.trans (congrArg some (by kernel_rfl))
  t3 := Tryz.underlying3
  a3 := Tryz.isAgg3
  z3 := Tryz.sizeOf3
  v3 := Tryz.zeroValue3
  t4 := Tryz.underlying4
  a4 := Tryz.isAgg4
  z4 := Tryz.sizeOf4
  v4 := Tryz.zeroValue4
  t5 := Tryz.underlying5
  a5 := Tryz.isAgg5
  z5 := Tryz.sizeOf5
  v5 := Tryz.zeroValue5
  t9 := Tryz.underlying9
  a9 := Tryz.isAgg9
  z9 := Tryz.sizeOf9
  v9 := Tryz.zeroValue9
  t46 := Tryz.underlying177
  a46 := Tryz.isAgg177
  z46 := Tryz.sizeOf177
  v46 := Tryz.zeroValue177
  t53 := Tryz.underlying26
  a53 := Tryz.isAgg26
  z53 := Tryz.sizeOf26
  v53 := Tryz.zeroValue26 }
/-- bits.Len64: "Len64 returns the minimum number of bits required to represent x; the result is 0 for x == 0.": IT RETURNS 'Lib.bitLen x'; the world is as it was. ('h0', 'h1': x is a uint64.) (LAID: no walk: one application.) -/
theorem Tryz.bits_Len64 (x : Int) (w : World) (h0 : 0 ≤ x) (h1 : x ≤ 18446744073709551615) :
    Calls Tryz.prog 152 #[.int .u64 x] w fun e w' => e = .returned (.int .i64 (Lib.bitLen x.toNat)) ∧ w' = w := Any.bits_Len64 Tryz.lays129 x w h0 h1
def Tryz.lays264_ren : Go.Shelf.Ren := ⟨fun | 264 => 127 | n => n, fun | 53 => 26 | 46 => 177 | n => n, fun | n => n⟩
theorem Tryz.lays264 : Go.Proofs.Lays.n264 Tryz.prog Tryz.lays264_ren := {
  mixed := by kernel_rfl
  f264 := Tryz.func127.trans (congrArg some (by kernel_rfl))
  t46 := Tryz.underlying177
  a46 := Tryz.isAgg177
  z46 := Tryz.sizeOf177
  v46 := Tryz.zeroValue177
  t53 := Tryz.underlying26
  a53 := Tryz.isAgg26
  z53 := Tryz.sizeOf26
  v53 := Tryz.zeroValue26 }
open Go.RowKit Go.Lib in
theorem Tryz.bits_Mul64 (x y : Nat) (hx : x < 18446744073709551616) (hy : y < 18446744073709551616) (w : World) :
    Calls Tryz.prog 127 #[.int .u64 x, .int .u64 y] w fun e w' => e = .returned (.tuple #[.int .u64 ((x * y / 18446744073709551616 : Nat) : Int), .int .u64 ((x * y % 18446744073709551616 : Nat) : Int)]) ∧ w' = w := Any.bits_Mul64 Tryz.lays264 x y hx hy w
end Go.Proofs

/-
  Contracts: math/bits at a word; nat.word, nat.cmpWord, nat.Of, Nat.Small, Nat.Bits.
-/
namespace Go.Proofs.YtimjnkfcnpfoeaaGreatDoor
open Go.RowKit

theorem newObj_Nat (d : Option Tmp) (ty : TypeId) (pos : String) (af : Array Edge) (gd : Option (Nat × Bool)) : newObj Tryz.prog ⟨d, .alloc 28, ty, pos, af, gd⟩ = .cells #[.int .u64 0, .string ⟨#[]⟩] 28 := by kernel_rfl
theorem newObj_Int (d : Option Tmp) (ty : TypeId) (pos : String) (af : Array Edge) (gd : Option (Nat × Bool)) : newObj Tryz.prog ⟨d, .alloc 30, ty, pos, af, gd⟩ = .cells #[.bool false, .int .u64 0, .string ⟨#[]⟩] 30 := by kernel_rfl
theorem newObj_Q (d : Option Tmp) (ty : TypeId) (pos : String) (af : Array Edge) (gd : Option (Nat × Bool)) : newObj Tryz.prog ⟨d, .alloc 32, ty, pos, af, gd⟩ = .cells #[.bool false, .int .u64 0, .string ⟨#[]⟩, .int .u64 0, .string ⟨#[]⟩] 32 := by kernel_rfl
theorem allocs : ∀ t ∈ [28, 30, 32], AllocT Tryz.prog t := by
  intro t ht
  simp only [List.mem_cons, List.not_mem_nil, or_false] at ht
  rcases ht with rfl | rfl | rfl
  · exact fun _ _ _ _ _ _ => by rw [newObj_Nat]; kernel_rfl
  · exact fun _ _ _ _ _ _ => by rw [newObj_Int]; kernel_rfl
  · exact fun _ _ _ _ _ _ => by rw [newObj_Q]; kernel_rfl

theorem grow_of_eq {w w' : World} (h : w' = w) : Grow w w' := h ▸ Grow.refl _
--! bits_Len64 = bits_Len64 _ _ SIDE SIDE
theorem bits_Len64 (x : Int) (w : World) (h0 : 0 ≤ x) (h1 : x < 18446744073709551616) : Calls Tryz.prog 152 #[.int .u64 x] w fun e w' => e = .returned (.int .i64 (bl x.toNat)) ∧ Grow w w' :=
  (Tryz.bits_Len64 x w h0 (by omega)).mono fun e w' ⟨he, hw⟩ => ⟨by rw [he, bitLen_eq _ (by omega)], grow_of_eq hw⟩

theorem take8 : ∀ (l : List UInt8) (h : 8 ≤ l.length), l.take 8 = [l[0], l[1], l[2], l[3], l[4], l[5], l[6], l[7]]
  | _ :: _ :: _ :: _ :: _ :: _ :: _ :: _ :: _, _ => rfl
theorem leNat_lin (a b c d e f g h : Nat) : ((a + 256 * (b + 256 * (c + 256 * (d + 256 * (e + 256 * (f + 256 * (g + 256 * (h + 256 * 0))))))) : Nat) : Int) =
    (a : Int) + (b : Int) * 256 + (c : Int) * 65536 + (d : Int) * 16777216 + (e : Int) * 4294967296 + (f : Int) * 1099511627776 + (g : Int) * 281474976710656 + (h : Int) * 72057594037927936 := by omega
theorem leNat8 (s : ByteArray) (hs : 8 ≤ s.size) : ((Lib.leNat (s.data.toList.take 8) : Nat) : Int) = (s[0].toNat : Int) + (s[1].toNat : Int) * 256 + (s[2].toNat : Int) * 65536 + (s[3].toNat : Int) * 16777216 + (s[4].toNat : Int) * 4294967296 + (s[5].toNat : Int) * 1099511627776 + (s[6].toNat : Int) * 281474976710656 + (s[7].toNat : Int) * 72057594037927936 := by
  rw [take8 s.data.toList (by simpa using hs)]
  exact leNat_lin s[0].toNat s[1].toNat s[2].toNat s[3].toNat s[4].toNat s[5].toNat s[6].toNat s[7].toNat
set_option maxHeartbeats 2000000 in
set_option maxRecDepth 100000 in
theorem nat_word (s : ByteArray) (hs : 8 ≤ s.size) (w : World) :
    Calls Tryz.prog 153 #[.string s] w fun e w' => e = .returned (.int .u64 (Lib.leNat (s.data.toList.take 8))) ∧ ∃ n, w' = w.drewN n := by
  have q0 : 0 < s.size := by omega
  have q1 : (1 : Int) < (s.size : Int) := by omega
  have q2 : (2 : Int) < (s.size : Int) := by omega
  have q3 : (3 : Int) < (s.size : Int) := by omega
  have q4 : (4 : Int) < (s.size : Int) := by omega
  have q5 : (5 : Int) < (s.size : Int) := by omega
  have q6 : (6 : Int) < (s.size : Int) := by omega
  have q7 : (7 : Int) < (s.size : Int) := by omega
  go_enter Tryz.func153, Tryz.ntmps153
  go_wp2
  go_quiet (fail)
  go_wp2
  go_ret
  refine ⟨congrArg (fun n => Ending.returned (.int .u64 n)) ?_, _, rfl⟩
  rw [leNat8 s hs]
  have h0 := s[0].toNat_lt
  have h1 := s[1].toNat_lt
  have h2 := s[2].toNat_lt
  have h3 := s[3].toNat_lt
  have h4 := s[4].toNat_lt
  have h5 := s[5].toNat_lt
  have h6 := s[6].toNat_lt
  have h7 := s[7].toNat_lt
  simp (disch := omega) only [u64_wrap_id, u64_or8, u64_or16, u64_or24, u64_or32, u64_or40, u64_or48, u64_or56]
  rfl
theorem grow_drewN (w : World) (n : Nat) : Grow w (w.drewN n) := ⟨rfl, rfl, rfl, Nat.le_refl _, fun _ _ => rfl⟩
/-- the word at place i of the bytes above -/
theorem word_at (a i : Nat) (hi : i < (upper a).length) (s : ByteArray) (hs : s.data.toList = (natMo a).data.toList.drop (8 * i)) (w : World) :
    Calls Tryz.prog 153 #[.string s] w fun e w' => e = .returned (.int .u64 ((upper a)[i] : Nat)) ∧ Grow w w' := by
  have hsz : 8 ≤ s.size := by
    have h1 : s.size = s.data.toList.length := by show s.data.size = _; simp
    have h2 : (natMo a).data.toList.length = (natMo a).size := by show _ = (natMo a).data.size; simp
    rw [h1, hs, List.length_drop, h2, natMo_size]; omega
  refine (nat_word s hsz w).mono fun e w' ⟨he, n, hw⟩ => ⟨?_, hw ▸ grow_drewN w n⟩
  rw [he, hs, natMo_word a i hi]

set_option maxHeartbeats 400000 in
--! nat_cmpWord = nat_cmpWord _ _ _
theorem nat_cmpWord (x y : Nat) (w : World) : Calls Tryz.prog 156 #[.int .u64 x, .int .u64 y] w fun e w' => e = .returned (.int .i64 (cmpN x y)) ∧ Grow w w' := by
  by_cases h : x < y
  · rw [cmpN_lt h]
    go_enter Tryz.func156, Tryz.ntmps156
    go_wp2
    go_ret
    exact ⟨rfl, Grow.refl _⟩
  · by_cases h' : y < x
    · rw [cmpN_gt h']
      go_enter Tryz.func156, Tryz.ntmps156
      go_wp2
      go_ret
      exact ⟨rfl, Grow.refl _⟩
    · rw [cmpN_eq (show x = y by omega)]
      go_enter Tryz.func156, Tryz.ntmps156
      go_wp2
      go_ret
      exact ⟨rfl, Grow.refl _⟩

set_option maxHeartbeats 400000 in
--! nat_Of = nat_Of _ SIDE _
theorem nat_Of (a : Nat) (ha : a < W64) (w : World) : Calls Tryz.prog 125 #[.int .u64 a] w fun e w' => e = .returned (natV a) ∧ Grow w w' := by
  go_enter Tryz.func125, Tryz.ntmps125
  refine wp_seq (Code.wp_mono NoP.up (wp_region_lit ?_))
  go_wp2_with fail
  generalize hu : World.alloc w _ = u
  obtain ⟨hB, hG⟩ := bx_first [(_, _)] w u hu
  have hF := fr_first w [(28, #[])]
  simp only [numbered, List.map_cons, List.map_nil] at hB hF
  clear hu
  generalize w.heap.size = b2 at hB hF ⊢
  refine NoP.norm ?_
  refine then_norm ?_
  refine wp_seq ?_
  refine wp_region_bs (w := w) allocs 2 [0, 0] (by kernel_rfl) hB hG ?_
  simp only [List.zip_cons_cons, List.zip_nil_left]
  (apply gy
   · exact rfl
   · (rintro v - N hN; go_simp; exact hN))
  (apply gy
   · exact rfl
   · (rintro v - N hN; go_simp; exact hN))
  refine gend ?_
  rintro v ⟨-, hB1, hG1⟩
  clear hB hG
  have hB := hB1
  have hG := hG1
  clear hB1 hG1
  simp only [List.drop_succ_cons, List.drop_zero]
  have r := hB.r
  simp only [BxR] at r
  go_wp2_with fail
  clear r
  generalize hu0 : World.setCell (World.setCell v _ _) _ _ = u0
  have hBG := hB.over hF hG 0 rfl 0 [_, _] hu0
  clear hB hG hu0
  simp only [List.modify_zero_cons, wrAll, List.setIfInBounds_toArray, List.set_cons_zero, List.set_cons_succ, Nat.zero_add] at hBG
  obtain ⟨hB, hG⟩ := hBG
  clear v
  obtain ⟨u, rfl⟩ : ∃ x, x = u0 := ⟨_, rfl⟩
  refine NoP.norm ?_
  refine then_norm ?_
  refine ret_k rfl ?_
  intro N hN
  have r := hB.r
  simp only [BxR] at r
  simp only [results, Tryz.results125]
  go_simp
  refine hN _ ?_
  clear hN N r
  refine And.intro ?_ hG
  rw [natV, natLo_small ha, natMo_small ha]

set_option maxHeartbeats 400000 in
theorem nat_Bits_small (a : Nat) (hs : a < W64) (w : World) : Calls Tryz.prog 119 #[natV a] w fun e w' => e = .returned (.int .i64 (bl a)) ∧ Grow w w' := by
  have hE : (natMo a).toList.isEmpty = true := by rw [natMo_isEmpty]; simpa using hs
  have hlo := natLo_nonneg a
  have hhi := natLo_lt a
  go_enter Tryz.func119, Tryz.ntmps119
  go_wp2_with (go_at_call 152; refine (bits_Len64 _ _ hlo hhi).mono ?_; rintro e w1 ⟨rfl, hb⟩)
  go_ret
  refine ⟨?_, (Grow.alloc w _).trans hb⟩
  simp only [natLo_toNat, Nat.mod_eq_of_lt hs]
  rfl

/-- the highest word -/
def topWord (a : Nat) : Nat := (upper a).getLastD 0
theorem last_word (a : Nat) (hs : ¬ a < W64) (s : ByteArray) (hsl : s.data.toList = (natMo a).data.toList.drop ((natMo a).size - 8)) (w : World) :
    Calls Tryz.prog 153 #[.string s] w fun e w' => e = .returned (.int .u64 (topWord a : Nat)) ∧ Grow w w' := by
  have hne : upper a ≠ [] := by rw [Ne, upper_nil]; exact hs
  have hl : 0 < (upper a).length := List.length_pos_iff.2 hne
  have h8 : (natMo a).size - 8 = 8 * ((upper a).length - 1) := by rw [natMo_size]; omega
  refine (word_at a ((upper a).length - 1) (by omega) s (by rw [hsl, h8]) w).mono fun e w' ⟨he, hg⟩ => ⟨?_, hg⟩
  rw [he, topWord, List.getLastD_eq_getLast?, List.getLast?_eq_getElem?, List.getElem?_eq_getElem (by omega)]
  rfl

set_option maxHeartbeats 1000000 in
theorem nat_Bits_big (a : Nat) (hs : ¬ a < W64) (ha : bl a ≤ 1099511627776) (w : World) : Calls Tryz.prog 119 #[natV a] w fun e w' => e = .returned (.int .i64 (bl a)) ∧ Grow w w' := by
  have hE : (natMo a).toList.isEmpty = false := by rw [natMo_isEmpty]; simpa using hs
  have hub := upper_bits a
  have hne : upper a ≠ [] := by rw [Ne, upper_nil]; exact hs
  have hl : 0 < (upper a).length := List.length_pos_iff.2 hne
  have h8 : 8 ≤ (natMo a).size := by rw [natMo_size]; omega
  have hm : (natMo a).size ≤ 1099511627776 := by rw [natMo_size]; omega
  have hw1 : IntKind.i64.wrap (8 * ((natMo a).size : Int)) = 8 * ((natMo a).size : Int) := IntWalk.i64_in _ (by omega)
  have hw2 : IntKind.i64.wrap (((natMo a).size : Int) - 8) = ((natMo a).size : Int) - 8 := IntWalk.i64_in _ (by omega)
  have hw3 : (((natMo a).size : Int) - 8).toNat = (natMo a).size - 8 := by omega
  have hw4 : (8 : Int) ≤ ((natMo a).size : Int) := by omega
  have hw5 : ((natMo a).size : Int) - 8 ≤ ((natMo a).size : Int) := by omega
  have hgl : topWord a < 18446744073709551616 := by
    rw [topWord, List.getLastD_eq_getLast?, List.getLast?_eq_getElem?, List.getElem?_eq_getElem (by omega)]
    exact dig_upper a _ (List.getElem_mem _)
  have hw6 : IntKind.i64.wrap (8 * ((natMo a).size : Int) + (bl (topWord a) : Int)) = 8 * ((natMo a).size : Int) + (bl (topWord a) : Int) := IntWalk.i64_in _ (by have := bl_small hgl; omega)
  have hfin : (8 * ((natMo a).size : Int) + (bl (topWord a) : Int)) = (bl a : Int) := by
    obtain ⟨x, hx, _, hbl⟩ := bl_words (Nat.le_of_not_lt hs)
    rw [natMo_size, topWord, List.getLastD_eq_getLast?, hx, hbl]
    simp only [Option.getD_some]
    omega
  have Hfin := Lib.hid hfin
  clear hub hl hfin
  go_enter Tryz.func119, Tryz.ntmps119
  refine wp_seq (Code.wp_mono NoP.up (wp_region_lit ?_))
  go_wp2_with fail
  generalize hu : World.alloc w _ = u
  obtain ⟨hB, hG⟩ := bx_first [(_, _)] w u hu
  have hF := fr_first w [(28, #[])]
  simp only [numbered, List.map_cons, List.map_nil] at hB hF
  clear hu
  generalize w.heap.size = b1 at hB hF ⊢
  refine NoP.norm ?_
  refine then_norm ?_
  refine wp_seq ?_
  refine wp_seq ?_
  refine wp_region_bs (w := w) allocs 3 [0, 0, 0] (by kernel_rfl) hB hG ?_
  simp only [List.zip_cons_cons, List.zip_nil_left]
  (apply gy
   · exact rfl
   · (rintro v - N hN; go_simp; exact hN))
  (apply gy
   · exact rfl
   · (rintro v ⟨-, hB, hG⟩ N hN; have r := hB.r; simp only [BxR] at r; go_simp; exact hN))
  (apply gy
   · exact rfl
   · (rintro v - N hN; go_simp; exact hN))
  refine gend ?_
  rintro v ⟨-, hB1, hG1⟩
  clear hB hG
  have hB := hB1
  have hG := hG1
  clear hB1 hG1
  simp only [List.drop_succ_cons, List.drop_nil]
  refine wpList_nil ?_
  refine NoP.norm ?_
  refine then_norm ?_
  refine wp_cond_split rfl ?_ ?_
  · intro ht
    cases ht
  · intro ht
    refine wp_skip ?_
    refine then_norm ?_
    refine wp_seq ?_
    refine wp_region_bx (w := w) allocs 14 [(0, 0), (0, 1), (0, 2), (0, 3), (0, 4), (0, 5), (0, 6), (0, 7), (0, 8), (0, 9), (0, 10), (1, 11), (1, 12), (0, 13)] (by kernel_rfl) (by kernel_rfl) hB hG ?_
    simp only [pickOps, List.getElem?_toArray, List.getElem?_cons_zero, List.getElem?_cons_succ]
    (apply gy
     · exact rfl
     · (rintro v - N hN; go_simp; exact hN))
    (apply gy
     · exact rfl
     · (rintro v ⟨-, hB, hG⟩ N hN; have r := hB.r; simp only [BxR] at r; go_simp; exact hN))
    (apply gy
     · exact rfl
     · (rintro v - N hN; go_simp; exact hN))
    (apply gy
     · exact rfl
     · (rintro v - N hN; go_simp; exact hN))
    (apply gy
     · exact rfl
     · (rintro v - N hN; go_simp; exact hN))
    (apply gy
     · exact rfl
     · (rintro v ⟨-, hB, hG⟩ N hN; have r := hB.r; simp only [BxR] at r; go_simp; exact hN))
    (apply gy
     · exact rfl
     · (rintro v - N hN; go_simp; exact hN))
    (apply gy
     · exact rfl
     · (rintro v ⟨-, hB, hG⟩ N hN; have r := hB.r; simp only [BxR] at r; go_simp; exact hN))
    (apply gy
     · exact rfl
     · (rintro v - N hN; go_simp; exact hN))
    (apply gy
     · exact rfl
     · (rintro v - N hN; go_simp; exact hN))
    (apply gy
     · exact rfl
     · (rintro v - N hN; go_simp; exact hN))
    (apply gm
     · exact rfl
     · (rintro v - N hN; go_simp; ((with_reducible refine (last_word a hs _ (Lib.extract_to_end _ _) _).mono ?_); rintro e w1 ⟨rfl, hb⟩; exact ⟨_, rfl, hN _ hb⟩)))
    (apply gm
     · exact rfl
     · (rintro v - N hN; go_simp; ((with_reducible refine (bits_Len64 _ _ (by omega) (by omega)).mono ?_); rintro e w1 ⟨rfl, hb⟩; exact ⟨_, rfl, hN _ hb⟩)))
    (apply gy
     · exact rfl
     · (rintro v - N hN; go_simp; exact hN))
    refine gend ?_
    rintro v ⟨-, hB1, hG1⟩
    clear hB hG
    have hB := hB1
    have hG := hG1
    clear hB1 hG1
    simp only [List.drop_succ_cons, List.drop_zero]
    go_wp2_with fail
    refine NoP.norm ?_
    refine then_norm ?_
    refine ret_k rfl ?_
    intro N hN
    have r := hB.r
    simp only [BxR] at r
    simp only [results, Tryz.results119]
    go_simp
    refine hN _ ?_
    clear hN N r
    refine And.intro ?_ hG
    rw [Hfin.out]
--! nat_Bits = nat_Bits _ SIDE _
theorem nat_Bits (a : Nat) (ha : bl a ≤ 1099511627776) (w : World) : Calls Tryz.prog 119 #[natV a] w fun e w' => e = .returned (.int .i64 (bl a)) ∧ Grow w w' := by
  by_cases hs : a < W64
  · exact nat_Bits_small a hs w
  · exact nat_Bits_big a hs ha w

set_option maxHeartbeats 400000 in
theorem nat_Small (a : Nat) (w : World) : Calls Tryz.prog 124 #[natV a] w fun e w' => e = .returned (if a < W64 then .tuple #[.int .u64 (a : Nat), .bool true] else .tuple #[.int .u64 0, .bool false]) ∧ Grow w w' := by
  by_cases hs : a < W64
  · have hE : (natMo a).toList.isEmpty = true := by rw [natMo_isEmpty]; simpa using hs
    rw [if_pos hs]
    go_enter Tryz.func124, Tryz.ntmps124
    go_wp2
    go_ret2
    refine ⟨?_, Grow.alloc w _⟩
    rw [← natLo_small hs]
    rfl
  · have hE : (natMo a).toList.isEmpty = false := by rw [natMo_isEmpty]; simpa using hs
    rw [if_neg hs]
    go_enter Tryz.func124, Tryz.ntmps124
    go_wp2
    go_ret2
    exact ⟨rfl, Grow.alloc w _⟩
end Go.Proofs.YtimjnkfcnpfoeaaGreatDoor

/-
  Words in memory: nat.trim, Nat.words, nat.fromWords.
-/
namespace Go.Proofs.YtimjnkfcnpfoeaaGreatDoor
open Go.RowKit

/-- from cell off of block b on lie these words -/
def Wds (u : World) (b off : Nat) (l : List Nat) : Prop := ∃ cs : Array Value, Blk u b 26 cs ∧ ∀ i x, l[i]? = some x → cs[off + i]? = some (.int .u64 (x : Nat))
theorem Wds.grow {u u' : World} {b off : Nat} {l : List Nat} (hg : Grow u u') (h : Wds u b off l) : Wds u' b off l := by
  obtain ⟨cs, hb, hc⟩ := h
  exact ⟨cs, hb.grow hg, hc⟩
theorem Wds.lt {u : World} {b off : Nat} {l : List Nat} (h : Wds u b off l) : b < u.heap.size := by
  obtain ⟨cs, hb, hc⟩ := h
  exact hb.lt
theorem Wds.cell {u : World} {b off : Nat} {l : List Nat} (h : Wds u b off l) {i : Nat} (hi : i < l.length) : u.cell? ⟨b, off + i, none⟩ = some (.int .u64 (l[i] : Nat)) := by
  obtain ⟨cs, hb, hc⟩ := h
  rw [hb.cell]
  exact hc i _ (List.getElem?_eq_getElem hi)
theorem Wds.frozen {u : World} {b off : Nat} {l : List Nat} (h : Wds u b off l) (i : Nat) : u.frozen? ⟨b, i, none⟩ = false := by
  obtain ⟨cs, hb, hc⟩ := h
  exact hb.frozen i
theorem Wds.set {u : World} {b off : Nat} {l : List Nat} (h : Wds u b off l) (i y : Nat) (hi : i < l.length) : Wds (u.setCell ⟨b, off + i, none⟩ (.int .u64 (y : Nat))) b off (l.set i y) := by
  obtain ⟨cs, hb, hc⟩ := h
  refine ⟨_, hb.set_ (off + i) _, fun j x hj => ?_⟩
  have hin : off + i < cs.size := (Array.getElem?_eq_some_iff.1 (hc i _ (List.getElem?_eq_getElem hi))).1
  rw [List.getElem?_set] at hj
  by_cases hij : i = j
  · subst hij
    simp only [if_pos hi, if_true] at hj
    injection hj with hj
    subst hj
    simp [hin]
  · rw [if_neg hij] at hj
    rw [Array.getElem?_setIfInBounds_ne (by omega)]
    exact hc j x hj
theorem Wds.far {u : World} {b off : Nat} {l : List Nat} (h : Wds u b off l) {p : Addr} (hp : b ≠ p.block) (v : Value) : Wds (u.setCell p v) b off l := by
  obtain ⟨cs, hb, hc⟩ := h
  exact ⟨cs, hb.far hp v, hc⟩
theorem Wds.take {u : World} {b off : Nat} {l : List Nat} (h : Wds u b off l) (n : Nat) : Wds u b off (l.take n) := by
  obtain ⟨cs, hb, hc⟩ := h
  refine ⟨cs, hb, fun i x hi => hc i x ?_⟩
  rw [List.getElem?_take] at hi
  split at hi
  · exact hi
  · cases hi
theorem Wds.drop {u : World} {b off : Nat} {l : List Nat} (h : Wds u b off l) (n : Nat) : Wds u b (off + n) (l.drop n) := by
  obtain ⟨cs, hb, hc⟩ := h
  refine ⟨cs, hb, fun i x hi => ?_⟩
  rw [List.getElem?_drop] at hi
  rw [Nat.add_assoc]
  exact hc _ x hi
/-- a slice's address and the words it holds: nothing is asked of an empty one -/
def Rd (u : World) (A : Option Addr) (l : List Nat) : Prop := l ≠ [] → ∃ b off, A = some ⟨b, off, none⟩ ∧ Wds u b off l
theorem Rd.nil (u : World) (A : Option Addr) : Rd u A [] := fun h => absurd rfl h
theorem Rd.grow {u u' : World} {A : Option Addr} {l : List Nat} (hg : Grow u u') (h : Rd u A l) : Rd u' A l := fun hn => by
  obtain ⟨b, off, e, hw⟩ := h hn
  exact ⟨b, off, e, hw.grow hg⟩
theorem Rd.take {u : World} {A : Option Addr} {l : List Nat} (h : Rd u A l) (n : Nat) : Rd u A (l.take n) := fun hn => by
  obtain ⟨b, off, e, hw⟩ := h (fun h0 => hn (by rw [h0]; simp))
  exact ⟨b, off, e, hw.take n⟩

/-- a list of words without its highest ones that are 0 -/
def trimL : List Nat → List Nat
  | [] => []
  | x :: l => match trimL l with
    | [] => if x = 0 then [] else [x]
    | y :: m => x :: y :: m
theorem trimL_snoc_zero (l : List Nat) : trimL (l ++ [0]) = trimL l := by
  induction l with
  | nil => rfl
  | cons x l ih => simp only [List.cons_append, trimL, ih]
theorem trimL_snoc (l : List Nat) {x : Nat} (hx : x ≠ 0) : trimL (l ++ [x]) = l ++ [x] := by
  induction l with
  | nil => simp [trimL, hx]
  | cons y l ih =>
    simp only [List.cons_append, trimL, ih]
    cases h : l ++ [x] with
    | nil => simp at h
    | cons z m => rfl
theorem trimL_le (l : List Nat) : (trimL l).length ≤ l.length := by
  induction l with
  | nil => simp [trimL]
  | cons x l ih =>
    simp only [trimL]
    split
    · split <;> simp
    · rename_i h; rw [h] at ih; simp at ih ⊢; omega
theorem trimL_eq_take (l : List Nat) : trimL l = l.take (trimL l).length := by
  induction l with
  | nil => rfl
  | cons x l ih =>
    simp only [trimL]
    split
    · split <;> simp
    · rename_i y m h
      rw [h] at ih
      simp only [List.length_cons, List.take_succ_cons] at ih ⊢
      rw [← ih]
theorem val_trimL (B : Nat) (l : List Nat) : val B (trimL l) = val B l := by
  induction l with
  | nil => rfl
  | cons x l ih =>
    simp only [trimL]
    split
    · rename_i h
      rw [h] at ih
      simp only [val_nil] at ih
      split
      · rename_i h0; subst h0; simp [val, ← ih]
      · simp [val, ← ih]
    · rename_i h; rw [h] at ih; rw [val_cons, ih, val_cons]
theorem tight_trimL (l : List Nat) : Tight (trimL l) := by
  induction l with
  | nil => exact .inl rfl
  | cons x l ih =>
    simp only [trimL]
    split
    · split
      · exact .inl rfl
      · rename_i h0; exact .inr (by simpa using h0)
    · rename_i h
      rw [h] at ih
      rcases ih with ih | ih
      · cases ih
      · exact .inr (by simpa [List.getLast?_cons_cons] using ih)
theorem dig_trimL {B : Nat} {l : List Nat} (h : Dig B l) : Dig B (trimL l) := fun x hx => by
  rw [trimL_eq_take] at hx
  exact h x (List.mem_of_mem_take hx)
theorem trimL_digs {B : Nat} (hB : 2 ≤ B) {l : List Nat} (h : Dig B l) : trimL l = digs B (val B l) := by
  rw [← val_trimL B l, digs_of hB _ (dig_trimL h) (tight_trimL l)]

set_option maxHeartbeats 1000000 in
theorem nat_trim (A : Option Addr) (l : List Nat) (c : Nat) (w : World) (h : Rd w A l) (hc : l.length ≤ c) (hm : c ≤ 9223372036854775807) :
    Calls Tryz.prog 166 #[.slice A l.length c] w fun e w' => e = .returned (.slice A (trimL l).length c) ∧ w = w' := by
  have H := Lib.hid h
  clear h
  obtain ⟨n, hn⟩ : ∃ n, n = l.length := ⟨_, rfl⟩
  rw [← hn]
  rw [← hn] at hc
  have Hn := Lib.hid hn
  clear hn
  go_enter Tryz.func166, Tryz.ntmps166
  go_wp2
  go_loop [0] (fun s => ∃ k : Nat, k ≤ n ∧ s = .slice A k c ∧ trimL (l.take k) = trimL l) (fun s => match s with | .slice _ k _ => k | _ => 0)
  case atStart => exact ⟨n, Nat.le_refl _, rfl, by rw [List.take_of_length_le (by rw [Hn.out]; exact Nat.le_refl _)]⟩
  case round =>
    obtain ⟨k, hk, rfl, ht⟩ := hrel
    have Ht := Lib.hid ht
    clear ht
    rcases Nat.eq_zero_or_pos k with rfl | hpos
    · go_wp2
      go_ret
      refine ⟨?_, rfl⟩
      have : trimL l = [] := by rw [← Ht.out]; rfl
      rw [this]
      rfl
    · have hkl : k - 1 < l.length := by rw [← Hn.out]; omega
      obtain ⟨b, off, rfl, hw⟩ := H.out (by rintro rfl; simp at hkl)
      have hcell := hw.cell hkl
      have Hw := Lib.hid hw
      clear hw
      have hsn : l.take k = l.take (k - 1) ++ [l[k - 1]] := by
        have := List.take_succ_eq_append_getElem hkl
        rw [show k - 1 + 1 = k by omega] at this
        exact this
      have Hsn := Lib.hid hsn
      clear hsn
      obtain ⟨x, hx⟩ : ∃ x, x = l[k - 1] := ⟨_, rfl⟩
      rw [← hx] at hcell
      have Hx := Lib.hid hx
      clear hx
      have hidx : (0 : Int) ≤ (k : Int) - 1 := by omega
      by_cases h0 : x = 0
      · subst h0
        go_wp2
        go_round
        case rel => exact ⟨k - 1, by omega, by go_num, by rw [← Ht.out, Hsn.out, ← Hx.out, trimL_snoc_zero]⟩
        case measure => simp; omega
      · have hb : ((x : Int) == 0) = false := by simpa using h0
        go_wp2
        go_ret
        refine ⟨?_, rfl⟩
        have : trimL l = l.take k := by rw [← Ht.out, Hsn.out, trimL_snoc _ (by rw [← Hx.out]; exact h0)]
        rw [this, List.length_take, Nat.min_eq_left (by omega)]
        rfl

/-- a row of the call's own: block b is just these words -/
def cellsW (l : List Nat) : Array Value := (l.map fun x => Value.int .u64 (x : Nat)).toArray
theorem cellsW_get (l : List Nat) (i : Nat) : (cellsW l)[i]? = (l[i]?).map fun x => Value.int .u64 (x : Nat) := by
  unfold cellsW; simp
def Wrow (u : World) (b : Nat) (l : List Nat) : Prop := Blk u b 26 (cellsW l)
theorem Wrow.wds {u : World} {b : Nat} {l : List Nat} (h : Wrow u b l) : Wds u b 0 l := by
  refine ⟨_, h, fun i x hi => ?_⟩
  rw [Nat.zero_add, cellsW_get, hi]
  rfl
theorem Wrow.grow {u u' : World} {b : Nat} {l : List Nat} (hg : Grow u u') (h : Wrow u b l) : Wrow u' b l := Blk.grow hg h
theorem Wrow.cell {u : World} {b : Nat} {l : List Nat} (h : Wrow u b l) (i : Nat) : u.cell? ⟨b, i, none⟩ = (l[i]?).map fun x => Value.int .u64 (x : Nat) := by
  rw [Blk.cell h, cellsW_get]
theorem Wrow.frozen {u : World} {b : Nat} {l : List Nat} (h : Wrow u b l) (i : Nat) : u.frozen? ⟨b, i, none⟩ = false := Blk.frozen h i
theorem cellsW_set (l : List Nat) (i y : Nat) : (cellsW l).setIfInBounds i (.int .u64 (y : Nat)) = cellsW (l.set i y) := by
  unfold cellsW
  rw [List.setIfInBounds_toArray, List.map_set]
theorem Wrow.set {u : World} {b : Nat} {l : List Nat} (h : Wrow u b l) (i y : Nat) : Wrow (u.setCell ⟨b, i, none⟩ (.int .u64 (y : Nat))) b (l.set i y) := by
  have := Blk.set_ h i (.int .u64 (y : Nat))
  rw [cellsW_set] at this
  exact this
theorem Wrow.far {u : World} {b : Nat} {l : List Nat} (h : Wrow u b l) {p : Addr} (hp : b ≠ p.block) (v : Value) : Wrow (u.setCell p v) b l := Blk.far h hp v
theorem Wrow.lt {u : World} {b : Nat} {l : List Nat} (h : Wrow u b l) : b < u.heap.size := Blk.lt h

theorem info_u64 : (Tryz.prog.info? 26).map (fun i => (i.zero, i.size, i.bytes)) = some (some (.int .u64 0), 1, 8) := by kernel_rfl
theorem cells_made (n : Nat) : madeCells (Value.int .u64 0).cells (n * 1) = cellsW (List.replicate n 0) := by
  unfold cellsW madeCells
  refine Array.ext (by simp) fun i h1 h2 => ?_
  simp [Value.cells, Nat.mod_one]
theorem make_u64 (n : Nat) (hn : n ≤ 1099511627776) (x : Int) (hx : x = n) (W : World) : (Instr.makeSlice 169 (.int .i64 x) (.int .i64 x)).run Tryz.prog W =
    .ok (.slice (some ⟨W.heap.size, 0, none⟩) n n) (W.alloc (.cells (cellsW (List.replicate n 0)) 26)) := by
  obtain ⟨i0, hi0, hz0, hz1, hz2⟩ := info_parts info_u64
  have hr := run_make (P := Tryz.prog) W 169 26 i0 (.int .u64 0) Tryz.underlying169 hi0 hz0 .i64 .i64 n n (by omega) (by omega) (by rw [hz2]; omega) (by omega)
  rw [hx]
  rw [hr, hz1]
  simp only [Int.toNat_natCast]
  rw [cells_made]

/-- a row that is filled from its beginning: what is laid, then zeros -/
def fillTo (l : List Nat) (k : Nat) : List Nat := l.take k ++ List.replicate (l.length - k) 0
theorem fillTo_get (l : List Nat) {k : Nat} (h : k < l.length) : (fillTo l k)[k]? = some 0 := by
  unfold fillTo
  rw [List.getElem?_append_right (by simp; omega), List.getElem?_replicate, if_pos (by simp; omega)]
theorem fillTo_set (l : List Nat) {k : Nat} (h : k < l.length) : (fillTo l k).set k l[k] = fillTo l (k + 1) := by
  unfold fillTo
  rw [List.set_append_right _ _ (by simp; omega), List.take_succ_eq_append_getElem h, List.append_assoc]
  congr 1
  rw [List.length_take, Nat.min_eq_left (by omega), Nat.sub_self]
  obtain ⟨m, hm⟩ : ∃ m, l.length - k = m + 1 := ⟨l.length - k - 1, by omega⟩
  rw [hm, show l.length - (k + 1) = m by omega]
  rfl
theorem fillTo_all (l : List Nat) : fillTo l l.length = l := by
  unfold fillTo; simp
theorem fillTo_length (l : List Nat) {k : Nat} (h : k ≤ l.length) : (fillTo l k).length = l.length := by
  unfold fillTo; simp; omega
/-- the words of a after i rounds -/
def wordsTo (a i : Nat) : List Nat := fillTo (digs W64 a) i
set_option maxHeartbeats 1000000 in
set_option maxRecDepth 100000 in
theorem nat_words_pos (a : Nat) (ha : bl a ≤ 1099511627776) (h0 : a ≠ 0) (w : World) :
    Calls Tryz.prog 130 #[natV a] w fun e w' => ∃ b, w.heap.size ≤ b ∧ e = .returned (.slice (some ⟨b, 0, none⟩) (digs W64 a).length (digs W64 a).length) ∧ Wrow w' b (digs W64 a) ∧ Grow w w' := by
  obtain ⟨m, hm⟩ : ∃ m, m = (upper a).length := ⟨_, rfl⟩
  have hub := upper_bits a
  rw [← hm] at hub
  have hsz : (natMo a).size = 8 * m := by rw [natMo_size, hm]
  have hq : ((natMo a).size : Int) / 8 = (m : Int) := by omega
  have hmm : m ≤ 1099511627776 := by omega
  have hmk := make_u64 (m + 1) (by omega) (1 + (m : Int)) (by omega)
  have hlen : (digs W64 a).length = m + 1 := by rw [digs_upper h0, List.length_cons, hm]
  have Hlen := Lib.hid hlen
  have Hm := Lib.hid hm
  have Hsz := Lib.hid hsz
  have hszl : (natMo a).size ≤ 8796093022208 := by omega
  clear hub hlen hm
  have hT : ∃ b1 b2 : Bool, (natMo a).toList.isEmpty = b1 ∧ (natLo a == 0) = b2 ∧ (b1 && b2) = false := by
    refine ⟨_, _, rfl, rfl, ?_⟩
    rw [natMo_isEmpty, Bool.and_eq_false_iff]
    by_cases hs : a < W64
    · right
      rw [natLo_small hs]
      simpa using h0
    · left
      simpa using hs
  obtain ⟨b1, b2, hb1, hb2, hb12⟩ := hT
  have fin : ∀ wr : World, Wrow wr (w.heap.size + 1) (wordsTo a (m + 1)) → Grow w wr → ∃ b, w.heap.size ≤ b ∧ Ending.returned (.slice (some ⟨w.heap.size + 1, 0, none⟩) (m + 1) (m + 1)) = .returned (.slice (some ⟨b, 0, none⟩) (digs W64 a).length (digs W64 a).length) ∧ Wrow wr b (digs W64 a) ∧ Grow w wr := by
    intro wr h1 h2
    refine ⟨w.heap.size + 1, by omega, by rw [Hlen.out], ?_, h2⟩
    have : wordsTo a (m + 1) = digs W64 a := by
      unfold wordsTo
      rw [← Hlen.out, fillTo_all]
    rw [← this]
    exact h1
  have Hfin := Lib.hid fin
  clear fin
  have start : ∀ W : World, Wrow (W.alloc (.cells ((cellsW (List.replicate (m + 1) 0)).setIfInBounds 0 (.int .u64 (natLo a))) 26)) W.heap.size (wordsTo a 1) := by
    intro W
    have h1 : (cellsW (List.replicate (m + 1) 0)).setIfInBounds 0 (.int .u64 (natLo a)) = cellsW (wordsTo a 1) := by
      show (cellsW (List.replicate (m + 1) 0)).setIfInBounds 0 (.int .u64 ((a % W64 : Nat) : Int)) = _
      rw [cellsW_set]
      congr 1
      unfold wordsTo fillTo
      rw [Hlen.out, digs_upper h0]
      rfl
    rw [h1]
    exact Blk.new W 26 _
  have Hstart := Lib.hid start
  clear start
  cases b1 <;> cases b2 <;> first | (exact absurd hb12 (by decide)) | skip
  all_goals
    clear hb12
    go_enter Tryz.func130, Tryz.ntmps130
    go_wp2
    clear hmk
    go_loopw [4] (fun i wr => ∃ k : Nat, 1 ≤ k ∧ k ≤ m + 1 ∧ i = .int .i64 k ∧ Wrow wr (w.heap.size + 1) (wordsTo a k) ∧ Blk wr w.heap.size 28 #[.int .u64 (natLo a), .string (natMo a)] ∧ Grow w wr) (fun i _ => m + 1 - (intOf i).toNat)
    case atStart => exact ⟨1, by omega, by omega, rfl, by simpa using Hstart.out (w.alloc (.cells #[.int .u64 (natLo a), .string (natMo a)] 28)), (Blk.new w 28 _).grow (Grow.alloc _ _), (Grow.alloc _ _).trans (Grow.alloc _ _)⟩
    case round =>
      obtain ⟨k, hk1, hk2, rfl, hrow, hbox, hG⟩ := hrel
      rcases Nat.lt_or_ge k (m + 1) with hlt | hge
      · have hbc := hbox.cell
        have hiu : k - 1 < (upper a).length := by rw [← Hm.out]; omega
        have hu : (digs W64 a)[k]? = some ((upper a)[k - 1]) := by
          rw [digs_upper h0]
          obtain ⟨j, rfl⟩ : ∃ j, k = j + 1 := ⟨k - 1, by omega⟩
          simp
        obtain ⟨x, hx⟩ : ∃ x, x = (upper a)[k - 1] := ⟨_, rfl⟩
        rw [← hx] at hu
        have Hx := Lib.hid hx
        have Hu := Lib.hid hu
        clear hx hu
        have hl1 : (0 : Int) ≤ (k : Int) - 1 := by omega
        have hl2 : 8 * ((k : Int) - 1) ≤ ((natMo a).size : Int) := by rw [Hsz.out]; omega
        have hword : ∀ W : World, Calls Tryz.prog 153 #[.string ((natMo a).extract (8 * (k - 1)) (8 * m))] W fun e w' => e = .returned (.int .u64 (x : Nat)) ∧ Grow W w' := by
          intro W
          rw [Hx.out, ← Hsz.out]
          exact word_at a (k - 1) hiu _ (Lib.extract_to_end _ _) W
        have Hword := Lib.hid hword
        have Hrow := Lib.hid hrow
        have Hbox := Lib.hid hbox
        clear hword hrow hbox
        have hz : (wordsTo a k)[k]? = some 0 := by
          exact fillTo_get _ (by rw [Hlen.out]; exact hlt)
        have Hz := Lib.hid hz
        clear hz
        have hst : ∀ w1 : World, Grow wr w1 → w1.cell? ⟨w.heap.size + 1, k, none⟩ = some (.int .u64 0) ∧ w1.frozen? ⟨w.heap.size + 1, k, none⟩ = false := fun w1 hb =>
          ⟨(((Hrow.out).grow hb).cell k).trans (by rw [Hz.out]; rfl), ((Hrow.out).grow hb).frozen k⟩
        have Hst := Lib.hid hst
        clear hst
        go_wp2_with (go_at_call 153; ((with_reducible refine (Hword.out _).mono ?_); rintro e w1 ⟨rfl, hb⟩; obtain ⟨hc1, hf1⟩ := Hst.out w1 hb))
        go_roundw
        case rel =>
          refine ⟨k + 1, by omega, by omega, by go_num, ?_, ?_, ?_⟩
          · have := (Hrow.out.grow hb).set k x
            have e : (wordsTo a k).set k x = wordsTo a (k + 1) := by
              unfold wordsTo
              rw [← fillTo_set _ (by rw [Hlen.out]; exact hlt)]
              congr 1
              have := List.getElem?_eq_some_iff.1 Hu.out
              exact this.2.symm
            rw [e] at this
            exact this
          · exact (Hbox.out.grow hb).far (by simp) _
          · exact (hG.trans hb).setCell (by simp) _
        case measure => simp [intOf]; omega
      · obtain rfl : k = m + 1 := by omega
        go_wp2
        go_ret
        exact Hfin.out _ hrow hG
set_option maxHeartbeats 400000 in
theorem nat_words_zero (w : World) : Calls Tryz.prog 130 #[natV 0] w fun e w' => e = .returned (.slice none 0 0) ∧ Grow w w' := by
  have hE : (natMo 0).toList.isEmpty = true := by rw [natMo_isEmpty]; exact decide_eq_true W64_pos
  have hZ : (natLo 0 == 0) = true := rfl
  go_enter Tryz.func130, Tryz.ntmps130
  go_wp2
  go_ret
  exact ⟨rfl, Grow.alloc _ _⟩
/-- a slice of the call's own (of the calls since w): its words, its whole block -/
def Own (w u : World) (A : Option Addr) (l : List Nat) : Prop := l ≠ [] → ∃ b, w.heap.size ≤ b ∧ A = some ⟨b, 0, none⟩ ∧ Wrow u b l
theorem Own.grow {w u u' : World} {A : Option Addr} {l : List Nat} (hg : Grow u u') (h : Own w u A l) : Own w u' A l := fun hn => by
  obtain ⟨b, hb, e, hw⟩ := h hn
  exact ⟨b, hb, e, hw.grow hg⟩
theorem Own.rd {w u : World} {A : Option Addr} {l : List Nat} (h : Own w u A l) : Rd u A l := fun hn => by
  obtain ⟨b, hb, e, hw⟩ := h hn
  exact ⟨b, 0, e, hw.wds⟩
theorem Own.since {w v u : World} {A : Option Addr} {l : List Nat} (hg : Grow w v) (h : Own v u A l) : Own w u A l := fun hn => by
  obtain ⟨b, hb, e, hw⟩ := h hn
  exact ⟨b, Nat.le_trans hg.size hb, e, hw⟩
theorem nat_words (a : Nat) (ha : bl a ≤ 1099511627776) (w : World) :
    Calls Tryz.prog 130 #[natV a] w fun e w' => ∃ A, e = .returned (.slice A (digs W64 a).length (digs W64 a).length) ∧ Own w w' A (digs W64 a) ∧ Grow w w' := by
  by_cases h0 : a = 0
  · subst h0
    exact (nat_words_zero w).mono fun e w' ⟨he, hg⟩ => ⟨none, he, fun h => absurd rfl h, hg⟩
  · exact (nat_words_pos a ha h0 w).mono fun e w' ⟨b, hb, he, hr, hg⟩ => ⟨_, he, fun _ => ⟨b, hb, rfl, hr⟩, hg⟩
end Go.Proofs.YtimjnkfcnpfoeaaGreatDoor

/-
  strings.Builder as the program uses it; nat.fromWords.
-/
namespace Go.Proofs.YtimjnkfcnpfoeaaGreatDoor
open Go.RowKit

theorem size_Builder : (Tryz.prog.info? 205).map (·.size) = some 2 := by kernel_rfl
theorem info_u8 : (Tryz.prog.info? 5).map (fun i => (i.zero, i.size, i.bytes)) = some (some (.int .u8 0), 1, 1) := by kernel_rfl

set_option maxHeartbeats 1000000 in
set_option maxRecDepth 100000 in
theorem copyCheck_used (b : Nat) (w : World) (h0 : w.cell? ⟨b, 0, none⟩ = some (.pointer (some ⟨b, 0, none⟩))) :
    Calls Tryz.prog 194 #[.pointer (some ⟨b, 0, none⟩)] w fun e w' => e = .returned (.tuple #[]) ∧ w' = w := by
  obtain ⟨j, hj, _⟩ := Option.map_eq_some_iff.1 size_Builder
  go_enter Tryz.func194, Tryz.ntmps194
  go_wp2
  rw [Lib.run_neq_ptr_same w _ Tryz.underlying203 hj]
  go_wp2
  go_end0
  exact ⟨rfl, rfl⟩

set_option maxHeartbeats 1000000 in
set_option maxRecDepth 100000 in
theorem builder_WriteByte (B b : Nat) (bs : List Value) (c : Int) (w : World) (h : Lib.BuilderAt 205 5 B b (.pointer (some ⟨b, 0, none⟩)) bs w) (hlen : bs.length + 1 ≤ 140737488355328) (hBw : B ≤ w.heap.size) :
    Calls Tryz.prog 168 #[.pointer (some ⟨b, 0, none⟩), .int .u8 c] w fun e w' => e = .returned .nilIface ∧ (Lib.BuilderAt 205 5 B b (.pointer (some ⟨b, 0, none⟩)) (bs ++ [.int .u8 c]) w' ∧ Below B w w') := by
  obtain ⟨i0, hi, hz0, hz1, hz2⟩ := info_parts info_u8
  obtain ⟨hB, v, hbk, hown, hne⟩ := h
  have c0 : w.cell? ⟨b, 0, none⟩ = some (.pointer (some ⟨b, 0, none⟩)) := by rw [Lib.cell_of_heap hbk]; rfl
  have c1 : w.cell? ⟨b, 1, none⟩ = some v := by rw [Lib.cell_of_heap hbk]; rfl
  go_enter Tryz.func168, Tryz.ntmps168
  go_wp2_with (first
    | (go_at_call 194; (refine (copyCheck_used b w c0).mono ?_); rintro e w1 ⟨rfl, rfl⟩)
    | (at_builtin; refine wpList_append_own _ rfl _ _ 180 rfl B 5 i0 (.int .u8 0) 1 1 Tryz.underlying180 hi hz0 hz1 hz2 rfl (by decide) _ _ _ rfl (hown.alloc _) ⟨_, 0, none⟩ 1 1 [.int .u8 c] rfl rfl ?c1 ?c2 ?c3 ?c4 ?c5 ?_))
  case c1 =>
    intro j u hj
    match j, hj with
    | 0, hj => simp at hj; subst hj; simp [Addr.add]
  case c2 => intro u hu; simp at hu; subst hu; rfl
  case c3 => unfold maxLen; omega
  case c4 => omega
  case c5 => simp; omega
  intro v' w2 hown' hgrow _
  have hlt : b < w1.heap.size := by
    rcases Nat.lt_or_ge b w1.heap.size with h' | h'
    · exact h'
    · simp [Array.getElem?_eq_none h'] at hbk
  have hb2 : w2.heap[b]? = some (.cells #[.pointer (some ⟨b, 0, none⟩), v] 205 (0, 0)) := by
    rw [hgrow.block b (by simp; omega) (fun e => hne e.symm), Lib.alloc_old w1 _ b hlt]
    exact hbk
  have d0 : w2.cell? ⟨b, 0, none⟩ = some (.pointer (some ⟨b, 0, none⟩)) := by rw [Lib.cell_of_heap hb2]; rfl
  have d1 : w2.cell? ⟨b, 1, none⟩ = some v := by rw [Lib.cell_of_heap hb2]; rfl
  have f1 : w2.frozen? ⟨b, 1, none⟩ = false := Lib.frozen_of_heap hb2 1
  obtain ⟨g, cap, rfl⟩ : ∃ g cap, v' = .slice (some ⟨g, 0, none⟩) (bs.length + 1) cap := by
    rcases hown'.2 with ⟨_, h0⟩ | ⟨g, cap, cur, hv, _⟩
    · omega
    · exact ⟨g, cap, hv⟩
  go_wp2
  go_ret
  refine ⟨rfl, ?_, ?_⟩
  · exact Lib.BuilderAt.put (T := 205) (e := 5) hB hb2 (bs' := bs ++ [.int .u8 c]) (by simpa using hown') (by decide)
  · exact (((Below.refl B w1).alloc hBw _).grown hgrow (by simp; omega) (fun k hk => (hown.lt k hk).1)).setCell (p := ⟨b, 1, none⟩) hB _

theorem upper_of_val {x : Nat} {l : List Nat} (hx : x < W64) (hl : Dig W64 l) (ht : Tight l) : natLo (val W64 (x :: l)) = x ∧ upper (val W64 (x :: l)) = l := by
  have e1 : val W64 (x :: l) % W64 = x := by simp only [val]; rw [Nat.add_mul_mod_self_left, Nat.mod_eq_of_lt hx]
  have e2 : val W64 (x :: l) / W64 = val W64 l := by simp only [val]; rw [Nat.add_mul_div_left _ _ W64_pos, Nat.div_eq_of_lt hx, Nat.zero_add]
  refine ⟨by unfold natLo; rw [e1], ?_⟩
  unfold upper
  rw [e2, digs_of W64_ge _ hl ht]

/-- the bytes of the words, as cells -/
theorem byteCells_snoc (l : List UInt8) (c : UInt8) : Lib.byteCells l ++ [.int .u8 (c.toNat : Int)] = Lib.byteCells (l ++ [c]) := by
  simp [Lib.byteCells]
theorem leBytes_get (x : Nat) : ∀ (n k : Nat), k < n → (Lib.leBytes n x)[k]? = some ((x / 256 ^ k % 256).toUInt8)
  | 0, _, h => absurd h (Nat.not_lt_zero _)
  | n + 1, 0, _ => by simp [Lib.leBytes]
  | n + 1, k + 1, h => by
    rw [Lib.leBytes, List.getElem?_cons_succ, leBytes_get (x / 256) n k (by omega), Nat.div_div_eq_div_mul, Nat.pow_succ, Nat.mul_comm]

set_option maxHeartbeats 1000000 in
set_option maxRecDepth 100000 in
theorem nat_fromWords_long (A : Option Addr) (l : List Nat) (c : Nat) (w : World) (h : Rd w A l) (hd : Dig W64 l) (hc : l.length ≤ c) (hm : l.length ≤ 34359738368) (hcm : c ≤ 9223372036854775807) (h2 : 2 ≤ (trimL l).length) :
    Calls Tryz.prog 128 #[.slice A l.length c] w fun e w' => e = .returned (natV (val W64 l)) ∧ Grow w w' := by
  obtain ⟨x0, y0, m, hl⟩ : ∃ x y m, trimL l = x :: y :: m := by
    match trimL l, h2 with
    | x :: y :: m, _ => exact ⟨x, y, m, rfl⟩
  obtain ⟨n, hn⟩ : ∃ n, n = m.length := ⟨_, rfl⟩
  have hlen : (trimL l).length = n + 2 := by rw [hl, hn]; rfl
  have hle := trimL_le l
  obtain ⟨b, off, hA, hw⟩ := h (by rintro rfl; simp [trimL] at h2)
  subst hA
  have hw2 : Wds w b off (trimL l) := by rw [trimL_eq_take]; exact hw.take _
  have hbw := hw.lt
  have Hw := Lib.hid hw2
  have Hl := Lib.hid hl
  have Hn := Lib.hid hn
  have Hd := Lib.hid hd
  have Hlen := Lib.hid hlen
  have htrim : ∀ W : World, Grow w W → Calls Tryz.prog 166 #[.slice (some ⟨b, off, none⟩) l.length c] W fun e w' => e = .returned (.slice (some ⟨b, off, none⟩) (n + 2) c) ∧ W = w' := by
    intro W hg
    have := nat_trim (some ⟨b, off, none⟩) l c W (h.grow hg) hc (by omega)
    rw [hlen] at this
    exact this
  have Htrim := Lib.hid htrim
  have hnc : n + 2 ≤ c := by omega
  have hnm : n + 2 ≤ 34359738368 := by omega
  clear hm
  clear htrim hlen hd hn hl hw2 hw h h2 hle hc
  go_enter Tryz.func128, Tryz.ntmps128
  go_wp2_with (go_at_call 166; ((with_reducible refine (Htrim.out _ (Grow.alloc _ _)).mono ?_); rintro e w1 ⟨rfl, rfl⟩))
  rw [show (8 * ((n : Int) + 2 - 1)) = ((8 * (n + 1) : Nat) : Int) from by omega]
  refine (Tryz.Builder_Grow_fresh_cap (w.heap.size + 1) (w.heap.size + 1) (8 * (n + 1)) _ (Nat.le_refl _) (by have := Blk.new (w.alloc (.cells #[.int .u64 0, .string ⟨#[]⟩] 28)) 205 #[.pointer none, .slice none 0 0]; simpa [Blk] using this) (by simp) (by omega)).mono ?_
  rintro e w1 ⟨rfl, ⟨hat, hbel⟩, -⟩
  have hG1 : Below (w.heap.size + 1) (w.alloc (.cells #[.int .u64 0, .string ⟨#[]⟩] 28)) w1 := ((Below.refl _ _).alloc (by simp) _).trans hbel
  have Hat := Lib.hid hat
  have HG1 := Lib.hid hG1
  clear hat hbel hG1
  have hc1 : ¬ c = 1 := by omega
  go_wp2_with fail
  go_loopw [28] (fun i wr => ∃ j : Nat, j ≤ n + 1 ∧ i = .int .i64 j ∧ Lib.BuilderAt 205 5 (w.heap.size + 1) (w.heap.size + 1) (.pointer (some ⟨w.heap.size + 1, 0, none⟩)) (Lib.byteCells (((y0 :: m).take j).flatMap (Lib.leBytes 8))) wr ∧ Below (w.heap.size + 1) (w.alloc (.cells #[.int .u64 0, .string ⟨#[]⟩] 28)) wr) (fun i _ => n + 1 - (intOf i).toNat)
  case atStart => exact ⟨0, by omega, rfl, Hat.out, HG1.out⟩
  case round =>
    obtain ⟨j, hj, rfl, hat, hbel⟩ := hrel
    have Hat2 := Lib.hid hat
    have Hbel2 := Lib.hid hbel
    clear hat hbel Hat HG1 w1
    rcases Nat.lt_or_ge j (n + 1) with hlt | hge
    · have hjl : j < (y0 :: m).length := by rw [List.length_cons, ← Hn.out]; omega
      have hcell : wr.cell? ⟨b, off + 1 + j, none⟩ = some (.int .u64 ((y0 :: m)[j] : Nat)) := by
        rw [Hbel2.out.cell (p := ⟨b, off + 1 + j, none⟩) (by show b < _; omega), World.cell?_alloc_lt _ _ _ (show b < _ from hbw)]
        have := Hw.out.cell (i := 1 + j) (by rw [Hlen.out]; omega)
        rw [← Nat.add_assoc] at this
        rw [this]
        have h3 : (trimL l)[1 + j]? = (y0 :: m)[j]? := by rw [Hl.out, Nat.add_comm]; rfl
        rw [List.getElem?_eq_getElem (by rw [Hlen.out]; omega), List.getElem?_eq_getElem hjl] at h3
        injection h3 with h3
        rw [h3]
      obtain ⟨x, hx⟩ : ∃ x, x = (y0 :: m)[j] := ⟨_, rfl⟩
      rw [← hx] at hcell
      have hxW : x < 18446744073709551616 := by
        rw [hx]
        refine dig_trimL Hd.out _ ?_
        rw [Hl.out]
        exact List.mem_cons_of_mem _ (List.getElem_mem _)
      have Hx := Lib.hid hx
      clear hx
      have hdj : decide ((j : Int) < (n : Int) + 1) = true := by simp; omega
      go_wp2_with fail
      obtain ⟨wo, hwo⟩ : ∃ wo : World, wo = wr := ⟨_, rfl⟩
      go_loopw [32] (fun i wi => ∃ k : Nat, k ≤ 8 ∧ i = .int .i64 k ∧ Lib.BuilderAt 205 5 (w.heap.size + 1) (w.heap.size + 1) (.pointer (some ⟨w.heap.size + 1, 0, none⟩)) (Lib.byteCells (((y0 :: m).take j).flatMap (Lib.leBytes 8) ++ (Lib.leBytes 8 x).take k)) wi ∧ Below (w.heap.size + 1) (w.alloc (.cells #[.int .u64 0, .string ⟨#[]⟩] 28)) wi) (fun i _ => 8 - (intOf i).toNat)
      case atStart => exact ⟨0, by omega, rfl, by simpa using Hat2.out, Hbel2.out⟩
      case round =>
        obtain ⟨k, hk, rfl, hat, hbel⟩ := hrel
        have Hat3 := Lib.hid hat
        have Hbel3 := Lib.hid hbel
        clear hat hbel
        rcases Nat.lt_or_ge k 8 with hk8 | hk8
        · have hlb : (Lib.byteCells (((y0 :: m).take j).flatMap (Lib.leBytes 8) ++ (Lib.leBytes 8 x).take k)).length + 1 ≤ 140737488355328 := by
            have e1 : (Lib.byteCells (((y0 :: m).take j).flatMap (Lib.leBytes 8) ++ (Lib.leBytes 8 x).take k)).length = (((y0 :: m).take j).flatMap (Lib.leBytes 8) ++ (Lib.leBytes 8 x).take k).length := by simp [Lib.byteCells]
            rw [e1, List.length_append, flat_length, List.length_take, List.length_take]
            omega
          have hsz := Hbel3.out.size
          simp only [alloc_size] at hsz
          go_wp2_with fail
          ((with_reducible refine (builder_WriteByte _ _ _ _ _ Hat3.out hlb hsz).mono ?_); rintro e w2 ⟨rfl, hat4, hbel4⟩)
          have Hat4 := Lib.hid hat4
          have Hbel4 := Lib.hid hbel4
          clear hat4 hbel4 hlb hsz
          go_wp2_with fail
          go_roundw
          case rel =>
            refine ⟨k + 1, by omega, by go_num, ?_, Hbel3.out.trans Hbel4.out⟩
            have e2 : ((x : Int) / 2 ^ (8 * k) % 256) = (((x / 256 ^ k % 256).toUInt8.toNat : Nat) : Int) := by
              have h1 : (x / 256 ^ k % 256).toUInt8.toNat = x / 256 ^ k % 256 := by
                simp only [Nat.toUInt8_eq, UInt8.toNat_ofNat']
                omega
              rw [h1, show (256 : Nat) = 2 ^ 8 from rfl, ← Nat.pow_mul]
              simp
            have h5 := Hat4.out
            rw [e2, byteCells_snoc, List.append_assoc] at h5
            have e3 : (Lib.leBytes 8 x).take k ++ [(x / 256 ^ k % 256).toUInt8] = (Lib.leBytes 8 x).take (k + 1) := by
              have h6 := leBytes_get x 8 k hk8
              obtain ⟨h7, h8⟩ := List.getElem?_eq_some_iff.1 h6
              rw [List.take_succ_eq_append_getElem h7, h8]
            rw [e3] at h5
            exact h5
          case measure => simp [intOf]; omega
        · obtain rfl : k = 8 := by omega
          go_wp2_with fail
          go_roundw
          case rel =>
            refine ⟨j + 1, by omega, by go_num, ?_, Hbel3.out⟩
            have h5 := Hat3.out
            rw [List.take_of_length_le (l := Lib.leBytes 8 x) (i := 8) (by rw [leBytes_length]; exact Nat.le_refl _)] at h5
            have e4 : ((y0 :: m).take (j + 1)).flatMap (Lib.leBytes 8) = ((y0 :: m).take j).flatMap (Lib.leBytes 8) ++ Lib.leBytes 8 x := by
              rw [List.take_succ_eq_append_getElem hjl, List.flatMap_append, Hx.out]
              simp
            rw [e4]
            exact h5
          case measure => simp [intOf]; omega
    · obtain rfl : j = n + 1 := by omega
      have hbox : Blk wr w.heap.size 28 #[.int .u64 0, .string ⟨#[]⟩] := (Hbel2.out.block w.heap.size (by omega)).trans (Blk.new w 28 _)
      have hcell : wr.cell? ⟨b, off, none⟩ = some (.int .u64 (x0 : Nat)) := by
        rw [Hbel2.out.cell (p := ⟨b, off, none⟩) (by show b < _; omega), World.cell?_alloc_lt _ _ _ (show b < _ from hbw)]
        have := Hw.out.cell (i := 0) (by rw [Hlen.out]; omega)
        rw [Nat.add_zero] at this
        rw [this]
        have h3 : (trimL l)[0]? = some x0 := by rw [Hl.out]; rfl
        obtain ⟨h4, h5⟩ := List.getElem?_eq_some_iff.1 h3
        rw [h5]
      have hstr : Calls Tryz.prog 169 #[.pointer (some ⟨w.heap.size + 1, 0, none⟩)] wr.drew fun e w' => e = .returned (.string (natMo (val W64 l))) ∧ Below (w.heap.size + 1) wr w' := by
        have hsz := Hbel2.out.size
        simp only [alloc_size] at hsz
        have hat := Hat2.out
        rw [List.take_of_length_le (by rw [List.length_cons, ← Hn.out]; exact Nat.le_refl _)] at hat
        refine (Tryz.Builder_String_any (w.heap.size + 1) (w.heap.size + 1) _ wr.drew (.inr hat.drew) hsz).mono fun e w' ⟨he, hb⟩ => ⟨?_, ((Below.refl _ wr).drew).trans hb⟩
        rw [he]
        have h6 := dig_trimL Hd.out
        have h7 := tight_trimL l
        rw [Hl.out] at h6 h7
        have h8 := (upper_of_val (x := x0) (l := y0 :: m) (h6 x0 (by simp)) (fun z hz => h6 z (by simp [hz])) (by
          rcases h7 with h7 | h7
          · cases h7
          · exact .inr (by simpa [List.getLast?_cons_cons] using h7))).2
        rw [← Hl.out, val_trimL] at h8
        unfold natMo
        rw [h8]
      have Hstr := Lib.hid hstr
      have hlo : natLo (val W64 l) = (x0 : Nat) := by
        have h6 := dig_trimL Hd.out
        have h7 := tight_trimL l
        rw [Hl.out] at h6 h7
        have h8 := (upper_of_val (x := x0) (l := y0 :: m) (h6 x0 (by simp)) (fun z hz => h6 z (by simp [hz])) (by
          rcases h7 with h7 | h7
          · cases h7
          · exact .inr (by simpa [List.getLast?_cons_cons] using h7))).1
        rw [← Hl.out, val_trimL] at h8
        exact h8
      have Hlo := Lib.hid hlo
      clear hstr hlo
      have hidx : (0 : Int) < (n : Int) + 2 := by omega
      go_wp2_with fail
      go_region_held3 (fun w' => w'.cell? ⟨b, off, none⟩ = some (.int .u64 (x0 : Nat))) (first | exact (hb5.cell (p := ⟨b, off, none⟩) (by show b < _; omega)).trans hcell | exact hcell | exact (World.cell?_setCell_far _ _ _ _ (by show w.heap.size ≠ b; omega)).trans ((World.cell?_setCell_far _ _ _ _ (by show w.heap.size ≠ b; omega)).trans ((hb5.cell (p := ⟨b, off, none⟩) (by show b < _; omega)).trans hcell)))
        (first | (go_at_call 169; (refine Hstr.out.mono ?_); rintro e w5 ⟨rfl, hb5⟩; have hbx5 : Blk w5 w.heap.size 28 #[.int .u64 0, .string ⟨#[]⟩] := (hb5.block w.heap.size (by omega)).trans hbox; have hq := hbx5.cell; have hqf := hbx5.frozen))
      go_wp2_with fail
      have h6 := ((hbx5.set_ 0 (.int .u64 (x0 : Nat))).set_ 1 (.string (natMo (val W64 l)))).cell
      simp only [List.setIfInBounds_toArray, List.set_cons_zero, List.set_cons_succ] at h6
      refine bodyPost_ret (v := .agg #[.int .u64 (x0 : Nat), .string (natMo (val W64 l))]) (by simp [results, Tryz.results128, go_sem, h6]) rfl ⟨?_, ?_⟩
      · rw [natV, Hlo.out]
      · have h1 : Grow w wr := ((Below.refl w.heap.size w).alloc (Nat.le_refl _) _).trans (Hbel2.out.mono (by omega))
        have h2 : Grow w w5 := Below.trans h1 (hb5.mono (by omega))
        exact (h2.setCell (p := ⟨w.heap.size, 0, none⟩) (Nat.le_refl _) _).setCell (p := ⟨w.heap.size, 1, none⟩) (Nat.le_refl _) _

set_option maxHeartbeats 1000000 in
theorem nat_fromWords_zero (A : Option Addr) (l : List Nat) (c : Nat) (w : World) (h : Rd w A l) (hc : l.length ≤ c) (hcm : c ≤ 9223372036854775807) (h0 : trimL l = []) :
    Calls Tryz.prog 128 #[.slice A l.length c] w fun e w' => e = .returned (natV 0) ∧ Grow w w' := by
  have htrim : ∀ W : World, Grow w W → Calls Tryz.prog 166 #[.slice A l.length c] W fun e w' => e = .returned (.slice A 0 c) ∧ W = w' := by
    intro W hg
    have := nat_trim A l c W (h.grow hg) hc (by omega)
    rw [h0] at this
    exact this
  have Htrim := Lib.hid htrim
  clear htrim h0 h
  go_enter Tryz.func128, Tryz.ntmps128
  go_wp2_with (go_at_call 166; ((with_reducible refine (Htrim.out _ (Grow.alloc _ _)).mono ?_); rintro e w1 ⟨rfl, rfl⟩))
  exact bodyPost_ret (v := .agg #[.int .u64 0, .string ⟨#[]⟩]) (by simp [results, Tryz.results128, go_sem]) rfl ⟨rfl, Grow.alloc _ _⟩

set_option maxHeartbeats 1000000 in
theorem nat_fromWords_one (A : Option Addr) (l : List Nat) (c : Nat) (w : World) (h : Rd w A l) (hc : l.length ≤ c) (hcm : c ≤ 9223372036854775807) (x : Nat) (h0 : trimL l = [x]) :
    Calls Tryz.prog 128 #[.slice A l.length c] w fun e w' => e = .returned (.agg #[.int .u64 (x : Nat), .string ⟨#[]⟩]) ∧ Grow w w' := by
  have htrim : ∀ W : World, Grow w W → Calls Tryz.prog 166 #[.slice A l.length c] W fun e w' => e = .returned (.slice A 1 c) ∧ W = w' := by
    intro W hg
    have := nat_trim A l c W (h.grow hg) hc (by omega)
    rw [h0] at this
    exact this
  have hne : l ≠ [] := by rintro rfl; cases h0
  obtain ⟨b, off, hA, hw⟩ := h hne
  have hlt := hw.lt
  have hcell : w.cell? ⟨b, off, none⟩ = some (.int .u64 (x : Nat)) := by
    have h2 : Wds w b off (trimL l) := by rw [trimL_eq_take]; exact hw.take _
    rw [h0] at h2
    exact h2.cell (i := 0) (by simp)
  subst hA
  have hcell2 : (w.alloc (.cells #[.int .u64 0, .string ⟨#[]⟩] 28)).cell? ⟨b, off, none⟩ = some (.int .u64 (x : Nat)) := (World.cell?_alloc_lt _ _ _ hlt).trans hcell
  have Htrim := Lib.hid htrim
  clear htrim h0 h hw hne
  go_enter Tryz.func128, Tryz.ntmps128
  go_wp2_with (go_at_call 166; ((with_reducible refine (Htrim.out _ (Grow.alloc _ _)).mono ?_); rintro e w1 ⟨rfl, rfl⟩))
  exact bodyPost_ret (v := .agg #[.int .u64 (x : Nat), .string ⟨#[]⟩]) (by simp [results, Tryz.results128, go_sem]) rfl ⟨rfl, Grow.alloc _ _⟩

/-- nat.fromWords: the number that the words stand for -/
theorem nat_fromWords (A : Option Addr) (l : List Nat) (c : Nat) (w : World) (h : Rd w A l) (hd : Dig W64 l) (hc : l.length ≤ c) (hm : l.length ≤ 34359738368) (hcm : c ≤ 9223372036854775807) :
    Calls Tryz.prog 128 #[.slice A l.length c] w fun e w' => e = .returned (natV (val W64 l)) ∧ Grow w w' := by
  cases ht : trimL l with
  | nil =>
    have : val W64 l = 0 := by rw [← val_trimL, ht]; rfl
    rw [this]
    exact nat_fromWords_zero A l c w h hc hcm ht
  | cons x m =>
    cases m with
    | nil =>
      have hx : x < W64 := dig_trimL hd x (by rw [ht]; simp)
      have : val W64 l = x := by rw [← val_trimL, ht]; simp [val]
      rw [this, natV, natLo_small hx, natMo_small hx]
      exact nat_fromWords_one A l c w h hc hcm x ht
    | cons y m => exact nat_fromWords_long A l c w h hd hc hm hcm (by rw [ht]; simp)
end Go.Proofs.YtimjnkfcnpfoeaaGreatDoor

/-
  Nat.Cmp, Nat.Add, Nat.Sub.
-/
namespace Go.Proofs.YtimjnkfcnpfoeaaGreatDoor
open Go.RowKit

theorem run_Add64 (x y c : Nat) (hc : c ≤ 1) (w : World) :
    (callFunc 154 #[.int .u64 x, .int .u64 y, .int .u64 c]).run Tryz.prog w =
      .ok (.value (.tuple #[.int .u64 (((x + y + c) % 18446744073709551616 : Nat) : Int), .int .u64 (((x + y + c) / 18446744073709551616 : Nat) : Int)])) w := by
  rw [run_callFunc_extern Tryz.func154 (by kernel_rfl) (by kernel_rfl) (by kernel_rfl) (e := add64Entry) (by kernel_rfl), run_add64 x y c (by omega) (by omega) (by omega) (by omega)]
  simp only [Result.andThen]
  congr 5 <;> omega
theorem run_Sub64 (x y b : Nat) (hb : b ≤ 1) (w : World) :
    (callFunc 155 #[.int .u64 x, .int .u64 y, .int .u64 b]).run Tryz.prog w =
      .ok (.value (.tuple #[.int .u64 (((x + 18446744073709551616 - y - b) % 18446744073709551616 : Nat) : Int), .int .u64 ((if x < y + b then 1 else 0 : Nat) : Int)])) w := by
  rw [run_callFunc_extern Tryz.func155 (by kernel_rfl) (by kernel_rfl) (by kernel_rfl) (e := sub64Entry) (by kernel_rfl), run_sub64 x y b hb]
  rfl

theorem natV_small {a : Nat} (h : a < W64) : natV a = .agg #[.int .u64 (a : Int), .string ⟨#[]⟩] := by
  rw [natV, natLo_small h, natMo_small h]

theorem run_Add64' (x y c : Nat) (hc : c ≤ 1) (xi yi ci : Int) (hx : xi = x) (hy : yi = y) (hci : ci = c) (w : World) :
    (callFunc 154 #[.int .u64 xi, .int .u64 yi, .int .u64 ci]).run Tryz.prog w =
      .ok (.value (.tuple #[.int .u64 (((x + y + c) % 18446744073709551616 : Nat) : Int), .int .u64 (((x + y + c) / 18446744073709551616 : Nat) : Int)])) w := by
  subst hx; subst hy; subst hci; exact run_Add64 x y c hc w
theorem run_Sub64' (x y c : Nat) (hc : c ≤ 1) (xi yi ci : Int) (hx : xi = x) (hy : yi = y) (hci : ci = c) (w : World) :
    (callFunc 155 #[.int .u64 xi, .int .u64 yi, .int .u64 ci]).run Tryz.prog w =
      .ok (.value (.tuple #[.int .u64 (((x + 18446744073709551616 - y - c) % 18446744073709551616 : Nat) : Int), .int .u64 ((if x < y + c then 1 else 0 : Nat) : Int)])) w := by
  subst hx; subst hy; subst hci; exact run_Sub64 x y c hc w

set_option maxHeartbeats 1000000 in
set_option maxRecDepth 100000 in
theorem nat_Add_small (a b : Nat) (hs : a + b < W64) (w : World) : Calls Tryz.prog 120 #[natV a, natV b] w fun e w' => e = .returned (natV (a + b)) ∧ Grow w w' := by
  rw [natV_small (show a < W64 by omega), natV_small (show b < W64 by omega), natV_small hs]
  unfold W64 at hs
  have hadd := run_Add64' a b 0 (by omega) (a : Int) (b : Int) 0 rfl rfl rfl
  rw [show (a + b + 0) % 18446744073709551616 = a + b by omega, show (a + b + 0) / 18446744073709551616 = 0 by omega] at hadd
  clear hs
  go_enter Tryz.func120, Tryz.ntmps120
  go_wp2
  exact bodyPost_ret (v := .agg #[.int .u64 ((a + b : Nat) : Int), .string ⟨#[]⟩]) (by simp [results, Tryz.results120, go_sem]) rfl ⟨rfl, ((Grow.alloc _ _).trans (Grow.alloc _ _)).trans (Grow.alloc _ _)⟩

set_option maxHeartbeats 1000000 in
set_option maxRecDepth 100000 in
theorem nat_Add_over (a b : Nat) (ha : a < W64) (hb : b < W64) (hs : W64 ≤ a + b) (w : World) : Calls Tryz.prog 120 #[natV a, natV b] w fun e w' => e = .returned (natV (a + b)) ∧ Grow w w' := by
  rw [natV_small ha, natV_small hb]
  have hv : val W64 [a + b - W64, 1] = a + b := by rw [val_cons, val_cons, val_nil, Nat.mul_zero, Nat.add_zero, Nat.mul_one]; omega
  have hd : Dig W64 [a + b - W64, 1] := by
    intro x hx
    simp only [List.mem_cons, List.not_mem_nil, or_false] at hx
    have := W64_ge
    rcases hx with h | h <;> (rw [h]; omega)
  unfold W64 at ha hb hs
  obtain ⟨s, hs1⟩ : ∃ s, s = a + b - W64 := ⟨_, rfl⟩
  rw [← hs1] at hv hd
  have hadd := run_Add64' a b 0 (by omega) (a : Int) (b : Int) 0 rfl rfl rfl
  rw [show (a + b + 0) % 18446744073709551616 = s by unfold W64 at hs1; omega, show (a + b + 0) / 18446744073709551616 = 1 by omega] at hadd
  have hfw : ∀ W : World, Wrow W (w.heap.size + 1 + 1 + 1) [s, 1] → Calls Tryz.prog 128 #[.slice (some ⟨w.heap.size + 1 + 1 + 1, 0, none⟩) 2 2] W fun e w' => e = .returned (natV (a + b)) ∧ Grow W w' := by
    intro W hW
    rw [← hv]
    exact nat_fromWords _ [s, 1] 2 W (fun _ => ⟨_, _, rfl, hW.wds⟩) hd (by simp) (by simp) (by omega)
  have Hfw := Lib.hid hfw
  clear hfw hv hd hs1 hs ha hb
  go_enter Tryz.func120, Tryz.ntmps120
  go_wp2_with fail
  have hbox : ∀ u : World, Grow ((((w.alloc (.cells #[.int .u64 a, .string ⟨#[]⟩] 28)).alloc (.cells #[.int .u64 b, .string ⟨#[]⟩] 28)).alloc (.cells #[.int .u64 0, .string ⟨#[]⟩] 28)).alloc (.cells #[.int .u64 s, .int .u64 1] 26)) u → Blk u (w.heap.size + 1 + 1) 28 #[.int .u64 0, .string ⟨#[]⟩] := by
    intro u hu
    have h := ((Blk.new ((w.alloc (.cells #[.int .u64 a, .string ⟨#[]⟩] 28)).alloc (.cells #[.int .u64 b, .string ⟨#[]⟩] 28)) 28 #[.int .u64 0, .string ⟨#[]⟩]).grow (Grow.alloc _ _)).grow hu
    rw [alloc_size, alloc_size] at h
    exact h
  have Hbox := Lib.hid hbox
  clear hbox
  refine (Hfw.out _ ?_).mono ?_
  · have h := Blk.new (((w.alloc (.cells #[.int .u64 a, .string ⟨#[]⟩] 28)).alloc (.cells #[.int .u64 b, .string ⟨#[]⟩] 28)).alloc (.cells #[.int .u64 0, .string ⟨#[]⟩] 28)) 26 #[.int .u64 s, .int .u64 1]
    rw [alloc_size, alloc_size, alloc_size] at h
    exact h
  rintro e w1 ⟨rfl, hg⟩
  have hb := Hbox.out w1 hg
  have hc := hb.cell
  have hf := hb.frozen
  have HG := Lib.hid ((((Grow.alloc w _).trans (Grow.alloc _ _)).trans ((Grow.alloc _ _).trans (Grow.alloc _ _))).trans hg)
  have Hb := Lib.hid hb
  clear hb hg
  go_wp2_with fail
  have h6 := ((Hb.out.set_ 0 (.int .u64 (natLo (a + b)))).set_ 1 (.string (natMo (a + b)))).cell
  simp only [List.setIfInBounds_toArray, List.set_cons_zero, List.set_cons_succ] at h6
  exact bodyPost_ret (v := natV (a + b)) (by simp [results, Tryz.results120, go_sem, h6]) rfl ⟨rfl, (HG.out.setCell (p := ⟨w.heap.size + 1 + 1, 0, none⟩) (by show _ ≤ w.heap.size + 1 + 1; omega) _).setCell (p := ⟨w.heap.size + 1 + 1, 1, none⟩) (by show _ ≤ w.heap.size + 1 + 1; omega) _⟩

/-- two rows of the call's own, each another -/
def Two (w u : World) (A1 A2 : Option Addr) (l1 l2 : List Nat) : Prop := Own w u A1 l1 ∧ Own w u A2 l2 ∧ (l1 ≠ [] → l2 ≠ [] → A1 ≠ A2)
theorem Two.grow {w u u' : World} {A1 A2 : Option Addr} {l1 l2 : List Nat} (hg : Grow u u') (h : Two w u A1 A2 l1 l2) : Two w u' A1 A2 l1 l2 := ⟨h.1.grow hg, h.2.1.grow hg, h.2.2⟩
theorem Two.swap {w u : World} {A1 A2 : Option Addr} {l1 l2 : List Nat} (h : Two w u A1 A2 l1 l2) : Two w u A2 A1 l2 l1 := ⟨h.2.1, h.1, fun a b e => h.2.2 b a e.symm⟩

theorem digs_len {a k : Nat} (h : bl a ≤ 64 * k) : (digs W64 a).length ≤ k :=
  digs_length_le W64_ge (by rw [W64_pow, ← Nat.pow_mul]; exact bl_le.1 h)
theorem Wrow.owns {u : World} {b base : Nat} {l : List Nat} (h : Wrow u b l) (hb : base ≤ b) (hl : l.length ≤ maxLen) :
    u.ownsRow base 26 1 (.slice (some ⟨b, 0, none⟩) l.length l.length) l.length (l.map fun x => Value.int .u64 (x : Nat)) := by
  refine ⟨by simp, .inr ⟨b, l.length, cellsW l, rfl, hb, h, Nat.le_refl _, hl, by simp [cellsW], ?_⟩⟩
  unfold cellsW
  rw [List.take_of_length_le (by simp)]
theorem wds_of_owns {u : World} {base n : Nat} {v : Value} {l : List Nat} (h : u.ownsRow base 26 1 v n (l.map fun x => Value.int .u64 (x : Nat))) (hn : 0 < n) :
    ∃ g cap, v = .slice (some ⟨g, 0, none⟩) n cap ∧ base ≤ g ∧ n ≤ cap ∧ l.length = n ∧ cap ≤ maxLen ∧ Wds u g 0 l := by
  obtain ⟨h1, h2 | ⟨g, cap, cur, hv, hb, hh, hnc, hcm, hcs, hct⟩⟩ := h
  · omega
  · refine ⟨g, cap, hv, hb, hnc, by simpa using h1, hcm, cur, hh, fun i x hi => ?_⟩
    have h3 : (cur.toList.take (n * 1))[i]? = some (.int .u64 (x : Nat)) := by rw [hct, List.getElem?_map, hi]; rfl
    rw [List.getElem?_take] at h3
    split at h3
    · rw [Nat.zero_add]; simpa using h3
    · cases h3
/-- where an addition stands after k rounds -/
def AddI (u wr : World) (A1 A2 : Option Addr) (lx ly : List Nat) (k cy : Nat) : Prop :=
  ∃ zs : List Nat, cy ≤ 1 ∧ zs.length = k ∧ Dig W64 zs ∧ val W64 zs + cy * W64 ^ k = val W64 (lx.take k) + val W64 (ly.take k) ∧ Two u wr A1 A2 (zs ++ lx.drop k) ly
theorem AddI.start {u wr : World} {A1 A2 : Option Addr} {lx ly : List Nat} (h : Two u wr A1 A2 lx ly) : AddI u wr A1 A2 lx ly 0 0 :=
  ⟨[], by omega, rfl, fun x hx => (by cases hx), by simp [val], h⟩
theorem AddI.next {u wr : World} {A2 : Option Addr} {bx : Nat} {lx ly : List Nat} {k cy : Nat} (h : AddI u wr (some ⟨bx, 0, none⟩) A2 lx ly k cy) (hx : Dig W64 lx) (hy : Dig W64 ly) (hk : k < lx.length) :
    AddI u (wr.setCell ⟨bx, k, none⟩ (.int .u64 ((dg lx k + dg ly k + cy) % W64 : Nat))) (some ⟨bx, 0, none⟩) A2 lx ly (k + 1) ((dg lx k + dg ly k + cy) / W64) := by
  obtain ⟨zs, hcy, hz, hd, he, ho1, ho2, hne⟩ := h
  have hne1 : zs ++ lx.drop k ≠ [] := by
    intro e
    have := congrArg List.length e
    simp at this
    omega
  have h1 := dg_lt W64_pos hx k
  have h2 := dg_lt W64_pos hy k
  have hlist : (zs ++ lx.drop k).set k ((dg lx k + dg ly k + cy) % W64) = (zs ++ [(dg lx k + dg ly k + cy) % W64]) ++ lx.drop (k + 1) := by
    rw [List.set_append_right _ _ (by omega), hz, Nat.sub_self, List.drop_eq_getElem_cons hk, List.set_cons_zero, List.append_assoc]
    rfl
  obtain ⟨b1, hb1, e1, hr1⟩ := ho1 hne1
  injection e1 with e1
  injection e1 with e1
  subst e1
  refine ⟨zs ++ [(dg lx k + dg ly k + cy) % W64], ?_, by simp [hz], ?_, add_step hz he, ?_, ?_, ?_⟩
  · have : (dg lx k + dg ly k + cy) / W64 < 2 := Nat.div_lt_of_lt_mul (by omega)
    omega
  · intro x hxm
    rcases List.mem_append.1 hxm with h | h
    · exact hd x h
    · simp only [List.mem_cons, List.not_mem_nil, or_false] at h
      rw [h]
      exact Nat.mod_lt _ W64_pos
  · intro _
    refine ⟨bx, hb1, rfl, ?_⟩
    rw [← hlist]
    exact hr1.set k _
  · intro hn2
    obtain ⟨b2, hb2, e2, hr2⟩ := ho2 hn2
    refine ⟨b2, hb2, e2, hr2.far ?_ _⟩
    intro e
    refine hne hne1 hn2 ?_
    rw [e2, e]
  · intro _ hn2
    exact hne hne1 hn2
theorem AddI.cell1 {u wr : World} {bx : Nat} {A2 : Option Addr} {lx ly : List Nat} {k cy : Nat} (h : AddI u wr (some ⟨bx, 0, none⟩) A2 lx ly k cy) (hk : k < lx.length) :
    wr.cell? ⟨bx, k, none⟩ = some (.int .u64 (dg lx k : Nat)) ∧ wr.frozen? ⟨bx, k, none⟩ = false ∧ u.heap.size ≤ bx := by
  obtain ⟨zs, hcy, hz, hd, he, ho1, ho2, hne⟩ := h
  obtain ⟨b1, hb1, e1, hr1⟩ := ho1 (by
    intro e
    have := congrArg List.length e
    simp at this
    omega)
  injection e1 with e1
  injection e1 with e1
  subst e1
  refine ⟨?_, hr1.frozen k, hb1⟩
  rw [hr1.cell, List.getElem?_append_right (by omega), hz, Nat.sub_self, List.getElem?_drop, Nat.add_zero, List.getElem?_eq_getElem hk, dg_eq hk]
  rfl
theorem AddI.cell2 {u wr : World} {A1 A2 : Option Addr} {lx ly : List Nat} {k cy : Nat} (h : AddI u wr A1 A2 lx ly k cy) (hk : k < ly.length) :
    ∃ b2, A2 = some ⟨b2, 0, none⟩ ∧ wr.cell? ⟨b2, k, none⟩ = some (.int .u64 (dg ly k : Nat)) := by
  obtain ⟨zs, hcy, hz, hd, he, ho1, ho2, hne⟩ := h
  obtain ⟨b2, hb2, e2, hr2⟩ := ho2 (by rintro rfl; simp at hk)
  refine ⟨b2, e2, ?_⟩
  rw [hr2.cell, List.getElem?_eq_getElem hk, dg_eq hk]
  rfl
theorem AddI.addr {u wr : World} {A1 A2 : Option Addr} {lx ly : List Nat} {k cy : Nat} (h : AddI u wr A1 A2 lx ly k cy) (hk : 0 < lx.length) : ∃ bx, A1 = some ⟨bx, 0, none⟩ := by
  obtain ⟨zs, hcy, hz, hd, he, ho1, ho2, hne⟩ := h
  obtain ⟨b1, hb1, e1, hr1⟩ := ho1 (by
    intro e
    have := congrArg List.length e
    rw [List.length_append, hz, List.length_drop, List.length_nil] at this
    omega)
  exact ⟨b1, e1⟩
/-- its end: the row, and what it stands for -/
theorem AddI.done {u wr : World} {A1 A2 : Option Addr} {lx ly : List Nat} {k cy : Nat} (h : AddI u wr A1 A2 lx ly k cy) (hk : k = lx.length) (hly : ly.length ≤ lx.length) :
    ∃ zs, zs.length = k ∧ cy ≤ 1 ∧ Dig W64 zs ∧ val W64 zs + cy * W64 ^ k = val W64 lx + val W64 ly ∧ Own u wr A1 zs := by
  obtain ⟨zs, hcy, hz, hd, he, ho1, ho2, hne⟩ := h
  rw [List.drop_of_length_le (by omega), List.append_nil] at ho1
  rw [val_take_over _ _ _ (by omega), val_take_over _ _ _ (by omega)] at he
  exact ⟨zs, hz, hcy, hd, he, ho1⟩
theorem Own.ne {w v u : World} {A1 A2 : Option Addr} {l1 l2 : List Nat} (h1 : Own w v A1 l1) (h2 : Own v u A2 l2) (n1 : l1 ≠ []) (n2 : l2 ≠ []) : A1 ≠ A2 := by
  obtain ⟨b1, _, e1, hr1⟩ := h1 n1
  obtain ⟨b2, hb2, e2, _⟩ := h2 n2
  rw [e1, e2]
  intro e
  injection e with e
  injection e with e
  have := hr1.lt
  omega

set_option maxHeartbeats 2000000 in
set_option maxRecDepth 100000 in
theorem nat_Add_big (a b : Nat) (ha : bl a ≤ 1099511627776) (hb : bl b ≤ 1099511627776) (hs : ¬ (a < W64 ∧ b < W64)) (w : World) : Calls Tryz.prog 120 #[natV a, natV b] w fun e w' => e = .returned (natV (a + b)) ∧ Grow w w' := by
  have hT : ∃ b1 b2 : Bool, (natMo a).toList.isEmpty = b1 ∧ (natMo b).toList.isEmpty = b2 ∧ (b1 && b2) = false := by
    refine ⟨_, _, rfl, rfl, ?_⟩
    rw [natMo_isEmpty, natMo_isEmpty, Bool.and_eq_false_iff, decide_eq_false_iff_not, decide_eq_false_iff_not]
    omega
  obtain ⟨b1, b2, hb1, hb2, hb12⟩ := hT
  obtain ⟨la, hla⟩ : ∃ la, la = digs W64 a := ⟨_, rfl⟩
  obtain ⟨lb, hlb⟩ : ∃ lb, lb = digs W64 b := ⟨_, rfl⟩
  obtain ⟨n1, hn1⟩ : ∃ n, n = la.length := ⟨_, rfl⟩
  obtain ⟨n2, hn2⟩ : ∃ n, n = lb.length := ⟨_, rfl⟩
  have hwa : ∀ W : World, Calls Tryz.prog 130 #[natV a] W fun e w' => ∃ A, e = .returned (.slice A n1 n1) ∧ Own W w' A la ∧ Grow W w' := by
    intro W; rw [hn1, hla]; exact nat_words a ha W
  have hwb : ∀ W : World, Calls Tryz.prog 130 #[natV b] W fun e w' => ∃ A, e = .returned (.slice A n2 n2) ∧ Own W w' A lb ∧ Grow W w' := by
    intro W; rw [hn2, hlb]; exact nat_words b hb W
  have hm1 : n1 ≤ 17179869184 := by rw [hn1, hla]; exact digs_len (by omega)
  have hm2 : n2 ≤ 17179869184 := by rw [hn2, hlb]; exact digs_len (by omega)
  have Hwa := Lib.hid hwa
  have Hwb := Lib.hid hwb
  have Hda : Hid (Dig W64 la) := by rw [hla]; exact Lib.hid (dig_digs W64_ge a)
  have Hdb : Hid (Dig W64 lb) := by rw [hlb]; exact Lib.hid (dig_digs W64_ge b)
  have Hla := Lib.hid hla
  have Hlb := Lib.hid hlb
  have Hn1 := Lib.hid hn1
  have Hn2 := Lib.hid hn2
  clear hwa hwb hla hlb hn1 hn2 ha hb hs
  cases b1 <;> cases b2 <;> first | (exact absurd hb12 (by decide)) | skip
  all_goals
    clear hb12
    go_enter Tryz.func120, Tryz.ntmps120
    go_wp2_with fail
    clear hb1 hb2
    generalize hu : World.alloc (World.alloc (World.alloc w _) _) _ = u
    obtain ⟨hB, hG⟩ := bx_first [(_, _), (_, _), (_, _)] w u hu
    have hF := fr_first w [(28, #[]), (28, #[]), (28, #[])]
    simp only [numbered, List.map_cons, List.map_nil] at hB hF
    clear hu
    generalize w.heap.size + 1 + 1 = b4 at hB hF ⊢
    generalize w.heap.size + 1 = b3 at hB hF ⊢
    generalize w.heap.size = b2 at hB hF ⊢
    refine wp_region_bx (w := w) allocs 5 [(0, 0), (0, 2), (1, 1), (1, 3), (0, 4)] (by kernel_rfl) (by kernel_rfl) hB hG ?_
    simp only [pickOps, List.getElem?_toArray, List.getElem?_cons_zero, List.getElem?_cons_succ]
    (apply gy
     · exact rfl
     · (rintro v ⟨-, hB, -⟩ N hN; have r := hB.r; simp only [BxR] at r; go_simp; exact hN))
    (apply gy
     · exact rfl
     · (rintro v ⟨-, hB, -⟩ N hN; have r := hB.r; simp only [BxR] at r; go_simp; exact hN))
    refine gx (Option Addr) (fun A => .slice A n1 n1) (fun A v => Own u v A la) (fun A v v' hg h => h.grow hg) rfl ?_ (fun A1 => ?_)
    · rintro v ⟨hgu, -, -⟩ N hN
      go_simp
      ((with_reducible refine (Hwa.out _).mono ?_); rintro e w1 ⟨A, rfl, hown, hg⟩; exact ⟨_, rfl, hN A w1 (hown.since hgu) hg⟩)
    refine gx (Option Addr) (fun A => .slice A n2 n2) (fun A v => Own u v A lb ∧ (la ≠ [] → lb ≠ [] → A1 ≠ A)) (fun A v v' hg h => ⟨h.1.grow hg, h.2⟩) rfl ?_ (fun A2 => ?_)
    · rintro v ⟨⟨hgu, -, -⟩, ho1⟩ N hN
      go_simp
      ((with_reducible refine (Hwb.out _).mono ?_); rintro e w1 ⟨A, rfl, hown, hg⟩; exact ⟨_, rfl, hN A w1 ⟨hown.since hgu, fun h1 h2 => ho1.ne hown h1 h2⟩ hg⟩)
    (apply gy
     · exact rfl
     · (rintro v - N hN; go_simp; exact hN))
    refine gend ?_
    rintro v ⟨⟨⟨hgu, hB1, hG1⟩, ho1⟩, ho2, hne⟩
    have hTwo : Two u v A1 A2 la lb := ⟨ho1, ho2, hne⟩
    have hq2 := hB.head.lt
    have hq3 := hB.tail.head.lt
    have hq4 := hB.tail.tail.head.lt
    have hwu := hG.size
    clear ho1 ho2 hne hB hG
    have HTwo := Lib.hid hTwo
    clear hTwo
    simp only [List.drop_succ_cons, List.drop_zero]
    go_wp2_with fail
    refine NoP.norm ?_
    by_cases hlt : n1 < n2
    · go_wp2_with fail
      go_loopw [9, 49] (fun c i wr => ∃ k cy : Nat, k ≤ n2 ∧ i = .int .i64 k ∧ c = .int .u64 cy ∧ AddI u wr A2 A1 lb la k cy ∧ Bx wr [(b2, 28, #[.int .u64 (natLo a), .string (natMo a)]), (b3, 28, #[.int .u64 (natLo b), .string (natMo b)]), (b4, 28, #[.int .u64 0, .string ⟨#[]⟩])] ∧ Grow w wr ∧ u.heap.size ≤ wr.heap.size) (fun _ i _ => n2 - (intOf i).toNat)
      case atStart => exact ⟨0, 0, by omega, rfl, rfl, AddI.start HTwo.out.swap, hB1, hG1, hgu.size⟩
      case round =>
        obtain ⟨k, cy, hk, rfl, rfl, hI, hB, hG, hus⟩ := hrel
        have HI := Lib.hid hI
        have HB := Lib.hid hB
        have HG := Lib.hid hG
        have hcy : cy ≤ 1 := by obtain ⟨zs, h, _⟩ := HI.out; exact h
        clear hI hB hG
        rcases Nat.lt_or_ge k n2 with hkl | hkg
        · have hkl' : k < lb.length := by rw [← Hn2.out]; exact hkl
          obtain ⟨bx, rfl⟩ := HI.out.addr (by omega)
          obtain ⟨hc1, hf1, hbx⟩ := HI.out.cell1 hkl'
          have Hnext := Lib.hid (HI.out.next Hdb.out Hda.out hkl')
          obtain ⟨x, hx⟩ : ∃ x, x = dg lb k := ⟨_, rfl⟩
          obtain ⟨o, ho⟩ : ∃ o, o = dg la k := ⟨_, rfl⟩
          rw [← hx] at hc1 Hnext
          rw [← ho] at Hnext
          obtain ⟨sm, hsm⟩ : ∃ sm, sm = (x + o + cy) % W64 := ⟨_, rfl⟩
          obtain ⟨t, ht⟩ : ∃ t, t = (x + o + cy) / W64 := ⟨_, rfl⟩
          rw [← hsm, ← ht] at Hnext
          have hBn : ∀ sv, Bx (wr.setCell ⟨bx, k, none⟩ sv) [(b2, 28, #[.int .u64 (natLo a), .string (natMo a)]), (b3, 28, #[.int .u64 (natLo b), .string (natMo b)]), (b4, 28, #[.int .u64 0, .string ⟨#[]⟩])] := fun sv => HB.out.far_ (p := ⟨bx, k, none⟩) (by show ∀ e ∈ _, _ ≠ bx; simp; omega) sv
          have HBn := Lib.hid hBn
          have Hx := Lib.hid hx
          have Ho := Lib.hid ho
          clear hx ho hBn
          by_cases hky : k < n1
          · obtain ⟨by_, rfl, hc2⟩ := HI.out.cell2 (by rw [← Hn1.out]; exact hky)
            rw [← Ho.out] at hc2
            have hadd := run_Add64' x o cy hcy (x : Int) (o : Int) (cy : Int) rfl rfl rfl
            rw [show (x + o + cy) % 18446744073709551616 = sm from hsm.symm, show (x + o + cy) / 18446744073709551616 = t from ht.symm] at hadd
            clear hsm ht
            go_wp2
            go_roundw
            case rel => exact ⟨k + 1, t, by omega, by go_num, rfl, Hnext.out, HBn.out _, HG.out.setCell (p := ⟨bx, k, none⟩) (by show _ ≤ bx; omega) _, by simpa [World.setCell] using hus⟩
            case measure => simp [intOf]; omega
          · have hz : o = 0 := by rw [Ho.out]; exact dg_over (by rw [← Hn1.out]; omega)
            have hadd := run_Add64' x o cy hcy (x : Int) 0 (cy : Int) rfl (by rw [hz]; rfl) rfl
            rw [show (x + o + cy) % 18446744073709551616 = sm from hsm.symm, show (x + o + cy) / 18446744073709551616 = t from ht.symm] at hadd
            clear hsm ht hz
            go_wp2
            go_roundw
            case rel => exact ⟨k + 1, t, by omega, by go_num, rfl, Hnext.out, HBn.out _, HG.out.setCell (p := ⟨bx, k, none⟩) (by show _ ≤ bx; omega) _, by simpa [World.setCell] using hus⟩
            case measure => simp [intOf]; omega
        · obtain rfl : n2 = k := by omega
          obtain ⟨zs, hz, _, hd, hval, hown⟩ := HI.out.done Hn2.out (by rw [← Hn2.out, ← Hn1.out]; omega)
          have hab : val W64 zs + cy * W64 ^ n2 = a + b := by rw [hval, Hla.out, Hlb.out, val_digs W64_ge, val_digs W64_ge]; exact Nat.add_comm _ _
          have Hown := Lib.hid hown
          have Hd := Lib.hid hd
          have Hz := Lib.hid hz
          have Hab := Lib.hid hab
          clear hown hd hz hval hab
          rcases Nat.eq_zero_or_pos cy with rfl | hcp
          · have hfw : Calls Tryz.prog 128 #[.slice A2 n2 n2] wr fun e w' => e = .returned (natV (a + b)) ∧ Grow wr w' := by
              have h1 := nat_fromWords A2 zs n2 wr Hown.out.rd Hd.out (by rw [Hz.out]; exact Nat.le_refl _) (by rw [Hz.out]; omega) (by omega)
              have h2 := Hab.out
              rw [Nat.zero_mul, Nat.add_zero] at h2
              rw [Hz.out, h2] at h1
              exact h1
            have Hfw := Lib.hid hfw
            clear hfw
            go_wp2_with (go_at_call 128; ((with_reducible refine Hfw.out.mono ?_); rintro e w1 ⟨rfl, hg⟩; have hbb := (HB.out.grow hg).tail.tail.head; have hc := hbb.cell; have hf := hbb.frozen))
            have h6 := ((hbb.set_ 0 (.int .u64 (natLo (a + b)))).set_ 1 (.string (natMo (a + b)))).cell
            simp only [List.setIfInBounds_toArray, List.set_cons_zero, List.set_cons_succ] at h6
            have hwb4 : w.heap.size ≤ b4 := hF.1 b4 (by simp)
            exact bodyPost_ret (v := natV (a + b)) (by simp [results, Tryz.results120, go_sem, h6]) rfl ⟨rfl, ((HG.out.trans hg).setCell (p := ⟨b4, 0, none⟩) hwb4 _).setCell (p := ⟨b4, 1, none⟩) hwb4 _⟩
          · obtain rfl : cy = 1 := by omega
            have hpos : 0 < n2 := by
              rcases Nat.eq_zero_or_pos n2 with h0 | h0
              · exfalso
                have e1 : lb = [] := List.eq_nil_of_length_eq_zero (by rw [← Hn2.out]; exact h0)
                have e2 : la = [] := List.eq_nil_of_length_eq_zero (by rw [← Hn1.out]; omega)
                have e3 : zs = [] := List.eq_nil_of_length_eq_zero (by rw [Hz.out]; exact h0)
                have h2 := Hab.out
                have h3 := val_digs W64_ge a
                have h4 := val_digs W64_ge b
                rw [← Hla.out] at h3
                rw [← Hlb.out] at h4
                rw [e3, h0, ← h3, ← h4, e1, e2] at h2
                simp [val] at h2
              · exact h0
            obtain ⟨bx, hbx, rfl, hrow⟩ := Hown.out (by intro e; have := Hz.out; rw [e] at this; simp at this; omega)
            obtain ⟨i0, hi0, hz0, hz1, hz2⟩ := info_parts info_u64
            have hor : wr.ownsRow u.heap.size 26 1 (.slice (some ⟨bx, 0, none⟩) n2 n2) n2 (zs.map fun x => Value.int .u64 (x : Nat)) := by
              have := hrow.owns hbx (by rw [Hz.out]; unfold maxLen; omega)
              rw [Hz.out] at this
              exact this
            have Hor := Lib.hid hor
            clear hor hrow
            go_wp2_with (at_builtin; refine wpList_append_own _ rfl (.tmp 76) (.tmp 78) 169 rfl u.heap.size 26 i0 (.int .u64 0) 1 8 Tryz.underlying169 hi0 hz0 hz1 hz2 rfl (by decide) _ n2 _ rfl (Hor.out.alloc _) ⟨_, 0, none⟩ 1 1 [.int .u64 1] rfl rfl (cell_one_new _ _ _) (by simp [Value.oneCell']) (by unfold maxLen; omega) (by omega) (by rw [alloc_size]; omega) ?_)
            intro v' w1 hown' hgr _
            rw [show (zs.map fun x => Value.int .u64 (x : Nat)) ++ [Value.int .u64 1] = (zs ++ [1]).map (fun x => Value.int .u64 (x : Nat)) by simp] at hown'
            obtain ⟨g, cap, rfl, hbg, hnc, hlz, hcm, hwd⟩ := wds_of_owns hown' (by omega)
            have hBw := (HB.out.grow (Grow.alloc wr _)).grown_ hgr (by simp [Value.ownBlock]; omega)
            have hGw := (HG.out.trans (Grow.alloc wr _)).grown hgr (by simp [Value.ownBlock]; omega)
            have hfw : Calls Tryz.prog 128 #[.slice (some ⟨g, 0, none⟩) (n2 + 1) cap] w1 fun e w' => e = .returned (natV (a + b)) ∧ Grow w1 w' := by
              have h1 := nat_fromWords (some ⟨g, 0, none⟩) (zs ++ [1]) cap w1 (fun _ => ⟨g, 0, rfl, hwd⟩) (by
                intro x hx
                rcases List.mem_append.1 hx with h | h
                · exact Hd.out x h
                · simp at h; rw [h]; have := W64_ge; omega) (by omega) (by omega) (by unfold maxLen at hcm; omega)
              have h2 := Hab.out
              rw [Nat.one_mul] at h2
              rw [val_snoc, Hz.out, Nat.mul_one, h2, hlz] at h1
              exact h1
            have Hfw := Lib.hid hfw
            have HBw := Lib.hid hBw
            have HGw := Lib.hid hGw
            clear hfw hown' hgr hlz hwd hBw hGw
            go_wp2_with (go_at_call 128; ((with_reducible refine Hfw.out.mono ?_); rintro e w2 ⟨rfl, hg⟩; have hbb := (HBw.out.grow hg).tail.tail.head; have hc := hbb.cell; have hf := hbb.frozen))
            have h6 := ((hbb.set_ 0 (.int .u64 (natLo (a + b)))).set_ 1 (.string (natMo (a + b)))).cell
            simp only [List.setIfInBounds_toArray, List.set_cons_zero, List.set_cons_succ] at h6
            have hwb4 : w.heap.size ≤ b4 := hF.1 b4 (by simp)
            exact bodyPost_ret (v := natV (a + b)) (by simp [results, Tryz.results120, go_sem, h6]) rfl ⟨rfl, ((HGw.out.trans hg).setCell (p := ⟨b4, 0, none⟩) hwb4 _).setCell (p := ⟨b4, 1, none⟩) hwb4 _⟩
    · go_wp2_with fail
      go_loopw [9, 49] (fun c i wr => ∃ k cy : Nat, k ≤ n1 ∧ i = .int .i64 k ∧ c = .int .u64 cy ∧ AddI u wr A1 A2 la lb k cy ∧ Bx wr [(b2, 28, #[.int .u64 (natLo a), .string (natMo a)]), (b3, 28, #[.int .u64 (natLo b), .string (natMo b)]), (b4, 28, #[.int .u64 0, .string ⟨#[]⟩])] ∧ Grow w wr ∧ u.heap.size ≤ wr.heap.size) (fun _ i _ => n1 - (intOf i).toNat)
      case atStart => exact ⟨0, 0, by omega, rfl, rfl, AddI.start HTwo.out, hB1, hG1, hgu.size⟩
      case round =>
        obtain ⟨k, cy, hk, rfl, rfl, hI, hB, hG, hus⟩ := hrel
        have HI := Lib.hid hI
        have HB := Lib.hid hB
        have HG := Lib.hid hG
        have hcy : cy ≤ 1 := by obtain ⟨zs, h, _⟩ := HI.out; exact h
        clear hI hB hG
        rcases Nat.lt_or_ge k n1 with hkl | hkg
        · have hkl' : k < la.length := by rw [← Hn1.out]; exact hkl
          obtain ⟨bx, rfl⟩ := HI.out.addr (by omega)
          obtain ⟨hc1, hf1, hbx⟩ := HI.out.cell1 hkl'
          have Hnext := Lib.hid (HI.out.next Hda.out Hdb.out hkl')
          obtain ⟨x, hx⟩ : ∃ x, x = dg la k := ⟨_, rfl⟩
          obtain ⟨o, ho⟩ : ∃ o, o = dg lb k := ⟨_, rfl⟩
          rw [← hx] at hc1 Hnext
          rw [← ho] at Hnext
          obtain ⟨sm, hsm⟩ : ∃ sm, sm = (x + o + cy) % W64 := ⟨_, rfl⟩
          obtain ⟨t, ht⟩ : ∃ t, t = (x + o + cy) / W64 := ⟨_, rfl⟩
          rw [← hsm, ← ht] at Hnext
          have hBn : ∀ sv, Bx (wr.setCell ⟨bx, k, none⟩ sv) [(b2, 28, #[.int .u64 (natLo a), .string (natMo a)]), (b3, 28, #[.int .u64 (natLo b), .string (natMo b)]), (b4, 28, #[.int .u64 0, .string ⟨#[]⟩])] := fun sv => HB.out.far_ (p := ⟨bx, k, none⟩) (by show ∀ e ∈ _, _ ≠ bx; simp; omega) sv
          have HBn := Lib.hid hBn
          have Hx := Lib.hid hx
          have Ho := Lib.hid ho
          clear hx ho hBn
          by_cases hky : k < n2
          · obtain ⟨by_, rfl, hc2⟩ := HI.out.cell2 (by rw [← Hn2.out]; exact hky)
            rw [← Ho.out] at hc2
            have hadd := run_Add64' x o cy hcy (x : Int) (o : Int) (cy : Int) rfl rfl rfl
            rw [show (x + o + cy) % 18446744073709551616 = sm from hsm.symm, show (x + o + cy) / 18446744073709551616 = t from ht.symm] at hadd
            clear hsm ht
            go_wp2
            go_roundw
            case rel => exact ⟨k + 1, t, by omega, by go_num, rfl, Hnext.out, HBn.out _, HG.out.setCell (p := ⟨bx, k, none⟩) (by show _ ≤ bx; omega) _, by simpa [World.setCell] using hus⟩
            case measure => simp [intOf]; omega
          · have hz : o = 0 := by rw [Ho.out]; exact dg_over (by rw [← Hn2.out]; omega)
            have hadd := run_Add64' x o cy hcy (x : Int) 0 (cy : Int) rfl (by rw [hz]; rfl) rfl
            rw [show (x + o + cy) % 18446744073709551616 = sm from hsm.symm, show (x + o + cy) / 18446744073709551616 = t from ht.symm] at hadd
            clear hsm ht hz
            go_wp2
            go_roundw
            case rel => exact ⟨k + 1, t, by omega, by go_num, rfl, Hnext.out, HBn.out _, HG.out.setCell (p := ⟨bx, k, none⟩) (by show _ ≤ bx; omega) _, by simpa [World.setCell] using hus⟩
            case measure => simp [intOf]; omega
        · obtain rfl : n1 = k := by omega
          obtain ⟨zs, hz, _, hd, hval, hown⟩ := HI.out.done Hn1.out (by rw [← Hn1.out, ← Hn2.out]; omega)
          have hab : val W64 zs + cy * W64 ^ n1 = a + b := by rw [hval, Hla.out, Hlb.out, val_digs W64_ge, val_digs W64_ge]
          have Hown := Lib.hid hown
          have Hd := Lib.hid hd
          have Hz := Lib.hid hz
          have Hab := Lib.hid hab
          clear hown hd hz hval hab
          rcases Nat.eq_zero_or_pos cy with rfl | hcp
          · have hfw : Calls Tryz.prog 128 #[.slice A1 n1 n1] wr fun e w' => e = .returned (natV (a + b)) ∧ Grow wr w' := by
              have h1 := nat_fromWords A1 zs n1 wr Hown.out.rd Hd.out (by rw [Hz.out]; exact Nat.le_refl _) (by rw [Hz.out]; omega) (by omega)
              have h2 := Hab.out
              rw [Nat.zero_mul, Nat.add_zero] at h2
              rw [Hz.out, h2] at h1
              exact h1
            have Hfw := Lib.hid hfw
            clear hfw
            go_wp2_with (go_at_call 128; ((with_reducible refine Hfw.out.mono ?_); rintro e w1 ⟨rfl, hg⟩; have hbb := (HB.out.grow hg).tail.tail.head; have hc := hbb.cell; have hf := hbb.frozen))
            have h6 := ((hbb.set_ 0 (.int .u64 (natLo (a + b)))).set_ 1 (.string (natMo (a + b)))).cell
            simp only [List.setIfInBounds_toArray, List.set_cons_zero, List.set_cons_succ] at h6
            have hwb4 : w.heap.size ≤ b4 := hF.1 b4 (by simp)
            exact bodyPost_ret (v := natV (a + b)) (by simp [results, Tryz.results120, go_sem, h6]) rfl ⟨rfl, ((HG.out.trans hg).setCell (p := ⟨b4, 0, none⟩) hwb4 _).setCell (p := ⟨b4, 1, none⟩) hwb4 _⟩
          · obtain rfl : cy = 1 := by omega
            have hpos : 0 < n1 := by
              rcases Nat.eq_zero_or_pos n1 with h0 | h0
              · exfalso
                have e1 : la = [] := List.eq_nil_of_length_eq_zero (by rw [← Hn1.out]; exact h0)
                have e2 : lb = [] := List.eq_nil_of_length_eq_zero (by rw [← Hn2.out]; omega)
                have e3 : zs = [] := List.eq_nil_of_length_eq_zero (by rw [Hz.out]; exact h0)
                have h2 := Hab.out
                have h3 := val_digs W64_ge a
                have h4 := val_digs W64_ge b
                rw [← Hla.out] at h3
                rw [← Hlb.out] at h4
                rw [e3, h0, ← h3, ← h4, e1, e2] at h2
                simp [val] at h2
              · exact h0
            obtain ⟨bx, hbx, rfl, hrow⟩ := Hown.out (by intro e; have := Hz.out; rw [e] at this; simp at this; omega)
            obtain ⟨i0, hi0, hz0, hz1, hz2⟩ := info_parts info_u64
            have hor : wr.ownsRow u.heap.size 26 1 (.slice (some ⟨bx, 0, none⟩) n1 n1) n1 (zs.map fun x => Value.int .u64 (x : Nat)) := by
              have := hrow.owns hbx (by rw [Hz.out]; unfold maxLen; omega)
              rw [Hz.out] at this
              exact this
            have Hor := Lib.hid hor
            clear hor hrow
            go_wp2_with (at_builtin; refine wpList_append_own _ rfl (.tmp 76) (.tmp 78) 169 rfl u.heap.size 26 i0 (.int .u64 0) 1 8 Tryz.underlying169 hi0 hz0 hz1 hz2 rfl (by decide) _ n1 _ rfl (Hor.out.alloc _) ⟨_, 0, none⟩ 1 1 [.int .u64 1] rfl rfl (cell_one_new _ _ _) (by simp [Value.oneCell']) (by unfold maxLen; omega) (by omega) (by rw [alloc_size]; omega) ?_)
            intro v' w1 hown' hgr _
            rw [show (zs.map fun x => Value.int .u64 (x : Nat)) ++ [Value.int .u64 1] = (zs ++ [1]).map (fun x => Value.int .u64 (x : Nat)) by simp] at hown'
            obtain ⟨g, cap, rfl, hbg, hnc, hlz, hcm, hwd⟩ := wds_of_owns hown' (by omega)
            have hBw := (HB.out.grow (Grow.alloc wr _)).grown_ hgr (by simp [Value.ownBlock]; omega)
            have hGw := (HG.out.trans (Grow.alloc wr _)).grown hgr (by simp [Value.ownBlock]; omega)
            have hfw : Calls Tryz.prog 128 #[.slice (some ⟨g, 0, none⟩) (n1 + 1) cap] w1 fun e w' => e = .returned (natV (a + b)) ∧ Grow w1 w' := by
              have h1 := nat_fromWords (some ⟨g, 0, none⟩) (zs ++ [1]) cap w1 (fun _ => ⟨g, 0, rfl, hwd⟩) (by
                intro x hx
                rcases List.mem_append.1 hx with h | h
                · exact Hd.out x h
                · simp at h; rw [h]; have := W64_ge; omega) (by omega) (by omega) (by unfold maxLen at hcm; omega)
              have h2 := Hab.out
              rw [Nat.one_mul] at h2
              rw [val_snoc, Hz.out, Nat.mul_one, h2, hlz] at h1
              exact h1
            have Hfw := Lib.hid hfw
            have HBw := Lib.hid hBw
            have HGw := Lib.hid hGw
            clear hfw hown' hgr hlz hwd hBw hGw
            go_wp2_with (go_at_call 128; ((with_reducible refine Hfw.out.mono ?_); rintro e w2 ⟨rfl, hg⟩; have hbb := (HBw.out.grow hg).tail.tail.head; have hc := hbb.cell; have hf := hbb.frozen))
            have h6 := ((hbb.set_ 0 (.int .u64 (natLo (a + b)))).set_ 1 (.string (natMo (a + b)))).cell
            simp only [List.setIfInBounds_toArray, List.set_cons_zero, List.set_cons_succ] at h6
            have hwb4 : w.heap.size ≤ b4 := hF.1 b4 (by simp)
            exact bodyPost_ret (v := natV (a + b)) (by simp [results, Tryz.results120, go_sem, h6]) rfl ⟨rfl, ((HGw.out.trans hg).setCell (p := ⟨b4, 0, none⟩) hwb4 _).setCell (p := ⟨b4, 1, none⟩) hwb4 _⟩
--! nat_Add = nat_Add _ _ SIDE SIDE _
theorem nat_Add (a b : Nat) (ha : bl a ≤ 1099511627776) (hb : bl b ≤ 1099511627776) (w : World) : Calls Tryz.prog 120 #[natV a, natV b] w fun e w' => e = .returned (natV (a + b)) ∧ Grow w w' := by
  by_cases hs : a < W64 ∧ b < W64
  · rcases Nat.lt_or_ge (a + b) W64 with h | h
    · exact nat_Add_small a b h w
    · exact nat_Add_over a b hs.1 hs.2 h w
  · exact nat_Add_big a b ha hb hs w
end Go.Proofs.YtimjnkfcnpfoeaaGreatDoor

/-
  Nat.Cmp.
-/
namespace Go.Proofs.YtimjnkfcnpfoeaaGreatDoor
open Go.RowKit

theorem len_lt {a b : Nat} (h : (upper a).length < (upper b).length) : a < b := by
  have h1 : a / W64 < b / W64 := by
    rcases Nat.lt_or_ge (a / W64) (b / W64) with h2 | h2
    · exact h2
    · exfalso
      have hb := val_lt (dig_digs W64_ge (a / W64))
      rw [val_digs W64_ge] at hb
      have h3 : (digs W64 (b / W64)).length ≤ (digs W64 (a / W64)).length := digs_length_le W64_ge (Nat.lt_of_le_of_lt h2 hb)
      unfold upper at h
      omega
  rcases Nat.lt_or_ge a b with h2 | h2
  · exact h2
  · have := Nat.div_le_div_right (c := W64) h2
    omega
theorem val_split (a : Nat) : val W64 (upper a) = a / W64 := val_digs W64_ge _
theorem upper_lt {a b : Nat} (h : a / W64 < b / W64) : a < b := by
  rcases Nat.lt_or_ge a b with h2 | h2
  · exact h2
  · have := Nat.div_le_div_right (c := W64) h2
    omega
theorem low_lt {a b : Nat} (h : upper a = upper b) (hl : a % W64 < b % W64) : a < b := by
  have h1 : a / W64 = b / W64 := by rw [← val_split a, ← val_split b, h]
  have h2 := Nat.mod_add_div a W64
  have h3 := Nat.mod_add_div b W64
  rw [h1] at h2
  omega
theorem low_eq {a b : Nat} (h : upper a = upper b) (hl : a % W64 = b % W64) : a = b := by
  have h1 : a / W64 = b / W64 := by rw [← val_split a, ← val_split b, h]
  rw [← Nat.mod_add_div a W64, ← Nat.mod_add_div b W64, h1, hl]

set_option maxHeartbeats 1000000 in
set_option maxRecDepth 100000 in
theorem nat_Cmp_len (a b : Nat) (hne : (upper a).length ≠ (upper b).length) (w : World) : Calls Tryz.prog 122 #[natV a, natV b] w fun e w' => e = .returned (.int .i64 (cmpN a b)) ∧ Grow w w' := by
  have h1 := natMo_size a
  have h2 := natMo_size b
  have hq : (((natMo a).size : Int) != ((natMo b).size : Int)) = true := by simp; omega
  rcases Nat.lt_or_gt_of_ne hne with h | h
  · rw [cmpN_lt (len_lt h)]
    have hd : decide ((natMo a).size < (natMo b).size) = true := by simp; omega
    clear h1 h2 hne h
    go_enter Tryz.func122, Tryz.ntmps122
    go_wp2
    go_ret
    exact ⟨rfl, (Grow.alloc _ _).trans (Grow.alloc _ _)⟩
  · rw [cmpN_gt (len_lt h)]
    have hd : decide ((natMo a).size < (natMo b).size) = false := by simp; omega
    clear h1 h2 hne h
    go_enter Tryz.func122, Tryz.ntmps122
    go_wp2
    go_ret
    exact ⟨rfl, (Grow.alloc _ _).trans (Grow.alloc _ _)⟩

set_option maxHeartbeats 1000000 in
set_option maxRecDepth 100000 in
theorem nat_Cmp_same (a b : Nat) (hle : (upper a).length = (upper b).length) (ha : bl a ≤ 1099511627776) (w : World) : Calls Tryz.prog 122 #[natV a, natV b] w fun e w' => e = .returned (.int .i64 (cmpN a b)) ∧ Grow w w' := by
  obtain ⟨m, hm⟩ : ∃ m, m = (upper a).length := ⟨_, rfl⟩
  have h1 : (natMo a).size = 8 * m := by rw [natMo_size, hm]
  have h2 : (natMo b).size = 8 * m := by rw [natMo_size, hm, hle]
  have hub := upper_bits a
  have hmm : m ≤ 17179869184 := by omega
  have hq : (((8 * m : Nat) : Int) != ((8 * m : Nat) : Int)) = false := by simp
  obtain ⟨la, hla⟩ : ∃ la, la = upper a := ⟨_, rfl⟩
  obtain ⟨lb, hlb⟩ : ∃ lb, lb = upper b := ⟨_, rfl⟩
  have Hla := Lib.hid hla
  have Hlb := Lib.hid hlb
  have hlena : la.length = m := by rw [hla, hm]
  have hlenb : lb.length = m := by rw [hlb, hm, hle]
  have Hlena := Lib.hid hlena
  have Hlenb := Lib.hid hlenb
  have Hs1 := Lib.hid h1
  have Hs2 := Lib.hid h2
  clear hle ha hm hub hla hlb hlena hlenb
  go_enter Tryz.func122, Tryz.ntmps122
  go_wp2_with fail
  generalize hu : World.alloc (World.alloc w _) _ = u
  obtain ⟨hB, hG⟩ := bx_first [(_, _), (_, _)] w u hu
  simp only [numbered] at hB
  clear hu
  generalize w.heap.size + 1 = b3 at hB ⊢
  generalize w.heap.size = b2 at hB ⊢
  go_loopw [5] (fun i wr => ∃ k : Nat, k ≤ m ∧ i = .int .i64 (8 * (k : Int) - 8) ∧ la.drop k = lb.drop k ∧ Bx wr [(b2, 28, #[.int .u64 (natLo a), .string (natMo a)]), (b3, 28, #[.int .u64 (natLo b), .string (natMo b)])] ∧ Grow w wr) (fun i _ => (intOf i + 8).toNat)
  case atStart => exact ⟨m, Nat.le_refl _, rfl, by rw [List.drop_of_length_le (by rw [Hlena.out]; exact Nat.le_refl _), List.drop_of_length_le (by rw [Hlenb.out]; exact Nat.le_refl _)], hB, hG⟩
  case round =>
    obtain ⟨k, hk, rfl, hdr, hB2, hG2⟩ := hrel
    have Hdr := Lib.hid hdr
    clear hdr hB hG
    rcases Nat.eq_zero_or_pos k with rfl | hpos
    · have r := hB2.r
      simp only [BxR] at r
      have hne : ¬ (0 : Int) ≤ 8 * ((0 : Nat) : Int) - 8 := by omega
      go_wp2_with fail
      refine (nat_cmpWord (a % W64) (b % W64) _).mono ?_
      rintro e w1 ⟨rfl, hg⟩
      go_wp2_with fail
      go_ret
      refine ⟨congrArg (fun n => Ending.returned (.int .i64 n)) ?_, hG2.trans hg⟩
      have hu : upper a = upper b := by rw [← Hla.out, ← Hlb.out]; exact Hdr.out
      rcases Nat.lt_trichotomy (a % W64) (b % W64) with h | h | h
      · rw [cmpN_lt (low_lt hu h), cmpN_lt h]
      · rw [cmpN_eq (low_eq hu h), cmpN_eq h]
      · rw [cmpN_gt (low_lt hu.symm h), cmpN_gt h]
    · have hka : k - 1 < (upper a).length := by rw [← Hla.out, Hlena.out]; omega
      have hkb : k - 1 < (upper b).length := by rw [← Hlb.out, Hlenb.out]; omega
      obtain ⟨x, hx⟩ : ∃ x, x = dg la (k - 1) := ⟨_, rfl⟩
      obtain ⟨y, hy⟩ : ∃ y, y = dg lb (k - 1) := ⟨_, rfl⟩
      have hwx : ∀ W : World, Calls Tryz.prog 153 #[.string ((natMo a).extract (8 * k - 8) (8 * m))] W fun e w' => e = .returned (.int .u64 (x : Nat)) ∧ Grow W w' := by
        intro W
        rw [hx, dg_eq (by rw [Hla.out]; exact hka), ← Hs1.out, show 8 * k - 8 = 8 * (k - 1) by omega]
        have := word_at a (k - 1) hka _ (Lib.extract_to_end _ _) W
        simp only [Hla.out]
        exact this
      have hwy : ∀ W : World, Calls Tryz.prog 153 #[.string ((natMo b).extract (8 * k - 8) (8 * m))] W fun e w' => e = .returned (.int .u64 (y : Nat)) ∧ Grow W w' := by
        intro W
        rw [hy, dg_eq (by rw [Hlb.out]; exact hkb), ← Hs2.out, show 8 * k - 8 = 8 * (k - 1) by omega]
        have := word_at b (k - 1) hkb _ (Lib.extract_to_end _ _) W
        simp only [Hlb.out]
        exact this
      have Hwx := Lib.hid hwx
      have Hwy := Lib.hid hwy
      have Hx := Lib.hid hx
      have Hy := Lib.hid hy
      have hge : (0 : Int) ≤ 8 * (k : Int) - 8 := by omega
      have hge2 : (8 : Int) ≤ 8 * (k : Int) := by omega
      have hge3 : 8 * (k : Int) - 8 ≤ 8 * (m : Int) := by omega
      have htn : (8 * (k : Int) - 8).toNat = 8 * k - 8 := by omega
      clear hwx hwy hx hy hka hkb
      go_wp2_with fail
      refine wp_region_bx (w := w) allocs 11 [(0, 0), (0, 1), (0, 2), (0, 3), (0, 5), (0, 6), (0, 7), (0, 8), (1, 4), (1, 9), (0, 10)] (by kernel_rfl) (by kernel_rfl) hB2 hG2 ?_
      simp only [pickOps, List.getElem?_toArray, List.getElem?_cons_zero, List.getElem?_cons_succ]
      repeat (first
        | (apply gy
           · exact rfl
           · (rintro v ⟨-, hB, -⟩ N hN; have r := hB.r; simp only [BxR] at r; go_simp; exact hN))
        | (apply gm
           · exact rfl
           · (rintro v - N hN; go_simp; (first | ((with_reducible refine (Hwx.out _).mono ?_); rintro e w1 ⟨rfl, hb⟩; exact ⟨_, rfl, hN _ hb⟩) | ((with_reducible refine (Hwy.out _).mono ?_); rintro e w1 ⟨rfl, hb⟩; exact ⟨_, rfl, hN _ hb⟩)))))
      refine gend ?_
      rintro v ⟨-, hB3, hG3⟩
      clear hB2 hG2
      simp only [List.drop_succ_cons, List.drop_zero]
      go_wp2_with fail
      refine NoP.norm ?_
      by_cases hxy : x = y
      · subst hxy
        have hb : ((x : Int) != (x : Int)) = false := by simp
        go_wp2_with fail
        go_roundw
        case rel =>
          refine ⟨k - 1, by omega, by go_num, ?_, hB3, hG3⟩
          have h3 := Hdr.out
          have e1 : la.drop (k - 1) = dg la (k - 1) :: la.drop k := by
            rw [List.drop_eq_getElem_cons (by rw [Hlena.out]; omega), dg_eq (by rw [Hlena.out]; omega), show k - 1 + 1 = k by omega]
          have e2 : lb.drop (k - 1) = dg lb (k - 1) :: lb.drop k := by
            rw [List.drop_eq_getElem_cons (by rw [Hlenb.out]; omega), dg_eq (by rw [Hlenb.out]; omega), show k - 1 + 1 = k by omega]
          rw [e1, e2, h3, ← Hx.out, ← Hy.out]
        case measure => simp [intOf]; omega
      · have hb : ((x : Int) != (y : Int)) = true := by simp; omega
        go_wp2_with fail
        refine (nat_cmpWord x y _).mono ?_
        rintro e w1 ⟨rfl, hg⟩
        go_wp2_with fail
        go_ret
        refine ⟨congrArg (fun n => Ending.returned (.int .i64 n)) ?_, hG3.trans hg⟩
        have h3 := Hdr.out
        have hda : Dig W64 la := by rw [Hla.out]; exact dig_upper a
        have hdb : Dig W64 lb := by rw [Hlb.out]; exact dig_upper b
        have hk1 : k - 1 + 1 = k := by omega
        rcases Nat.lt_or_gt_of_ne hxy with h | h
        · have := val_lt_of_digit (la := la) (lb := lb) (k := k - 1) hda (by rw [Hlena.out, Hlenb.out]) (by rw [Hlena.out]; omega) (by rw [hk1]; exact h3) (by rw [← Hx.out, ← Hy.out]; exact h)
          rw [Hla.out, Hlb.out, val_split, val_split] at this
          rw [cmpN_lt h, cmpN_lt (upper_lt this)]
        · have := val_lt_of_digit (la := lb) (lb := la) (k := k - 1) hdb (by rw [Hlena.out, Hlenb.out]) (by rw [Hlenb.out]; omega) (by rw [hk1]; exact h3.symm) (by rw [← Hx.out, ← Hy.out]; exact h)
          rw [Hla.out, Hlb.out, val_split, val_split] at this
          rw [cmpN_gt h, cmpN_gt (upper_lt this)]
--! nat_Cmp = nat_Cmp _ _ SIDE _
theorem nat_Cmp (a b : Nat) (ha : bl a ≤ 1099511627776) (w : World) : Calls Tryz.prog 122 #[natV a, natV b] w fun e w' => e = .returned (.int .i64 (cmpN a b)) ∧ Grow w w' := by
  by_cases h : (upper a).length = (upper b).length
  · exact nat_Cmp_same a b h ha w
  · exact nat_Cmp_len a b h w
end Go.Proofs.YtimjnkfcnpfoeaaGreatDoor

/-
  Nat.Sub.
-/
namespace Go.Proofs.YtimjnkfcnpfoeaaGreatDoor
open Go.RowKit

/-- where a subtraction stands after k rounds -/
def SubI (u wr : World) (A1 A2 : Option Addr) (lx ly : List Nat) (k cy : Nat) : Prop :=
  ∃ zs : List Nat, cy ≤ 1 ∧ zs.length = k ∧ Dig W64 zs ∧ val W64 zs + val W64 (ly.take k) = val W64 (lx.take k) + cy * W64 ^ k ∧ Two u wr A1 A2 (zs ++ lx.drop k) ly
theorem SubI.start {u wr : World} {A1 A2 : Option Addr} {lx ly : List Nat} (h : Two u wr A1 A2 lx ly) : SubI u wr A1 A2 lx ly 0 0 :=
  ⟨[], by omega, rfl, fun x hx => (by cases hx), by simp [val], h⟩
theorem SubI.next {u wr : World} {A2 : Option Addr} {bx : Nat} {lx ly : List Nat} {k cy : Nat} (h : SubI u wr (some ⟨bx, 0, none⟩) A2 lx ly k cy) (hx : Dig W64 lx) (hy : Dig W64 ly) (hk : k < lx.length) :
    SubI u (wr.setCell ⟨bx, k, none⟩ (.int .u64 ((dg lx k + W64 - dg ly k - cy) % W64 : Nat))) (some ⟨bx, 0, none⟩) A2 lx ly (k + 1) (if dg lx k < dg ly k + cy then 1 else 0) := by
  obtain ⟨zs, hcy, hz, hd, he, ho1, ho2, hne⟩ := h
  have hne1 : zs ++ lx.drop k ≠ [] := by
    intro e
    have := congrArg List.length e
    simp at this
    omega
  have h1 := dg_lt W64_pos hx k
  have h2 := dg_lt W64_pos hy k
  have hlist : (zs ++ lx.drop k).set k ((dg lx k + W64 - dg ly k - cy) % W64) = (zs ++ [(dg lx k + W64 - dg ly k - cy) % W64]) ++ lx.drop (k + 1) := by
    rw [List.set_append_right _ _ (by omega), hz, Nat.sub_self, List.drop_eq_getElem_cons hk, List.set_cons_zero, List.append_assoc]
    rfl
  obtain ⟨b1, hb1, e1, hr1⟩ := ho1 hne1
  injection e1 with e1
  injection e1 with e1
  subst e1
  refine ⟨zs ++ [(dg lx k + W64 - dg ly k - cy) % W64], ?_, by simp [hz], ?_, sub_step hcy h1 h2 hz he, ?_, ?_, ?_⟩
  · split <;> omega
  · intro x hxm
    rcases List.mem_append.1 hxm with h | h
    · exact hd x h
    · simp only [List.mem_cons, List.not_mem_nil, or_false] at h
      rw [h]
      exact Nat.mod_lt _ W64_pos
  · intro _
    refine ⟨bx, hb1, rfl, ?_⟩
    rw [← hlist]
    exact hr1.set k _
  · intro hn2
    obtain ⟨b2, hb2, e2, hr2⟩ := ho2 hn2
    refine ⟨b2, hb2, e2, hr2.far ?_ _⟩
    intro e
    refine hne hne1 hn2 ?_
    rw [e2, e]
  · intro _ hn2
    exact hne hne1 hn2
theorem SubI.cell1 {u wr : World} {bx : Nat} {A2 : Option Addr} {lx ly : List Nat} {k cy : Nat} (h : SubI u wr (some ⟨bx, 0, none⟩) A2 lx ly k cy) (hk : k < lx.length) :
    wr.cell? ⟨bx, k, none⟩ = some (.int .u64 (dg lx k : Nat)) ∧ wr.frozen? ⟨bx, k, none⟩ = false ∧ u.heap.size ≤ bx := by
  obtain ⟨zs, hcy, hz, hd, he, ho1, ho2, hne⟩ := h
  obtain ⟨b1, hb1, e1, hr1⟩ := ho1 (by
    intro e
    have := congrArg List.length e
    simp at this
    omega)
  injection e1 with e1
  injection e1 with e1
  subst e1
  refine ⟨?_, hr1.frozen k, hb1⟩
  rw [hr1.cell, List.getElem?_append_right (by omega), hz, Nat.sub_self, List.getElem?_drop, Nat.add_zero, List.getElem?_eq_getElem hk, dg_eq hk]
  rfl
theorem SubI.cell2 {u wr : World} {A1 A2 : Option Addr} {lx ly : List Nat} {k cy : Nat} (h : SubI u wr A1 A2 lx ly k cy) (hk : k < ly.length) :
    ∃ b2, A2 = some ⟨b2, 0, none⟩ ∧ wr.cell? ⟨b2, k, none⟩ = some (.int .u64 (dg ly k : Nat)) := by
  obtain ⟨zs, hcy, hz, hd, he, ho1, ho2, hne⟩ := h
  obtain ⟨b2, hb2, e2, hr2⟩ := ho2 (by rintro rfl; simp at hk)
  refine ⟨b2, e2, ?_⟩
  rw [hr2.cell, List.getElem?_eq_getElem hk, dg_eq hk]
  rfl
theorem SubI.addr {u wr : World} {A1 A2 : Option Addr} {lx ly : List Nat} {k cy : Nat} (h : SubI u wr A1 A2 lx ly k cy) (hk : 0 < lx.length) : ∃ bx, A1 = some ⟨bx, 0, none⟩ := by
  obtain ⟨zs, hcy, hz, hd, he, ho1, ho2, hne⟩ := h
  obtain ⟨b1, hb1, e1, hr1⟩ := ho1 (by
    intro e
    have := congrArg List.length e
    rw [List.length_append, hz, List.length_drop, List.length_nil] at this
    omega)
  exact ⟨b1, e1⟩
/-- its end: the row, and what it stands for -/
theorem SubI.done {u wr : World} {A1 A2 : Option Addr} {lx ly : List Nat} {k cy : Nat} (h : SubI u wr A1 A2 lx ly k cy) (hk : k = lx.length) (hly : ly.length ≤ lx.length) :
    ∃ zs, zs.length = k ∧ cy ≤ 1 ∧ Dig W64 zs ∧ val W64 zs + val W64 ly = val W64 lx + cy * W64 ^ k ∧ Own u wr A1 zs := by
  obtain ⟨zs, hcy, hz, hd, he, ho1, ho2, hne⟩ := h
  rw [List.drop_of_length_le (by omega), List.append_nil] at ho1
  rw [val_take_over _ _ _ (by omega), val_take_over _ _ _ (by omega)] at he
  exact ⟨zs, hz, hcy, hd, he, ho1⟩

set_option maxHeartbeats 2000000 in
set_option maxRecDepth 100000 in
theorem nat_Sub_big (a b : Nat) (ha : bl a ≤ 1099511627776) (hb : bl b ≤ 1099511627776) (hs : ¬ a < W64) (hba : b ≤ a) (w : World) : Calls Tryz.prog 121 #[natV a, natV b] w fun e w' => e = .returned (.tuple #[natV (a - b), .bool true]) ∧ Grow w w' := by
  have hE : (natMo a).toList.isEmpty = false := by rw [natMo_isEmpty]; simpa using hs
  have hcmp : ∀ W : World, Calls Tryz.prog 122 #[natV a, natV b] W fun e w' => e = .returned (.int .i64 (cmpN a b)) ∧ Grow W w' := fun W => nat_Cmp a b ha W
  have hcz : 0 ≤ cmpN a b := by unfold cmpN; split <;> (try split) <;> omega
  have Hcmp := Lib.hid hcmp
  clear hcmp
  obtain ⟨la, hla⟩ : ∃ la, la = digs W64 a := ⟨_, rfl⟩
  obtain ⟨lb, hlb⟩ : ∃ lb, lb = digs W64 b := ⟨_, rfl⟩
  obtain ⟨n1, hn1⟩ : ∃ n, n = la.length := ⟨_, rfl⟩
  obtain ⟨n2, hn2⟩ : ∃ n, n = lb.length := ⟨_, rfl⟩
  have hwa : ∀ W : World, Calls Tryz.prog 130 #[natV a] W fun e w' => ∃ A, e = .returned (.slice A n1 n1) ∧ Own W w' A la ∧ Grow W w' := by
    intro W; rw [hn1, hla]; exact nat_words a ha W
  have hwb : ∀ W : World, Calls Tryz.prog 130 #[natV b] W fun e w' => ∃ A, e = .returned (.slice A n2 n2) ∧ Own W w' A lb ∧ Grow W w' := by
    intro W; rw [hn2, hlb]; exact nat_words b hb W
  have hm1 : n1 ≤ 17179869184 := by rw [hn1, hla]; exact digs_len (by omega)
  have hm2 : n2 ≤ 17179869184 := by rw [hn2, hlb]; exact digs_len (by omega)
  have Hwa := Lib.hid hwa
  have Hwb := Lib.hid hwb
  have hn21 : n2 ≤ n1 := by rw [hn1, hn2, hla, hlb]; exact digs_length_le W64_ge (by have h1 := val_lt (dig_digs W64_ge a); rw [val_digs W64_ge] at h1; omega)
  have Hda : Hid (Dig W64 la) := by rw [hla]; exact Lib.hid (dig_digs W64_ge a)
  have Hdb : Hid (Dig W64 lb) := by rw [hlb]; exact Lib.hid (dig_digs W64_ge b)
  have Hla := Lib.hid hla
  have Hlb := Lib.hid hlb
  have Hn1 := Lib.hid hn1
  have Hn2 := Lib.hid hn2
  clear hwa hwb hla hlb hn1 hn2 ha hb hs
  go_enter Tryz.func121, Tryz.ntmps121
  refine wp_seq (Code.wp_mono NoP.up (wp_region_lit ?_))
  go_wp2_with fail
  generalize hu : World.alloc (World.alloc (World.alloc w _) _) _ = u
  obtain ⟨hB, hG⟩ := bx_first [(_, _), (_, _), (_, _)] w u hu
  have hF := fr_first w [(28, #[]), (28, #[]), (28, #[])]
  simp only [numbered, List.map_cons, List.map_nil] at hB hF
  clear hu
  generalize w.heap.size + 1 + 1 = b4 at hB hF ⊢
  generalize w.heap.size + 1 = b3 at hB hF ⊢
  generalize w.heap.size = b2 at hB hF ⊢
  refine NoP.norm (then_norm ?_)
  have r := hB.r
  simp only [BxR] at r
  go_wp2_with fail
  refine (Hcmp.out _).mono ?_
  rintro e u1 ⟨rfl, hgc⟩
  replace hB := hB.grow hgc
  replace hG := hG.trans hgc
  clear r hgc u
  have r := hB.r
  simp only [BxR] at r
  go_wp2_with fail
  clear r
  obtain ⟨u, rfl⟩ : ∃ x, x = u1 := ⟨_, rfl⟩
  refine wp_region_bx (w := w) allocs 5 [(0, 0), (0, 2), (1, 1), (1, 3), (0, 4)] (by kernel_rfl) (by kernel_rfl) hB hG ?_
  simp only [pickOps, List.getElem?_toArray, List.getElem?_cons_zero, List.getElem?_cons_succ]
  (apply gy
   · exact rfl
   · (rintro v ⟨-, hB, -⟩ N hN; have r := hB.r; simp only [BxR] at r; go_simp; exact hN))
  (apply gy
   · exact rfl
   · (rintro v ⟨-, hB, -⟩ N hN; have r := hB.r; simp only [BxR] at r; go_simp; exact hN))
  refine gx (Option Addr) (fun A => .slice A n1 n1) (fun A v => Own u v A la) (fun A v v' hg h => h.grow hg) rfl ?_ (fun A1 => ?_)
  · rintro v ⟨hgu, -, -⟩ N hN
    go_simp
    ((with_reducible refine (Hwa.out _).mono ?_); rintro e w1 ⟨A, rfl, hown, hg⟩; exact ⟨_, rfl, hN A w1 (hown.since hgu) hg⟩)
  refine gx (Option Addr) (fun A => .slice A n2 n2) (fun A v => Own u v A lb ∧ (la ≠ [] → lb ≠ [] → A1 ≠ A)) (fun A v v' hg h => ⟨h.1.grow hg, h.2⟩) rfl ?_ (fun A2 => ?_)
  · rintro v ⟨⟨hgu, -, -⟩, ho1⟩ N hN
    go_simp
    ((with_reducible refine (Hwb.out _).mono ?_); rintro e w1 ⟨A, rfl, hown, hg⟩; exact ⟨_, rfl, hN A w1 ⟨hown.since hgu, fun h1 h2 => ho1.ne hown h1 h2⟩ hg⟩)
  (apply gy
   · exact rfl
   · (rintro v - N hN; go_simp; exact hN))
  refine gend ?_
  rintro v ⟨⟨⟨hgu, hB1, hG1⟩, ho1⟩, ho2, hne⟩
  have hTwo : Two u v A1 A2 la lb := ⟨ho1, ho2, hne⟩
  have hq2 := hB.head.lt
  have hq3 := hB.tail.head.lt
  have hq4 := hB.tail.tail.head.lt
  have hwu := hG.size
  clear ho1 ho2 hne hB hG
  have HTwo := Lib.hid hTwo
  clear hTwo
  simp only [List.drop_succ_cons, List.drop_zero]
  go_wp2_with fail
  refine NoP.norm ?_
  go_wp2_with fail
  go_loopw [8, 31] (fun c i wr => ∃ k cy : Nat, k ≤ n1 ∧ i = .int .i64 k ∧ c = .int .u64 cy ∧ SubI u wr A1 A2 la lb k cy ∧ Bx wr [(b2, 28, #[.int .u64 (natLo a), .string (natMo a)]), (b3, 28, #[.int .u64 (natLo b), .string (natMo b)]), (b4, 28, #[.int .u64 0, .string ⟨#[]⟩])] ∧ Grow w wr ∧ u.heap.size ≤ wr.heap.size) (fun _ i _ => n1 - (intOf i).toNat)
  case atStart => exact ⟨0, 0, by omega, rfl, rfl, SubI.start HTwo.out, hB1, hG1, hgu.size⟩
  case round =>
    obtain ⟨k, cy, hk, rfl, rfl, hI, hB, hG, hus⟩ := hrel
    have HI := Lib.hid hI
    have HB := Lib.hid hB
    have HG := Lib.hid hG
    have hcy : cy ≤ 1 := by obtain ⟨zs, h, _⟩ := HI.out; exact h
    clear hI hB hG
    rcases Nat.lt_or_ge k n1 with hkl | hkg
    · have hkl' : k < la.length := by rw [← Hn1.out]; exact hkl
      obtain ⟨bx, rfl⟩ := HI.out.addr (by omega)
      obtain ⟨hc1, hf1, hbx⟩ := HI.out.cell1 hkl'
      have Hnext := Lib.hid (HI.out.next Hda.out Hdb.out hkl')
      obtain ⟨x, hx⟩ : ∃ x, x = dg la k := ⟨_, rfl⟩
      obtain ⟨o, ho⟩ : ∃ o, o = dg lb k := ⟨_, rfl⟩
      rw [← hx] at hc1 Hnext
      rw [← ho] at Hnext
      obtain ⟨sm, hsm⟩ : ∃ sm, sm = (x + W64 - o - cy) % W64 := ⟨_, rfl⟩
      obtain ⟨t, ht⟩ : ∃ t, t = (if x < o + cy then 1 else 0) := ⟨_, rfl⟩
      rw [← hsm, ← ht] at Hnext
      have hBn : ∀ sv, Bx (wr.setCell ⟨bx, k, none⟩ sv) [(b2, 28, #[.int .u64 (natLo a), .string (natMo a)]), (b3, 28, #[.int .u64 (natLo b), .string (natMo b)]), (b4, 28, #[.int .u64 0, .string ⟨#[]⟩])] := fun sv => HB.out.far_ (p := ⟨bx, k, none⟩) (by show ∀ e ∈ _, _ ≠ bx; simp; omega) sv
      have HBn := Lib.hid hBn
      have Hx := Lib.hid hx
      have Ho := Lib.hid ho
      clear hx ho hBn
      by_cases hky : k < n2
      · obtain ⟨by_, rfl, hc2⟩ := HI.out.cell2 (by rw [← Hn2.out]; exact hky)
        rw [← Ho.out] at hc2
        have hadd := run_Sub64' x o cy hcy (x : Int) (o : Int) (cy : Int) rfl rfl rfl
        rw [show (x + 18446744073709551616 - o - cy) % 18446744073709551616 = sm from hsm.symm, show (if x < o + cy then 1 else 0) = t from ht.symm] at hadd
        clear hsm ht
        go_wp2
        go_roundw
        case rel => exact ⟨k + 1, t, by omega, by go_num, rfl, Hnext.out, HBn.out _, HG.out.setCell (p := ⟨bx, k, none⟩) (by show _ ≤ bx; omega) _, by simpa [World.setCell] using hus⟩
        case measure => simp [intOf]; omega
      · have hz : o = 0 := by rw [Ho.out]; exact dg_over (by rw [← Hn2.out]; omega)
        have hadd := run_Sub64' x o cy hcy (x : Int) 0 (cy : Int) rfl (by rw [hz]; rfl) rfl
        rw [show (x + 18446744073709551616 - o - cy) % 18446744073709551616 = sm from hsm.symm, show (if x < o + cy then 1 else 0) = t from ht.symm] at hadd
        clear hsm ht hz
        go_wp2
        go_roundw
        case rel => exact ⟨k + 1, t, by omega, by go_num, rfl, Hnext.out, HBn.out _, HG.out.setCell (p := ⟨bx, k, none⟩) (by show _ ≤ bx; omega) _, by simpa [World.setCell] using hus⟩
        case measure => simp [intOf]; omega
    · obtain rfl : n1 = k := by omega
      obtain ⟨zs, hz, _, hd, hval, hown⟩ := HI.out.done Hn1.out (by rw [← Hn1.out, ← Hn2.out]; omega)
      have hcy0 : cy = 0 := by
        have h1 := val_lt hd
        rw [hz] at h1
        rcases Nat.eq_zero_or_pos cy with h | h
        · exact h
        · exfalso
          obtain rfl : cy = 1 := by omega
          rw [Hla.out, Hlb.out, val_digs W64_ge, val_digs W64_ge] at hval
          omega
      subst hcy0
      have hab : val W64 zs = a - b := by
        rw [Hla.out, Hlb.out, val_digs W64_ge, val_digs W64_ge] at hval
        omega
      have Hown := Lib.hid hown
      have Hd := Lib.hid hd
      have Hz := Lib.hid hz
      have Hab := Lib.hid hab
      clear hown hd hz hval hab
      have hfw : Calls Tryz.prog 128 #[.slice A1 n1 n1] wr fun e w' => e = .returned (natV (a - b)) ∧ Grow wr w' := by
        have h1 := nat_fromWords A1 zs n1 wr Hown.out.rd Hd.out (by rw [Hz.out]; exact Nat.le_refl _) (by rw [Hz.out]; omega) (by omega)
        rw [Hz.out, Hab.out] at h1
        exact h1
      have Hfw := Lib.hid hfw
      clear hfw
      go_wp2_with (go_at_call 128; ((with_reducible refine Hfw.out.mono ?_); rintro e w1 ⟨rfl, hg⟩; have hbb := (HB.out.grow hg).tail.tail.head; have hc := hbb.cell; have hf := hbb.frozen))
      have h6 := ((hbb.set_ 0 (.int .u64 (natLo (a - b)))).set_ 1 (.string (natMo (a - b)))).cell
      simp only [List.setIfInBounds_toArray, List.set_cons_zero, List.set_cons_succ] at h6
      have hwb4 : w.heap.size ≤ b4 := hF.1 b4 (by simp)
      exact bodyPost_ret (v := .tuple #[natV (a - b), .bool true]) (by simp [results, Tryz.results121, go_sem, h6]) rfl ⟨rfl, ((HG.out.trans hg).setCell (p := ⟨b4, 0, none⟩) hwb4 _).setCell (p := ⟨b4, 1, none⟩) hwb4 _⟩

set_option maxHeartbeats 1000000 in
set_option maxRecDepth 100000 in
/-- b is greater: nothing -/
theorem nat_Sub_no (a b : Nat) (ha : bl a ≤ 1099511627776) (hab : a < b) (w : World) : Calls Tryz.prog 121 #[natV a, natV b] w fun e w' => e = .returned (.tuple #[natV 0, .bool false]) ∧ Grow w w' := by
  have hcmp : ∀ W : World, Calls Tryz.prog 122 #[natV a, natV b] W fun e w' => e = .returned (.int .i64 (-1)) ∧ Grow W w' := by
    intro W
    have := nat_Cmp a b ha W
    rw [cmpN_lt hab] at this
    exact this
  have Hcmp := Lib.hid hcmp
  clear hcmp ha hab
  go_enter Tryz.func121, Tryz.ntmps121
  refine wp_seq (Code.wp_mono NoP.up (wp_region_lit ?_))
  go_wp2_with fail
  generalize hu : World.alloc (World.alloc (World.alloc w _) _) _ = u
  obtain ⟨hB, hG⟩ := bx_first [(_, _), (_, _), (_, _)] w u hu
  have hF := fr_first w [(28, #[]), (28, #[]), (28, #[])]
  simp only [numbered, List.map_cons, List.map_nil] at hB hF
  clear hu
  generalize w.heap.size + 1 + 1 = b4 at hB hF ⊢
  generalize w.heap.size + 1 = b3 at hB hF ⊢
  generalize w.heap.size = b2 at hB hF ⊢
  refine NoP.norm ?_
  refine then_norm ?_
  refine wp_seq ?_
  refine wp_seq ?_
  refine wp_region_bs (w := w) allocs 4 [0, 0, 1, 0] (by kernel_rfl) hB hG ?_
  simp only [List.zip_cons_cons, List.zip_nil_left]
  (apply gy
   · exact rfl
   · (rintro v ⟨-, hB, hG⟩ N hN; have r := hB.r; simp only [BxR] at r; go_simp; exact hN))
  (apply gy
   · exact rfl
   · (rintro v ⟨-, hB, hG⟩ N hN; have r := hB.r; simp only [BxR] at r; go_simp; exact hN))
  (apply gm
   · exact rfl
   · (rintro v - N hN; go_simp; ((with_reducible refine (Hcmp.out _).mono ?_); rintro e w1 ⟨rfl, hb⟩; exact ⟨_, rfl, hN _ hb⟩)))
  (apply gy
   · exact rfl
   · (rintro v - N hN; go_simp; exact hN))
  refine gend ?_
  rintro v ⟨-, hB1, hG1⟩
  clear hB hG
  have hB := hB1
  have hG := hG1
  clear hB1 hG1
  simp only [List.drop_succ_cons, List.drop_nil]
  refine wpList_nil ?_
  refine NoP.norm ?_
  refine then_norm ?_
  refine wp_cond_split rfl ?_ ?_
  · intro ht
    refine wp_seq ?_
    refine wp_region_bs (w := w) allocs 1 [0] (by kernel_rfl) hB hG ?_
    simp only [List.zip_cons_cons, List.zip_nil_left]
    (apply gy
     · exact rfl
     · (rintro v - N hN; go_simp; exact hN))
    refine gend ?_
    rintro v ⟨-, hB1, hG1⟩
    clear hB hG
    have hB := hB1
    have hG := hG1
    clear hB1 hG1
    simp only [List.drop_succ_cons, List.drop_zero]
    have r := hB.r
    simp only [BxR] at r
    go_wp2_with fail
    clear r
    generalize hu0 : World.setCell (World.setCell v _ _) _ _ = u0
    have hBG := hB.over hF hG 2 rfl 0 [_, _] hu0
    clear hB hG hu0
    simp only [List.modify_succ_cons, List.modify_zero_cons, wrAll, List.setIfInBounds_toArray, List.set_cons_zero, List.set_cons_succ, Nat.zero_add] at hBG
    obtain ⟨hB, hG⟩ := hBG
    clear v
    obtain ⟨u, rfl⟩ : ∃ x, x = u0 := ⟨_, rfl⟩
    refine NoP.norm ?_
    refine then_norm ?_
    refine ret_k1 rfl ?_
    intro N hN
    have r := hB.r
    simp only [BxR] at r
    simp only [results, Tryz.results121]
    go_simp
    refine hN _ ?_
    clear hN N r
    exact ⟨rfl, hG⟩
  · intro ht
    cases ht

set_option maxHeartbeats 1000000 in
set_option maxRecDepth 100000 in
theorem nat_Sub_small (a b : Nat) (ha : a < W64) (hba : b ≤ a) (w : World) : Calls Tryz.prog 121 #[natV a, natV b] w fun e w' => e = .returned (.tuple #[natV (a - b), .bool true]) ∧ Grow w w' := by
  have hcmp : ∀ W : World, Calls Tryz.prog 122 #[natV a, natV b] W fun e w' => e = .returned (.int .i64 (cmpN a b)) ∧ Grow W w' := fun W => nat_Cmp a b (Nat.le_trans (bl_small ha) (by omega)) W
  have hcz : 0 ≤ cmpN a b := by unfold cmpN; split <;> (try split) <;> omega
  have hd : decide (cmpN a b < 0) = false := by simpa using hcz
  rw [natV_small ha, natV_small (show b < W64 by omega), natV_small (show a - b < W64 by omega)]
  rw [natV_small ha, natV_small (show b < W64 by omega)] at hcmp
  have Hcmp := Lib.hid hcmp
  have hw1 : IntKind.u64.wrap ((a : Int) - (b : Int)) = ((a - b : Nat) : Int) := by
    unfold W64 at ha
    rw [u64_wrap_id (x := (a : Int) - (b : Int)) (by omega) (by omega)]
    omega
  clear hcmp hcz
  go_enter Tryz.func121, Tryz.ntmps121
  refine wp_seq (Code.wp_mono NoP.up (wp_region_lit ?_))
  go_wp2_with fail
  generalize hu : World.alloc (World.alloc (World.alloc w _) _) _ = u
  obtain ⟨hB, hG⟩ := bx_first [(_, _), (_, _), (_, _)] w u hu
  have hF := fr_first w [(28, #[]), (28, #[]), (28, #[])]
  simp only [numbered, List.map_cons, List.map_nil] at hB hF
  clear hu
  generalize w.heap.size + 1 + 1 = b4 at hB hF ⊢
  generalize w.heap.size + 1 = b3 at hB hF ⊢
  generalize w.heap.size = b2 at hB hF ⊢
  refine NoP.norm ?_
  refine then_norm ?_
  refine wp_seq ?_
  refine wp_seq ?_
  refine wp_region_bs (w := w) allocs 4 [0, 0, 1, 0] (by kernel_rfl) hB hG ?_
  simp only [List.zip_cons_cons, List.zip_nil_left]
  (apply gy
   · exact rfl
   · (rintro v ⟨-, hB, hG⟩ N hN; have r := hB.r; simp only [BxR] at r; go_simp; exact hN))
  (apply gy
   · exact rfl
   · (rintro v ⟨-, hB, hG⟩ N hN; have r := hB.r; simp only [BxR] at r; go_simp; exact hN))
  (apply gm
   · exact rfl
   · (rintro v - N hN; go_simp; ((with_reducible refine (Hcmp.out _).mono ?_); rintro e w1 ⟨rfl, hb⟩; exact ⟨_, rfl, hN _ hb⟩)))
  (apply gy
   · exact rfl
   · (rintro v - N hN; go_simp; exact hN))
  refine gend ?_
  rintro v ⟨-, hB1, hG1⟩
  clear hB hG
  have hB := hB1
  have hG := hG1
  clear hB1 hG1
  simp only [List.drop_succ_cons, List.drop_nil]
  refine wpList_nil ?_
  refine NoP.norm ?_
  refine then_norm ?_
  refine wp_cond_split rfl ?_ ?_
  · intro ht
    cases ht
  · intro ht
    refine wp_skip ?_
    refine then_norm ?_
    refine wp_seq ?_
    refine wp_seq ?_
    refine wp_region_bs (w := w) allocs 3 [0, 0, 0] (by kernel_rfl) hB hG ?_
    simp only [List.zip_cons_cons, List.zip_nil_left]
    (apply gy
     · exact rfl
     · (rintro v - N hN; go_simp; exact hN))
    (apply gy
     · exact rfl
     · (rintro v ⟨-, hB, hG⟩ N hN; have r := hB.r; simp only [BxR] at r; go_simp; exact hN))
    (apply gy
     · exact rfl
     · (rintro v - N hN; go_simp; exact hN))
    refine gend ?_
    rintro v ⟨-, hB1, hG1⟩
    clear hB hG
    have hB := hB1
    have hG := hG1
    clear hB1 hG1
    simp only [List.drop_succ_cons, List.drop_nil]
    refine wpList_nil ?_
    refine NoP.norm ?_
    refine then_norm ?_
    refine wp_cond_split rfl ?_ ?_
    · intro ht
      refine wp_seq ?_
      refine wp_region_bs (w := w) allocs 6 [0, 0, 0, 0, 0, 0] (by kernel_rfl) hB hG ?_
      simp only [List.zip_cons_cons, List.zip_nil_left]
      (apply gy
       · exact rfl
       · (rintro v - N hN; go_simp; exact hN))
      (apply gy
       · exact rfl
       · (rintro v ⟨-, hB, hG⟩ N hN; have r := hB.r; simp only [BxR] at r; go_simp; exact hN))
      (apply gy
       · exact rfl
       · (rintro v - N hN; go_simp; exact hN))
      (apply gy
       · exact rfl
       · (rintro v ⟨-, hB, hG⟩ N hN; have r := hB.r; simp only [BxR] at r; go_simp; exact hN))
      (apply gy
       · exact rfl
       · (rintro v - N hN; go_simp; exact hN))
      (apply gy
       · exact rfl
       · (rintro v - N hN; go_simp; exact hN))
      refine gend ?_
      rintro v ⟨-, hB1, hG1⟩
      clear hB hG
      have hB := hB1
      have hG := hG1
      clear hB1 hG1
      simp only [List.drop_succ_cons, List.drop_zero]
      have r := hB.r
      simp only [BxR] at r
      go_wp2_with fail
      clear r
      generalize hu0 : World.setCell (World.setCell v _ _) _ _ = u0
      have hBG := hB.over hF hG 2 rfl 0 [_, _] hu0
      clear hB hG hu0
      simp only [List.modify_succ_cons, List.modify_zero_cons, wrAll, List.setIfInBounds_toArray, List.set_cons_zero, List.set_cons_succ, Nat.zero_add] at hBG
      obtain ⟨hB, hG⟩ := hBG
      clear v
      obtain ⟨u, rfl⟩ : ∃ x, x = u0 := ⟨_, rfl⟩
      refine NoP.norm ?_
      refine then_norm ?_
      refine ret_k1 rfl ?_
      intro N hN
      have r := hB.r
      simp only [BxR] at r
      simp only [results, Tryz.results121]
      go_simp
      refine hN _ ?_
      clear hN N r
      exact ⟨rfl, hG⟩
    · intro ht
      cases ht

/-- Nat.Sub of a number that is not greater -/
theorem nat_Sub (a b : Nat) (ha : bl a ≤ 1099511627776) (hba : b ≤ a) (w : World) : Calls Tryz.prog 121 #[natV a, natV b] w fun e w' => e = .returned (.tuple #[natV (a - b), .bool true]) ∧ Grow w w' := by
  by_cases hs : a < W64
  · exact nat_Sub_small a b hs hba w
  · exact nat_Sub_big a b ha (Nat.le_trans (bl_mono hba) ha) hs hba w
end Go.Proofs.YtimjnkfcnpfoeaaGreatDoor

/-
  Plain mathematics: products digit by digit.
-/
namespace Go.Proofs.YtimjnkfcnpfoeaaGreatDoor

theorem val_set (B : Nat) : ∀ (l : List Nat) (k y : Nat), k < l.length → val B (l.set k y) + B ^ k * dg l k = val B l + B ^ k * y
  | [], k, _, h => by simp at h
  | x :: l, 0, y, _ => by simp [val, dg]; omega
  | x :: l, k + 1, y, h => by
    have ih := val_set B l k y (by simpa using h)
    have e : dg (x :: l) (k + 1) = dg l k := by simp [dg]
    rw [List.set_cons_succ, val_cons, val_cons, e, Nat.pow_succ]
    have h1 : B * (val B (l.set k y) + B ^ k * dg l k) = B * (val B l + B ^ k * y) := by rw [ih]
    grind
theorem dig_set {B : Nat} {l : List Nat} (h : Dig B l) (k : Nat) {y : Nat} (hy : y < B) : Dig B (l.set k y) := fun x hx => by
  rcases List.mem_or_eq_of_mem_set hx with h1 | h1
  · exact h x h1
  · rw [h1]; exact hy
theorem dg_set_ne (l : List Nat) {k j : Nat} (y : Nat) (h : k ≠ j) : dg (l.set k y) j = dg l j := by
  unfold dg; rw [List.getElem?_set_ne h]
/-- one digit by one digit, a digit and a carry added -/
theorem mul_digit {B x y d c : Nat} (hx : x < B) (hy : y < B) (hd : d < B) (hc : c < B) :
    ((x * y % B + d) % B + c) % B = (x * y + d + c) % B ∧ x * y / B + (x * y % B + d) / B + ((x * y % B + d) % B + c) / B = (x * y + d + c) / B ∧ (x * y + d + c) / B < B := by
  have hB : 0 < B := by omega
  have h1 := Nat.mod_add_div (x * y) B
  have h2 := Nat.mod_add_div (x * y % B + d) B
  have h3 := Nat.mod_add_div ((x * y % B + d) % B + c) B
  obtain ⟨r, hr⟩ : ∃ r, r = ((x * y % B + d) % B + c) % B := ⟨_, rfl⟩
  obtain ⟨q, hq⟩ : ∃ q, q = x * y / B + (x * y % B + d) / B + ((x * y % B + d) % B + c) / B := ⟨_, rfl⟩
  have hrB : r < B := by rw [hr]; exact Nat.mod_lt _ hB
  have ht : x * y + d + c = r + B * q := by
    rw [hq, Nat.mul_add, Nat.mul_add]
    rw [← hr] at h3
    omega
  have hlt : x * y + d + c < B * B := by
    have h5 : x * y ≤ (B - 1) * (B - 1) := Nat.mul_le_mul (by omega) (by omega)
    have h6 : (B - 1) * (B - 1) + 2 * (B - 1) + 1 = B * B := by
      obtain ⟨m, rfl⟩ : ∃ m, B = m + 1 := ⟨B - 1, by omega⟩
      simp only [Nat.add_sub_cancel]
      grind
    omega
  refine ⟨?_, ?_, ?_⟩
  · rw [← hr, ht, Nat.add_mul_mod_self_left, Nat.mod_eq_of_lt hrB]
  · rw [← hq, ht, Nat.add_mul_div_left _ _ hB, Nat.div_eq_of_lt hrB, Nat.zero_add]
  · exact Nat.div_lt_of_lt_mul hlt
/-- one round of the inner loop of a product -/
theorem mul_step {B : Nat} {zs l2 : List Nat} {v0 m i j c : Nat} (hij : i + j < zs.length)
    (h : val B zs + c * B ^ (i + j) = v0 + B ^ i * (m * val B (l2.take j))) :
    val B (zs.set (i + j) ((m * dg l2 j + dg zs (i + j) + c) % B)) + (m * dg l2 j + dg zs (i + j) + c) / B * B ^ (i + j + 1) = v0 + B ^ i * (m * val B (l2.take (j + 1))) := by
  have h1 := val_set B zs (i + j) ((m * dg l2 j + dg zs (i + j) + c) % B) hij
  have h2 := divmod_mul B (B ^ (i + j)) (m * dg l2 j + dg zs (i + j) + c)
  rw [val_take_dg, Nat.pow_succ]
  have h3 : B ^ (i + j) * (m * dg l2 j + dg zs (i + j) + c) = B ^ (i + j) * (m * dg l2 j) + B ^ (i + j) * dg zs (i + j) + c * B ^ (i + j) := by grind
  have h4 : B ^ i * (m * (val B (l2.take j) + B ^ j * dg l2 j)) = B ^ i * (m * val B (l2.take j)) + B ^ (i + j) * (m * dg l2 j) := by rw [Nat.pow_add]; grind
  rw [h4]
  omega
end Go.Proofs.YtimjnkfcnpfoeaaGreatDoor
