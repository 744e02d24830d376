/-
  Contracts and laws: Law ClassB RateB ScoreG ClassC ClassD ClassE ClassF ClassG LawB ClassH LawC.
-/
import Derived.Test.YtimjnkfcnpfoeaaGreatDoorU42
import Derived.Test.YtimjnkfcnpfoeaaGreatDoorCards
import Derived.Test.YtimjnkfcnpfoeaaGreatDoorTie
import Derived.WalkKit
import Derived.ProofKit
import Derived.OpenShut
import Derived.Carry
import Derived.ChangeOld
import Derived.ChangeSlices
import Derived.Deep.DeepHandedRow
import Derived.Lib.LaidTab
import Derived.StillTailTactics
import Derived.Deep.Matrix
import Derived.Deep.Grids
set_option linter.unusedSimpArgs false
set_option linter.unusedVariables false
namespace Go.Proofs.YtimjnkfcnpfoeaaGreatDoor
open Go.ChangeShapes Go.WideShapes Go.ChangeAt Go.RowKit
theorem ownK : ownKnob Tryz.prog.godebug = none := by kernel_rfl
theorem laidOutP : laidOutB Tryz.prog = true := by kernel_rfl
theorem cellsT_int : Tryz.prog.cellsOf 3 = 1 := by kernel_rfl
theorem trodAll_below {H : Type} {enc : TypeId × Value → H} {W W' : World} (hb : Below W.heap.size W W') : ∀ {ts : List TypeId} {vs : List Value} {ds : List (DataW H)} {ps : List MemPlace}, (∀ t ∈ ts, Tryz.prog.readableRec t = true ∧ t < Tryz.prog.types.size) → (∀ x ∈ ps, x.block < W.heap.size) →
  DataW.TrodAll enc Tryz.prog W 0 (fun _ => true) true ts vs ds ps → DataW.TrodAll enc Tryz.prog W' 0 (fun b => decide (b < W.heap.size)) true ts vs ds ps
 | [], vs, ds, ps, _, _, h => by
  obtain ⟨rfl, rfl, rfl⟩ := trodAll_nil h
  exact trodAll_mk0
 | t :: ts, vs, ds, ps, ht, hlt, h => by
  obtain ⟨v, vs1, d, ds1, a, b, rfl, rfl, rfl, h1, h2⟩ := trodAll_cons h
  obtain ⟨r1, r2⟩ := ht t (by simp)
  exact ⟨a, b, Below.trod laidOutP r1 r2 h1 hb (fun x hx => hlt x (by simp [hx])), trodAll_below hb (fun t ht' => ht t (by simp [ht'])) (fun x hx => hlt x (by simp [hx])) h2, rfl⟩
/-- what a law owes behind its call -/
theorem law_post {H : Type} {enc : TypeId × Value → H} {f : Func} {s : ChangeSpec} {apart : Bool} {W W' : World} {args : Array Value} {ds gs : List (DataW H)} {before : List MemPlace}
  (hW : DataW.Whole enc Tryz.prog f.params.toList s.vars apart W args.toList ds gs before) (hv : s.vars = []) (hf1 : (s.fn H (ds ++ gs)).results = [.lit (.bool true)]) (hf2 : (s.fn H (ds ++ gs)).args = ds) (hf3 : (s.fn H (ds ++ gs)).vars = []) (hr : f.resultTypes = #[4])
  (hp : ∀ t ∈ f.params.toList, Tryz.prog.readableRec t = true ∧ t < Tryz.prog.types.size) (hb : Below W.heap.size W W') : s.post enc Tryz.prog f apart true false false W args (.bool true) W' := by
 have hlt := hW.lt
 have hW2 := hW
 obtain ⟨p, q, hA, hV, rfl, hz, hn⟩ := hW
 refine ⟨ds, gs, p ++ q, [], p, [], hW2, ?_, ?_, ?_, ?_, fun h => by cases h⟩
 ·rw [hf1, hr]
  exact trodAll_cons_mk (shut_bool Tryz.underlying4 _) trodAll_mk0
 ·rw [hf2]
  exact trodAll_below hb hp (fun x hx => hlt x (by simp [hx])) hA
 ·rw [hf3, hv]
  rfl
 ·exact hb.frame _
set_option maxRecDepth 100000 in
/-- an argument that is a slice of integers -/
theorem arg_ints {H : Type} {enc : TypeId × Value → H} {W : World} {base : Nat} {v : Value} {d : DataW H} {p : List MemPlace} (hval : Value.okWide Tryz.prog W .any base 22 v) (h : DataW.Trod enc Tryz.prog W 0 (fun _ => true) true 22 v d p) :
  ∃ (A : Option Addr) (l : List Int) (c : Nat), v = .slice A l.length c ∧ Li W A l ∧ l.length ≤ 9223372036854775807 ∧ ∀ x ∈ l, -9223372036854775808 ≤ x ∧ x ≤ 9223372036854775807 := by
 obtain ⟨a0, len, cap, rfl⟩ := okWide_slice Tryz.underlying22 hval
 obtain ⟨fuel, hf⟩ := h
 rcases open_ints Tryz.underlying22 Tryz.underlying3 cellsT_int hf with ⟨hcs, hx⟩ | ⟨a, len', cap', zs, hcs, _, hl, hm, hz, hx, hcell, hwz⟩
 ·simp [Value.cells] at hcs
  obtain ⟨rfl, rfl, rfl⟩ := hcs
  exact ⟨none, [], 0, rfl, Li.nil _ _, by simp, fun x hx => by cases hx⟩
 ·simp [Value.cells] at hcs
  obtain ⟨rfl, rfl, rfl⟩ := hcs
  simp only [if_true] at hz
  have hlen : (zs.take len).length = len := by simp; omega
  refine ⟨some a, zs.take len, cap, by rw [hlen], fun hne => ?_, by rw [hlen]; unfold maxLen at hm; omega, fun x hx => bounds_i64 (hwz x (List.mem_of_mem_take hx))⟩
  have h0 : 0 < zs.length := by
   have : 0 < (zs.take len).length := List.length_pos_iff.2 hne
   omega
  obtain ⟨b, off, rfl, hc⟩ := ints_at hcell h0
  have hb : b < W.heap.size := World.block_lt_of_cell? W _ (hc 0 h0)
  refine ⟨b, off, rfl, hb, fun i x hi => ?_⟩
  have hi2 : i < (zs.take len).length := (List.getElem?_eq_some_iff.1 hi).1
  have hi3 : zs[i]? = some x := by
   rw [List.getElem?_take] at hi
   split at hi
   ·exact hi
   ·cases hi
  rw [hc i (by rw [hlen] at hi2; omega)]
  simp [List.getD, hi3]
/-- the table of the program's bits -/
def tab64L : List Int := [0, 1, 56, 2, 57, 49, 28, 3, 61, 58, 42, 50, 38, 29, 17, 4, 62, 47, 59, 36, 45, 43, 51, 22, 53, 39, 33, 30, 24, 18, 12, 5, 63, 55, 48, 27, 60, 41, 37, 16, 46, 35, 44, 21, 52, 32, 23, 11, 54, 26, 40, 15, 34, 20, 31, 10, 25, 14, 19, 9, 13, 8, 7, 6]
theorem tab64_same : ∀ j, j < 64 → tab64L.getD j 0 = ((Lib.deBruijn64tab.getD j 0 : Nat) : Int) := by decide
theorem tab64_type : (Tryz.prog.globals[2]?).map (·.type) = some 241 := by kernel_rfl
theorem tab64_cells : Tryz.prog.cellsOf 241 = 64 := by kernel_rfl
theorem tab64_cell : Tryz.prog.cellsOf 5 = 1 := by kernel_rfl
/-- the row's list gives the table -/
theorem tab_laid {W : World} {name : String} (hg : Tryz.prog.globalNamed name = some 2) (h : laidMetH Tryz.prog [(name, Lib.tabData .u8 tab64L)] W) : Tab W := fun j hj => by
 have h1 := (Lib.tabIs_of_head (rest := []) hg tab64_type Tryz.underlying241 Tryz.underlying5 tab64_cell tab64_cells h).cell hg j (by show j < 64; exact hj)
 rw [tab64_same j hj] at h1
 exact h1
/-- the settled world, the table holding what its initialiser lays -/
noncomputable def laidWorld (os : Os) : World :=
 { World.holding Tryz.prog os ⟨#[], #[], []⟩ with heap := (World.holding Tryz.prog os ⟨#[], #[], []⟩).heap.modify 2 fun
   | .cells _ t frozen => .cells (tab64L.map fun x => Value.int .u8 x).toArray t frozen
   | o => o }
end Go.Proofs.YtimjnkfcnpfoeaaGreatDoor
namespace Go.Proofs.YtimjnkfcnpfoeaaGreatDoor
open Go.RowKit
theorem Tabd.drew {B0 k : Nat} {l l' : List Int} {r : Nat} {wr : World} (h : Tabd B0 k l l' r wr) : Tabd B0 k l l' r wr.drew := ⟨h.1.grow (Grow.drew _), fun j hj => (h.2 j hj).grow (Grow.drew _)⟩
end Go.Proofs.YtimjnkfcnpfoeaaGreatDoor
namespace Go.Proofs.YtimjnkfcnpfoeaaGreatDoor
open Go.RowKit
end Go.Proofs.YtimjnkfcnpfoeaaGreatDoor
namespace Go.Proofs.YtimjnkfcnpfoeaaGreatDoor
open Go.RowKit
abbrev Rq := Option Addr × Nat × List Rat
/-- slices of fractions that lie from the address on -/
def Lrq (u : World) (A : Option Addr) (rs : List Rq) : Prop :=
 rs ≠ [] → ∃ b off, A = some ⟨b, off, none⟩ ∧ b < u.heap.size ∧ ∀ i r, rs[i]? = some r → u.cell? ⟨b, off + i, none⟩ = some (.slice r.1 r.2.2.length r.2.1) ∧ Lq u r.1 r.2.2
theorem Lrq.grow {u u' : World} {A : Option Addr} {rs : List Rq} (h : Lrq u A rs) (hg : Grow u u') : Lrq u' A rs := fun hn => by
 obtain ⟨b, off, e, hb, hc⟩ := h hn
 exact ⟨b, off, e, Nat.lt_of_lt_of_le hb hg.size, fun i r hi => ⟨(hg.cell (p := ⟨b, off + i, none⟩) hb).trans (hc i r hi).1, (hc i r hi).2.grow hg⟩⟩
theorem Lrq.addr {u : World} {A : Option Addr} {rs : List Rq} (h : Lrq u A rs) (hl : 0 < rs.length) : ∃ b off, A = some ⟨b, off, none⟩ := by
 obtain ⟨b, off, e, _⟩ := h (fun h0 => by rw [h0] at hl; cases hl)
 exact ⟨b, off, e⟩
theorem Lrq.read {u : World} {b off : Nat} {rs : List Rq} (h : Lrq u (some ⟨b, off, none⟩) rs) {i : Nat} {r : Rq} (hi : rs[i]? = some r) : u.cell? ⟨b, off + i, none⟩ = some (.slice r.1 r.2.2.length r.2.1) ∧ Lq u r.1 r.2.2 := by
 obtain ⟨b', off', e, _, hc⟩ := h (fun h0 => by rw [h0] at hi; simp at hi)
 cases e
 exact hc i r hi
set_option maxHeartbeats 2000000 in
set_option maxRecDepth 100000 in
theorem score_Brier_arg (A B : Option Addr) (m c d L : Nat) (l : List Int) (rs : List Rq) (hl : l.length = m) (hl' : rs.length = m) (hm : m ≤ 1099511627776) (hrl : ∀ (i : Nat) (r : Rq), rs[i]? = some r → r.2.2.length = L) (R : Nat) (hR : R < m) (hgood : ∀ i, i < R → 0 ≤ gi l i ∧ gi l i < L) (hbad : gi l R < 0 ∨ (L : Int) ≤ gi l R)
  (w : World) (h1 : Li w A l) (h2 : Lrq w B rs) :
  Calls Tryz.prog 42 #[.slice A m c, .slice B m d] w fun e w' => e = .returned (.tuple #[qV 0, .int .i64 1]) ∧ Grow w w' := by
 obtain ⟨ba, oa, rfl, -⟩ := h1.cell (i := 0) (by omega)
 obtain ⟨bb, ob, rfl⟩ := h2.addr (by omega)
 have hp : ∀ W, Calls Tryz.prog 105 #[.slice (some ⟨ba, oa, none⟩) m c, .slice (some ⟨bb, ob, none⟩) m d] W fun e w' => e = .returned (.bool true) ∧ Grow W w' := fun W => by
  have := score_paired_iq (some ⟨ba, oa, none⟩) (some ⟨bb, ob, none⟩) m m c d W
  rw [pairedB_yes (by omega)] at this
  exact this
 have hrow : ∀ i, i < m → ∃ (Ar : Option Addr) (cr : Nat), ∀ W, Grow w W → W.cell? ⟨bb, ob + i, none⟩ = some (.slice Ar L cr) := fun i hi => by
  have hil : i < rs.length := by omega
  refine ⟨rs[i].1, rs[i].2.1, fun W hg => ?_⟩
  have h3 := ((h2.grow hg).read (List.getElem?_eq_getElem hil)).1
  rw [hrl i rs[i] (List.getElem?_eq_getElem hil)] at h3
  exact h3
 have hint : ∀ i, i < m → ∀ W, Grow w W → W.cell? ⟨ba, oa + i, none⟩ = some (.int .i64 (gi l i)) := fun i hi W hg => by
  obtain ⟨b', o', e, h3⟩ := (h1.grow hg).cell (i := i) (by omega)
  cases e
  exact h3
 obtain ⟨A0, c0, hrow0⟩ := hrow 0 (by omega)
 have Hp := Lib.hid hp
 have Hrow := Lib.hid hrow
 have Hint := Lib.hid hint
 have Hrow0 := Lib.hid hrow0
 have Hgood := Lib.hid hgood
 have Hbad := Lib.hid hbad
 clear hp hrow hint hrow0 hgood hbad h1 h2 hl hl' hrl
 go_enter Tryz.func42, Tryz.ntmps42
 refine en3 ?_
 intro u hG b4 b3 b2 hB hF
 refine wp_seq ?_
 refine wp_seq (rsE allocs [0, 0, 1, 0] hB hG fun L hL => ?_)
 refine gs ?_
 refine gmw (C := fun v => Hp.out _) ?_
 refine gs ?_
 refine geT hL ?_
 clear hB hG hL L
 rintro u ⟨-, hB, hG, -⟩
 refine wp_cond_false (rfl) ?_
 refine wp_skip ?_
 refine then_norm ?_
 refine wp_seq ?_
 refine r0T ?_
 refine wp_block ?_
 go_loopw [17] (fun s0 wr => ∃ (i : Nat) , i ≤ m ∧ s0 = .int .i64 i ∧ Bx wr [(b2, 22, #[.slice (some ⟨ba, oa, none⟩) m c]), (b3, 81, #[.slice (some ⟨bb, ob, none⟩) m d]), (b4, 32, zCells)] ∧ Grow w wr) (fun s0 _ => m - (intOf s0).toNat)
 case atStart => exact ⟨0, Nat.zero_le _, rfl, hB, hG⟩
 case round =>
  clear hB hG
  obtain ⟨i, hi, rfl, hB, hG⟩ := hrel
  obtain ⟨u, rfl⟩ : ∃ x, x = wr := ⟨_, rfl⟩
  rcases Nat.lt_or_ge i m with hlt0 | hge0
  ·have hdec : decide ((i : Int) < (m : Int)) = true := by simp; omega
   obtain ⟨Ar, cr, hrw⟩ := Hrow.out i hlt0
   have Hrw := Lib.hid hrw
   have hne : ((L : Int) != (L : Int)) = false := by simp
   clear hrw
   refine r0T ?_
   refine wp_seq ?_
   refine wp_cond_true (rfl) ?_
   refine wp_skip ?_
   refine then_norm ?_
   refine wp_seq ?_
   refine wp_block ?_
   refine wp_seq ?_
   have g1 := Hrw.out u hG
   refine r0N ?_
   clear g1
   refine wp_seq ?_
   have g0 := Hrow0.out u hG
   rw [Nat.add_zero] at g0
   refine r0N ?_
   clear g0
   refine wp_cond_false (rfl) ?_
   refine wp_skip ?_
   refine blk_norm ?_
   refine then_norm ?_
   refine r0E ?_
   refine then_norm ?_
   go_roundw
   case rel => exact ⟨i + 1, by omega, by go_num, hB, hG⟩
   case measure => simp [intOf]; try omega
  ·obtain rfl : m = i := by omega
   have hdec : decide ((m : Int) < (m : Int)) = false := by simp
   skip
   refine r0T ?_
   refine wp_seq ?_
   refine wp_cond_false (rfl) ?_
   refine wp_exit ?_
   refine then_exit ?_
   refine then_exit ?_
   refine blk_exit ?_
   refine then_norm ?_
   refine wp_seq ?_
   refine r0T ?_
   refine wp_block ?_
   go_loopw [32] (fun s0 wr => ∃ j : Nat, j ≤ R ∧ s0 = .int .i64 j ∧ Bx wr [(b2, 22, #[.slice (some ⟨ba, oa, none⟩) m c]), (b3, 81, #[.slice (some ⟨bb, ob, none⟩) m d]), (b4, 32, zCells)] ∧ Grow w wr) (fun s0 _ => m - (intOf s0).toNat)
   case atStart => exact ⟨0, Nat.zero_le _, rfl, hB, hG⟩
   case round =>
    clear hB hG
    obtain ⟨j, hj, rfl, hB, hG⟩ := hrel
    obtain ⟨u, rfl⟩ : ∃ x, x = wr := ⟨_, rfl⟩
    have hjm : j < m := by omega
    have hdj : decide ((j : Int) < (m : Int)) = true := by simp; omega
    have hit := Hint.out j hjm
    rcases Nat.lt_or_ge j R with hlt1 | hge1
    ·have hgd := Hgood.out j hlt1
     obtain ⟨z, hz⟩ : ∃ z, z = gi l j := ⟨_, rfl⟩
     rw [← hz] at hgd
     simp only [← hz] at hit
     obtain ⟨hg1, hg2⟩ := hgd
     have Hit := Lib.hid hit
     have c1 : decide (z < 0) = false := by simp; omega
     have c2 : decide ((L : Int) ≤ z) = false := by simp; omega
     clear hit hz
     refine r0T ?_
     refine wp_seq ?_
     refine wp_cond_true (rfl) ?_
     refine wp_skip ?_
     refine then_norm ?_
     refine wp_seq ?_
     refine wp_block ?_
     refine wp_seq ?_
     have g1 := Hit.out u hG
     refine r0N ?_
     clear g1
     refine wp_seq ?_
     have g0 := Hrow0.out u hG
     rw [Nat.add_zero] at g0
     refine r0N ?_
     clear g0
     refine wp_cond_false (rfl) ?_
     refine wp_skip ?_
     refine blk_norm ?_
     refine then_norm ?_
     refine r0E ?_
     refine then_norm ?_
     go_roundw
     case rel => exact ⟨j + 1, by omega, by go_num, hB, hG⟩
     case measure => simp [intOf]; omega
    ·obtain rfl : R = j := by omega
     have hbd := Hbad.out
     obtain ⟨z, hz⟩ : ∃ z, z = gi l R := ⟨_, rfl⟩
     rw [← hz] at hbd
     simp only [← hz] at hit
     have Hit := Lib.hid hit
     clear hit hz
     by_cases hneg : z < 0
     ·have c1 : decide (z < 0) = true := by simpa using hneg
      refine r0T ?_
      refine wp_seq ?_
      refine wp_cond_true (rfl) ?_
      refine wp_skip ?_
      refine then_norm ?_
      refine wp_seq ?_
      refine wp_block ?_
      refine wp_seq ?_
      have g1 := Hit.out u hG
      refine r0N ?_
      clear g1
      refine wp_seq ?_
      have g0 := Hrow0.out u hG
      rw [Nat.add_zero] at g0
      refine r0N ?_
      clear g0
      refine wp_cond_true (rfl) ?_
      refine r0T ?_
      refine st hB hF hG 2 0 [_, _, _, _, _] ?_
      clear hB hG
      intro u hB hG
      refine rt Tryz.results42 ?_
      exact ⟨rfl, hG⟩
     ·have c1 : decide (z < 0) = false := by simpa using hneg
      have c2 : decide ((L : Int) ≤ z) = true := by simp; omega
      clear hneg
      refine r0T ?_
      refine wp_seq ?_
      refine wp_cond_true (rfl) ?_
      refine wp_skip ?_
      refine then_norm ?_
      refine wp_seq ?_
      refine wp_block ?_
      refine wp_seq ?_
      have g1 := Hit.out u hG
      refine r0N ?_
      clear g1
      refine wp_seq ?_
      have g0 := Hrow0.out u hG
      rw [Nat.add_zero] at g0
      refine r0N ?_
      clear g0
      refine wp_cond_true (rfl) ?_
      refine r0T ?_
      refine st hB hF hG 2 0 [_, _, _, _, _] ?_
      clear hB hG
      intro u hB hG
      refine rt Tryz.results42 ?_
      exact ⟨rfl, hG⟩
end Go.Proofs.YtimjnkfcnpfoeaaGreatDoor
namespace Go.Proofs.YtimjnkfcnpfoeaaGreatDoor
open Go.RowKit
end Go.Proofs.YtimjnkfcnpfoeaaGreatDoor
namespace Go.Proofs.YtimjnkfcnpfoeaaGreatDoor
open Go.RowKit
end Go.Proofs.YtimjnkfcnpfoeaaGreatDoor
namespace Go.Proofs.YtimjnkfcnpfoeaaGreatDoor
open Go.RowKit
abbrev Zr3 := (Az × Az × Az) × R3
def AllZ3 (u : World) (ps : List Zr3) : Prop := ∀ r ∈ ps, Rz u r.1.1 r.2.1 ∧ Rz u r.1.2.1 r.2.2.1 ∧ Rz u r.1.2.2 r.2.2.2
theorem AllZ3.nil (u : World) : AllZ3 u [] := fun _ h => by cases h
theorem AllZ3.grow {u u' : World} {ps : List Zr3} (h : AllZ3 u ps) (hg : Grow u u') : AllZ3 u' ps := fun r hr => ⟨(h r hr).1.grow hg, (h r hr).2.1.grow hg, (h r hr).2.2.grow hg⟩
theorem AllZ3.own {u w' : World} {B : Nat} {e : TypeId} {size n : Nat} {v : Value} {xs : List Value} {o : Obj} {ps : List Zr3} (hl : AllZ3 u ps) (h : u.ownsRow B e size v n xs) (ht : e ≠ 157) (hg : (u.alloc o).grownBy w' v.ownBlock) : AllZ3 w' ps := fun r hr => ⟨(hl r hr).1.own h ht hg, (hl r hr).2.1.own h ht hg, (hl r hr).2.2.own h ht hg⟩
theorem AllZ3.snoc {u : World} {ps : List Zr3} (h : AllZ3 u ps) {p1 p2 p3 : Az} {q1 q2 q3 : Rat} (h1 : Rz u p1 q1) (h2 : Rz u p2 q2) (h3 : Rz u p3 q3) : AllZ3 u (ps ++ [((p1, p2, p3), (q1, q2, q3))]) := fun r hr => by
 rcases List.mem_append.1 hr with hr | hr
 ·exact h r hr
 ·have : r = ((p1, p2, p3), (q1, q2, q3)) := by simpa using hr
  subst this
  exact ⟨h1, h2, h3⟩
/-- rates of the document's that lie from the address on -/
def Lz3 (u : World) (A : Option Addr) (l : List R3) : Prop :=
 l ≠ [] → ∃ b off, A = some ⟨b, off, none⟩ ∧ b < u.heap.size ∧ ∀ i r, l[i]? = some r → ∃ p1 p2 p3 : Az, (Rz u p1 r.1 ∧ Rz u p2 r.2.1 ∧ Rz u p3 r.2.2) ∧ Cz u b (off + i * 9) p1 r.1 ∧ Cz u b (off + i * 9 + 3) p2 r.2.1 ∧ Cz u b (off + i * 9 + 6) p3 r.2.2
theorem Lz3.nil (u : World) (A : Option Addr) : Lz3 u A [] := fun h => absurd rfl h
theorem Lz3.grow {u u' : World} {A : Option Addr} {l : List R3} (h : Lz3 u A l) (hg : Grow u u') : Lz3 u' A l := fun hn => by
 obtain ⟨b, off, e, hb, hc⟩ := h hn
 refine ⟨b, off, e, Nat.lt_of_lt_of_le hb hg.size, fun i r hi => ?_⟩
 obtain ⟨p1, p2, p3, ⟨a1, a2, a3⟩, c1, c2, c3⟩ := hc i r hi
 exact ⟨p1, p2, p3, ⟨a1.grow hg, a2.grow hg, a3.grow hg⟩, c1.grow hb hg, c2.grow hb hg, c3.grow hb hg⟩
end Go.Proofs.YtimjnkfcnpfoeaaGreatDoor
namespace Go.Proofs.YtimjnkfcnpfoeaaGreatDoor
open Go.RowKit
open Classical in
/-- the first number of a list that is bad -/
theorem first_bad (p : Nat → Prop) : ∀ n, (∀ i, i < n → p i) ∨ ∃ R, R < n ∧ (∀ i, i < R → p i) ∧ ¬ p R
 | 0 => .inl fun i hi => by omega
 | n + 1 => by
  rcases first_bad p n with h | ⟨R, hR, h1, h2⟩
  ·by_cases hp : p n
   ·exact .inl fun i hi => by
     rcases Nat.lt_or_eq_of_le (Nat.le_of_lt_succ hi) with h' | h'
     ·exact h i h'
     ·exact h' ▸ hp
   ·exact .inr ⟨n, by omega, h, hp⟩
  ·exact .inr ⟨R, by omega, h1, h2⟩
/-- rates of the program's that lie from the address on -/
def Lr3 (u : World) (A : Option Addr) (l : List R3) : Prop :=
 l ≠ [] → ∃ b off, A = some ⟨b, off, none⟩ ∧ b < u.heap.size ∧ ∀ i r, l[i]? = some r → Cq u b (off + i * 15) r.1 ∧ Cq u b (off + i * 15 + 5) r.2.1 ∧ Cq u b (off + i * 15 + 10) r.2.2
theorem Cq.grow {u u' : World} {b o : Nat} {q : Rat} (h : Cq u b o q) (hb : b < u.heap.size) (hg : Grow u u') : Cq u' b o q :=
 ⟨(hg.cell (p := ⟨b, o, none⟩) hb).trans h.1, (hg.cell (p := ⟨b, o + 1, none⟩) hb).trans h.2.1, (hg.cell (p := ⟨b, o + 2, none⟩) hb).trans h.2.2.1, (hg.cell (p := ⟨b, o + 3, none⟩) hb).trans h.2.2.2.1, (hg.cell (p := ⟨b, o + 4, none⟩) hb).trans h.2.2.2.2⟩
theorem Lr3.nil (u : World) (A : Option Addr) : Lr3 u A [] := fun h => absurd rfl h
theorem Lr3.grow {u u' : World} {A : Option Addr} {l : List R3} (h : Lr3 u A l) (hg : Grow u u') : Lr3 u' A l := fun hn => by
 obtain ⟨b, off, e, hb, hc⟩ := h hn
 exact ⟨b, off, e, Nat.lt_of_lt_of_le hb hg.size, fun i r hi => ⟨(hc i r hi).1.grow hb hg, (hc i r hi).2.1.grow hb hg, (hc i r hi).2.2.grow hb hg⟩⟩
end Go.Proofs.YtimjnkfcnpfoeaaGreatDoor
namespace Go.Proofs.YtimjnkfcnpfoeaaGreatDoor
open Go.RowKit
theorem Lr3.read {u : World} {A : Option Addr} {l : List R3} {i : Nat} {r1 r2 r3 : Rat} (h : Lr3 u A l) (hi : l[i]? = some (r1, r2, r3)) : ∃ b o, A = some ⟨b, o, none⟩ ∧ ∀ W, Grow u W →
  (W.cell? ⟨b, o + i * 15, none⟩ = some (.bool (intNeg r1.num)) ∧ W.cell? ⟨b, o + i * 15 + 1, none⟩ = some (.int .u64 (natLo r1.num.natAbs)) ∧ W.cell? ⟨b, o + i * 15 + 2, none⟩ = some (.string (natMo r1.num.natAbs)) ∧ W.cell? ⟨b, o + i * 15 + 3, none⟩ = some (.int .u64 (natLo (keptDen r1.den))) ∧ W.cell? ⟨b, o + i * 15 + 4, none⟩ = some (.string (natMo (keptDen r1.den)))) ∧
  (W.cell? ⟨b, o + i * 15 + 5, none⟩ = some (.bool (intNeg r2.num)) ∧ W.cell? ⟨b, o + i * 15 + 6, none⟩ = some (.int .u64 (natLo r2.num.natAbs)) ∧ W.cell? ⟨b, o + i * 15 + 7, none⟩ = some (.string (natMo r2.num.natAbs)) ∧ W.cell? ⟨b, o + i * 15 + 8, none⟩ = some (.int .u64 (natLo (keptDen r2.den))) ∧ W.cell? ⟨b, o + i * 15 + 9, none⟩ = some (.string (natMo (keptDen r2.den)))) ∧
  W.cell? ⟨b, o + i * 15 + 10, none⟩ = some (.bool (intNeg r3.num)) ∧ W.cell? ⟨b, o + i * 15 + 11, none⟩ = some (.int .u64 (natLo r3.num.natAbs)) ∧ W.cell? ⟨b, o + i * 15 + 12, none⟩ = some (.string (natMo r3.num.natAbs)) ∧ W.cell? ⟨b, o + i * 15 + 13, none⟩ = some (.int .u64 (natLo (keptDen r3.den))) ∧ W.cell? ⟨b, o + i * 15 + 14, none⟩ = some (.string (natMo (keptDen r3.den))) := by
 obtain ⟨b, off, e, hb, hc⟩ := h (fun h0 => by rw [h0] at hi; simp at hi)
 refine ⟨b, off, e, fun W hg => ?_⟩
 obtain ⟨h1, h2, h3⟩ := hc i _ hi
 exact ⟨h1.grow hb hg, h2.grow hb hg, h3.grow hb hg⟩
theorem Lz3.read {u : World} {A : Option Addr} {l : List R3} {i : Nat} {r1 r2 r3 : Rat} (h : Lz3 u A l) (hi : l[i]? = some (r1, r2, r3)) : ∃ (b o : Nat) (p1 p2 p3 : Az), A = some ⟨b, o, none⟩ ∧ ∀ W, Grow u W → (Rz W p1 r1 ∧ Rz W p2 r2 ∧ Rz W p3 r3) ∧
  (W.cell? ⟨b, o + i * 9, none⟩ = some (.bool (intNeg r1.num)) ∧ W.cell? ⟨b, o + i * 9 + 1, none⟩ = some (.slice p1.1.1 (ln r1.num.natAbs) p1.1.2) ∧ W.cell? ⟨b, o + i * 9 + 2, none⟩ = some (.slice p1.2.1 (ln r1.den) p1.2.2)) ∧
  (W.cell? ⟨b, o + i * 9 + 3, none⟩ = some (.bool (intNeg r2.num)) ∧ W.cell? ⟨b, o + i * 9 + 4, none⟩ = some (.slice p2.1.1 (ln r2.num.natAbs) p2.1.2) ∧ W.cell? ⟨b, o + i * 9 + 5, none⟩ = some (.slice p2.2.1 (ln r2.den) p2.2.2)) ∧
  W.cell? ⟨b, o + i * 9 + 6, none⟩ = some (.bool (intNeg r3.num)) ∧ W.cell? ⟨b, o + i * 9 + 7, none⟩ = some (.slice p3.1.1 (ln r3.num.natAbs) p3.1.2) ∧ W.cell? ⟨b, o + i * 9 + 8, none⟩ = some (.slice p3.2.1 (ln r3.den) p3.2.2) := by
 obtain ⟨b, off, e, hb, hc⟩ := h (fun h0 => by rw [h0] at hi; simp at hi)
 obtain ⟨p1, p2, p3, ⟨a1, a2, a3⟩, h1, h2, h3⟩ := hc i _ hi
 exact ⟨b, off, p1, p2, p3, e, fun W hg => ⟨⟨a1.grow hg, a2.grow hg, a3.grow hg⟩, h1.grow hb hg, h2.grow hb hg, h3.grow hb hg⟩⟩
end Go.Proofs.YtimjnkfcnpfoeaaGreatDoor
namespace Go.Proofs.YtimjnkfcnpfoeaaGreatDoor
open Go.ChangeShapes Go.WideShapes Go.ChangeAt Go.RowKit
end Go.Proofs.YtimjnkfcnpfoeaaGreatDoor
namespace Go.Proofs.YtimjnkfcnpfoeaaGreatDoor
open Go.RowKit
theorem Lrows.at {u : World} {A : Option Addr} {rs : List Rw} {L : List (List Int)} {i : Nat} {l : List Int} (h : Lrows u A rs ∧ rs.map (·.2.2) = L) (hi : L[i]? = some l) : ∃ (b o : Nat) (X : Ax), A = some ⟨b, o, none⟩ ∧ ∀ W, Grow u W → W.cell? ⟨b, o + i, none⟩ = some (.slice X.1 l.length X.2) ∧ Li W X.1 l := by
 obtain ⟨hL, hm⟩ := h
 subst hm
 rw [List.getElem?_map, Option.map_eq_some_iff] at hi
 obtain ⟨r, hr, rfl⟩ := hi
 obtain ⟨b, off, e, _, _⟩ := hL (fun h0 => by rw [h0] at hr; simp at hr)
 refine ⟨b, off, (r.1, r.2.1), e, fun W hg => ?_⟩
 obtain ⟨b', off', e', _, hc⟩ := (hL.grow hg) (fun h0 => by rw [h0] at hr; simp at hr)
 rw [e] at e'
 cases e'
 exact hc i r hr
end Go.Proofs.YtimjnkfcnpfoeaaGreatDoor
namespace Go.Proofs.YtimjnkfcnpfoeaaGreatDoor
open Go.ChangeShapes Go.WideShapes Go.ChangeAt Go.RowKit
theorem cellsT_bool : Tryz.prog.cellsOf 4 = 1 := by kernel_rfl
set_option maxRecDepth 100000 in
theorem arg_bools {H : Type} {enc : TypeId × Value → H} {W : World} {base : Nat} {v : Value} {d : DataW H} {p : List MemPlace} (hval : Value.okWide Tryz.prog W .any base 79 v) (h : DataW.Trod enc Tryz.prog W 0 (fun _ => true) true 79 v d p) :
  ∃ (A : Option Addr) (l : List Bool) (c : Nat), v = .slice A l.length c ∧ Lb W A l ∧ l.length ≤ 9223372036854775807 ∧ l.length ≤ c := by
 obtain ⟨a0, len, cap, rfl⟩ := okWide_slice Tryz.underlying79 hval
 obtain ⟨fuel, hf⟩ := h
 rcases Go.Deep.open_bools Tryz.underlying79 Tryz.underlying4 cellsT_bool hf with ⟨hcs, hx⟩ | ⟨a, len', cap', B, hcs, _, hl, hm, hx, hcell⟩
 ·simp [Value.cells] at hcs
  obtain ⟨rfl, rfl, rfl⟩ := hcs
  exact ⟨none, [], 0, rfl, Lb.nil _ _, by simp, by simp⟩
 ·simp [Value.cells] at hcs
  obtain ⟨rfl, rfl, rfl⟩ := hcs
  have hlen : ((List.range len).map B).length = len := by simp
  refine ⟨some a, (List.range len).map B, cap, by rw [hlen], fun hne => ?_, by rw [hlen]; unfold maxLen at hm; omega, by rw [hlen]; exact hl⟩
  have h0 : 0 < len := by
   have : 0 < ((List.range len).map B).length := List.length_pos_iff.2 hne
   omega
  obtain ⟨b, off, spot⟩ := a
  have hspot : spot = none := by simpa [Addr.add] using World.cell?_spot (hcell 0 (by omega))
  subst hspot
  have hc : ∀ i, i < cap → W.cell? ⟨b, off + i, none⟩ = some (.bool (B i)) := fun i hi => by rw [← Go.WideShapes.add_plain]; exact hcell i hi
  have hb : b < W.heap.size := World.block_lt_of_cell? W _ (hc 0 (by omega))
  refine ⟨b, off, rfl, hb, fun i x hi => ?_⟩
  have hi2 : i < len := by have := (List.getElem?_eq_some_iff.1 hi).1; simpa using this
  rw [List.getElem?_map, List.getElem?_range hi2] at hi
  simp only [Option.map_some, Option.some.injEq] at hi
  rw [hc i (by omega), hi]
set_option maxRecDepth 100000 in
theorem arg_intsC {H : Type} {enc : TypeId × Value → H} {W : World} {base : Nat} {v : Value} {d : DataW H} {p : List MemPlace} (hval : Value.okWide Tryz.prog W .any base 22 v) (h : DataW.Trod enc Tryz.prog W 0 (fun _ => true) true 22 v d p) :
  ∃ (A : Option Addr) (l : List Int) (c : Nat), v = .slice A l.length c ∧ Li W A l ∧ l.length ≤ 9223372036854775807 ∧ (∀ x ∈ l, -9223372036854775808 ≤ x ∧ x ≤ 9223372036854775807) ∧ l.length ≤ c := by
 obtain ⟨a0, len, cap, rfl⟩ := okWide_slice Tryz.underlying22 hval
 obtain ⟨fuel, hf⟩ := h
 rcases open_ints Tryz.underlying22 Tryz.underlying3 cellsT_int hf with ⟨hcs, hx⟩ | ⟨a, len', cap', zs, hcs, _, hl, hm, hz, hx, hcell, hwz⟩
 ·simp [Value.cells] at hcs
  obtain ⟨rfl, rfl, rfl⟩ := hcs
  exact ⟨none, [], 0, rfl, Li.nil _ _, by simp, (fun x hx => by cases hx), by simp⟩
 ·simp [Value.cells] at hcs
  obtain ⟨rfl, rfl, rfl⟩ := hcs
  simp only [if_true] at hz
  have hlen : (zs.take len).length = len := by simp; omega
  refine ⟨some a, zs.take len, cap, by rw [hlen], fun hne => ?_, by rw [hlen]; unfold maxLen at hm; omega, (fun x hx => bounds_i64 (hwz x (List.mem_of_mem_take hx))), by rw [hlen]; exact hl⟩
  have h0 : 0 < zs.length := by
   have : 0 < (zs.take len).length := List.length_pos_iff.2 hne
   omega
  obtain ⟨b, off, rfl, hc⟩ := ints_at hcell h0
  have hb : b < W.heap.size := World.block_lt_of_cell? W _ (hc 0 h0)
  refine ⟨b, off, rfl, hb, fun i x hi => ?_⟩
  have hi2 : i < (zs.take len).length := (List.getElem?_eq_some_iff.1 hi).1
  have hi3 : zs[i]? = some x := by
   rw [List.getElem?_take] at hi
   split at hi
   ·exact hi
   ·cases hi
  rw [hc i (by rw [hlen] at hi2; omega)]
  simp [List.getD, hi3]
end Go.Proofs.YtimjnkfcnpfoeaaGreatDoor
