/-
  Contracts and laws: ClassB.
-/
import Derived.Test.YtimjnkfcnpfoeaaGreatDoorC45
import Derived.StillTailTactics
set_option linter.unusedSimpArgs false
set_option linter.unusedVariables false
namespace Go.Proofs.YtimjnkfcnpfoeaaGreatDoor
open Go.RowKit
set_option maxHeartbeats 400000 in
theorem ref6_Table_no (A B : Option Addr) (m n c d : Nat) (z : Int) (h : pairedB m n = false) (w : World) :
  Calls Tryz.prog 15 #[.slice A m c, .slice B n d, .int .i64 z] w fun e w' => e = .returned (.tuple #[.slice none 0 0, .int .i64 5]) ∧ Grow w w' := by
 rcases pair_cases h with h1 | ⟨h1, h2⟩
 all_goals
  clear h
  go_enter Tryz.func15, Tryz.ntmps15
  go_wp2_with fail
  go_ret2
  exact ⟨rfl, Grow.refl _⟩
set_option maxHeartbeats 400000 in
theorem ref6_Table_cls (A B : Option Addr) (m c d : Nat) (z : Int) (hm : 0 < m) (h : z < 1 ∨ 12 < z) (w : World) :
  Calls Tryz.prog 15 #[.slice A m c, .slice B m d, .int .i64 z] w fun e w' => e = .returned (.tuple #[.slice none 0 0, .int .i64 1]) ∧ Grow w w' := by
 have hne : ((m : Int) != (m : Int)) = false := by simp
 have hm1 : ((m : Int) == 0) = false := by simp; omega
 by_cases h1 : z < 1
 ·have c1 : decide (z < 1) = true := by simpa using h1
  clear h
  go_enter Tryz.func15, Tryz.ntmps15
  go_wp2_with fail
  go_ret2
  exact ⟨rfl, Grow.refl _⟩
 ·have c1 : decide (z < 1) = false := by simpa using h1
  have c2 : decide (12 < z) = true := by simp; omega
  clear h h1
  go_enter Tryz.func15, Tryz.ntmps15
  go_wp2_with fail
  go_ret2
  exact ⟨rfl, Grow.refl _⟩
theorem Tabd.drew {B0 k : Nat} {l l' : List Int} {r : Nat} {wr : World} (h : Tabd B0 k l l' r wr) : Tabd B0 k l l' r wr.drew := ⟨h.1.grow (Grow.drew _), fun j hj => (h.2 j hj).grow (Grow.drew _)⟩
def tabEnd (w : World) (l l' : List Int) (m k R : Nat) (e : Ending) (w' : World) : Prop :=
 if R < m then e = .returned (.tuple #[.slice none 0 0, .int .i64 1]) ∧ Grow w w' else ∃ B0 : Nat, e = .returned (.tuple #[.slice (some ⟨B0, 0, none⟩) k k, .int .i64 0]) ∧ Lrows w' (some ⟨B0, 0, none⟩) (tabRows B0 k l l' m) ∧ Grow w w'
set_option maxHeartbeats 2000000 in
set_option maxRecDepth 100000 in
theorem ref6_Table_run (A B : Option Addr) (m c d k : Nat) (l l' : List Int) (hl : l.length = m) (hl' : l'.length = m) (hm0 : 0 < m) (hm : m ≤ 1099511627776) (hk1 : 1 ≤ k) (hk2 : k ≤ 12)
  (R : Nat) (hR : R ≤ m) (hr : ∀ i, i < R → (0 ≤ gi l i ∧ gi l i < k) ∧ 0 ≤ gi l' i ∧ gi l' i < k) (hbad : R < m → gi l R < 0 ∨ (k : Int) ≤ gi l R ∨ gi l' R < 0 ∨ (k : Int) ≤ gi l' R) (w : World) (h1 : Li w A l) (h2 : Li w B l') :
  Calls Tryz.prog 15 #[.slice A m c, .slice B m d, .int .i64 k] w (tabEnd w l l' m k R) := by
 have hne : ((m : Int) != (m : Int)) = false := by simp
 have hm1 : ((m : Int) == 0) = false := by simp; omega
 have H1 := Lib.hid h1
 have H2 := Lib.hid h2
 have Hr := Lib.hid hr
 have Hl := Lib.hid hl
 have Hl' := Lib.hid hl'
 have Hbad := Lib.hid hbad
 have hmk1 := make_Sint k (by omega) (k : Int) rfl
 have hmk2 := make_int k (by omega) (k : Int) rfl
 have hcl1 : decide ((k : Int) < 1) = false := by simp; omega
 have hcl2 : decide (12 < (k : Int)) = false := by simp; omega
 clear h1 h2 hr hl hl' hbad
 go_enter Tryz.func15, Tryz.ntmps15
 go_wp2_with fail
 clear hmk1 hcl1 hcl2
 obtain ⟨B0, hB0⟩ : ∃ b, b = w.heap.size := ⟨_, rfl⟩
 rw [← hB0]
 have hst : Made B0 k 0 (w.alloc (.cells (cellsS (List.replicate k (.slice none 0 0))) 22)) := ⟨by rw [alloc_size, hB0], by rw [hB0]; unfold outTo; exact Blk.new w 22 _, fun j hj => by omega⟩
 have Hst := Lib.hid hst
 have hB : w.heap.size ≤ B0 := Nat.le_of_eq hB0.symm
 clear hst hB0
 go_loopw [9] (fun s wr => ∃ i : Nat, i ≤ k ∧ s = .int .i64 i ∧ Made B0 k i wr ∧ Grow w wr) (fun s _ => k - (intOf s).toNat)
 case atStart => exact ⟨0, Nat.zero_le _, rfl, Hst.out, Grow.alloc _ _⟩
 case round =>
  obtain ⟨i, hi, rfl, hM, hG⟩ := hrel
  have HM := Lib.hid hM
  clear hM
  rcases Nat.lt_or_ge i k with hlt | hge
  ·have hc := HM.out.2.1.cell i
   have hf := HM.out.2.1.frozen i
   have hz := HM.out.1
   rw [cellsS_get, outTo_get B0 k hlt] at hc
   have hBl : B0 < wr.heap.size := by omega
   clear hz
   go_wp2_with fail
   go_roundw
   case rel => exact ⟨i + 1, by omega, by go_num, HM.out.next hlt, (hG.setCell (p := ⟨B0, i, none⟩) hB _).trans (Grow.alloc _ _)⟩
   case measure => simp [intOf]; omega
  ·obtain rfl : i = k := by omega
   have hT : Tabd B0 i l l' 0 wr := ⟨HM.out.2.1, fun j hj => by rw [tabRow_zero]; exact HM.out.2.2 j hj⟩
   have HT := Lib.hid hT
   clear hT
   go_wp2_with fail
   obtain ⟨wo, rfl⟩ : ∃ wo : World, wo = wr := ⟨_, rfl⟩
   go_loopw [10] (fun s wr => ∃ r : Nat, r ≤ R ∧ s = .int .i64 r ∧ Tabd B0 i l l' r wr ∧ Grow w wr) (fun s _ => m - (intOf s).toNat)
   case atStart => exact ⟨0, Nat.zero_le _, rfl, HT.out, hG⟩
   case round =>
    obtain ⟨r, hr, rfl, hT, hG⟩ := hrel
    have HT := Lib.hid hT
    clear hT
    rcases Nat.lt_or_ge r R with hlt | hge
    ·obtain ⟨⟨a1, a2⟩, a3, a4⟩ := Hr.out r hlt
     obtain ⟨b1, o1, rfl, hc1⟩ := (H1.out.grow hG).cell (i := r) (by rw [Hl.out]; omega)
     obtain ⟨b2, o2, rfl, hc2⟩ := (H2.out.grow hG).cell (i := r) (by rw [Hl'.out]; omega)
     obtain ⟨p, hp⟩ : ∃ p : Nat, gi l r = (p : Int) := ⟨(gi l r).toNat, by omega⟩
     obtain ⟨q, hq⟩ : ∃ q : Nat, gi l' r = (q : Int) := ⟨(gi l' r).toNat, by omega⟩
     rw [hp] at hc1 a1 a2
     rw [hq] at hc2 a3 a4
     have hc3 := HT.out.1.cell p
     rw [cellsS_get, outTo_full B0 i (by omega)] at hc3
     have hc4 := (HT.out.2 p (by omega)).cell q
     rw [cellsI_get, tabRow_get l l' r i p (by omega)] at hc4
     have hf4 := (HT.out.2 p (by omega)).frozen q
     simp only [Option.map_some, rowPtr] at hc3 hc4
     have hb := tabAt_le l l' r p q
     have hnx := HT.out.next hp hq (by omega)
     obtain ⟨v, hv⟩ : ∃ v, v = tabAt l l' r p q := ⟨_, rfl⟩
     rw [← hv] at hc4 hb hnx
     have Hnx := Lib.hid hnx
     clear hp hq hnx hv a1 a3
     obtain ⟨hb1, hb2⟩ := hb
     have hpi : p < i := by omega
     have hqi : q < i := by omega
     have c0 : decide (r < m) = true := by simp; omega
     have c2 : decide (i ≤ p) = false := by simp; omega
     have c4 : decide (i ≤ q) = false := by simp; omega
     have fw : IntKind.i64.wrap (v + 1) = v + 1 := IntWalk.i64_in _ (by omega)
     clear a2 a4
     go_wp2_with fail
     go_still_tail 14, (by kernel_rfl)
     go_wp2_with fail
     go_roundw
     case rel => exact ⟨r + 1, by omega, by go_num, Hnx.out.drew, (hG.setCell (p := ⟨B0 + 1 + p, q, none⟩) (by show _ ≤ B0 + 1 + p; omega) _).trans (Grow.drew _)⟩
     case measure => simp [intOf]; omega
    ·obtain rfl : r = R := by omega
     rcases Nat.lt_or_ge r m with hrm | hrm
     ·obtain ⟨b1, o1, rfl, hc1⟩ := (H1.out.grow hG).cell (i := r) (by rw [Hl.out]; exact hrm)
      obtain ⟨b2, o2, rfl, hc2⟩ := (H2.out.grow hG).cell (i := r) (by rw [Hl'.out]; exact hrm)
      have hbad := Hbad.out hrm
      obtain ⟨p, hp⟩ : ∃ p, p = gi l r := ⟨_, rfl⟩
      obtain ⟨q, hq⟩ : ∃ q, q = gi l' r := ⟨_, rfl⟩
      rw [← hp] at hc1 hbad
      rw [← hq] at hc2 hbad
      have c0 : decide (r < m) = true := by simp; omega
      clear hp hq
      have hfin : tabEnd w l l' m i r (.returned (.tuple #[.slice none 0 0, .int .i64 1])) wr := by unfold tabEnd; rw [if_pos hrm]; exact ⟨rfl, hG⟩
      have Hfin := Lib.hid hfin
      clear hfin
      by_cases d1 : p < 0
      ·have c1 : decide (p < 0) = true := by simpa using d1
       clear hbad d1
       go_wp2_with fail
       go_ret2
       exact Hfin.out
      ·have c1 : decide (p < 0) = false := by simpa using d1
       by_cases d2 : (i : Int) ≤ p
       ·have c2 : decide ((i : Int) ≤ p) = true := by simpa using d2
        clear hbad d1 d2
        go_wp2_with fail
        go_ret2
        exact Hfin.out
       ·have c2 : decide ((i : Int) ≤ p) = false := by simpa using d2
        by_cases d3 : q < 0
        ·have c3 : decide (q < 0) = true := by simpa using d3
         clear hbad d1 d2 d3
         go_wp2_with fail
         go_ret2
         exact Hfin.out
        ·have c3 : decide (q < 0) = false := by simpa using d3
         have c4 : decide ((i : Int) ≤ q) = true := by simp; omega
         clear hbad d1 d2 d3
         go_wp2_with fail
         go_ret2
         exact Hfin.out
     ·obtain rfl : r = m := by omega
      have c0 : decide (r < r) = false := by simp
      have hfin : tabEnd w l l' r i r (.returned (.tuple #[.slice (some ⟨B0, 0, none⟩) i i, .int .i64 0])) wr := by unfold tabEnd; rw [if_neg (by omega)]; exact ⟨B0, rfl, HT.out.rows, hG⟩
      have Hfin := Lib.hid hfin
      clear hfin
      go_wp2_with fail
      go_ret2
      exact Hfin.out
end Go.Proofs.YtimjnkfcnpfoeaaGreatDoor
