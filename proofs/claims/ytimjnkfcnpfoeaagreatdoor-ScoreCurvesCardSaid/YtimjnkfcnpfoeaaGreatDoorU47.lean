/-
  Contracts and laws: BrierR.
-/
import Derived.Test.YtimjnkfcnpfoeaaGreatDoorU46
set_option linter.unusedSimpArgs false
set_option linter.unusedVariables false
namespace Go.Proofs.YtimjnkfcnpfoeaaGreatDoor
open Go Go.RowKit
theorem qadd_assoc (a b c : Rat) : qadd (qadd a b) c = qadd a (qadd b c) := by unfold qadd; exact Rat.add_assoc a b c
theorem qadd_zero' (a : Rat) : qadd a 0 = a := by unfold qadd; exact Rat.add_zero a
set_option maxHeartbeats 1000000 in
set_option maxRecDepth 100000 in
theorem ref6_Brier_no (A B : Option Addr) (m n c d : Nat) (h : pairedB m n = false) (w : World) :
  Calls Tryz.prog 56 #[.slice A m c, .slice B n d] w (RetE 0 5 w) := by
 rcases pair_cases h with h1 | ⟨h1, h2⟩
 ·clear h
  go_enter Tryz.func56, Tryz.ntmps56
  refine en1 ?_
  intro u hG b4 hB hF
  refine wp_seq ?_
  refine r0T ?_
  refine wp_cond_true (rfl) ?_
  refine wp_seq (rsC allocs [1] hB hG fun K L hN hL => ?_)
  refine grd (ratR (qint 0)) (fun (x21 : Ax × Ax) => ?_) (C := fun v _ => ref1_Of 0 (by omega) (by omega) _)
  refine geC hL ?_
  clear hB hG hL L
  rintro u ⟨⟨-, hB, hG, -⟩, hx21⟩
  obtain ⟨hx21a, hx21b⟩ : Rn u x21.1 _ ∧ Rn u x21.2 _ := hx21
  refine gtT ?_
  clear hN K
  refine sv hB hF hG 0 0 [_, _, _] ?_
  intro u hu hBG
  replace hx21a := hx21a.put hB 0 rfl (by first | decide | simp) _ _ hu
  replace hx21b := hx21b.put hB 0 rfl (by first | decide | simp) _ _ hu
  clear hB hG hu
  obtain ⟨hB, hG⟩ := hBG
  refine rt Tryz.results56 ?_
  exact ⟨x21, rfl, ⟨hx21a, hx21b⟩, hG⟩
 ·clear h
  go_enter Tryz.func56, Tryz.ntmps56
  refine en1 ?_
  intro u hG b4 hB hF
  refine wp_seq ?_
  refine r0T ?_
  refine wp_cond_true (rfl) ?_
  refine wp_seq (rsC allocs [1] hB hG fun K L hN hL => ?_)
  refine grd (ratR (qint 0)) (fun (x21 : Ax × Ax) => ?_) (C := fun v _ => ref1_Of 0 (by omega) (by omega) _)
  refine geC hL ?_
  clear hB hG hL L
  rintro u ⟨⟨-, hB, hG, -⟩, hx21⟩
  obtain ⟨hx21a, hx21b⟩ : Rn u x21.1 _ ∧ Rn u x21.2 _ := hx21
  refine gtT ?_
  clear hN K
  refine sv hB hF hG 0 0 [_, _, _] ?_
  intro u hu hBG
  replace hx21a := hx21a.put hB 0 rfl (by first | decide | simp) _ _ hu
  replace hx21b := hx21b.put hB 0 rfl (by first | decide | simp) _ _ hu
  clear hB hG hu
  obtain ⟨hB, hG⟩ := hBG
  refine rt Tryz.results56 ?_
  exact ⟨x21, rfl, ⟨hx21a, hx21b⟩, hG⟩
set_option maxHeartbeats 2000000 in
set_option maxRecDepth 100000 in
/-- a row of another length than the first -/
theorem ref6_Brier_shape (A B : Option Addr) (m c d L : Nat) (rs : List Rq) (hl' : rs.length = m) (hm : m ≤ 1048576) (R : Nat) (hR0 : 0 < R) (hR : R < m) (hrl : ∀ (i : Nat) (r : Rq), i < R → rs[i]? = some r → r.2.2.length = L) (N : Nat) (hbad : ∀ r : Rq, rs[R]? = some r → r.2.2.length = N) (hN : N ≠ L)
  (w : World) (h2 : Lrz w B rs) :
  Calls Tryz.prog 56 #[.slice A m c, .slice B m d] w (RetE 0 5 w) := by
 obtain ⟨bb, ob, rfl⟩ := h2.addr (by omega)
 have hrow : ∀ i, i < R → ∃ (Ar : Option Addr) (cr : Nat), ∀ W, Grow w W → W.cell? ⟨bb, ob + i, none⟩ = some (.slice Ar L cr) := fun i hi => by
  have hil : i < rs.length := by omega
  refine ⟨rs[i].1, rs[i].2.1, fun W hg => ?_⟩
  have h3 := ((h2.grow hg).read (List.getElem?_eq_getElem hil)).1
  rw [hrl i rs[i] hi (List.getElem?_eq_getElem hil)] at h3
  exact h3
 have hrowR : ∃ (Ar : Option Addr) (cr : Nat), ∀ W, Grow w W → W.cell? ⟨bb, ob + R, none⟩ = some (.slice Ar N cr) := by
  have hil : R < rs.length := by omega
  refine ⟨rs[R].1, rs[R].2.1, fun W hg => ?_⟩
  have h3 := ((h2.grow hg).read (List.getElem?_eq_getElem hil)).1
  rw [hbad rs[R] (List.getElem?_eq_getElem hil)] at h3
  exact h3
 obtain ⟨A0, c0, hrow0⟩ := hrow 0 hR0
 rw [Nat.add_zero] at hrow0
 obtain ⟨AR, cR, hrowR⟩ := hrowR
 have hmm : ((m : Int) != (m : Int)) = false := by simp
 have hm0i : ((m : Int) == 0) = false := by simp; omega
 have hm0 : 0 < m := by omega
 have Hrow := Lib.hid hrow
 have Hrow0 := Lib.hid hrow0
 have HrowR := Lib.hid hrowR
 clear hrow hrow0 hrowR h2 hl' hrl hbad
 go_enter Tryz.func56, Tryz.ntmps56
 refine en1 ?_
 intro u hG b4 hB hF
 refine wp_seq ?_
 refine r0T ?_
 refine wp_cond_false (rfl) ?_
 refine wp_skip ?_
 refine then_norm ?_
 refine wp_seq ?_
 refine r0T ?_
 refine wp_block ?_
 go_loopw [6] (fun s0 wr => ∃ i : Nat, i ≤ R ∧ s0 = .int .i64 i ∧ Bx wr [(b4, 41, zNone)] ∧ Grow w wr) (fun s0 _ => m - (intOf s0).toNat)
 case atStart => exact ⟨0, Nat.zero_le _, rfl, hB, hG⟩
 case round =>
  clear hB hG
  obtain ⟨i, hi, rfl, hB, hG⟩ := hrel
  obtain ⟨u, rfl⟩ : ∃ x, x = wr := ⟨_, rfl⟩
  have him : i < m := by omega
  have hdi : decide ((i : Int) < (m : Int)) = true := by simp; omega
  rcases Nat.lt_or_ge i R with hlt | hge
  ·obtain ⟨Ar, cr, hrw⟩ := Hrow.out i hlt
   have Hrw := Lib.hid hrw
   have hne : ((L : Int) != (L : Int)) = false := by simp
   clear hrw
   refine wp_seq ?_
   refine r0T ?_
   refine wp_cond_true (rfl) ?_
   refine wp_skip ?_
   refine then_norm ?_
   refine wp_seq ?_
   refine wp_block ?_
   refine wp_seq (rdC allocs [] [(0, 0), (0, 1), (0, 2), (0, 3), (0, 4), (0, 5), (0, 6), (0, 7), (0, 8)] hB hG fun K L hN hL => ?_)
   repeat first | refine gya ?_ | refine gyr ?_ | refine gna ?_ | refine gyb (by (rintro v ⟨hgu, hB, hG, -⟩ N hN; have r := hB.r; simp only [BxR] at r; have q1 := Hrw.out v hG; have q2 := Hrow0.out v hG; go_simp; exact hN)) ?_
   refine geC hL ?_
   clear hB hG hL L
   rintro u ⟨-, hB, hG, -⟩
   refine gtT ?_
   clear hN K
   refine wp_cond_false (rfl) ?_
   refine wp_skip ?_
   refine blk_norm ?_
   refine then_norm ?_
   refine r0E ?_
   refine then_norm ?_
   go_roundw
   case rel => exact ⟨i + 1, by omega, by go_num, hB, hG⟩
   case measure => simp [intOf]; omega
  ·obtain rfl : R = i := by omega
   have hne : ((N : Int) != (L : Int)) = true := by simp; omega
   have Hrw := HrowR
   refine wp_seq ?_
   refine r0T ?_
   refine wp_cond_true (rfl) ?_
   refine wp_skip ?_
   refine then_norm ?_
   refine wp_seq ?_
   refine wp_block ?_
   refine wp_seq (rdC allocs [] [(0, 0), (0, 1), (0, 2), (0, 3), (0, 4), (0, 5), (0, 6), (0, 7), (0, 8)] hB hG fun K L hN hL => ?_)
   repeat first | refine gya ?_ | refine gyr ?_ | refine gna ?_ | refine gyb (by (rintro v ⟨hgu, hB, hG, -⟩ N hN; have r := hB.r; simp only [BxR] at r; have q1 := Hrw.out v hG; have q2 := Hrow0.out v hG; go_simp; exact hN)) ?_
   refine geC hL ?_
   clear hB hG hL L
   rintro u ⟨-, hB, hG, -⟩
   refine gtT ?_
   clear hN K
   refine wp_cond_true (rfl) ?_
   refine wp_seq (rsC allocs [1] hB hG fun K L hN hL => ?_)
   refine grd (ratR (qint 0)) (fun (x38 : Ax × Ax) => ?_) (C := fun v _ => ref1_Of 0 (by omega) (by omega) _)
   refine geC hL ?_
   clear hB hG hL L
   rintro u ⟨⟨-, hB, hG, -⟩, hx38⟩
   obtain ⟨hx38a, hx38b⟩ : Rn u x38.1 _ ∧ Rn u x38.2 _ := hx38
   refine gtT ?_
   clear hN K
   refine sv hB hF hG 0 0 [_, _, _] ?_
   intro u hu hBG
   replace hx38a := hx38a.put hB 0 rfl (by first | decide | simp) _ _ hu
   replace hx38b := hx38b.put hB 0 rfl (by first | decide | simp) _ _ hu
   clear hB hG hu
   obtain ⟨hB, hG⟩ := hBG
   refine rt Tryz.results56 ?_
   exact ⟨x38, rfl, ⟨hx38a, hx38b⟩, hG⟩
set_option maxHeartbeats 8000000 in
set_option maxRecDepth 100000 in
/-- all classes are right up to R: R is none, or there is none wrong (R = m) -/
theorem ref6_Brier_run (A B : Option Addr) (m c d L : Nat) (l : List Int) (rs : List Rq) (hl : l.length = m) (hl' : rs.length = m) (hm0 : 0 < m) (hm : m ≤ 1048576) (hrl : ∀ r ∈ rs, r.2.2.length = L) (hL : L ≤ 1048576) (R : Nat) (hR : R ≤ m) (hgood : ∀ i, i < R → 0 ≤ gi l i ∧ gi l i < L) (hbad : R < m → gi l R < 0 ∨ (L : Int) ≤ gi l R) (s : Nat) (hs : ∀ r ∈ rs, ∀ x ∈ r.2.2, qs x ≤ s) (hBz : (m + 2) * (L * (2 * s + 85) + 4 * s + 400) ≤ BIG)
  (w : World) (h1 : Li w A l) (h2 : Lrz w B rs) :
  Calls Tryz.prog 56 #[.slice A m c, .slice B m d] w (RetE (if R < m then 0 else brier l (rs.map (·.2.2)) L m) (if R < m then 1 else 0) w) := by
 obtain ⟨ba, oa, rfl, -⟩ := h1.cell (i := 0) (by omega)
 obtain ⟨bb, ob, rfl⟩ := h2.addr (by omega)
 have hrow : ∀ i, i < m → ∃ (Ar : Option Addr) (cr : Nat), (∀ W, Grow w W → W.cell? ⟨bb, ob + i, none⟩ = some (.slice Ar L cr)) ∧ ∀ W, Grow w W → Lz W Ar (rowAt (rs.map (·.2.2)) i) := fun i hi => by
  have hil : i < rs.length := by omega
  have hro : rowAt (rs.map (·.2.2)) i = rs[i].2.2 := by unfold rowAt; rw [List.getElem?_map, List.getElem?_eq_getElem hil]; rfl
  refine ⟨rs[i].1, rs[i].2.1, fun W hg => ?_, fun W hg => ?_⟩
  ·have h3 := ((h2.grow hg).read (List.getElem?_eq_getElem hil)).1
   rw [hrl _ (List.getElem_mem hil)] at h3
   exact h3
  ·rw [hro]
   exact ((h2.grow hg).read (List.getElem?_eq_getElem hil)).2
 have hint : ∀ i, i < m → ∀ W, Grow w W → W.cell? ⟨ba, oa + i, none⟩ = some (.int .i64 (gi l i)) := fun i hi W hg => by
  obtain ⟨b', o', e, h3⟩ := (h1.grow hg).cell (i := i) (by omega)
  cases e
  exact h3
 obtain ⟨A0, c0, hrow0, -⟩ := hrow 0 (by omega)
 rw [Nat.add_zero] at hrow0
 obtain ⟨T, hT⟩ : ∃ T, T = L * (2 * s + 85) + 1 := ⟨_, rfl⟩
 have hTB : (m + 2) * (T + 4 * s + 399) ≤ BIG := by rw [hT]; exact Nat.le_trans (Nat.mul_le_mul_left _ (by omega)) hBz
 have hrq : ∀ i, i < m → (rowAt (rs.map (·.2.2)) i).length = L ∧ ∀ x ∈ rowAt (rs.map (·.2.2)) i, qs x ≤ s := fun i hi => by
  have hil : i < rs.length := by omega
  have hro : rowAt (rs.map (·.2.2)) i = rs[i].2.2 := by unfold rowAt; rw [List.getElem?_map, List.getElem?_eq_getElem hil]; rfl
  rw [hro]
  exact ⟨hrl _ (List.getElem_mem hil), hs _ (List.getElem_mem hil)⟩
 have hz : ∀ i, i < m → ∀ j, j ≤ L → qs (qsum (brT (gi l i) (rowAt (rs.map (·.2.2)) i)) j) ≤ T := fun i hi j hj => by
  rw [hT]
  exact brRow_sz (hrq i hi).2 (hrq i hi).1 j hj
 have h1' : (m + 2) * (T + 4 * s + 399) = m * (T + 4 * s + 399) + 2 * (T + 4 * s + 399) := Nat.add_mul _ _ _
 have h2' : m * (T + 1) ≤ m * (T + 4 * s + 399) := Nat.mul_le_mul_left _ (by omega)
 have hzs : ∀ j, j ≤ m → qs (qsum (fun i => brRow (gi l i) (rowAt (rs.map (·.2.2)) i) L) j) ≤ m * (T + 1) + 1 := fun j hj =>
  Nat.le_trans (qsum_size _ T m (fun i hi => hz i hi L (Nat.le_refl _)) j hj) (Nat.add_le_add_right (Nat.mul_le_mul_right _ hj) 1)
 have hbr : brier l (rs.map (·.2.2)) L m = qdiv (qsum (fun i => brRow (gi l i) (rowAt (rs.map (·.2.2)) i) L) m) (qint m) := rfl
 rw [hbr]
 clear hbr
 obtain ⟨RS, hRS⟩ : ∃ RS, RS = rowAt (rs.map (·.2.2)) := ⟨_, rfl⟩
 have hqm := qint_sz m (by omega)
 have hq0 := qint_nz hm0
 have z5 : qs (qint 1) ≤ 41 := qint_sz 1 (by omega)
 simp only [← hRS] at hrow hrq hz hzs ⊢
 have hmm : ((m : Int) != (m : Int)) = false := by simp
 have hm0i : ((m : Int) == 0) = false := by simp; omega
 have hMB : m * (T + 1) + 1 + T + 4 * s + 400 ≤ BIG := by omega
 obtain ⟨M, hM⟩ : ∃ M, M = m * (T + 1) + 1 := ⟨_, rfl⟩
 rw [← hM] at hzs hMB
 have Hrow := Lib.hid hrow
 have Hint := Lib.hid hint
 have Hrow0 := Lib.hid hrow0
 have Hgood := Lib.hid hgood
 have Hbad := Lib.hid hbad
 have Hrq := Lib.hid hrq
 have Hz := Lib.hid hz
 have Hzs := Lib.hid hzs
 clear hrow hint hrow0 hgood hbad hrq hz hzs h1 h2 hl hl' hrl hs hBz hRS hTB hT h1' h2' hM
 go_enter Tryz.func56, Tryz.ntmps56
 refine en1 ?_
 intro u hG b4 hB hF
 refine wp_seq ?_
 refine r0T ?_
 refine wp_cond_false (rfl) ?_
 refine wp_skip ?_
 refine then_norm ?_
 refine wp_seq ?_
 refine r0T ?_
 refine wp_block ?_
 go_loopw [6] (fun s0 wr => ∃ (i : Nat) , i ≤ m ∧ s0 = .int .i64 i ∧ Bx wr [(b4, 41, zNone)] ∧ Grow w wr) (fun s0 _ => m - (intOf s0).toNat)
 case atStart => exact ⟨0, Nat.zero_le _, rfl, hB, hG⟩
 case round =>
  clear hB hG
  obtain ⟨i, hi, rfl, hB, hG⟩ := hrel
  obtain ⟨u, rfl⟩ : ∃ x, x = wr := ⟨_, rfl⟩
  rcases Nat.lt_or_ge i m with hlt0 | hge0
  ·have hdec : decide ((i : Int) < (m : Int)) = true := by simp; omega
   obtain ⟨Ar, cr, hrw, -⟩ := Hrow.out i hlt0
   have Hrw := Lib.hid hrw
   have hne : ((L : Int) != (L : Int)) = false := by simp
   clear hrw
   refine wp_seq ?_
   refine r0T ?_
   refine wp_cond_true (rfl) ?_
   refine wp_skip ?_
   refine then_norm ?_
   refine wp_seq ?_
   refine wp_block ?_
   refine wp_seq (rdC allocs2 [] [(0, 0), (0, 1), (0, 2), (0, 3), (0, 4), (0, 5), (0, 6), (0, 7), (0, 8)] hB hG fun K L hN hL => ?_)
   repeat first | refine gya ?_ | refine gyr ?_ | refine gna ?_ | refine gyb (by (rintro v ⟨hgu, hB, hG, -⟩ N hN; have r := hB.r; simp only [BxR] at r; have q1 := Hrw.out v hG; have q2 := Hrow0.out v hG; go_simp; exact hN)) ?_
   refine geC hL ?_
   clear hB hG hL L
   rintro u ⟨-, hB, hG, -⟩
   refine gtT ?_
   clear hN K
   refine wp_cond_false (rfl) ?_
   refine wp_skip ?_
   refine blk_norm ?_
   refine then_norm ?_
   refine r0E ?_
   refine then_norm ?_
   go_roundw
   case rel => exact ⟨i + 1, by omega, by go_num, hB, hG⟩
   case measure => simp [intOf]; try omega
  ·obtain rfl : m = i := by omega
   have hdec : decide ((m : Int) < (m : Int)) = false := by simp
   skip
   refine wp_seq ?_
   refine r0T ?_
   refine wp_cond_false (rfl) ?_
   refine wp_exit ?_
   refine then_exit ?_
   refine then_exit ?_
   refine blk_exit ?_
   refine then_norm ?_
   refine wp_seq (rsC allocs2 [1, 2] hB hG fun K L hN hL => ?_)
   refine grd (ratR (qint 0)) (fun (x39 : Ax × Ax) => ?_) (C := fun v _ => ref1_Of 0 (by omega) (by omega) _)
   refine gaa (newObj_RQ _ _ _ _ _) fun b7 hb7 hn7 => ?_
   replace hF := hF.n1 [] hB hG hb7 hn7
   refine geC hL ?_
   clear hB hG hL L
   rintro u ⟨⟨⟨-, hB, hG, -⟩, hx39⟩, h7⟩
   replace hB := hB.cons' h7
   clear h7
   obtain ⟨hx39a, hx39b⟩ : Rn u x39.1 _ ∧ Rn u x39.2 _ := hx39
   clear hb7 hn7
   refine gtT ?_
   clear hN K
   refine sv hB hF hG 0 0 [_, _, _] ?_
   intro u hu hBG
   replace hx39a := hx39a.put hB 0 rfl (by first | decide | simp) _ _ hu
   replace hx39b := hx39b.put hB 0 rfl (by first | decide | simp) _ _ hu
   clear hB hG hu
   obtain ⟨hB, hG⟩ := hBG
   refine wp_seq ?_
   refine r0T ?_
   refine wp_block ?_
   go_loopw [8] (fun s0 wr => ∃ (i : Nat) (S : Rat) (p : Az), i ≤ R ∧ s0 = .int .i64 i ∧ S = qsum (fun i => brRow (gi l i) (RS i) L) i ∧ Rz wr p S ∧ Bx wr [(b7, 41, zCellsR p S), (b4, 41, zNone)] ∧ Grow w wr) (fun s0 _ => m - (intOf s0).toNat)
   case atStart => exact ⟨0, qint 0, x39, Nat.zero_le _, rfl, qint_zero, ⟨hx39a, hx39b⟩, hB, hG⟩
   case round =>
    clear hB hG hx39a hx39b
    obtain ⟨i, S, p, hi, rfl, hS, hS', hB, hG⟩ := hrel
    obtain ⟨u, rfl⟩ : ∃ x, x = wr := ⟨_, rfl⟩
    have z1 := Hzs.out i (by omega)
    rw [← hS] at z1
    rcases Nat.lt_or_ge i m with hlt1 | hge1
    ·have hdec : decide ((i : Int) < (m : Int)) = true := by simp; omega
     have hit := Hint.out i hlt1
     obtain ⟨Ar, cr, hrw, hrz⟩ := Hrow.out i hlt1
     have hrqi := Hrq.out i hlt1
     have hzi := Hz.out i hlt1
     have hgd := Hgood.out i
     have hbd := Hbad.out
     have hnx : qsum (fun i => brRow (gi l i) (RS i) L) (i + 1) = qadd (qsum (fun i => brRow (gi l i) (RS i) L) i) (qsum (brT (gi l i) (RS i)) L) := rfl
     rw [← hS] at hnx
     rcases Nat.lt_or_ge i R with hltR | hgeR
     ·have hgd := hgd hltR
      obtain ⟨t, ht⟩ : ∃ t, t = gi l i := ⟨_, rfl⟩
      obtain ⟨q, hq⟩ : ∃ q, q = RS i := ⟨_, rfl⟩
      rw [← ht] at hgd
      simp only [← ht, ← hq] at hit hzi hrz hrqi hnx
      obtain ⟨hg1, hg2⟩ := hgd
      have c1 : decide (t < 0) = false := by simp; omega
      have c2 : decide ((L : Int) ≤ t) = false := by simp; omega
      have Hit := Lib.hid hit
      have Hrw := Lib.hid hrw
      have Hrz := Lib.hid hrz
      have Hrqi := Lib.hid hrqi
      have Hzi := Lib.hid hzi
      have Hnx := Lib.hid hnx
      clear hit hrw hrz hrqi hzi hnx ht hq hbd hS
      refine wp_seq ?_
      refine r0T ?_
      refine wp_cond_true (rfl) ?_
      refine wp_skip ?_
      refine then_norm ?_
      refine wp_seq ?_
      refine wp_block ?_
      refine wp_seq ?_
      refine wp_seq (rdC allocs2 [] [(0, 0), (0, 1), (0, 2), (0, 3), (0, 4), (0, 5), (0, 6), (0, 7), (0, 8), (0, 9), (0, 10), (0, 11), (0, 12), (0, 13), (0, 14), (0, 15)] hB hG fun K L hN hL => ?_)
      repeat first | refine gya ?_ | refine gyr ?_ | refine gna ?_ | refine gyb (by (rintro v ⟨hgu, hB, hG, -⟩ N hN; have r := hB.r; simp only [BxR] at r; have q1 := Hit.out v hG; have q2 := Hrw.out v hG; go_simp; exact hN)) ?_
      refine geC hL ?_
      clear hB hG hL L
      rintro u ⟨hgu, hB, hG, -⟩
      replace hS' := hS'.grow hgu
      clear hgu
      refine gtT ?_
      clear hN K
      refine wp_cond_false (rfl) ?_
      refine wp_skip ?_
      refine then_norm ?_
      refine r0T ?_
      refine wp_block ?_
      go_loopw [9] (fun s0 wr => ∃ (j : Nat) (V : Rat) (r : Az), j ≤ L ∧ s0 = .int .i64 j ∧ V = qadd S (qsum (brT t q) j) ∧ Rz wr r V ∧ Bx wr [(b7, 41, zCellsR r V), (b4, 41, zNone)] ∧ Grow w wr) (fun s0 _ => L - (intOf s0).toNat)
      case atStart => exact ⟨0, S, p, Nat.zero_le _, rfl, (qadd_zero' S).symm, hS', hB, hG⟩
      case round =>
       clear hB hG hS'
       obtain ⟨j, V, r, hj, rfl, hV, hV', hB, hG⟩ := hrel
       obtain ⟨u, rfl⟩ : ∃ x, x = wr := ⟨_, rfl⟩
       have zj := Hzi.out j hj
       have zV : qs V ≤ M + T + 1 := by have := qs_add S (qsum (brT t q) j); rw [hV]; unfold qadd; omega
       rcases Nat.lt_or_ge j L with hltj | hgej
       ·have hdj : decide ((j : Int) < (L : Int)) = true := by simp; omega
        have hjq : j < q.length := by rw [Hrqi.out.1]; exact hltj
        obtain ⟨bq, oq, rfl⟩ := (Hrz.out w (Grow.refl w)).addr (by omega)
        obtain ⟨e, hrd⟩ := (Hrz.out w (Grow.refl w)).read hjq
        have z2 := Hrqi.out.2 _ (gq_mem hjq)
        have hnj : qadd S (qsum (brT t q) (j + 1)) = qadd V (brT t q j) := by rw [hV, qadd_assoc]; rfl
        by_cases hjt : (j : Int) = t
        ·have fb : ((j : Int) == t) = true := by simpa using hjt
         have e1 : brT t q j = qmul (qsub (gq q j) (qint 1)) (qsub (gq q j) (qint 1)) := by unfold brT brX; rw [if_pos hjt]
         rw [e1] at hnj
         obtain ⟨X, hX⟩ : ∃ X, X = gq q j := ⟨_, rfl⟩
         simp only [← hX] at hrd
         rw [← hX] at z2 hnj
         have z3 := qs_sub X (qint 1)
         have hsb := fun W (o : Az) g1 g2 g3 g4 => ref1_Sub e.1 e.2 o.1 o.2 X (qint 1) W g1 g2 g3 g4 (by omega)
         obtain ⟨D, hD⟩ : ∃ D, D = qsub X (qint 1) := ⟨_, rfl⟩
         rw [← hD] at hnj hsb
         have z4 : qs D ≤ s + 42 := by rw [hD]; unfold qsub; omega
         have z6 := qs_mul D D
         have hml := fun W (o : Az) g1 g2 => ref1_Mul o.1 o.2 o.1 o.2 D D W g1 g2 g1 g2 (by omega)
         obtain ⟨DD, hDD⟩ : ∃ DD, DD = qmul D D := ⟨_, rfl⟩
         have z7 : qs DD ≤ 2 * s + 84 := by rw [hDD]; unfold qmul; omega
         rw [← hDD] at hnj hml
         have had := fun W (o : Az) g1 g2 g3 g4 => ref1_Add r.1 r.2 o.1 o.2 V DD W g1 g2 g3 g4 (by omega)
         have Hrd := Lib.hid hrd
         have Hnj := Lib.hid hnj
         have Hsb := Lib.hid hsb
         have Hml := Lib.hid hml
         have Had := Lib.hid had
         clear hrd hnj hsb hml had e1 hX hD hDD hjq hV hjt z2 z3 z4 z6 z7 zV zj
         refine wp_seq ?_
         refine wp_seq ?_
         have q1 := Hit.out u hG; have q2 := Hrw.out u hG
         refine r0N ?_
         refine wp_cond_true (rfl) ?_
         refine wp_skip ?_
         refine then_norm ?_
         refine wp_seq ?_
         refine wp_block ?_
         refine wp_seq (rsC allocs2 [0, 0, 0, 0, 0, 0, 0, 2] hB hG fun K L hN hL => ?_)
         repeat first | refine gya ?_ | refine gyr ?_ | refine gna ?_ | refine gyb (by (rintro v ⟨hgu, hB, hG, -⟩ N hN; have r := hB.r; simp only [BxR] at r; have q1 := Hit.out v hG; have q2 := Hrw.out v hG; obtain ⟨-, c1, c2, c3⟩ := Hrd.out v hG; go_simp; exact hN)) ?_
         refine gaa (newObj_RQ _ _ _ _ _) fun b10 hb10 hn10 => ?_
         replace hF := hF.n1 [] hB hG hb10 hn10
         refine geC hL ?_
         clear hB hG hL L
         rintro u ⟨⟨hgu, hB, hG, -⟩, h10⟩
         replace hB := hB.cons' h10
         clear h10
         replace hV' := hV'.grow hgu
         clear hb10 hn10
         clear hgu
         refine gtT ?_
         clear hN K
         refine sv hB hF hG 0 0 [_, _, _] ?_
         intro u hu hBG
         replace hV' := hV'.put hB 0 rfl (by first | decide | simp) _ _ hu
         clear hB hG hu
         obtain ⟨hB, hG⟩ := hBG
         refine wp_seq ?_
         refine wp_seq ?_
         have q1 := Hit.out u hG; have q2 := Hrw.out u hG
         refine r0N ?_
         refine wp_cond_true (rfl) ?_
         refine rdC allocs2 [] [(0, 0), (1, 1), (1, 2)] hB hG fun K L hN hL => ?_
         repeat first | refine gya ?_ | refine gyr ?_ | refine gna ?_ | refine gyb (by (rintro v ⟨hgu, hB, hG, -⟩ N hN; have r := hB.r; simp only [BxR] at r; have q1 := Hit.out v hG; have q2 := Hrw.out v hG; obtain ⟨-, c1, c2, c3⟩ := Hrd.out v hG; go_simp; exact hN)) ?_
         refine grd (ratR (qint 1)) (fun (x87 : Ax × Ax) => ?_) (C := fun v _ => ref1_Of 1 (by omega) (by omega) _)
         refine grd (ratR D) (fun (x88 : Ax × Ax) => ?_) (C := by (rintro v ⟨⟨hgu, hB, hG, -⟩, hx87⟩; obtain ⟨hx87a, hx87b⟩ : Rn v x87.1 _ ∧ Rn v x87.2 _ := hx87; exact Hsb.out _ x87 (Hrd.out _ hG).1.a (Hrd.out _ hG).1.b hx87a hx87b))
         refine geC hL ?_
         clear hB hG hL L
         rintro u ⟨⟨⟨hgu, hB, hG, -⟩, hx87⟩, hx88⟩
         replace hV' := hV'.grow hgu
         obtain ⟨hx87a, hx87b⟩ : Rn u x87.1 _ ∧ Rn u x87.2 _ := hx87
         obtain ⟨hx88a, hx88b⟩ : Rn u x88.1 _ ∧ Rn u x88.2 _ := hx88
         clear hgu
         refine gtT ?_
         clear hN K
         refine sv hB hF hG 0 0 [_, _, _] ?_
         intro u hu hBG
         replace hV' := hV'.put hB 0 rfl (by first | decide | simp) _ _ hu
         replace hx87a := hx87a.put hB 0 rfl (by first | decide | simp) _ _ hu
         replace hx87b := hx87b.put hB 0 rfl (by first | decide | simp) _ _ hu
         replace hx88a := hx88a.put hB 0 rfl (by first | decide | simp) _ _ hu
         replace hx88b := hx88b.put hB 0 rfl (by first | decide | simp) _ _ hu
         clear hB hG hu
         obtain ⟨hB, hG⟩ := hBG
         refine rdC allocs2 [] [(0, 0), (0, 1), (0, 2), (1, 3), (1, 4)] hB hG fun K L hN hL => ?_
         repeat first | refine gya ?_ | refine gyr ?_ | refine gna ?_ | refine gyb (by (rintro v ⟨hgu, hB, hG, -⟩ N hN; have r := hB.r; simp only [BxR] at r; have q1 := Hit.out v hG; have q2 := Hrw.out v hG; obtain ⟨-, c1, c2, c3⟩ := Hrd.out v hG; go_simp; exact hN)) ?_
         refine grd (ratR DD) (fun (x92 : Ax × Ax) => ?_) (C := by (rintro v ⟨hgu, hB, hG, -⟩; exact Hml.out _ x88 (hx88a.grow hgu) (hx88b.grow hgu)))
         refine grd (ratR (qadd V DD)) (fun (x93 : Ax × Ax) => ?_) (C := by (rintro v ⟨⟨hgu, hB, hG, -⟩, hx92⟩; obtain ⟨hx92a, hx92b⟩ : Rn v x92.1 _ ∧ Rn v x92.2 _ := hx92; exact Had.out _ x92 (hV'.grow hgu).a (hV'.grow hgu).b hx92a hx92b))
         refine geC hL ?_
         clear hB hG hL L
         rintro u ⟨⟨⟨hgu, hB, hG, -⟩, hx92⟩, hx93⟩
         replace hV' := hV'.grow hgu
         replace hx87a := hx87a.grow hgu
         replace hx87b := hx87b.grow hgu
         replace hx88a := hx88a.grow hgu
         replace hx88b := hx88b.grow hgu
         obtain ⟨hx92a, hx92b⟩ : Rn u x92.1 _ ∧ Rn u x92.2 _ := hx92
         obtain ⟨hx93a, hx93b⟩ : Rn u x93.1 _ ∧ Rn u x93.2 _ := hx93
         clear hgu
         refine gt ?_
         clear hN K
         refine sv hB hF hG 1 0 [_, _, _] ?_
         intro u hu hBG
         replace hV' := hV'.put hB 1 rfl (by first | decide | simp) _ _ hu
         replace hx87a := hx87a.put hB 1 rfl (by first | decide | simp) _ _ hu
         replace hx87b := hx87b.put hB 1 rfl (by first | decide | simp) _ _ hu
         replace hx88a := hx88a.put hB 1 rfl (by first | decide | simp) _ _ hu
         replace hx88b := hx88b.put hB 1 rfl (by first | decide | simp) _ _ hu
         replace hx92a := hx92a.put hB 1 rfl (by first | decide | simp) _ _ hu
         replace hx92b := hx92b.put hB 1 rfl (by first | decide | simp) _ _ hu
         replace hx93a := hx93a.put hB 1 rfl (by first | decide | simp) _ _ hu
         replace hx93b := hx93b.put hB 1 rfl (by first | decide | simp) _ _ hu
         clear hB hG hu
         obtain ⟨hB, hG⟩ := hBG
         refine blk_norm ?_
         refine then_norm ?_
         refine r0E ?_
         refine then_norm ?_
         go_roundw
         case rel => exact ⟨j + 1, qadd V DD, x93, by omega, by go_num, Hnj.out.symm, ⟨hx93a, hx93b⟩, hB.tail, hG⟩
         case measure => simp [intOf]; omega
        ·have fb : ((j : Int) == t) = false := by simpa using hjt
         have e1 : brT t q j = qmul (gq q j) (gq q j) := by unfold brT brX; rw [if_neg hjt]
         rw [e1] at hnj
         obtain ⟨X, hX⟩ : ∃ X, X = gq q j := ⟨_, rfl⟩
         simp only [← hX] at hrd
         rw [← hX] at z2 hnj
         have z6 := qs_mul X X
         have hml := fun W g1 g2 => ref1_Mul e.1 e.2 e.1 e.2 X X W g1 g2 g1 g2 (by omega)
         obtain ⟨DD, hDD⟩ : ∃ DD, DD = qmul X X := ⟨_, rfl⟩
         have z7 : qs DD ≤ 2 * s + 84 := by rw [hDD]; unfold qmul; omega
         rw [← hDD] at hnj hml
         have had := fun W (o : Az) g1 g2 g3 g4 => ref1_Add r.1 r.2 o.1 o.2 V DD W g1 g2 g3 g4 (by omega)
         have Hrd := Lib.hid hrd
         have Hnj := Lib.hid hnj
         have Hml := Lib.hid hml
         have Had := Lib.hid had
         clear hrd hnj hml had e1 hX hDD hjq hV hjt z2 z6 z7 zV zj
         refine wp_seq ?_
         refine wp_seq ?_
         have q1 := Hit.out u hG; have q2 := Hrw.out u hG
         refine r0N ?_
         refine wp_cond_true (rfl) ?_
         refine wp_skip ?_
         refine then_norm ?_
         refine wp_seq ?_
         refine wp_block ?_
         refine wp_seq (rsC allocs2 [0, 0, 0, 0, 0, 0, 0, 2] hB hG fun K L hN hL => ?_)
         repeat first | refine gya ?_ | refine gyr ?_ | refine gna ?_ | refine gyb (by (rintro v ⟨hgu, hB, hG, -⟩ N hN; have r := hB.r; simp only [BxR] at r; have q1 := Hit.out v hG; have q2 := Hrw.out v hG; obtain ⟨-, c1, c2, c3⟩ := Hrd.out v hG; go_simp; exact hN)) ?_
         refine gaa (newObj_RQ _ _ _ _ _) fun b10 hb10 hn10 => ?_
         replace hF := hF.n1 [] hB hG hb10 hn10
         refine geC hL ?_
         clear hB hG hL L
         rintro u ⟨⟨hgu, hB, hG, -⟩, h10⟩
         replace hB := hB.cons' h10
         clear h10
         replace hV' := hV'.grow hgu
         clear hb10 hn10
         clear hgu
         refine gtT ?_
         clear hN K
         refine sv hB hF hG 0 0 [_, _, _] ?_
         intro u hu hBG
         replace hV' := hV'.put hB 0 rfl (by first | decide | simp) _ _ hu
         clear hB hG hu
         obtain ⟨hB, hG⟩ := hBG
         refine wp_seq ?_
         refine wp_seq ?_
         have q1 := Hit.out u hG; have q2 := Hrw.out u hG
         refine r0N ?_
         refine wp_cond_false (rfl) ?_
         refine wp_skip ?_
         refine then_norm ?_
         refine rdC allocs2 [] [(0, 0), (0, 1), (0, 2), (1, 3), (1, 4)] hB hG fun K L hN hL => ?_
         repeat first | refine gya ?_ | refine gyr ?_ | refine gna ?_ | refine gyb (by (rintro v ⟨hgu, hB, hG, -⟩ N hN; have r := hB.r; simp only [BxR] at r; have q1 := Hit.out v hG; have q2 := Hrw.out v hG; obtain ⟨-, c1, c2, c3⟩ := Hrd.out v hG; go_simp; exact hN)) ?_
         refine grd (ratR DD) (fun (x92 : Ax × Ax) => ?_) (C := by (rintro v ⟨hgu, hB, hG, -⟩; exact Hml.out _ (Hrd.out _ hG).1.a (Hrd.out _ hG).1.b))
         refine grd (ratR (qadd V DD)) (fun (x93 : Ax × Ax) => ?_) (C := by (rintro v ⟨⟨hgu, hB, hG, -⟩, hx92⟩; obtain ⟨hx92a, hx92b⟩ : Rn v x92.1 _ ∧ Rn v x92.2 _ := hx92; exact Had.out _ x92 (hV'.grow hgu).a (hV'.grow hgu).b hx92a hx92b))
         refine geC hL ?_
         clear hB hG hL L
         rintro u ⟨⟨⟨hgu, hB, hG, -⟩, hx92⟩, hx93⟩
         replace hV' := hV'.grow hgu
         obtain ⟨hx92a, hx92b⟩ : Rn u x92.1 _ ∧ Rn u x92.2 _ := hx92
         obtain ⟨hx93a, hx93b⟩ : Rn u x93.1 _ ∧ Rn u x93.2 _ := hx93
         clear hgu
         refine gt ?_
         clear hN K
         refine sv hB hF hG 1 0 [_, _, _] ?_
         intro u hu hBG
         replace hV' := hV'.put hB 1 rfl (by first | decide | simp) _ _ hu
         replace hx92a := hx92a.put hB 1 rfl (by first | decide | simp) _ _ hu
         replace hx92b := hx92b.put hB 1 rfl (by first | decide | simp) _ _ hu
         replace hx93a := hx93a.put hB 1 rfl (by first | decide | simp) _ _ hu
         replace hx93b := hx93b.put hB 1 rfl (by first | decide | simp) _ _ hu
         clear hB hG hu
         obtain ⟨hB, hG⟩ := hBG
         refine blk_norm ?_
         refine then_norm ?_
         refine r0E ?_
         refine then_norm ?_
         go_roundw
         case rel => exact ⟨j + 1, qadd V DD, x93, by omega, by go_num, Hnj.out.symm, ⟨hx93a, hx93b⟩, hB.tail, hG⟩
         case measure => simp [intOf]; omega
       ·obtain rfl : L = j := by omega
        have hdj : decide ((L : Int) < (L : Int)) = false := by simp
        have HV := Lib.hid hV
        clear hV zj zV
        refine wp_seq ?_
        refine wp_seq ?_
        have q1 := Hit.out u hG; have q2 := Hrw.out u hG
        refine r0N ?_
        refine wp_cond_false (rfl) ?_
        refine wp_exit ?_
        refine then_exit ?_
        refine then_exit ?_
        refine blk_exit ?_
        refine blk_norm ?_
        refine then_norm ?_
        refine r0E ?_
        refine then_norm ?_
        go_roundw
        case rel => exact ⟨i + 1, V, r, by omega, by go_num, by rw [HV.out, Hnx.out], hV', hB, hG⟩
        case measure => simp [intOf]; omega
     ·obtain rfl : R = i := by omega
      have hbd := hbd hlt1
      obtain ⟨t, ht⟩ : ∃ t, t = gi l R := ⟨_, rfl⟩
      rw [← ht] at hbd
      simp only [← ht] at hit
      have Hit := Lib.hid hit
      have Hrw := Lib.hid hrw
      rw [if_pos hlt1, if_pos hlt1]
      clear hit hrw hrz hrqi hzi hnx ht hgd hS hS'
      by_cases hneg : t < 0
      ·have c1 : decide (t < 0) = true := by simpa using hneg
       clear hbd
       refine wp_seq ?_
       refine r0T ?_
       refine wp_cond_true (rfl) ?_
       refine wp_skip ?_
       refine then_norm ?_
       refine wp_seq ?_
       refine wp_block ?_
       refine wp_seq ?_
       refine wp_seq (rdC allocs2 [] [(0, 0), (0, 1), (0, 2), (0, 3), (0, 4), (0, 5), (0, 6), (0, 7), (0, 8), (0, 9), (0, 10), (0, 11), (0, 12), (0, 13), (0, 14), (0, 15)] hB hG fun K L hN hL => ?_)
       repeat first | refine gya ?_ | refine gyr ?_ | refine gna ?_ | refine gyb (by (rintro v ⟨hgu, hB, hG, -⟩ N hN; have r := hB.r; simp only [BxR] at r; have q1 := Hit.out v hG; have q2 := Hrw.out v hG; go_simp; exact hN)) ?_
       refine geC hL ?_
       clear hB hG hL L
       rintro u ⟨-, hB, hG, -⟩
       refine gtT ?_
       clear hN K
       refine wp_cond_true (rfl) ?_
       refine wp_seq (rsC allocs2 [1] hB hG fun K L hN hL => ?_)
       refine grd (ratR (qint 0)) (fun (x63 : Ax × Ax) => ?_) (C := fun v _ => ref1_Of 0 (by omega) (by omega) _)
       refine geC hL ?_
       clear hB hG hL L
       rintro u ⟨⟨-, hB, hG, -⟩, hx63⟩
       obtain ⟨hx63a, hx63b⟩ : Rn u x63.1 _ ∧ Rn u x63.2 _ := hx63
       refine gtT ?_
       clear hN K
       refine sv hB hF hG 1 0 [_, _, _] ?_
       intro u hu hBG
       replace hx63a := hx63a.put hB 1 rfl (by first | decide | simp) _ _ hu
       replace hx63b := hx63b.put hB 1 rfl (by first | decide | simp) _ _ hu
       clear hB hG hu
       obtain ⟨hB, hG⟩ := hBG
       refine rt Tryz.results56 ?_
       exact ⟨x63, rfl, ⟨hx63a, hx63b⟩, hG⟩
      ·have c1 : decide (t < 0) = false := by simpa using hneg
       have c2 : decide ((L : Int) ≤ t) = true := by simp; omega
       clear hbd hneg
       refine wp_seq ?_
       refine r0T ?_
       refine wp_cond_true (rfl) ?_
       refine wp_skip ?_
       refine then_norm ?_
       refine wp_seq ?_
       refine wp_block ?_
       refine wp_seq ?_
       refine wp_seq (rdC allocs2 [] [(0, 0), (0, 1), (0, 2), (0, 3), (0, 4), (0, 5), (0, 6), (0, 7), (0, 8), (0, 9), (0, 10), (0, 11), (0, 12), (0, 13), (0, 14), (0, 15)] hB hG fun K L hN hL => ?_)
       repeat first | refine gya ?_ | refine gyr ?_ | refine gna ?_ | refine gyb (by (rintro v ⟨hgu, hB, hG, -⟩ N hN; have r := hB.r; simp only [BxR] at r; have q1 := Hit.out v hG; have q2 := Hrw.out v hG; go_simp; exact hN)) ?_
       refine geC hL ?_
       clear hB hG hL L
       rintro u ⟨-, hB, hG, -⟩
       refine gtT ?_
       clear hN K
       refine wp_cond_true (rfl) ?_
       refine wp_seq (rsC allocs2 [1] hB hG fun K L hN hL => ?_)
       refine grd (ratR (qint 0)) (fun (x63 : Ax × Ax) => ?_) (C := fun v _ => ref1_Of 0 (by omega) (by omega) _)
       refine geC hL ?_
       clear hB hG hL L
       rintro u ⟨⟨-, hB, hG, -⟩, hx63⟩
       obtain ⟨hx63a, hx63b⟩ : Rn u x63.1 _ ∧ Rn u x63.2 _ := hx63
       refine gtT ?_
       clear hN K
       refine sv hB hF hG 1 0 [_, _, _] ?_
       intro u hu hBG
       replace hx63a := hx63a.put hB 1 rfl (by first | decide | simp) _ _ hu
       replace hx63b := hx63b.put hB 1 rfl (by first | decide | simp) _ _ hu
       clear hB hG hu
       obtain ⟨hB, hG⟩ := hBG
       refine rt Tryz.results56 ?_
       exact ⟨x63, rfl, ⟨hx63a, hx63b⟩, hG⟩
    ·obtain rfl : i = m := by omega
     obtain rfl : R = i := by omega
     have hdec : decide ((R : Int) < (R : Int)) = false := by simp
     rw [if_neg (by omega), if_neg (by omega), ← hS]
     have hdv := fun W (p' : Az) e1 e2 e3 e4 => ref1_Div p.1 p.2 p'.1 p'.2 S (qint (R : Nat)) W e1 e2 e3 e4 (by omega) hq0
     have Hdv := Lib.hid hdv
     clear hS hdv
     refine wp_seq ?_
     refine r0T ?_
     refine wp_cond_false (rfl) ?_
     refine wp_exit ?_
     refine then_exit ?_
     refine then_exit ?_
     refine blk_exit ?_
     refine then_norm ?_
     refine wp_seq (rdC allocs2 [] [(0, 0), (0, 1), (0, 2), (1, 3), (1, 4)] hB hG fun K L hN hL => ?_)
     refine gs ?_
     refine grd (ratR (qint (R : Nat))) (fun (x97 : Ax × Ax) => ?_) (C := fun v _ => ref1_Of (R : Nat) (by omega) (by omega) _)
     refine grd (ratR (qdiv S (qint (R : Nat)))) (fun (x98 : Ax × Ax) => ?_) (C := by (rintro v ⟨⟨hgu, hB, hG, -⟩, hx97⟩; obtain ⟨hx97a, hx97b⟩ : Rn v x97.1 _ ∧ Rn v x97.2 _ := hx97; exact Hdv.out _ x97 (hS'.grow hgu).a (hS'.grow hgu).b hx97a hx97b))
     refine geC hL ?_
     clear hB hG hL L
     rintro u ⟨⟨⟨hgu, hB, hG, -⟩, hx97⟩, hx98⟩
     replace hS' := hS'.grow hgu
     obtain ⟨hx97a, hx97b⟩ : Rn u x97.1 _ ∧ Rn u x97.2 _ := hx97
     obtain ⟨hx98a, hx98b⟩ : Rn u x98.1 _ ∧ Rn u x98.2 _ := hx98
     clear hgu
     refine gtT ?_
     clear hN K
     refine sv hB hF hG 1 0 [_, _, _] ?_
     intro u hu hBG
     replace hS' := hS'.put hB 1 rfl (by first | decide | simp) _ _ hu
     replace hx97a := hx97a.put hB 1 rfl (by first | decide | simp) _ _ hu
     replace hx97b := hx97b.put hB 1 rfl (by first | decide | simp) _ _ hu
     replace hx98a := hx98a.put hB 1 rfl (by first | decide | simp) _ _ hu
     replace hx98b := hx98b.put hB 1 rfl (by first | decide | simp) _ _ hu
     clear hB hG hu
     obtain ⟨hB, hG⟩ := hBG
     refine rt Tryz.results56 ?_
     exact ⟨x98, rfl, ⟨hx98a, hx98b⟩, hG⟩
end Go.Proofs.YtimjnkfcnpfoeaaGreatDoor
