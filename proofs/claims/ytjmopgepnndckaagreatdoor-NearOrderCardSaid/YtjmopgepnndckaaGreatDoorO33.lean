/-
  Contracts and laws: NearA.
-/
import Derived.Test.YtjmopgepnndckaaGreatDoorO32
set_option linter.unusedSimpArgs false
set_option linter.unusedVariables false
namespace Go.Proofs.YtjmopgepnndckaaGreatDoor
open Go Go.RowKit
--! cmp_isNaN_int = cmp_isNaN_int _ _
theorem cmp_isNaN_int (n : Int) (w : World) : Calls Tryz.prog 137 #[.int .i64 n] w fun e w' => e = .returned (.bool false) ∧ Grow w w' := by
 have hne : (n != n) = false := by simp
 go_enter Tryz.func137, Tryz.ntmps137
 refine en0 ?_
 intro u hG hB hF
 refine r0T ?_
 refine rt Tryz.results137 ?_
 exact ⟨rfl, hG⟩
--! cmp_Compare_int = cmp_Compare_int _ _ _
set_option maxHeartbeats 400000 in
theorem cmp_Compare_int (a b : Int) (w : World) : Calls Tryz.prog 92 #[.int .i64 a, .int .i64 b] w fun e w' => e = .returned (.int .i64 (cmpI a b)) ∧ Grow w w' := by
 unfold cmpI
 by_cases h1 : a < b
 ·have d1 : decide (a < b) = true := decide_eq_true h1
  rw [if_pos h1]
  clear h1
  go_enter Tryz.func92, Tryz.ntmps92
  refine en0 ?_
  intro u hG hB hF
  refine wp_seq (rsE allocs [0, 1, 0] hB hG fun L hL => ?_)
  refine gs ?_
  refine gmw (C := fun v => cmp_isNaN_int _ _) ?_
  refine gs ?_
  refine geT hL ?_
  clear hB hG hL L
  rintro u ⟨-, hB, hG, -⟩
  refine wp_seq (rsE allocs [0, 1, 0] hB hG fun L hL => ?_)
  refine gs ?_
  refine gmw (C := fun v => cmp_isNaN_int _ _) ?_
  refine gs ?_
  refine geT hL ?_
  clear hB hG hL L
  rintro u ⟨-, hB, hG, -⟩
  refine wp_seq ?_
  refine r0T ?_
  refine wp_cond_false (rfl) ?_
  refine wp_skip ?_
  refine then_norm ?_
  refine wp_seq ?_
  refine r0T ?_
  refine wp_cond_false (rfl) ?_
  refine wp_skip ?_
  refine then_norm ?_
  refine wp_seq ?_
  refine r0T ?_
  refine wp_cond_true (rfl) ?_
  refine r0T ?_
  refine rt Tryz.results92 ?_
  exact ⟨rfl, hG⟩
 ·have d1 : decide (a < b) = false := decide_eq_false h1
  rw [if_neg h1]
  by_cases h2 : b < a
  ·have d2 : decide (b < a) = true := decide_eq_true h2
   rw [if_pos h2]
   clear h1 h2
   go_enter Tryz.func92, Tryz.ntmps92
   refine en0 ?_
   intro u hG hB hF
   refine wp_seq (rsE allocs [0, 1, 0] hB hG fun L hL => ?_)
   refine gs ?_
   refine gmw (C := fun v => cmp_isNaN_int _ _) ?_
   refine gs ?_
   refine geT hL ?_
   clear hB hG hL L
   rintro u ⟨-, hB, hG, -⟩
   refine wp_seq (rsE allocs [0, 1, 0] hB hG fun L hL => ?_)
   refine gs ?_
   refine gmw (C := fun v => cmp_isNaN_int _ _) ?_
   refine gs ?_
   refine geT hL ?_
   clear hB hG hL L
   rintro u ⟨-, hB, hG, -⟩
   refine wp_seq ?_
   refine r0T ?_
   refine wp_cond_false (rfl) ?_
   refine wp_skip ?_
   refine then_norm ?_
   refine wp_seq ?_
   refine r0T ?_
   refine wp_cond_false (rfl) ?_
   refine wp_skip ?_
   refine then_norm ?_
   refine wp_seq ?_
   refine r0T ?_
   refine wp_cond_false (rfl) ?_
   refine wp_skip ?_
   refine then_norm ?_
   refine wp_seq ?_
   refine r0T ?_
   refine wp_cond_true (rfl) ?_
   refine r0T ?_
   refine rt Tryz.results92 ?_
   exact ⟨rfl, hG⟩
  ·have d2 : decide (b < a) = false := decide_eq_false h2
   rw [if_neg h2]
   clear h1 h2
   go_enter Tryz.func92, Tryz.ntmps92
   refine en0 ?_
   intro u hG hB hF
   refine wp_seq (rsE allocs [0, 1, 0] hB hG fun L hL => ?_)
   refine gs ?_
   refine gmw (C := fun v => cmp_isNaN_int _ _) ?_
   refine gs ?_
   refine geT hL ?_
   clear hB hG hL L
   rintro u ⟨-, hB, hG, -⟩
   refine wp_seq (rsE allocs [0, 1, 0] hB hG fun L hL => ?_)
   refine gs ?_
   refine gmw (C := fun v => cmp_isNaN_int _ _) ?_
   refine gs ?_
   refine geT hL ?_
   clear hB hG hL L
   rintro u ⟨-, hB, hG, -⟩
   refine wp_seq ?_
   refine r0T ?_
   refine wp_cond_false (rfl) ?_
   refine wp_skip ?_
   refine then_norm ?_
   refine wp_seq ?_
   refine r0T ?_
   refine wp_cond_false (rfl) ?_
   refine wp_skip ?_
   refine then_norm ?_
   refine wp_seq ?_
   refine r0T ?_
   refine wp_cond_false (rfl) ?_
   refine wp_skip ?_
   refine then_norm ?_
   refine wp_seq ?_
   refine r0T ?_
   refine wp_cond_false (rfl) ?_
   refine wp_skip ?_
   refine then_norm ?_
   refine r0T ?_
   refine rt Tryz.results92 ?_
   exact ⟨rfl, hG⟩
/-- the first of two that is not 0 -/
def orI (a b : Int) : Int := if a = 0 then b else a
set_option maxHeartbeats 400000 in
theorem cmp_Or_two (g c : Nat) (a b : Int) (w : World) (h : Li w (some ⟨g, 0, none⟩) [a, b]) : Calls Tryz.prog 91 #[.slice (some ⟨g, 0, none⟩) 2 c] w fun e w' => e = .returned (.int .i64 (orI a b)) ∧ Grow w w' := by
 have hc : ∀ W, Grow w W → W.cell? ⟨g, 0, none⟩ = some (.int .i64 a) ∧ W.cell? ⟨g, 1, none⟩ = some (.int .i64 b) := fun W hg => by
  obtain ⟨b', o', e, -, h3⟩ := (h.grow hg) (by simp)
  cases e
  exact ⟨by simpa using h3 0 a rfl, by simpa using h3 1 b rfl⟩
 have Hc := Lib.hid hc
 clear h hc
 unfold orI
 go_enter Tryz.func91, Tryz.ntmps91
 refine en0 ?_
 intro u hG hB hF
 refine r0T ?_
 refine wp_seq ?_
 refine r0T ?_
 refine wp_block ?_
 go_loopw [8] (fun s0 wr => ∃ i : Nat, (i = 0 ∨ (i = 1 ∧ a = 0) ∨ (i = 2 ∧ a = 0 ∧ b = 0)) ∧ s0 = .int .i64 i ∧ Grow w wr) (fun s0 _ => 2 - (intOf s0).toNat)
 case atStart => exact ⟨0, .inl rfl, rfl, hG⟩
 case round =>
  clear hB hG
  obtain ⟨i, hi, rfl, hG⟩ := hrel
  obtain ⟨u, rfl⟩ : ∃ x, x = wr := ⟨_, rfl⟩
  have hB := Bx.nil u
  rcases hi with rfl | ⟨rfl, ha⟩ | ⟨rfl, ha, hb⟩
  ·by_cases ha : a = 0
   ·have fb : (a != 0) = false := by simp [ha]
    have fd : decide (a = 0) = true := by simp [ha]
    refine r0T ?_
    refine wp_seq ?_
    refine wp_cond_true (rfl) ?_
    refine wp_skip ?_
    refine then_norm ?_
    refine wp_seq ?_
    refine wp_block ?_
    refine wp_seq ?_
    obtain ⟨c1, c2⟩ := Hc.out u hG
    refine r0N ?_
    refine r0T ?_
    refine wp_cond_false (rfl) ?_
    refine wp_skip ?_
    refine blk_norm ?_
    refine then_norm ?_
    refine r0E ?_
    refine then_norm ?_
    go_roundw
    case rel => exact ⟨1, .inr (.inl ⟨rfl, ha⟩), by go_num, hG⟩
    case measure => simp [intOf]
   ·have fb : (a != 0) = true := by simp [ha]
    rw [if_neg ha]
    clear ha
    refine r0T ?_
    refine wp_seq ?_
    refine wp_cond_true (rfl) ?_
    refine wp_skip ?_
    refine then_norm ?_
    refine wp_seq ?_
    refine wp_block ?_
    refine wp_seq ?_
    obtain ⟨c1, c2⟩ := Hc.out u hG
    refine r0N ?_
    refine r0T ?_
    refine wp_cond_true (rfl) ?_
    refine r0T ?_
    refine rt Tryz.results91 ?_
    exact ⟨rfl, hG⟩
  ·rw [if_pos ha]
   by_cases hb : b = 0
   ·have fb : (b != 0) = false := by simp [hb]
    refine r0T ?_
    refine wp_seq ?_
    refine wp_cond_true (rfl) ?_
    refine wp_skip ?_
    refine then_norm ?_
    refine wp_seq ?_
    refine wp_block ?_
    refine wp_seq ?_
    obtain ⟨c1, c2⟩ := Hc.out u hG
    refine r0N ?_
    refine r0T ?_
    refine wp_cond_false (rfl) ?_
    refine wp_skip ?_
    refine blk_norm ?_
    refine then_norm ?_
    refine r0E ?_
    refine then_norm ?_
    go_roundw
    case rel => exact ⟨2, .inr (.inr ⟨rfl, ha, hb⟩), by go_num, hG⟩
    case measure => simp [intOf]
   ·have fb : (b != 0) = true := by simp [hb]
    clear hb
    refine r0T ?_
    refine wp_seq ?_
    refine wp_cond_true (rfl) ?_
    refine wp_skip ?_
    refine then_norm ?_
    refine wp_seq ?_
    refine wp_block ?_
    refine wp_seq ?_
    obtain ⟨c1, c2⟩ := Hc.out u hG
    refine r0N ?_
    refine r0T ?_
    refine wp_cond_true (rfl) ?_
    refine r0T ?_
    refine rt Tryz.results91 ?_
    exact ⟨rfl, hG⟩
  ·rw [if_pos ha, hb]
   clear ha hb
   refine r0T ?_
   refine wp_seq ?_
   refine wp_cond_false (rfl) ?_
   refine wp_exit ?_
   refine then_exit ?_
   refine then_exit ?_
   refine blk_exit ?_
   refine then_norm ?_
   refine r0T ?_
   refine rt Tryz.results91 ?_
   exact ⟨rfl, hG⟩
set_option maxHeartbeats 1000000 in
set_option maxRecDepth 100000 in
/-- rows all of one length, as training rows are -/
theorem near_valid_ok (A : Option Addr) (rs : List Rq) (n L c : Nat) (hn : rs.length = n) (hn1 : 1 ≤ n) (hn2 : n ≤ 300) (hL1 : 1 ≤ L) (hL2 : L ≤ 20) (hrl : ∀ r ∈ rs, r.2.2.length = L) (w : World) (h : Lrq w A rs) :
  Calls Tryz.prog 49 #[.slice A n c] w fun e w' => e = .returned (.bool true) ∧ Grow w w' := by
 obtain ⟨bb, ob, rfl⟩ := h.addr (by omega)
 have hrow : ∀ i, i < n → ∃ (Ar : Option Addr) (cr : Nat), ∀ W, Grow w W → W.cell? ⟨bb, ob + i, none⟩ = some (.slice Ar L cr) := fun i hi => by
  have hil : i < rs.length := by omega
  refine ⟨rs[i].1, rs[i].2.1, fun W hg => ?_⟩
  have h3 := ((h.grow hg).read (List.getElem?_eq_getElem hil)).1
  rw [hrl _ (List.getElem_mem hil)] at h3
  exact h3
 obtain ⟨A0, c0, hrow0⟩ := hrow 0 (by omega)
 rw [Nat.add_zero] at hrow0
 have f1 : decide ((n : Int) < 1) = false := by simp; omega
 have f1n : decide (n < 1) = false := by simp; omega
 have f1z : decide (n = 0) = false := by simp; omega
 have f2 : decide (300 < (n : Int)) = false := by simp; omega
 have f2n : decide (300 < n) = false := by simp; omega
 have f3 : decide ((L : Int) < 1) = false := by simp; omega
 have f3n : decide (L < 1) = false := by simp; omega
 have f3z : decide (L = 0) = false := by simp; omega
 have f4 : decide (20 < (L : Int)) = false := by simp; omega
 have f4n : decide (20 < L) = false := by simp; omega
 have hni : (0 : Int) < (n : Int) := by omega
 have hne : ((L : Int) != (L : Int)) = false := by simp
 have Hrow := Lib.hid hrow
 have Hrow0 := Lib.hid hrow0
 clear hrow hrow0 h hrl hn
 go_enter Tryz.func49, Tryz.ntmps49
 refine en0 ?_
 intro u hG hB hF
 refine wp_seq ?_
 refine wp_seq ?_
 have q0 := Hrow0.out u hG
 refine r0N ?_
 refine wp_cond_false (rfl) ?_
 refine wp_skip ?_
 refine then_norm ?_
 refine wp_seq ?_
 refine r0T ?_
 refine wp_block ?_
 go_loopw [29] (fun s0 wr => ∃ i : Nat, i ≤ n ∧ s0 = .int .i64 i ∧ Grow w wr) (fun s0 _ => n - (intOf s0).toNat)
 case atStart => exact ⟨0, Nat.zero_le _, rfl, hG⟩
 case round =>
  clear hB hG
  obtain ⟨i, hi, rfl, hG⟩ := hrel
  obtain ⟨u, rfl⟩ : ∃ x, x = wr := ⟨_, rfl⟩
  have hB := Bx.nil u
  rcases Nat.lt_or_ge i n with hlt | hge
  ·have hdec : decide ((i : Int) < (n : Int)) = true := by simp; omega
   obtain ⟨Ar, cr, hrw⟩ := Hrow.out i hlt
   have Hrw := Lib.hid hrw
   clear hrw
   refine r0T ?_
   refine wp_seq ?_
   refine wp_cond_true (rfl) ?_
   refine wp_skip ?_
   refine then_norm ?_
   refine wp_seq ?_
   refine wp_block ?_
   refine wp_seq ?_
   have q0 := Hrow0.out u hG; have q1 := Hrw.out u hG
   refine r0N ?_
   refine wp_seq ?_
   have q0 := Hrow0.out u hG; have q1 := Hrw.out u hG
   refine r0N ?_
   refine wp_cond_false (rfl) ?_
   refine wp_skip ?_
   refine blk_norm ?_
   refine then_norm ?_
   refine r0E ?_
   refine then_norm ?_
   go_roundw
   case rel => exact ⟨i + 1, by omega, by go_num, hG⟩
   case measure => simp [intOf]; omega
  ·obtain rfl : n = i := by omega
   have hdec : decide ((n : Int) < (n : Int)) = false := by simp
   refine r0T ?_
   refine wp_seq ?_
   refine wp_cond_false (rfl) ?_
   refine wp_exit ?_
   refine then_exit ?_
   refine then_exit ?_
   refine blk_exit ?_
   refine then_norm ?_
   refine r0T ?_
   refine rt Tryz.results49 ?_
   exact ⟨rfl, hG⟩
/-- the sum of squared differences -/
def sqQ (l l' : List Rat) (j : Nat) : Rat := qmul (qsub (gq l j) (gq l' j)) (qsub (gq l j) (gq l' j))
def farQ (l l' : List Rat) (n : Nat) : Rat := qsum (sqQ l l') n
theorem sqQ_sz {l l' : List Rat} {j s : Nat} (h1 : qs (gq l j) ≤ s) (h2 : qs (gq l' j) ≤ s) : qs (sqQ l l' j) ≤ 4 * s + 2 := by
 have h3 := qs_sub (gq l j) (gq l' j)
 have h4 := qs_mul (qsub (gq l j) (gq l' j)) (qsub (gq l j) (gq l' j))
 unfold sqQ qmul
 unfold qsub at *
 omega
theorem farQ_sz {l l' : List Rat} {n s : Nat} (hl : l.length = n) (hl' : l'.length = n) (hs : ∀ x ∈ l, qs x ≤ s) (hs' : ∀ x ∈ l', qs x ≤ s) : ∀ j, j ≤ n → qs (qsum (sqQ l l') j) ≤ n * (4 * s + 3) + 1 := fun j hj =>
 Nat.le_trans (qsum_size (sqQ l l') (4 * s + 2) n (fun i hi => sqQ_sz (hs _ (gq_mem (by omega))) (hs' _ (gq_mem (by omega)))) j hj) (Nat.add_le_add_right (Nat.mul_le_mul_right _ hj) 1)
set_option maxHeartbeats 2000000 in
set_option maxRecDepth 100000 in
theorem mean_far (A B : Option Addr) (l l' : List Rat) (c d n : Nat) (hl : l.length = n) (hl' : l'.length = n) (hm : n ≤ 1048576) (s : Nat) (hs : ∀ x ∈ l, qs x ≤ s) (hs' : ∀ x ∈ l', qs x ≤ s) (hBz : n * (4 * s + 3) + 8 * s + 300 ≤ BIG) (w : World) (h : Lq w A l) (h' : Lq w B l') (HT : Tab w) :
  Calls Tryz.prog 82 #[.slice A n c, .slice B n d] w fun e w' => e = .returned (qV (farQ l l' n)) ∧ Grow w w' := by
 have hM := farQ_sz hl hl' hs hs'
 have HM := Lib.hid hM
 have Hs := Lib.hid hs
 have Hs' := Lib.hid hs'
 have H := Lib.hid h
 have H' := Lib.hid h'
 have Hl := Lib.hid hl
 have Hl' := Lib.hid hl'
 unfold farQ
 clear hM hs hs' h h' hl hl'
 go_enter Tryz.func82, Tryz.ntmps82
 refine en1 ?_
 intro u hG b4 hB hF
 refine wp_seq (rsE allocs [2] hB hG fun L hL => ?_)
 refine gaa (newObj_Q _ _ _ _ _) fun b5 hb5 hn5 => ?_
 replace hF := hF.n1 [] hB hG hb5 hn5
 refine geT hL ?_
 clear hB hG hL L
 rintro u ⟨⟨-, hB, hG, -⟩, h5⟩
 replace hB := hB.cons' h5
 clear h5
 clear hb5 hn5
 refine wp_seq ?_
 refine r0T ?_
 refine wp_block ?_
 go_loopw [10] (fun s0 wr => ∃ (j : Nat) (S : Rat), j ≤ n ∧ s0 = .int .i64 j ∧ S = qsum (sqQ l l') j ∧ Bx wr [(b5, 49, qCells S), (b4, 49, zCells)] ∧ Grow w wr) (fun s0 _ => n - (intOf s0).toNat)
 case atStart => exact ⟨0, 0, Nat.zero_le _, rfl, rfl, hB, hG⟩
 case round =>
  clear hB hG
  obtain ⟨j, S, hj, rfl, hS, hB, hG⟩ := hrel
  obtain ⟨u, rfl⟩ : ∃ x, x = wr := ⟨_, rfl⟩
  have z1 := HM.out j hj
  rw [← hS] at z1
  rcases Nat.lt_or_ge j n with hlt | hge
  ·have hdec : decide ((j : Int) < (n : Int)) = true := by simp; omega
   have hjl : j < l.length := by rw [Hl.out]; exact hlt
   have hjl' : j < l'.length := by rw [Hl'.out]; exact hlt
   obtain ⟨ba, oa, rfl⟩ := H.out.addr (by omega)
   obtain ⟨bb, ob, rfl⟩ := H'.out.addr (by omega)
   have hrd : ∀ W, Grow w W → Cq W ba (oa + j * 5) (gq l j) ∧ Cq W bb (ob + j * 5) (gq l' j) := fun W hg => ⟨(H.out.grow hg).read hjl, (H'.out.grow hg).read hjl'⟩
   have z2 := Hs.out _ (gq_mem hjl)
   have z3 := Hs'.out _ (gq_mem hjl')
   have hnx : qsum (sqQ l l') (j + 1) = qadd (qsum (sqQ l l') j) (qmul (qsub (gq l j) (gq l' j)) (qsub (gq l j) (gq l' j))) := rfl
   rw [← hS] at hnx
   obtain ⟨X, hX⟩ : ∃ X, X = gq l j := ⟨_, rfl⟩
   obtain ⟨Y, hY⟩ : ∃ X, X = gq l' j := ⟨_, rfl⟩
   simp only [← hX, ← hY] at hrd
   rw [← hX] at z2 hnx
   rw [← hY] at z3 hnx
   have z4 := qs_sub X Y
   have hsb := fun W hT => frac_Sub X Y W (by omega) hT
   obtain ⟨D, hD⟩ : ∃ D, D = qsub X Y := ⟨_, rfl⟩
   rw [← hD] at hnx hsb
   have z5 : qs D ≤ 2 * s + 1 := by rw [hD]; unfold qsub; omega
   have z6 := qs_mul D D
   have hml := fun W hT => frac_Mul D D W (by omega) hT
   have had := fun W hT => frac_Add S (qmul D D) W (by unfold qmul; omega) hT
   have Hrd := Lib.hid hrd
   have Hnx := Lib.hid hnx
   have Hsb := Lib.hid hsb
   have Hml := Lib.hid hml
   have Had := Lib.hid had
   clear hrd hnx hsb hml had hX hY hD hjl hjl' hS z1 z2 z3 z4 z5 z6
   refine r0T ?_
   refine wp_seq ?_
   refine wp_cond_true (rfl) ?_
   refine wp_skip ?_
   refine then_norm ?_
   refine wp_seq ?_
   refine wp_block ?_
   refine r0T ?_
   refine wp_seq (rdC allocs [] [(0, 0), (0, 1), (0, 2), (0, 3), (0, 4), (0, 5), (0, 6), (0, 7), (1, 8), (2, 9)] hB hG fun K L hN hL => ?_)
   repeat first | refine gya ?_ | refine gyr ?_ | refine gna ?_ | refine gyb (by (rintro v ⟨hgu, hB, hG, -⟩ N hN; have r := hB.r; simp only [BxR] at r; obtain ⟨⟨q1, q2, q3, q4, q5⟩, ⟨y1, y2, y3, y4, y5⟩⟩ := Hrd.out v hG; go_simp; exact hN)) ?_
   refine gmd (C := fun v ⟨hgu, hB, hG, _⟩ => Hsb.out _ (HT.grow hG)) ?_
   refine gaa (newObj_Q _ _ _ _ _) fun b7 hb7 hn7 => ?_
   replace hF := hF.n1 [] hB hG hb7 hn7
   refine geC hL ?_
   clear hB hG hL L
   rintro u ⟨⟨-, hB, hG, -⟩, h7⟩
   replace hB := hB.cons' h7
   clear h7
   clear hb7 hn7
   refine gtT ?_
   clear hN K
   refine st hB hF hG 0 0 [_, _, _, _, _] ?_
   clear hB hG
   intro u hB hG
   refine rdC allocs [] [(0, 0), (0, 1), (0, 2), (1, 3), (1, 4)] hB hG fun K L hN hL => ?_
   repeat first | refine gya ?_ | refine gyr ?_ | refine gna ?_ | refine gyb (by (rintro v ⟨hgu, hB, hG, -⟩ N hN; have r := hB.r; simp only [BxR] at r; obtain ⟨⟨q1, q2, q3, q4, q5⟩, ⟨y1, y2, y3, y4, y5⟩⟩ := Hrd.out v hG; go_simp; exact hN)) ?_
   refine gmd (C := fun v ⟨hgu, hB, hG, _⟩ => Hml.out _ (HT.grow hG)) ?_
   refine gmd (C := fun v ⟨hgu, hB, hG, _⟩ => Had.out _ (HT.grow hG)) ?_
   refine geC hL ?_
   clear hB hG hL L
   rintro u ⟨-, hB, hG, -⟩
   refine gt ?_
   clear hN K
   refine st hB hF hG 1 0 [_, _, _, _, _] ?_
   clear hB hG
   intro u hB hG
   refine blk_norm ?_
   refine then_norm ?_
   refine r0E ?_
   refine then_norm ?_
   go_roundw
   case rel => exact ⟨j + 1, qadd S (qmul D D), by omega, by go_num, Hnx.out.symm, hB.tail, hG⟩
   case measure => simp [intOf]; omega
  ·obtain rfl : n = j := by omega
   have hdec : decide ((n : Int) < (n : Int)) = false := by simp
   rw [← hS]
   clear hS
   refine r0T ?_
   refine wp_seq ?_
   refine wp_cond_false (rfl) ?_
   refine wp_exit ?_
   refine then_exit ?_
   refine then_exit ?_
   refine blk_exit ?_
   refine then_norm ?_
   refine r0T ?_
   refine st hB hF hG 1 0 [_, _, _, _, _] ?_
   clear hB hG
   intro u hB hG
   refine rt Tryz.results82 ?_
   exact ⟨rfl, hG⟩
set_option maxHeartbeats 1000000 in
set_option maxRecDepth 100000 in
theorem mean_Far (A B : Option Addr) (l l' : List Rat) (c d n : Nat) (hl : l.length = n) (hl' : l'.length = n) (hm : n ≤ 1048576) (s : Nat) (hs : ∀ x ∈ l, qs x ≤ s) (hs' : ∀ x ∈ l', qs x ≤ s) (hBz : n * (4 * s + 3) + 8 * s + 300 ≤ BIG) (w : World) (h : Lq w A l) (h' : Lq w B l') (HT : Tab w) :
  Calls Tryz.prog 44 #[.slice A n c, .slice B n d] w fun e w' => e = .returned (.tuple #[qV (farQ l l' n), .bool true]) ∧ Grow w w' := by
 have hf := fun W (hg : Grow w W) hT => mean_far A B l l' c d n hl hl' hm s hs hs' hBz W (h.grow hg) (h'.grow hg) hT
 obtain ⟨V, hV⟩ : ∃ V, V = farQ l l' n := ⟨_, rfl⟩
 rw [← hV]
 simp only [← hV] at hf
 have Hf := Lib.hid hf
 have hne : ((n : Int) != (n : Int)) = false := by simp
 clear hf hV h h' hs hs' hl hl' hBz
 go_enter Tryz.func44, Tryz.ntmps44
 refine en1 ?_
 intro u hG b4 hB hF
 refine wp_seq ?_
 refine r0T ?_
 refine wp_cond_false (rfl) ?_
 refine wp_skip ?_
 refine then_norm ?_
 refine wp_seq (rsC allocs [0, 0, 1] hB hG fun K L hN hL => ?_)
 refine gs ?_
 refine gmd (C := fun v ⟨hgu, hB, hG, _⟩ => Hf.out _ hG (HT.grow hG)) ?_
 refine geC hL ?_
 clear hB hG hL L
 rintro u ⟨-, hB, hG, -⟩
 refine gtT ?_
 clear hN K
 refine st hB hF hG 0 0 [_, _, _, _, _] ?_
 clear hB hG
 intro u hB hG
 refine rt Tryz.results44 ?_
 exact ⟨rfl, hG⟩
/-- a hit's cells -/
abbrev htL (h : Ht) : List Value := [.int .i64 (h.1 : Nat), .bool (intNeg h.2.num), .int .u64 (natLo h.2.num.natAbs), .string (natMo h.2.num.natAbs), .int .u64 (natLo (keptDen h.2.den)), .string (natMo (keptDen h.2.den))]
abbrev htV (i : Nat) (q : Rat) : Value := .agg #[.int .i64 (i : Nat), .bool (intNeg q.num), .int .u64 (natLo q.num.natAbs), .string (natMo q.num.natAbs), .int .u64 (natLo (keptDen q.den)), .string (natMo (keptDen q.den))]
theorem newObj_Hit (d : Option Tmp) (ty : TypeId) (pos : String) (af : Array Edge) (gd : Option (Nat × Bool)) : newObj Tryz.prog ⟨d, .alloc 51, ty, pos, af, gd⟩ = .cells #[.int .i64 0, .bool false, .int .u64 0, .string ⟨#[]⟩, .int .u64 0, .string ⟨#[]⟩] 51 := by kernel_rfl
theorem allocsN : ∀ t ∈ [45, 47, 49, 51], AllocT Tryz.prog t := by
 intro t ht
 simp only [List.mem_cons, List.not_mem_nil, or_false] at ht
 rcases ht with rfl | rfl | rfl | rfl
 ·exact fun _ _ _ _ _ _ => by rw [newObj_Nat]; kernel_rfl
 ·exact fun _ _ _ _ _ _ => by rw [newObj_Int]; kernel_rfl
 ·exact fun _ _ _ _ _ _ => by rw [newObj_Q]; kernel_rfl
 ·exact fun _ _ _ _ _ _ => by rw [newObj_Hit]; kernel_rfl
set_option maxHeartbeats 1000000 in
set_option maxRecDepth 100000 in
theorem near_hit (i : Nat) (A B : Option Addr) (l l' : List Rat) (c d n : Nat) (hl : l.length = n) (hl' : l'.length = n) (hm : n ≤ 1048576) (s : Nat) (hs : ∀ x ∈ l, qs x ≤ s) (hs' : ∀ x ∈ l', qs x ≤ s) (hBz : n * (4 * s + 3) + 8 * s + 300 ≤ BIG) (w : World) (h : Lq w A l) (h' : Lq w B l') (HT : Tab w) :
  Calls Tryz.prog 50 #[.int .i64 (i : Nat), .slice A n c, .slice B n d] w fun e w' => e = .returned (htV i (farQ l l' n)) ∧ Grow w w' := by
 have hf := fun W (hg : Grow w W) hT => mean_Far A B l l' c d n hl hl' hm s hs hs' hBz W (h.grow hg) (h'.grow hg) hT
 obtain ⟨V, hV⟩ : ∃ V, V = farQ l l' n := ⟨_, rfl⟩
 rw [← hV]
 simp only [← hV] at hf
 have Hf := Lib.hid hf
 clear hf hV h h' hs hs' hl hl' hBz
 go_enter Tryz.func50, Tryz.ntmps50
 refine en1 ?_
 intro u hG b6 hB hF
 refine wp_seq (rsC allocsN [0, 0, 1, 0, 0, 0, 2] hB hG fun K L hN hL => ?_)
 refine gs ?_
 refine gmd (C := fun v ⟨hgu, hB, hG, _⟩ => Hf.out _ hG (HT.grow hG)) ?_
 refine gs ?_
 refine gaa (newObj_Q _ _ _ _ _) fun b7 hb7 hn7 => ?_
 replace hF := hF.n1 [] hB hG hb7 hn7
 refine geC hL ?_
 clear hB hG hL L
 rintro u ⟨⟨-, hB, hG, -⟩, h7⟩
 replace hB := hB.cons' h7
 clear h7
 clear hb7 hn7
 refine gtT ?_
 clear hN K
 refine st hB hF hG 0 0 [_, _, _, _, _] ?_
 clear hB hG
 intro u hB hG
 refine r0T ?_
 refine st hB hF hG 1 0 [_, _, _, _, _, _] ?_
 clear hB hG
 intro u hB hG
 refine rt Tryz.results50 ?_
 exact ⟨rfl, hG⟩
end Go.Proofs.YtjmopgepnndckaaGreatDoor
