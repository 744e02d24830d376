/-
  Contracts and laws: LeastB.
-/
import Derived.Test.YtimjnkfcnpfoeaaGreatDoorL48
set_option linter.unusedSimpArgs false
set_option linter.unusedVariables false
namespace Go.Proofs.YtimjnkfcnpfoeaaGreatDoor
open Go Go.RowKit
theorem blk_q5 {W : World} {b : Nat} {q : Rat} (h : Blk W b 32 (qCells q)) : W.cell? ⟨b, 0, none⟩ = some (.bool (intNeg q.num)) ∧ W.cell? ⟨b, 1, none⟩ = some (.int .u64 (natLo q.num.natAbs)) ∧ W.cell? ⟨b, 2, none⟩ = some (.string (natMo q.num.natAbs)) ∧ W.cell? ⟨b, 3, none⟩ = some (.int .u64 (natLo (keptDen q.den))) ∧ W.cell? ⟨b, 4, none⟩ = some (.string (natMo (keptDen q.den))) :=
 ⟨h.cell 0, h.cell 1, h.cell 2, h.cell 3, h.cell 4⟩
theorem repQ_len (n : Nat) (y : Rat) : (repQ n y).length = n := by unfold repQ; simp
theorem repQ_sz {n s : Nat} {y : Rat} (h : qs y ≤ s) : ∀ x ∈ repQ n y, qs x ≤ s := fun x hx => by
 unfold repQ at hx
 rw [(List.mem_replicate.1 hx).2]
 exact h
theorem rowQ_szL (l : List Int) (n : Nat) : ∀ x ∈ rowQ l n, qs x ≤ 50 := fun x hx => by
 unfold rowQ at hx
 obtain ⟨i, -, rfl⟩ := List.mem_map.1 hx
 unfold rowAtL
 split
 ·exact Nat.le_trans (rawQ_sz _) (by omega)
 ·rw [show qint 0 = 0 from rfl, qs_zero]; omega
theorem sq_nonneg (x : Rat) : 0 ≤ x * x := by
 by_cases h : 0 ≤ x
 ·exact Rat.mul_nonneg h h
 ·have := Rat.mul_nonneg (a := -x) (b := -x) (by grind) (by grind)
  grind
theorem cmpQ_le {a b : Rat} (h : a ≤ b) : cmpQ a b ≤ 0 := by
 unfold cmpQ
 by_cases h1 : a < b
 ·rw [if_pos h1]; omega
 ·rw [if_neg h1, if_neg (Rat.not_lt.2 h)]; omega
theorem cmpQ_eq (a : Rat) : cmpQ a a = 0 := by unfold cmpQ; simp [Rat.lt_irrefl]
theorem half_is : qover 1 2 = 1 / 2 := by unfold qover; rw [Rat.divInt_eq_div]; rfl
/-- all that ScoreLeast's values say of one another -/
theorem least_facts (P : List Rat) (n : Nat) (hn : n = P.length) (h0 : 0 < n) (O : Rat) :
  cmpQ (qSquares P (repQ n (qMean P n)) n) (qSquares P (repQ n O) n) ≤ 0 ∧ cmpQ (qSizes P (repQ n (medQ P)) n) (qSizes P (repQ n O) n) ≤ 0 ∧
  qadd (qTilt P (repQ n O) (1/2) n) (qTilt P (repQ n O) (1/2) n) = qSizes P (repQ n O) n ∧
  qsub (qSquares P (repQ n O) n) (qSquares P (repQ n (qMean P n)) n) = qmul (qsub (qMean P n) O) (qsub (qMean P n) O) ∧
  (qOff P (qMean P n) n = 0 ↔ (qSquares P (repQ n (qMean P n)) n).num.sign = 0) := by
 have h1 := squares_mean P n h0 O
 refine ⟨cmpQ_le ?_, cmpQ_le ?_, tilt_sizes P _ n, h1, ?_⟩
 ·have := sq_nonneg (qMean P n - O)
  grind
 ·subst hn
  exact sizes_med P h0 O
 ·rw [squares_rep, Int.sign_eq_zero_iff_zero, Rat.num_eq_zero]
set_option maxHeartbeats 4000000 in
set_option maxRecDepth 100000 in
theorem law9_ScoreLeast_0 (A : Option Addr) (la : List Int) (ca : Nat) (z : Int) (h0 : la.length = 0) (w : World) (HT : Tab w) :
  Calls Tryz.prog 8 #[.slice A la.length ca, .int .i64 z] w fun e w' => e = .returned (.bool true) ∧ Grow w w' := by
 obtain rfl : la = [] := List.length_eq_zero_iff.1 h0
 have hR1 : ∀ W, Grow w W → Calls Tryz.prog 27 #[.slice A 0 ca, .int .i64 0] W (RetY (fun x : Ax => .slice x.1 0 x.2) (fun x W => Lz W x.1 (rowQ [] 0)) W) := fun W hg =>
  (hand_Row A [] ca 0 0 rfl (by omega) (by omega) (fun x hx => by cases hx) W (Li.nil _ _)).mono fun e w' ⟨A', c', he, h, hg'⟩ => ⟨(A', c'), he, h.1, hg'⟩
 have hI1 : ∀ (W : World) (X : Ax), Lz W X.1 (rowQ [] 0) → Tab W → Calls Tryz.prog 28 #[.slice X.1 0 X.2] W (RetY (fun x : Ax => .slice x.1 0 x.2) (fun x W => Lq W x.1 (rowQ [] 0)) W) := fun W X hX hT =>
  (hand_InRow X.1 _ X.2 0 (rowQ_len _ _).symm (by omega) (fun x hx => by rw [List.eq_nil_of_length_eq_zero (rowQ_len [] 0)] at hx; cases hx) W hX hT).mono fun e w' ⟨A', c', he, h, hg'⟩ => ⟨(A', c'), he, h, hg'⟩
 have HR1 := Lib.hid hR1
 have HI1 := Lib.hid hI1
 clear hR1 hI1
 show Calls Tryz.prog 8 #[.slice A 0 ca, .int .i64 z] w _
 go_enter Tryz.func8, Tryz.ntmps8
 refine en0 ?_
 intro u hG hB hF
 refine wp_seq (rsE allocs [0, 0, 0, 0, 1, 1, 0] hB hG fun L hL => ?_)
 refine gs ?_
 refine gxd (X := Ax) (fun x : Ax => .slice x.1 0 x.2) (fun x W => Lz W x.1 (rowQ [] 0)) (fun x u u' hg h => Lz.grow h hg) (fun x33 => ?_) (C := by (rintro v ⟨hgu, hB, hG, -⟩; exact HR1.out _ hG))
 refine gxd (X := Ax) (fun x : Ax => .slice x.1 0 x.2) (fun x W => Lq W x.1 (rowQ [] 0)) (fun x u u' hg h => Lq.grow h hg) (fun x34 => ?_) (C := by (rintro v ⟨⟨hgu, hB, hG, -⟩, hx33⟩; exact HI1.out _ x33 hx33 (HT.grow hG)))
 refine gs ?_
 refine geT hL ?_
 clear hB hG hL L
 rintro u ⟨⟨⟨-, hB, hG, -⟩, hx33⟩, hx34⟩
 refine wp_seq ?_
 refine r0T ?_
 refine wp_cond_true (rfl) ?_
 refine wp_seq (rsE allocs [1, 0] hB hG fun L hL => ?_)
 refine gmd (C := fun v ⟨hgu, hB, hG, _⟩ => law9_known _ (HT.grow hG)) ?_
 refine gs ?_
 refine geT hL ?_
 clear hB hG hL L
 rintro u ⟨-, hB, hG, -⟩
 refine rt Tryz.results8 ?_
 exact ⟨rfl, hG⟩
set_option maxHeartbeats 8000000 in
set_option maxRecDepth 100000 in
theorem law9_ScoreLeast_1 (A : Option Addr) (la : List Int) (ca : Nat) (z : Int) (hla : la.length ≤ 9223372036854775807) (hba : ∀ x ∈ la, -9223372036854775808 ≤ x ∧ x ≤ 9223372036854775807) (hz0 : -9223372036854775808 ≤ z) (hz1 : z ≤ 9223372036854775807)
  (h0 : 0 < la.length) (w : World) (h1 : Li w A la) (HT : Tab w) :
  Calls Tryz.prog 8 #[.slice A la.length ca, .int .i64 z] w fun e w' => e = .returned (.bool true) ∧ Grow w w' := by
 obtain ⟨pa, hpa⟩ : ∃ p, p = la.length := ⟨_, rfl⟩
 rw [← hpa]
 obtain ⟨n, hn⟩ : ∃ n, n = min pa 15 := ⟨_, rfl⟩
 have hn15 : n ≤ 15 := by omega
 have hn0 : 0 < n := by omega
 have fmin : min (pa : Int) 15 = (n : Int) := by omega
 have fz : ((n : Int) == 0) = false := by rw [beq_eq_false_iff_ne]; omega
 have hR1 : ∀ W, Grow w W → Calls Tryz.prog 27 #[.slice A pa ca, .int .i64 n] W (RetY (fun x : Ax => .slice x.1 n x.2) (fun x W => Lz W x.1 (rowQ la n)) W) := fun W hg =>
  (hand_Row A la ca pa n hpa (by omega) (by omega) hba W (h1.grow hg)).mono fun e w' ⟨A', c', he, h, hg'⟩ => ⟨(A', c'), he, h.1, hg'⟩
 have sP := rowQ_szL la n
 have lP := rowQ_len la n
 generalize rowQ la n = P at *
 have hB50 : 50 ≤ BIG := by unfold BIG; omega
 have hBB : 100000000 ≤ BIG := by unfold BIG; omega
 have hI1 : ∀ (W : World) (X : Ax), Lz W X.1 P → Tab W → Calls Tryz.prog 28 #[.slice X.1 n X.2] W (RetY (fun x : Ax => .slice x.1 n x.2) (fun x W => Lq W x.1 P) W) := fun W X hX hT =>
  (hand_InRow X.1 P X.2 n lP.symm (by omega) (fun x hx => Nat.le_trans (sP x hx) hB50) W hX hT).mono fun e w' ⟨A', c', he, h, hg'⟩ => ⟨(A', c'), he, h, hg'⟩
 have hMe : ∀ (W : World) (X : Ax), Lq W X.1 P → Tab W → Calls Tryz.prog 49 #[.slice X.1 n X.2] W fun e w' => e = .returned (.tuple #[qV (qMean P n), .bool true]) ∧ Grow W w' := fun W X hX hT =>
  frac_Mean X.1 P X.2 n lP.symm hn0 (by omega) 50 sP (by omega) W hX hT
 have hMd : ∀ (W : World) (X : Ax), Lq W X.1 P → Tab W → Calls Tryz.prog 50 #[.slice X.1 n X.2] W fun e w' => e = .returned (.tuple #[qV (medQ P), .bool true]) ∧ Grow W w' := fun W X hX hT =>
  frac_Median X.1 P X.2 n lP.symm hn0 (by omega) 50 sP (by rw [qs_zero]; omega) (by omega) W hX hT
 have hQz := fun (W : World) (hT : Tab W) => hand_Q z W hz0 hz1 hT
 have sO : qs (rawQ z) ≤ 1000 := Nat.le_trans (rawQ_sz z) (by omega)
 have sM : qs (qMean P n) ≤ 1000 := Nat.le_trans (mean_size (by omega) (fun i hi => sP _ (gq_mem (l := P) (by omega)))) (by omega)
 have sN : qs (medQ P) ≤ 1000 := by
  unfold medQ
  have hl : (midl P).length ≤ 2 := by rw [midl_len P (by omega)]; omega
  refine Nat.le_trans (mean_size (s := 50) (by omega) (fun i hi => sP _ (midl_mem (gq_mem hi)))) ?_
  have := Nat.mul_le_mul_right 51 hl
  omega
 have sP' : ∀ x ∈ P, qs x ≤ 1000 := fun x hx => Nat.le_trans (sP x hx) (by omega)
 obtain ⟨f1, f2, f3, f4, f5⟩ := least_facts P n lP.symm hn0 (rawQ z)
 have told0 := told_mean P n
 generalize hO : rawQ z = O at *
 have hTo := fun (W : World) (X Y : Ax) (h : Lq W X.1 P) (h' : Lq W Y.1 (repQ n (qMean P n))) (hT : Tab W) => score_Told_ok X.1 Y.1 n X.2 Y.2 P (repQ n (qMean P n)) lP (repQ_len _ _) hn0 (by omega) 1000 16000 sP' (repQ_sz sM) (by omega) (by omega) (by omega) W h h' hT
 obtain ⟨kb, hkb⟩ : ∃ b, b = decide (qOff P (qMean P n) n = 0) := ⟨_, rfl⟩
 obtain ⟨K, hK⟩ : ∃ K : Int, K = if qOff P (qMean P n) n = 0 then 6 else 0 := ⟨_, rfl⟩
 obtain ⟨Z0, hZ0⟩ : ∃ z : Rat, z = 0 := ⟨0, rfl⟩
 have hTo' : ∀ (W : World) (X Y : Ax) (h : Lq W X.1 P) (h' : Lq W Y.1 (repQ n (qMean P n))) (hT : Tab W), Calls Tryz.prog 36 #[.slice X.1 n X.2, .slice Y.1 n Y.2] W fun e w' => e = .returned (.tuple #[qV Z0, .int .i64 K]) ∧ Grow W w' := fun W X Y h h' hT => by
  rw [hZ0]
  refine (hTo W X Y h h' hT).mono fun e w' ⟨he, hg⟩ => ⟨he.trans ?_, hg⟩
  by_cases hq : qOff P (qMean P n) n = 0
  ·rw [if_pos hq, hK, if_pos hq]
  ·rw [if_neg hq, hK, if_neg hq, told0 hq]
 have fk : (K == 6) = kb ∧ decide (K = 6) = kb := by
  rw [hK, hkb]
  by_cases hq : qOff P (qMean P n) n = 0 <;> simp [hq]
 have fs : ((qSquares P (repQ n (qMean P n)) n).num.sign == 0) = kb ∧ decide ((qSquares P (repQ n (qMean P n)) n).num.sign = 0) = kb := by
  rw [hkb]
  by_cases hq : qOff P (qMean P n) n = 0
  ·have := f5.1 hq
   simp only [this, hq]
   decide
  ·have hne := mt f5.2 hq
   simp only [hq, hne, decide_false]
   exact ⟨by rw [beq_eq_false_iff_ne]; exact hne, trivial⟩
 clear hTo hK hkb told0 f5
 have sHf : qs ((1 : Rat) / 2) ≤ 50 := by decide +kernel
 have hSq := fun (y : Rat) (sy : qs y ≤ 1000) (W : World) (X Y : Ax) (h : Lq W X.1 P) (h' : Lq W Y.1 (repQ n y)) (hT : Tab W) => score_Squares_ok X.1 Y.1 n X.2 Y.2 P (repQ n y) lP (repQ_len _ _) hn0 (by omega) 1000 sP' (repQ_sz sy) (by omega) W h h' hT
 have hSi := fun (y : Rat) (sy : qs y ≤ 1000) (W : World) (X Y : Ax) (h : Lq W X.1 P) (h' : Lq W Y.1 (repQ n y)) (hT : Tab W) => score_Sizes_ok X.1 Y.1 n X.2 Y.2 P (repQ n y) lP (repQ_len _ _) hn0 (by omega) 1000 sP' (repQ_sz sy) (by omega) W h h' hT
 have hTi := fun (W : World) (X Y : Ax) (h : Lq W X.1 P) (h' : Lq W Y.1 (repQ n O)) (hT : Tab W) => score_Tilt_ok X.1 Y.1 n X.2 Y.2 P (repQ n O) (1/2) lP (repQ_len _ _) hn0 (by omega) (by decide +kernel) (by decide +kernel) 1000 (Nat.le_trans sHf (by omega)) sP' (repQ_sz sO) (by omega) W h h' hT
 have zSq : ∀ y, qs y ≤ 1000 → qs (qSquares P (repQ n y) n) ≤ 61000 := fun y sy => Nat.le_trans (mean_size (by omega) (fun i hi => qs_sqd _ _ 1000 (sP' _ (gq_mem (by omega))) (repQ_sz sy _ (gq_mem (by rw [repQ_len]; omega))))) (by omega)
 have zSi : ∀ y, qs y ≤ 1000 → qs (qSizes P (repQ n y) n) ≤ 61000 := fun y sy => Nat.le_trans (mean_size (by omega) (fun i hi => qs_absd _ _ 1000 (sP' _ (gq_mem (by omega))) (repQ_sz sy _ (gq_mem (by rw [repQ_len]; omega))))) (by omega)
 have zTi : qs (qTilt P (repQ n O) (1/2) n) ≤ 61000 := Nat.le_trans (mean_size (by omega) (fun i hi => tiltAt_sz (1/2) _ _ 1000 (Nat.le_trans sHf (by omega)) (sP' _ (gq_mem (by omega))) (repQ_sz sO _ (gq_mem (by rw [repQ_len]; omega))))) (by omega)
 have hTi := hTi
 have hSqM := hSq (qMean P n) sM
 have hSqO := hSq O sO
 have hSiN := hSi (medQ P) sN
 have hSiO := hSi O sO
 have z1 := zSq _ sM
 have z2 := zSq _ sO
 have z3 := zSi _ sN
 have z4 := zSi _ sO
 clear hSq hSi zSq zSi
 have hA1 : ∀ W, Tab W → Calls Tryz.prog 21 #[qV (qTilt P (repQ n O) (1/2) n), qV (qTilt P (repQ n O) (1/2) n)] W fun e w' => e = .returned (qV (qSizes P (repQ n O) n)) ∧ Grow W w' := fun W hT => by
  have := frac_Add (qTilt P (repQ n O) (1/2) n) (qTilt P (repQ n O) (1/2) n) W (by omega) hT
  rw [f3] at this
  exact this
 have hS1 : ∀ W, Tab W → Calls Tryz.prog 47 #[qV (qSquares P (repQ n O) n), qV (qSquares P (repQ n (qMean P n)) n)] W fun e w' => e = .returned (qV (qmul (qsub (qMean P n) O) (qsub (qMean P n) O))) ∧ Grow W w' := fun W hT => by
  have := frac_Sub (qSquares P (repQ n O) n) (qSquares P (repQ n (qMean P n)) n) W (by omega) hT
  rw [f4] at this
  exact this
 have zE : qs (qsub (qMean P n) O) ≤ 2001 := Nat.le_trans (qs_sub _ _) (by omega)
 have zD : qs (qmul (qsub (qMean P n) O) (qsub (qMean P n) O)) ≤ 5000 := Nat.le_trans (qs_mul _ _) (by omega)
 have hS2 := fun (W : World) (hT : Tab W) => frac_Sub (qMean P n) O W (by omega) hT
 have hM2 := fun (W : World) (hT : Tab W) => frac_Mul (qsub (qMean P n) O) (qsub (qMean P n) O) W (by omega) hT
 have hC4 : ∀ W, Calls Tryz.prog 25 #[qV (qmul (qsub (qMean P n) O) (qsub (qMean P n) O)), qV (qmul (qsub (qMean P n) O) (qsub (qMean P n) O))] W fun e w' => e = .returned (.int .i64 0) ∧ Grow W w' := fun W => by
  have := frac_Cmp (qmul (qsub (qMean P n) O) (qsub (qMean P n) O)) (qmul (qsub (qMean P n) O) (qsub (qMean P n) O)) W (by omega)
  rw [cmpQ_eq] at this
  exact this
 generalize qmul (qsub (qMean P n) O) (qsub (qMean P n) O) = D at *
 generalize qsub (qMean P n) O = E at *
 have hC1 := fun (W : World) => frac_Cmp (qSquares P (repQ n (qMean P n)) n) (qSquares P (repQ n O) n) W (by omega)
 have hC2 := fun (W : World) => frac_Cmp (qSizes P (repQ n (medQ P)) n) (qSizes P (repQ n O) n) W (by omega)
 have hC3 : ∀ W, Calls Tryz.prog 25 #[qV (qSizes P (repQ n O) n), qV (qSizes P (repQ n O) n)] W fun e w' => e = .returned (.int .i64 0) ∧ Grow W w' := fun W => by
  have := frac_Cmp (qSizes P (repQ n O) n) (qSizes P (repQ n O) n) W (by omega)
  rw [cmpQ_eq] at this
  exact this
 have hBI := BIG_le
 have hSg := fun (W : World) => frac_Sign (qSquares P (repQ n (qMean P n)) n) (by have := qs_num (qSquares P (repQ n (qMean P n)) n); omega) W
 have hS0 : ∀ W, Calls Tryz.prog 48 #[qV Z0] W fun e w' => e = .returned (.int .i64 0) ∧ Grow W w' := fun W => by
  rw [hZ0]
  exact frac_Sign 0 (by decide +kernel) W
 have hOv : ∀ W, Tab W → Calls Tryz.prog 51 #[.int .i64 1, .int .i64 2] W fun e w' => e = .returned (.tuple #[qV (1/2), .bool true]) ∧ Grow W w' := fun W hT => by
  have := frac_Over 1 2 (by omega) (by omega) (by omega) (by omega) W hT
  rw [half_is] at this
  exact this
 generalize cmpQ (qSquares P (repQ n (qMean P n)) n) (qSquares P (repQ n O) n) = C1 at *
 generalize cmpQ (qSizes P (repQ n (medQ P)) n) (qSizes P (repQ n O) n) = C2 at *
 generalize (qSquares P (repQ n (qMean P n)) n).num.sign = SG at *
 generalize qSquares P (repQ n (qMean P n)) n = V1 at *
 generalize qSquares P (repQ n O) n = V2 at *
 generalize qSizes P (repQ n (medQ P)) n = V3 at *
 generalize qSizes P (repQ n O) n = V4 at *
 generalize qTilt P (repQ n O) (1/2) n = V5 at *
 generalize (1 : Rat) / 2 = HF at *
 generalize qMean P n = M at *
 generalize medQ P = N0 at *
 have fc1 : decide (C1 ≤ 0) = true := by simp [f1]
 have fc2 : decide (C2 ≤ 0) = true := by simp [f2]
 obtain ⟨fk1, fk2⟩ := fk
 obtain ⟨fs1, fs2⟩ := fs
 have HR1 := Lib.hid hR1
 have HI1 := Lib.hid hI1
 have HMe := Lib.hid hMe
 have HMd := Lib.hid hMd
 have HQz := Lib.hid hQz
 have HSqM := Lib.hid hSqM
 have HSqO := Lib.hid hSqO
 have HSiN := Lib.hid hSiN
 have HSiO := Lib.hid hSiO
 clear hZ0
 have HTo := Lib.hid hTo'
 have HTi := Lib.hid hTi
 have HOv := Lib.hid hOv
 have HC1 := Lib.hid hC1
 have HC2 := Lib.hid hC2
 have HC3 := Lib.hid hC3
 have HC4 := Lib.hid hC4
 have HA1 := Lib.hid hA1
 have HS1 := Lib.hid hS1
 have HS2 := Lib.hid hS2
 have HM2 := Lib.hid hM2
 have HSg := Lib.hid hSg
 have HS0 := Lib.hid hS0
 clear hR1 hI1 hMe hMd hQz hSqM hSqO hSiN hSiO hTo' hTi hOv hC1 hC2 hC3 hC4 hA1 hS1 hS2 hM2 hSg hS0 z1 z2 z3 z4 zE zD zTi sHf sO sM sN sP sP' lP f1 f2 f3 f4 h1 hba hla hpa hn h0 hO hz0 hz1 hB50 hBB hBI
 go_enter Tryz.func8, Tryz.ntmps8
 refine en0 ?_
 intro u hG hB hF
 refine wp_seq (rsE allocs [0, 0, 0, 0, 1, 1, 0] hB hG fun L hL => ?_)
 refine gs ?_
 refine gxd (X := Ax) (fun x : Ax => .slice x.1 n x.2) (fun x W => Lz W x.1 P) (fun x u u' hg h => Lz.grow h hg) (fun x33 => ?_) (C := by (rintro v ⟨hgu, hB, hG, -⟩; exact HR1.out _ hG))
 refine gxd (X := Ax) (fun x : Ax => .slice x.1 n x.2) (fun x W => Lq W x.1 P) (fun x u u' hg h => Lq.grow h hg) (fun x34 => ?_) (C := by (rintro v ⟨⟨hgu, hB, hG, -⟩, hx33⟩; exact HI1.out _ x33 hx33 (HT.grow hG)))
 refine gs ?_
 refine geT hL ?_
 clear hB hG hL L
 rintro u ⟨⟨⟨hgu, hB, hG, -⟩, hx33⟩, hx34⟩
 have HX := Lib.hid hx34
 clear hx33 hx34
 clear hgu
 have HG0 := Lib.hid hG
 clear hB hF hG
 obtain ⟨w0, rfl⟩ : ∃ x, x = w := ⟨_, rfl⟩
 obtain ⟨w, hwu⟩ : ∃ x, x = u := ⟨_, rfl⟩
 rw [← hwu] at HG0 HX
 have hB := Bx.nil u
 have hF := Fr.nil w
 have hG : Grow w u := hwu ▸ Grow.refl u
 clear hwu
 replace HT := HT.grow HG0.out
 refine wp_seq ?_
 refine r0T ?_
 refine wp_cond_false (rfl) ?_
 refine wp_skip ?_
 refine then_norm ?_
 refine wp_seq (rsC allocs [0, 1, 0, 0, 0, 2] hB hG fun K L hN hL => ?_)
 refine gs ?_
 refine gmd (C := fun v ⟨hgu, hB, hG, _⟩ => HMe.out _ x34 (Lq.grow HX.out hG) (HT.grow hG)) ?_
 refine gs ?_
 refine gaa (newObj_Q _ _ _ _ _) fun b6 hb6 hn6 => ?_
 replace hF := hF.n1 [] hB hG hb6 hn6
 refine geC hL ?_
 clear hB hG hL L
 rintro u ⟨⟨-, hB, hG, -⟩, h6⟩
 replace hB := hB.cons' h6
 clear h6
 clear hb6 hn6
 refine gtT ?_
 clear hN K
 refine st hB hF hG 0 0 [_, _, _, _, _] ?_
 clear hB hG
 intro u hB hG
 refine wp_seq (rsC allocs [0, 1, 0, 0, 0, 2] hB hG fun K L hN hL => ?_)
 refine gs ?_
 refine gmd (C := fun v ⟨hgu, hB, hG, _⟩ => HMd.out _ x34 (Lq.grow HX.out hG) (HT.grow hG)) ?_
 refine gs ?_
 refine gaa (newObj_Q _ _ _ _ _) fun b8 hb8 hn8 => ?_
 replace hF := hF.n1 [] hB hG hb8 hn8
 refine geC hL ?_
 clear hB hG hL L
 rintro u ⟨⟨-, hB, hG, -⟩, h8⟩
 replace hB := hB.cons' h8
 clear h8
 clear hb8 hn8
 refine gtT ?_
 clear hN K
 refine st hB hF hG 0 0 [_, _, _, _, _] ?_
 clear hB hG
 intro u hB hG
 refine wp_seq (rsC allocs [0, 1, 2] hB hG fun K L hN hL => ?_)
 refine gs ?_
 refine gmd (C := fun v ⟨hgu, hB, hG, _⟩ => HQz.out _ (HT.grow hG)) ?_
 refine gaa (newObj_Q _ _ _ _ _) fun b10 hb10 hn10 => ?_
 replace hF := hF.n1 [] hB hG hb10 hn10
 refine geC hL ?_
 clear hB hG hL L
 rintro u ⟨⟨-, hB, hG, -⟩, h10⟩
 replace hB := hB.cons' h10
 clear h10
 clear hb10 hn10
 refine gtT ?_
 clear hN K
 refine st hB hF hG 0 0 [_, _, _, _, _] ?_
 clear hB hG
 intro u hB hG
 refine wp_seq ?_
 have q6 := hB.tail.tail.head
 have q8 := hB.tail.head
 have q10 := hB.head
 have HX' := Lib.hid (Lq.grow HX.out hG)
 have HT' := HT.grow hG
 have HG1 := Lib.hid (HG0.out.trans hG)
 clear HX HT HG0 hG hB hF
 have HX := HX'
 have HT := HT'
 clear HX' HT'
 have h6 : ∀ W, Grow u W → _ := fun W hg => blk_q5 (q6.grow hg)
 have h8 : ∀ W, Grow u W → _ := fun W hg => blk_q5 (q8.grow hg)
 have h10 : ∀ W, Grow u W → _ := fun W hg => blk_q5 (q10.grow hg)
 have H6 := Lib.hid h6
 have H8 := Lib.hid h8
 have H10 := Lib.hid h10
 clear q6 q8 q10 h6 h8 h10
 obtain ⟨w1, rfl⟩ : ∃ x, x = w := ⟨_, rfl⟩
 obtain ⟨w, rfl⟩ : ∃ x, x = u := ⟨_, rfl⟩
 clear w1
 obtain ⟨u, hu⟩ : ∃ x, x = w := ⟨_, rfl⟩
 have hB := Bx.nil u
 have hG : Grow w u := hu ▸ Grow.refl u
 have hF := Fr.nil w
 rw [← hu]
 clear hu
 refine r0N ?_
 refine wp_seq ?_
 refine r0T ?_
 refine wp_block ?_
 go_loopw [11, 12, 13, 14] (fun v1 v2 v3 t wr => ∃ i : Nat, i ≤ n ∧ t = .int .i64 i ∧ wr.ownsRow w.heap.size 32 5 v1 i ((repQ i M).flatMap qL) ∧ wr.ownsRow w.heap.size 32 5 v2 i ((repQ i N0).flatMap qL) ∧ wr.ownsRow w.heap.size 32 5 v3 i ((repQ i O).flatMap qL) ∧ Apart v1 v2 ∧ Apart v1 v3 ∧ Apart v2 v3 ∧ Grow w wr) (fun _ _ _ t _ => n - (intOf t).toNat)
 case atStart => exact ⟨0, Nat.zero_le _, rfl, World.ownsRow_nil _ _ _ _, World.ownsRow_nil _ _ _ _, World.ownsRow_nil _ _ _ _, fun g h => (by cases h), fun g h => (by cases h), fun g h => (by cases h), hG⟩
 case round =>
  clear hB hG
  obtain ⟨i, hi, rfl, ho1, ho2, ho3, ha1, ha2, ha3, hG⟩ := hrel
  obtain ⟨u, rfl⟩ : ∃ x, x = wr := ⟨_, rfl⟩
  have hB := Bx.nil u
  have Ho1 := Lib.hid ho1
  have Ho2 := Lib.hid ho2
  have Ho3 := Lib.hid ho3
  have Ha1 := Lib.hid ha1
  have Ha2 := Lib.hid ha2
  have Ha3 := Lib.hid ha3
  clear ho1 ho2 ho3 ha1 ha2 ha3
  rcases Nat.lt_or_ge i n with hlt | hge
  ·have hdl : decide ((i : Int) < (n : Int)) = true := by simp; omega
   refine wp_seq ?_
   refine r0T ?_
   refine wp_cond_true (rfl) ?_
   refine wp_skip ?_
   refine then_norm ?_
   refine wp_seq ?_
   refine wp_block ?_
   refine wp_seq ?_
   refine wp_rs (w := w) allocs 2 [0, 0] (by kernel_rfl) (by simp only [List.drop_succ_cons, List.drop_zero]; exact rfl) (fun _ => True) noG hB hG trivial ?_
   intro K L hN hL
   simp only [List.zip_cons_cons, List.zip_nil_left]
   repeat first | refine gya ?_ | refine gyr ?_ | refine gna ?_ | refine gyb (by (rintro v ⟨hgu, hB, hG, -⟩ N hN; have r := hB.r; simp only [BxR] at r; obtain ⟨y1, y2, y3, y4, y5⟩ := H6.out v hG; obtain ⟨y6, y7, y8, y9, y10⟩ := H8.out v hG; obtain ⟨y11, y12, y13, y14, y15⟩ := H10.out v hG; go_simp; exact hN)) ?_
   refine gend ?_
   rintro v ⟨hgu, hB1, hG1, -⟩
   have Ho1u := Lib.hid (own_grow' Ho1.out hgu)
   have Ho2u := Lib.hid (own_grow' Ho2.out hgu)
   have Ho3u := Lib.hid (own_grow' Ho3.out hgu)
   clear Ho1 Ho2 Ho3
   clear hB hG
   have hB := hB1
   have hG := hG1
   clear hB1 hG1
   refine hL _ _ ?_
   clear hL L hgu
   obtain ⟨u, rfl⟩ : ∃ x, x = v := ⟨_, rfl⟩
   have r := hB.r
   simp only [BxR] at r
   refine app_tailG ei_Q w.heap.size _ _ _ _ (qL M) rfl rfl (bs_Q M u) rfl (fun _ => rfl) (fun _ => rfl) (fun _ _ => rfl) Ho1u.out (by omega) (by omega) hG.sz fun p v' w' g1 g2 g3 => ?_
   have a2 := app_two (u := u) (w' := w') Ho2u.out Ha1.out g2 g3
   have a3 := app_two (u := u) (w' := w') Ho3u.out Ha2.out g2 g3
   rw [flat_rep] at g1
   have hGn := own_growth Ho1u.out hG g2
   clear Ho1u Ho2u Ho3u Ha1 Ha2 hB hG g2 g3
   have Ho1 := Lib.hid g1
   have Ho2 := Lib.hid a2.1
   have Ho3 := Lib.hid a3.1
   have Ha1 := Lib.hid a2.2
   have Ha2 := Lib.hid a3.2
   have hG := hGn
   have hB := Bx.nil w'
   clear g1 a2 a3 hGn
   obtain ⟨u, rfl⟩ : ∃ x, x = w' := ⟨_, rfl⟩
   simp only [Act.put, List.setIfInBounds_toArray, List.set_cons_succ, List.set_cons_zero]
   clear r
   refine NoK.norm (hN _ _ ?_)
   clear hN K
   refine then_norm ?_
   refine wp_seq ?_
   refine wp_rs (w := w) allocs 2 [0, 0] (by kernel_rfl) (by simp only [List.drop_succ_cons, List.drop_zero]; exact rfl) (fun _ => True) noG hB hG trivial ?_
   intro K L hN hL
   simp only [List.zip_cons_cons, List.zip_nil_left]
   repeat first | refine gya ?_ | refine gyr ?_ | refine gna ?_ | refine gyb (by (rintro v ⟨hgu, hB, hG, -⟩ N hN; have r := hB.r; simp only [BxR] at r; obtain ⟨y1, y2, y3, y4, y5⟩ := H6.out v hG; obtain ⟨y6, y7, y8, y9, y10⟩ := H8.out v hG; obtain ⟨y11, y12, y13, y14, y15⟩ := H10.out v hG; go_simp; exact hN)) ?_
   refine gend ?_
   rintro v ⟨hgu, hB1, hG1, -⟩
   have Ho1u := Lib.hid (own_grow' Ho1.out hgu)
   have Ho2u := Lib.hid (own_grow' Ho2.out hgu)
   have Ho3u := Lib.hid (own_grow' Ho3.out hgu)
   clear Ho1 Ho2 Ho3
   clear hB hG
   have hB := hB1
   have hG := hG1
   clear hB1 hG1
   refine hL _ _ ?_
   clear hL L hgu
   obtain ⟨u, rfl⟩ : ∃ x, x = v := ⟨_, rfl⟩
   have r := hB.r
   simp only [BxR] at r
   refine app_tailG ei_Q w.heap.size _ _ _ _ (qL N0) rfl rfl (bs_Q N0 u) rfl (fun _ => rfl) (fun _ => rfl) (fun _ _ => rfl) Ho2u.out (by omega) (by omega) hG.sz fun p v' w' g1 g2 g3 => ?_
   have a1 := app_two (u := u) (w' := w') Ho1u.out Ha1.out.symm g2 g3
   have a3 := app_two (u := u) (w' := w') Ho3u.out Ha3.out g2 g3
   rw [flat_rep] at g1
   have hGn := own_growth Ho2u.out hG g2
   clear Ho1u Ho2u Ho3u Ha1 Ha3 hB hG g2 g3
   have Ho2 := Lib.hid g1
   have Ho1 := Lib.hid a1.1
   have Ho3 := Lib.hid a3.1
   have Ha1 := Lib.hid a1.2.symm
   have Ha3 := Lib.hid a3.2
   have hG := hGn
   have hB := Bx.nil w'
   clear g1 a1 a3 hGn
   obtain ⟨u, rfl⟩ : ∃ x, x = w' := ⟨_, rfl⟩
   simp only [Act.put, List.setIfInBounds_toArray, List.set_cons_succ, List.set_cons_zero]
   clear r
   refine NoK.norm (hN _ _ ?_)
   clear hN K
   refine then_norm ?_
   refine wp_rs (w := w) allocs 2 [0, 0] (by kernel_rfl) (by simp only [List.drop_succ_cons, List.drop_zero]; exact rfl) (fun _ => True) noG hB hG trivial ?_
   intro K L hN hL
   simp only [List.zip_cons_cons, List.zip_nil_left]
   repeat first | refine gya ?_ | refine gyr ?_ | refine gna ?_ | refine gyb (by (rintro v ⟨hgu, hB, hG, -⟩ N hN; have r := hB.r; simp only [BxR] at r; obtain ⟨y1, y2, y3, y4, y5⟩ := H6.out v hG; obtain ⟨y6, y7, y8, y9, y10⟩ := H8.out v hG; obtain ⟨y11, y12, y13, y14, y15⟩ := H10.out v hG; go_simp; exact hN)) ?_
   refine gend ?_
   rintro v ⟨hgu, hB1, hG1, -⟩
   have Ho1u := Lib.hid (own_grow' Ho1.out hgu)
   have Ho2u := Lib.hid (own_grow' Ho2.out hgu)
   have Ho3u := Lib.hid (own_grow' Ho3.out hgu)
   clear Ho1 Ho2 Ho3
   clear hB hG
   have hB := hB1
   have hG := hG1
   clear hB1 hG1
   refine hL _ _ ?_
   clear hL L hgu
   obtain ⟨u, rfl⟩ : ∃ x, x = v := ⟨_, rfl⟩
   have r := hB.r
   simp only [BxR] at r
   refine app_tailG ei_Q w.heap.size _ _ _ _ (qL O) rfl rfl (bs_Q O u) rfl (fun _ => rfl) (fun _ => rfl) (fun _ _ => rfl) Ho3u.out (by omega) (by omega) hG.sz fun p v' w' g1 g2 g3 => ?_
   have a1 := app_two (u := u) (w' := w') Ho1u.out Ha2.out.symm g2 g3
   have a2 := app_two (u := u) (w' := w') Ho2u.out Ha3.out.symm g2 g3
   rw [flat_rep] at g1
   have hGn := own_growth Ho3u.out hG g2
   clear Ho1u Ho2u Ho3u Ha2 Ha3 hB hG g2 g3
   have Ho3 := Lib.hid g1
   have Ho1 := Lib.hid a1.1
   have Ho2 := Lib.hid a2.1
   have Ha2 := Lib.hid a1.2.symm
   have Ha3 := Lib.hid a2.2.symm
   have hG := hGn
   have hB := Bx.nil w'
   clear g1 a1 a2 hGn
   obtain ⟨u, rfl⟩ : ∃ x, x = w' := ⟨_, rfl⟩
   simp only [Act.put, List.setIfInBounds_toArray, List.set_cons_succ, List.set_cons_zero]
   clear r
   refine NoK.norm (hN _ _ ?_)
   clear hN K
   refine blk_norm ?_
   refine then_norm ?_
   refine r0E ?_
   refine then_norm ?_
   go_roundw
   case rel => exact ⟨i + 1, by omega, by go_num, Ho1.out, Ho2.out, Ho3.out, Ha1.out, Ha2.out, Ha3.out, hG⟩
   case measure => simp [intOf]; omega
  ·obtain rfl : n = i := by omega
   have hdl : decide ((n : Int) < (n : Int)) = false := by simp
   refine wp_seq ?_
   refine r0T ?_
   refine wp_cond_false (rfl) ?_
   refine wp_exit ?_
   refine then_exit ?_
   refine then_exit ?_
   refine blk_exit ?_
   refine then_norm ?_
   refine wp_seq ?_
   obtain ⟨A1, c1, rfl, -, -, hL1, -⟩ := own_lq Ho1.out
   obtain ⟨A2, c2, rfl, -, -, hL2, -⟩ := own_lq Ho2.out
   obtain ⟨A3, c3, rfl, -, -, hL3, -⟩ := own_lq Ho3.out
   have L1 := Lib.hid hL1
   have L2 := Lib.hid hL2
   have L3 := Lib.hid hL3
   have HX' := Lib.hid (Lq.grow HX.out hG)
   have HT' := HT.grow hG
   have HG2 := Lib.hid (HG1.out.trans hG)
   have h6 : ∀ W, Grow u W → _ := fun W hg => H6.out W (hG.trans hg)
   have h10 : ∀ W, Grow u W → _ := fun W hg => H10.out W (hG.trans hg)
   clear Ho1 Ho2 Ho3 Ha1 Ha2 Ha3 hL1 hL2 hL3 HX HT H6 H8 H10 HG1 hB hG
   try clear hF
   have HX := HX'
   have HT := HT'
   have H6 := Lib.hid h6
   have H10 := Lib.hid h10
   clear HX' HT' h6 h10
   obtain ⟨w1, rfl⟩ : ∃ x, x = w := ⟨_, rfl⟩
   obtain ⟨w, rfl⟩ : ∃ x, x = u := ⟨_, rfl⟩
   clear w1
   obtain ⟨u, hu⟩ : ∃ x, x = w := ⟨_, rfl⟩
   have hB := Bx.nil u
   have hG : Grow w u := hu ▸ Grow.refl u
   have hF := Fr.nil w
   rw [← hu]
   clear hu
   refine rsC allocs [0, 0, 1, 0, 0, 0, 2] hB hG fun K L hN hL => ?_
   refine gs ?_
   refine gmd (C := fun v ⟨hgu, hB, hG, _⟩ => HSqM.out _ x34 (A1, c1) (Lq.grow HX.out hG) (L1.out.grow hG) (HT.grow hG)) ?_
   refine gs ?_
   refine gaa (newObj_Q _ _ _ _ _) fun b15 hb15 hn15 => ?_
   replace hF := hF.n1 [] hB hG hb15 hn15
   refine geC hL ?_
   clear hB hG hL L
   rintro u ⟨⟨-, hB, hG, -⟩, h15⟩
   replace hB := hB.cons' h15
   clear h15
   clear hb15 hn15
   refine gtT ?_
   clear hN K
   refine st hB hF hG 0 0 [_, _, _, _, _] ?_
   clear hB hG
   intro u hB hG
   refine wp_seq (rsC allocs [0, 0, 1, 0, 0, 0, 2] hB hG fun K L hN hL => ?_)
   refine gs ?_
   refine gmd (C := fun v ⟨hgu, hB, hG, _⟩ => HSqO.out _ x34 (A3, c3) (Lq.grow HX.out hG) (L3.out.grow hG) (HT.grow hG)) ?_
   refine gs ?_
   refine gaa (newObj_Q _ _ _ _ _) fun b17 hb17 hn17 => ?_
   replace hF := hF.n1 [] hB hG hb17 hn17
   refine geC hL ?_
   clear hB hG hL L
   rintro u ⟨⟨-, hB, hG, -⟩, h17⟩
   replace hB := hB.cons' h17
   clear h17
   clear hb17 hn17
   refine gtT ?_
   clear hN K
   refine st hB hF hG 0 0 [_, _, _, _, _] ?_
   clear hB hG
   intro u hB hG
   refine wp_seq (rsC allocs [0, 0, 1, 0, 0, 0, 2] hB hG fun K L hN hL => ?_)
   refine gs ?_
   refine gmd (C := fun v ⟨hgu, hB, hG, _⟩ => HSiN.out _ x34 (A2, c2) (Lq.grow HX.out hG) (L2.out.grow hG) (HT.grow hG)) ?_
   refine gs ?_
   refine gaa (newObj_Q _ _ _ _ _) fun b19 hb19 hn19 => ?_
   replace hF := hF.n1 [] hB hG hb19 hn19
   refine geC hL ?_
   clear hB hG hL L
   rintro u ⟨⟨-, hB, hG, -⟩, h19⟩
   replace hB := hB.cons' h19
   clear h19
   clear hb19 hn19
   refine gtT ?_
   clear hN K
   refine st hB hF hG 0 0 [_, _, _, _, _] ?_
   clear hB hG
   intro u hB hG
   refine wp_seq (rsC allocs [0, 0, 1, 0, 0, 0, 2] hB hG fun K L hN hL => ?_)
   refine gs ?_
   refine gmd (C := fun v ⟨hgu, hB, hG, _⟩ => HSiO.out _ x34 (A3, c3) (Lq.grow HX.out hG) (L3.out.grow hG) (HT.grow hG)) ?_
   refine gs ?_
   refine gaa (newObj_Q _ _ _ _ _) fun b21 hb21 hn21 => ?_
   replace hF := hF.n1 [] hB hG hb21 hn21
   refine geC hL ?_
   clear hB hG hL L
   rintro u ⟨⟨-, hB, hG, -⟩, h21⟩
   replace hB := hB.cons' h21
   clear h21
   clear hb21 hn21
   refine gtT ?_
   clear hN K
   refine st hB hF hG 0 0 [_, _, _, _, _] ?_
   clear hB hG
   intro u hB hG
   refine wp_seq (rsC allocs [0, 0, 1, 0, 0, 0, 2] hB hG fun K L hN hL => ?_)
   refine gs ?_
   refine gmd (C := fun v ⟨hgu, hB, hG, _⟩ => HTo.out _ x34 (A1, c1) (Lq.grow HX.out hG) (L1.out.grow hG) (HT.grow hG)) ?_
   refine gs ?_
   refine gaa (newObj_Q _ _ _ _ _) fun b23 hb23 hn23 => ?_
   replace hF := hF.n1 [] hB hG hb23 hn23
   refine geC hL ?_
   clear hB hG hL L
   rintro u ⟨⟨-, hB, hG, -⟩, h23⟩
   replace hB := hB.cons' h23
   clear h23
   clear hb23 hn23
   refine gtT ?_
   clear hN K
   refine st hB hF hG 0 0 [_, _, _, _, _] ?_
   clear hB hG
   intro u hB hG
   refine wp_seq (rsC allocs [1, 0, 0, 0, 2] hB hG fun K L hN hL => ?_)
   refine gmd (C := fun v ⟨hgu, hB, hG, _⟩ => HOv.out _ (HT.grow hG)) ?_
   refine gs ?_
   refine gaa (newObj_Q _ _ _ _ _) fun b25 hb25 hn25 => ?_
   replace hF := hF.n1 [] hB hG hb25 hn25
   refine geC hL ?_
   clear hB hG hL L
   rintro u ⟨⟨-, hB, hG, -⟩, h25⟩
   replace hB := hB.cons' h25
   clear h25
   clear hb25 hn25
   refine gtT ?_
   clear hN K
   refine st hB hF hG 0 0 [_, _, _, _, _] ?_
   clear hB hG
   intro u hB hG
   refine wp_seq (rsC allocs [0, 0, 0, 1, 0, 0, 0, 2] hB hG fun K L hN hL => ?_)
   repeat first | refine gya ?_ | refine gyr ?_ | refine gna ?_ | refine gyb (by (rintro v ⟨hgu, hB, hG, -⟩ N hN; have r := hB.r; simp only [BxR] at r; obtain ⟨y1, y2, y3, y4, y5⟩ := H6.out v hG; obtain ⟨y11, y12, y13, y14, y15⟩ := H10.out v hG; go_simp; exact hN)) ?_
   refine gmd (C := fun v ⟨hgu, hB, hG, _⟩ => HTi.out _ x34 (A3, c3) (Lq.grow HX.out hG) (L3.out.grow hG) (HT.grow hG)) ?_
   refine gs ?_
   refine gaa (newObj_Q _ _ _ _ _) fun b27 hb27 hn27 => ?_
   replace hF := hF.n1 [] hB hG hb27 hn27
   refine geC hL ?_
   clear hB hG hL L
   rintro u ⟨⟨-, hB, hG, -⟩, h27⟩
   replace hB := hB.cons' h27
   clear h27
   clear hb27 hn27
   refine gtT ?_
   clear hN K
   refine st hB hF hG 0 0 [_, _, _, _, _] ?_
   clear hB hG
   intro u hB hG
   refine wp_seq ?_
   have dummy := trivial
   refine rdC allocs [] [(1, 0), (0, 1), (0, 2), (0, 3), (1, 4), (0, 5), (0, 6), (0, 7), (0, 8), (0, 9), (1, 10), (0, 11), (0, 12), (0, 13), (0, 14), (0, 15), (0, 16), (1, 17), (0, 18), (0, 19), (0, 20), (0, 21), (0, 22), (1, 23), (0, 24), (0, 25), (0, 26), (0, 27), (0, 28), (0, 30), (1, 29), (1, 31), (0, 32), (0, 33), (0, 34), (0, 35), (0, 36), (0, 38), (0, 39), (0, 41), (0, 42), (1, 37), (1, 40), (1, 43), (1, 44), (1, 45), (0, 46), (0, 47)] hB hG (hs := growF_of [0, 1, 3, 3, 15, 31, 63, 127, 255, 255, 1023, 2047, 4095, 8191, 16383, 32767, 16383, 81919, 212991, 524287, 1048575, 2097151, 4194303, 8388607, 16777215, 33554431, 67108863, 134217727, 134217727, 536870911, 134217727, 2147483647, 4294967295, 8589934591, 17179869183, 34359738367, 34359738367, 137438953471, 34359738367, 34359738367, 1099511627775, 34359738367, 34359738367, 8796093022207, 17592186044415, 35184372088831, 70368744177663, 140737488355327, 281474976710655] (by kernel_rfl)) fun K L hN hL => ?_
   refine gmd (C := fun v ⟨hgu, hB, hG, _⟩ => law9_known _ (HT.grow hG)) ?_
   repeat first | refine gya ?_ | refine gyr ?_ | refine gna ?_ | refine gyb (by (rintro v ⟨hgu, hB, hG, -⟩ N hN; have r := hB.r; simp only [BxR] at r; obtain ⟨y1, y2, y3, y4, y5⟩ := H6.out v hG; obtain ⟨y11, y12, y13, y14, y15⟩ := H10.out v hG; go_simp; exact hN)) ?_
   first | refine gmw (C := fun v => HC1.out _) ?_ | refine gmna ?_
   repeat first | refine gya ?_ | refine gyr ?_ | refine gna ?_ | refine gyb (by (rintro v ⟨hgu, hB, hG, -⟩ N hN; have r := hB.r; simp only [BxR] at r; obtain ⟨y1, y2, y3, y4, y5⟩ := H6.out v hG; obtain ⟨y11, y12, y13, y14, y15⟩ := H10.out v hG; go_simp; exact hN)) ?_
   first | refine gmw (C := fun v => HC2.out _) ?_ | refine gmna ?_
   repeat first | refine gya ?_ | refine gyr ?_ | refine gna ?_ | refine gyb (by (rintro v ⟨hgu, hB, hG, -⟩ N hN; have r := hB.r; simp only [BxR] at r; obtain ⟨y1, y2, y3, y4, y5⟩ := H6.out v hG; obtain ⟨y11, y12, y13, y14, y15⟩ := H10.out v hG; go_simp; exact hN)) ?_
   first | refine gmw (C := fun v => HSg.out _) ?_ | refine gmna ?_
   repeat first | refine gya ?_ | refine gyr ?_ | refine gna ?_ | refine gyb (by (rintro v ⟨hgu, hB, hG, -⟩ N hN; have r := hB.r; simp only [BxR] at r; obtain ⟨y1, y2, y3, y4, y5⟩ := H6.out v hG; obtain ⟨y11, y12, y13, y14, y15⟩ := H10.out v hG; go_simp; exact hN)) ?_
   first | refine gmw (C := fun v => HS0.out _) ?_ | refine gmna ?_
   repeat first | refine gya ?_ | refine gyr ?_ | refine gna ?_ | refine gyb (by (rintro v ⟨hgu, hB, hG, -⟩ N hN; have r := hB.r; simp only [BxR] at r; obtain ⟨y1, y2, y3, y4, y5⟩ := H6.out v hG; obtain ⟨y11, y12, y13, y14, y15⟩ := H10.out v hG; go_simp; exact hN)) ?_
   first | refine gmd (C := fun v ⟨hgu, hB, hG, _⟩ => HA1.out _ (HT.grow hG)) ?_ | refine gmna ?_
   first | refine gmw (C := fun v => HC3.out _) ?_ | refine gmna ?_
   repeat first | refine gya ?_ | refine gyr ?_ | refine gna ?_ | refine gyb (by (rintro v ⟨hgu, hB, hG, -⟩ N hN; have r := hB.r; simp only [BxR] at r; obtain ⟨y1, y2, y3, y4, y5⟩ := H6.out v hG; obtain ⟨y11, y12, y13, y14, y15⟩ := H10.out v hG; go_simp; exact hN)) ?_
   first | refine gmd (C := fun v ⟨hgu, hB, hG, _⟩ => HS1.out _ (HT.grow hG)) ?_ | refine gmna ?_
   first | refine gmd (C := fun v ⟨hgu, hB, hG, _⟩ => HS2.out _ (HT.grow hG)) ?_ | refine gmna ?_
   first | refine gmd (C := fun v ⟨hgu, hB, hG, _⟩ => HS2.out _ (HT.grow hG)) ?_ | refine gmna ?_
   first | refine gmd (C := fun v ⟨hgu, hB, hG, _⟩ => HM2.out _ (HT.grow hG)) ?_ | refine gmna ?_
   first | refine gmw (C := fun v => HC4.out _) ?_ | refine gmna ?_
   refine gs ?_
   refine geC hL ?_
   clear hB hG hL L
   rintro u ⟨-, hB, hG, -⟩
   refine gtT ?_
   clear hN K
   refine rt Tryz.results8 ?_
   exact ⟨rfl, HG2.out.trans hG⟩
theorem law9_ScoreLeast (A : Option Addr) (la : List Int) (ca : Nat) (z : Int) (hla : la.length ≤ 9223372036854775807) (hba : ∀ x ∈ la, -9223372036854775808 ≤ x ∧ x ≤ 9223372036854775807) (hz0 : -9223372036854775808 ≤ z) (hz1 : z ≤ 9223372036854775807)
  (w : World) (h1 : Li w A la) (HT : Tab w) :
  Calls Tryz.prog 8 #[.slice A la.length ca, .int .i64 z] w fun e w' => e = .returned (.bool true) ∧ Grow w w' := by
 rcases Nat.eq_zero_or_pos la.length with h0 | h0
 ·exact law9_ScoreLeast_0 A la ca z h0 w HT
 ·exact law9_ScoreLeast_1 A la ca z hla hba hz0 hz1 h0 w h1 HT
end Go.Proofs.YtimjnkfcnpfoeaaGreatDoor
