/-
  Contracts and laws: Values.
-/
import Derived.Test.YtimjnkfcnpfoeaaGreatDoorV48
set_option linter.unusedSimpArgs false
set_option linter.unusedVariables false
namespace Go.Proofs.YtimjnkfcnpfoeaaGreatDoor
open Go.RowKit
theorem rz_mk {u : World} {p : Az} {q : Rat} (h1 : Rn u p.1 q.num.natAbs) (h2 : Rn u p.2 q.den) : Rz u p q := ⟨h1, h2⟩
theorem rowQ_sz (l : List Int) (n : Nat) : ∀ x ∈ rowQ l n, qs x ≤ 50 := fun x hx => by
 unfold rowQ at hx
 obtain ⟨i, -, rfl⟩ := List.mem_map.1 hx
 unfold rowAtL
 split
 ·exact Nat.le_trans (rawQ_sz _) (by omega)
 ·rw [qint_zero, qs_zero]; omega
/-- a function of two lists of the program's and the document's: the same value, the same error -/
def Pair2 (f g : FuncId) (n m : Nat) (P Q : List Rat) (v : Rat) (k : Int) : Prop :=
 qs v ≤ LIM ∧ (∀ (W : World) (X Y : Ax), Tab W → Lq W X.1 P → Lq W Y.1 Q → Calls Tryz.prog f #[.slice X.1 n X.2, .slice Y.1 m Y.2] W fun e w' => e = .returned (.tuple #[qV v, .int .i64 k]) ∧ Grow W w') ∧
 ∀ (W : World) (X Y : Ax), Lz W X.1 P → Lz W Y.1 Q → Calls Tryz.prog g #[.slice X.1 n X.2, .slice Y.1 m Y.2] W (RetY (fun p : Az => .tuple #[rzV p v, .int .i64 k]) (fun p W => Rz W p v) W)
theorem qs_zero_lim : qs 0 ≤ LIM := by rw [qs_zero]; unfold LIM; omega
theorem paired_or (n m : Nat) : pairedB n m = false ∨ (n = m ∧ 0 < n) := by
 unfold pairedB
 by_cases h : n = m
 ·by_cases h0 : 0 < n
  ·exact .inr ⟨h, h0⟩
  ·left; simp; omega
 ·left; simp [h]
section
variable {n m : Nat} {P Q : List Rat} (hP : P.length = n) (hQ : Q.length = m) (hn : n ≤ 20) (hs : ∀ x ∈ P, qs x ≤ 50) (hs' : ∀ x ∈ Q, qs x ≤ 50)
include hP hQ hn hs hs'
theorem pair_Squares : ∃ v k, Pair2 32 33 n m P Q v k := by
 have hBl : 100000 ≤ BIG := by unfold BIG; omega
 have hL : 100000 ≤ LIM := by unfold LIM; omega
 rcases paired_or n m with h | ⟨rfl, h0⟩
 ·exact ⟨0, 5, qs_zero_lim, fun W X Y _ _ _ => score_Squares_no X.1 Y.1 n m X.2 Y.2 h W, fun W X Y _ _ => ref6_Squares_no X.1 Y.1 n m X.2 Y.2 h W⟩
 ·refine ⟨qSquares P Q n, 0, ?_, fun W X Y hT h1 h2 => score_Squares_ok X.1 Y.1 n X.2 Y.2 P Q hP hQ h0 (by omega) 50 hs hs' (by omega) W h1 h2 hT, fun W X Y h1 h2 => ref6_Squares_ok X.1 Y.1 P Q X.2 Y.2 n hP.symm hQ.symm h0 (by omega) 50 hs hs' (by omega) W h1 h2⟩
  have : qs (qSquares P Q n) ≤ n * (4 * 50 + 3) + 42 := mean_size (by omega) (fun i hi => qs_sqd _ _ 50 (hs _ (gq_mem (by omega))) (hs' _ (gq_mem (by omega))))
  omega
theorem pair_Sizes : ∃ v k, Pair2 34 35 n m P Q v k := by
 have hBl : 100000 ≤ BIG := by unfold BIG; omega
 have hL : 100000 ≤ LIM := by unfold LIM; omega
 rcases paired_or n m with h | ⟨rfl, h0⟩
 ·exact ⟨0, 5, qs_zero_lim, fun W X Y _ _ _ => score_Sizes_no X.1 Y.1 n m X.2 Y.2 h W, fun W X Y _ _ => ref6_Sizes_no X.1 Y.1 n m X.2 Y.2 h W⟩
 ·refine ⟨qSizes P Q n, 0, ?_, fun W X Y hT h1 h2 => score_Sizes_ok X.1 Y.1 n X.2 Y.2 P Q hP hQ h0 (by omega) 50 hs hs' (by omega) W h1 h2 hT, fun W X Y h1 h2 => ref6_Sizes_ok X.1 Y.1 P Q X.2 Y.2 n hP.symm hQ.symm h0 (by omega) 50 hs hs' (by omega) W h1 h2⟩
  have : qs (qSizes P Q n) ≤ n * (2 * 50 + 2) + 42 := mean_size (by omega) (fun i hi => qs_absd _ _ 50 (hs _ (gq_mem (by omega))) (hs' _ (gq_mem (by omega))))
  omega
theorem pair_Told : ∃ v k, Pair2 36 37 n m P Q v k := by
 have hBl : 10000000 ≤ BIG := by unfold BIG; omega
 have hL : 10000000 ≤ LIM := by unfold LIM; omega
 rcases paired_or n m with h | ⟨rfl, h0⟩
 ·exact ⟨0, 5, qs_zero_lim, fun W X Y _ _ _ => score_Told_no X.1 Y.1 n m X.2 Y.2 h W, fun W X Y _ _ => ref6_Told_no X.1 Y.1 n m X.2 Y.2 h W⟩
 ·have hp := fun (W : World) (X Y : Ax) (hT : Tab W) h1 h2 => score_Told_ok X.1 Y.1 n X.2 Y.2 P Q hP hQ h0 (by omega) 50 1100 hs hs' (by omega) (by omega) (by omega) W h1 h2 hT
  have hr := fun (W : World) (X Y : Ax) h1 h2 => ref6_Told_ok X.1 Y.1 P Q X.2 Y.2 n hP.symm hQ.symm h0 (by omega) 50 1100 hs hs' (by omega) (by omega) (by omega) W h1 h2
  by_cases hz : qOff P (qMean P n) n = 0
  ·simp only [if_pos hz] at hp hr
   exact ⟨0, 6, qs_zero_lim, hp, hr⟩
  ·simp only [if_neg hz] at hp hr
   refine ⟨toldQ P Q n, 0, ?_, hp, hr⟩
   have z1 : qs (qMean P n) ≤ 1100 := Nat.le_trans (mean_size (by omega) (fun i hi => hs _ (gq_mem (l := P) (by omega)))) (by omega)
   have z2 : qs (qSquares P Q n) ≤ n * (4 * 50 + 3) + 42 := mean_size (by omega) (fun i hi => qs_sqd _ _ 50 (hs _ (gq_mem (by omega))) (hs' _ (gq_mem (by omega))))
   have z3 : qs (qOff P (qMean P n) n) ≤ n * (4 * 1100 + 3) + 42 := mean_size (by omega) (fun i hi => qs_sqd _ _ 1100 (Nat.le_trans (hs _ (gq_mem (by omega))) (by omega)) z1)
   have z4 := qs_div (qSquares P Q n) (qOff P (qMean P n) n)
   have z5 := qs_sub (qint 1) (qdiv (qSquares P Q n) (qOff P (qMean P n) n))
   have z6 : qs (qint 1) ≤ 41 := qint_sz 1 (by omega)
   show qs (qsub (qint 1) (qdiv (qSquares P Q n) (qOff P (qMean P n) n))) ≤ LIM
   unfold qsub
   unfold qdiv at *
   omega
theorem pair_Tilt (t : Rat) (ht : qs t ≤ 50) : ∃ v k, qs v ≤ LIM ∧ (∀ (W : World) (X Y : Ax), Tab W → Lq W X.1 P → Lq W Y.1 Q → Calls Tryz.prog 38 #[.slice X.1 n X.2, .slice Y.1 m Y.2, qV t] W fun e w' => e = .returned (.tuple #[qV v, .int .i64 k]) ∧ Grow W w') ∧
  ∀ (W : World) (X Y : Ax) (p : Az), Lz W X.1 P → Lz W Y.1 Q → Rz W p t → Calls Tryz.prog 40 #[.slice X.1 n X.2, .slice Y.1 m Y.2, rzV p t] W (RetY (fun p : Az => .tuple #[rzV p v, .int .i64 k]) (fun p W => Rz W p v) W) := by
 have hBl : 100000 ≤ BIG := by unfold BIG; omega
 have hL : 100000 ≤ LIM := by unfold LIM; omega
 rcases paired_or n m with h | ⟨rfl, h0⟩
 ·exact ⟨0, 5, qs_zero_lim, fun W X Y _ _ _ => score_Tilt_no X.1 Y.1 n m X.2 Y.2 t h W, fun W X Y p _ _ _ => ref6_Tilt_no X.1 Y.1 n m X.2 Y.2 p t h W⟩
 ·by_cases h1 : t < 0
  ·exact ⟨0, 1, qs_zero_lim, fun W X Y hT _ _ => score_Tilt_arg X.1 Y.1 n X.2 Y.2 t h0 (.inl h1) (by omega) W hT, fun W X Y p g1 g2 _ => ref6_Tilt_neg X.1 Y.1 P Q X.2 Y.2 n p t hP.symm hQ.symm h0 (by omega) h1 50 hs hs' (by omega) W g1 g2⟩
  ·by_cases h2 : qint 1 < t
   ·exact ⟨0, 1, qs_zero_lim, fun W X Y hT _ _ => score_Tilt_arg X.1 Y.1 n X.2 Y.2 t h0 (.inr h2) (by omega) W hT, fun W X Y p g1 g2 g3 => ref6_Tilt_big X.1 Y.1 P Q X.2 Y.2 n p t hP.symm hQ.symm h0 (by omega) h1 h2 50 ht hs hs' (by omega) W g1 g2 g3.a g3.b⟩
   ·refine ⟨qTilt P Q t n, 0, ?_, fun W X Y hT g1 g2 => score_Tilt_ok X.1 Y.1 n X.2 Y.2 P Q t hP hQ h0 (by omega) h1 h2 50 ht hs hs' (by omega) W g1 g2 hT, fun W X Y p g1 g2 g3 => ref6_Tilt_ok X.1 Y.1 P Q X.2 Y.2 n p t hP.symm hQ.symm h0 (by omega) h1 h2 50 ht hs hs' (by omega) W g1 g2 g3.a g3.b⟩
    have : qs (qTilt P Q t n) ≤ n * (3 * 50 + 51) + 42 := mean_size (by omega) (fun i hi => tiltAt_sz t _ _ 50 ht (hs _ (gq_mem (by omega))) (hs' _ (gq_mem (by omega))))
    omega
end
set_option maxHeartbeats 4000000 in
set_option maxRecDepth 100000 in
theorem law9_ScoreValues (A B : Option Addr) (la lb : List Int) (ca cb : Nat) (z : Int) (hla : la.length ≤ 9223372036854775807) (hlb : lb.length ≤ 9223372036854775807) (hba : ∀ x ∈ la, -9223372036854775808 ≤ x ∧ x ≤ 9223372036854775807) (hbb : ∀ x ∈ lb, -9223372036854775808 ≤ x ∧ x ≤ 9223372036854775807) (hz0 : -9223372036854775808 ≤ z) (hz1 : z ≤ 9223372036854775807)
  (w : World) (h1 : Li w A la) (h2 : Li w B lb) (HT : Tab w) :
  Calls Tryz.prog 5 #[.slice A la.length ca, .slice B lb.length cb, .int .i64 z] w fun e w' => e = .returned (.bool true) ∧ Grow w w' := by
 obtain ⟨pa, hpa⟩ : ∃ p, p = la.length := ⟨_, rfl⟩
 obtain ⟨pb, hpb⟩ : ∃ p, p = lb.length := ⟨_, rfl⟩
 rw [← hpa, ← hpb]
 obtain ⟨n, hn⟩ : ∃ n, n = min pa 20 := ⟨_, rfl⟩
 have hn20 : n ≤ 20 := by omega
 have fmin : min (pa : Int) 20 = (n : Int) := by omega
 obtain ⟨r1, r2⟩ := pick_range z (m := 9) (by omega)
 have hpk := fun W => hand_PickG z 9 (by omega) (by omega) W
 obtain ⟨y, hy⟩ : ∃ y, y = pick z 9 := ⟨_, rfl⟩
 rw [← hy] at r1 r2 hpk
 obtain ⟨e, he⟩ : ∃ e : Nat, y.tdiv 8 = (e : Int) ∧ y / 8 = (e : Int) ∧ e ≤ 1 := ⟨(y / 8).toNat, by rw [Int.tdiv_eq_ediv_of_nonneg r1]; omega, by omega, by omega⟩
 obtain ⟨fe1, fe2, hel⟩ := he
 obtain ⟨m, hm⟩ : ∃ m, m = n + e := ⟨_, rfl⟩
 have fm : (n : Int) + (e : Int) = (m : Int) := by omega
 have fmw : IntKind.i64.wrap (m : Int) = (m : Int) := IntWalk.i64_in _ (by omega)
 have few : IntKind.i64.wrap (e : Int) = (e : Int) := IntWalk.i64_in _ (by omega)
 obtain ⟨x, hx⟩ : ∃ x, x = z.tdiv 9 := ⟨_, rfl⟩
 have fx : z.tdiv 9 = x := hx.symm
 have hxb : -9223372036854775808 ≤ x ∧ x ≤ 9223372036854775807 := by
  have h : z.tdiv 9 = z / 9 ∨ z.tdiv 9 = z / 9 + 1 := by
   rw [Int.tdiv_eq_ediv]
   split
   ·left; omega
   ·right; rfl
  omega
 have fxw : IntKind.i64.wrap x = x := IntWalk.i64_in _ hxb
 have hR1 : ∀ W, Grow w W → Calls Tryz.prog 27 #[.slice A pa ca, .int .i64 n] W (RetY (fun x : Ax => .slice x.1 n x.2) (fun x W => Lz W x.1 (rowQ la n)) W) := fun W hg =>
  (hand_Row A la ca pa n hpa (by omega) (by omega) hba W (h1.grow hg)).mono fun e w' ⟨A', c', he, h, hg'⟩ => ⟨(A', c'), he, h.1, hg'⟩
 have hR2 : ∀ W, Grow w W → Calls Tryz.prog 27 #[.slice B pb cb, .int .i64 m] W (RetY (fun x : Ax => .slice x.1 m x.2) (fun x W => Lz W x.1 (rowQ lb m)) W) := fun W hg =>
  (hand_Row B lb cb pb m hpb (by omega) (by omega) hbb W (h2.grow hg)).mono fun e w' ⟨A', c', he, h, hg'⟩ => ⟨(A', c'), he, h.1, hg'⟩
 have sP := rowQ_sz la n
 have sQ := rowQ_sz lb m
 have lP := rowQ_len la n
 have lQ := rowQ_len lb m
 generalize rowQ la n = P at *
 generalize rowQ lb m = Q at *
 have hB50 : 50 ≤ BIG := by unfold BIG; omega
 have hI1 : ∀ (W : World) (X : Ax), Lz W X.1 P → Tab W → Calls Tryz.prog 28 #[.slice X.1 n X.2] W (RetY (fun x : Ax => .slice x.1 n x.2) (fun x W => Lq W x.1 P) W) := fun W X hX hT =>
  (hand_InRow X.1 P X.2 n lP.symm (by omega) (fun x hx => Nat.le_trans (sP x hx) hB50) W hX hT).mono fun e w' ⟨A', c', he, h, hg'⟩ => ⟨(A', c'), he, h, hg'⟩
 have hI2 : ∀ (W : World) (X : Ax), Lz W X.1 Q → Tab W → Calls Tryz.prog 28 #[.slice X.1 m X.2] W (RetY (fun x : Ax => .slice x.1 m x.2) (fun x W => Lq W x.1 Q) W) := fun W X hX hT =>
  (hand_InRow X.1 Q X.2 m lQ.symm (by omega) (fun x hx => Nat.le_trans (sQ x hx) hB50) W hX hT).mono fun e w' ⟨A', c', he, h, hg'⟩ => ⟨(A', c'), he, h, hg'⟩
 have hr := fun W => hand_R x W hxb.1 hxb.2
 have sx := rawQ_sz x
 have s20 : qs (qint 20) ≤ 41 := qint_sz 20 (by omega)
 have n20 : qint 20 ≠ 0 := qint_nz (n := 20) (by omega)
 have hdv := fun (W : World) (x1 x2 : Az) e1 e2 e3 e4 => ref1_Div x1.1 x1.2 x2.1 x2.2 (rawQ x) (qint 20) W e1 e2 e3 e4 (by omega) n20
 have st : qs (qdiv (rawQ x) (qint 20)) ≤ 50 := by have := qs_div (rawQ x) (qint 20); unfold qdiv; omega
 generalize qdiv (rawQ x) (qint 20) = t at *
 generalize rawQ x = rx at *
 obtain ⟨v1, k1, sv1, p1, d1⟩ := pair_Squares lP lQ hn20 sP sQ
 obtain ⟨v2, k2, sv2, p2, d2⟩ := pair_Sizes lP lQ hn20 sP sQ
 obtain ⟨v3, k3, sv3, p3, d3⟩ := pair_Told lP lQ hn20 sP sQ
 obtain ⟨v4, k4, sv4, p4, d4⟩ := pair_Tilt lP lQ hn20 sP sQ t st
 have stB : qs t ≤ BIG := Nat.le_trans st hB50
 have HR1 := Lib.hid hR1
 have HR2 := Lib.hid hR2
 have HI1 := Lib.hid hI1
 have HI2 := Lib.hid hI2
 have Hr := Lib.hid hr
 have Hpk := Lib.hid hpk
 have Hdv := Lib.hid hdv
 have P1 := Lib.hid p1
 have P2 := Lib.hid p2
 have P3 := Lib.hid p3
 have P4 := Lib.hid p4
 have D1 := Lib.hid d1
 have D2 := Lib.hid d2
 have D3 := Lib.hid d3
 have D4 := Lib.hid d4
 clear hR1 hR2 hI1 hI2 hr hpk hdv p1 p2 p3 p4 d1 d2 d3 d4 hba hbb h1 h2 hpa hpb hn hy hm hx sP sQ lP lQ hla hlb hxb
 go_enter Tryz.func5, Tryz.ntmps5
 refine wp_seq (wp_r0 ?_)
 intro K hN
 go_wp2_with fail
 obtain ⟨u, hu⟩ : ∃ x, x = w := ⟨_, rfl⟩
 have hB := Bx.nil u
 have hG : Grow w u := hu ▸ Grow.refl u
 have hF := Fr.nil w
 rw [← hu]
 clear hu
 refine NoK.norm (hN _ _ ?_)
 clear hN K
 refine then_norm ?_
 refine wp_seq ?_
 refine wp_rs (w := w) allocs2 6 [0, 0, 0, 0, 1, 0] (by kernel_rfl) (by simp only [List.drop_succ_cons, List.drop_nil]; exact rfl) (fun _ => True) noG hB hG trivial ?_
 intro K L hN hL
 simp only [List.zip_cons_cons, List.zip_nil_left]
 refine gya ?_
 refine gya ?_
 refine gya ?_
 refine gya ?_
 refine gx (Ax) (fun x : Ax => .slice x.1 n x.2) (fun x W => Lz W x.1 P) (fun x u u' hg h => Lz.grow h hg) rfl ?_ (fun x32 => ?_)
 ·(rintro v ⟨hgu, hB, hG, -⟩ N hN; go_simp; ((with_reducible refine (HR1.out _ hG).mono ?_); rintro e w1 ⟨x, rfl, hx, hg⟩; exact ⟨_, rfl, hN x w1 hx hg⟩))
 refine okf (by simp only [Act.put, List.setIfInBounds_toArray, List.set_cons_succ, List.set_cons_zero]; exact rfl) ?_
 refine gya ?_
 refine gend ?_
 rintro v ⟨⟨hgu, hB1, hG1, -⟩, hx32⟩
 have HP := Lib.hid hx32
 clear hx32
 clear hB hG
 have hB := hB1
 have hG := hG1
 clear hB1 hG1
 refine hL _ _ ?_
 clear hL L hgu
 obtain ⟨u, rfl⟩ : ∃ x, x = v := ⟨_, rfl⟩
 refine wpList_nil ?_
 refine NoK.norm (hN _ _ ?_)
 clear hN K
 refine then_norm ?_
 refine wp_seq ?_
 refine wp_rs (w := w) allocs2 10 [0, 0, 0, 0, 0, 1, 0, 0, 1, 0] (by kernel_rfl) (by simp only [List.drop_succ_cons, List.drop_nil]; exact rfl) (fun _ => True) noG hB hG trivial ?_
 intro K L hN hL
 simp only [List.zip_cons_cons, List.zip_nil_left]
 refine gya ?_
 refine gya ?_
 refine gya ?_
 refine gya ?_
 refine gya ?_
 refine gma (by (rintro v ⟨hgu, hB, hG, -⟩ N hN; go_simp; with_reducible exact gmc (Hpk.out _) hN)) ?_
 refine gya ?_
 refine gya ?_
 refine gx (Ax) (fun x : Ax => .slice x.1 m x.2) (fun x W => Lz W x.1 Q) (fun x u u' hg h => Lz.grow h hg) rfl ?_ (fun x41 => ?_)
 ·(rintro v ⟨hgu, hB, hG, -⟩ N hN; go_simp; ((with_reducible refine (HR2.out _ hG).mono ?_); rintro e w1 ⟨x, rfl, hx, hg⟩; exact ⟨_, rfl, hN x w1 hx hg⟩))
 refine okf (by simp only [Act.put, List.setIfInBounds_toArray, List.set_cons_succ, List.set_cons_zero]; exact rfl) ?_
 refine gya ?_
 refine gend ?_
 rintro v ⟨⟨hgu, hB1, hG1, -⟩, hx41⟩
 have HP' := Lib.hid (Lz.grow HP.out hgu)
 have HQ := Lib.hid hx41
 clear HP hx41
 have HP := HP'
 clear HP'
 clear hB hG
 have hB := hB1
 have hG := hG1
 clear hB1 hG1
 refine hL _ _ ?_
 clear hL L hgu
 obtain ⟨u, rfl⟩ : ∃ x, x = v := ⟨_, rfl⟩
 refine wpList_nil ?_
 refine NoK.norm (hN _ _ ?_)
 clear hN K
 refine then_norm ?_
 refine wp_seq ?_
 refine wp_rs (w := w) allocs2 3 [0, 1, 0] (by kernel_rfl) (by simp only [List.drop_succ_cons, List.drop_nil]; exact rfl) (fun _ => True) noG hB hG trivial ?_
 intro K L hN hL
 simp only [List.zip_cons_cons, List.zip_nil_left]
 refine gya ?_
 refine gx (Ax) (fun x : Ax => .slice x.1 n x.2) (fun x W => Lq W x.1 P) (fun x u u' hg h => Lq.grow h hg) rfl ?_ (fun x43 => ?_)
 ·(rintro v ⟨hgu, hB, hG, -⟩ N hN; go_simp; ((with_reducible refine (HI1.out _ x32 (Lz.grow HP.out hgu) (HT.grow hG)).mono ?_); rintro e w1 ⟨x, rfl, hx, hg⟩; exact ⟨_, rfl, hN x w1 hx hg⟩))
 refine okf (by simp only [Act.put, List.setIfInBounds_toArray, List.set_cons_succ, List.set_cons_zero]; exact rfl) ?_
 refine gya ?_
 refine gend ?_
 rintro v ⟨⟨hgu, hB1, hG1, -⟩, hx43⟩
 have HP' := Lib.hid (Lz.grow HP.out hgu)
 have HQ' := Lib.hid (Lz.grow HQ.out hgu)
 have HX := Lib.hid hx43
 clear HP HQ hx43
 have HP := HP'
 have HQ := HQ'
 clear HP' HQ'
 clear hB hG
 have hB := hB1
 have hG := hG1
 clear hB1 hG1
 refine hL _ _ ?_
 clear hL L hgu
 obtain ⟨u, rfl⟩ : ∃ x, x = v := ⟨_, rfl⟩
 refine wpList_nil ?_
 refine NoK.norm (hN _ _ ?_)
 clear hN K
 refine then_norm ?_
 refine wp_seq ?_
 refine wp_rs (w := w) allocs2 3 [0, 1, 0] (by kernel_rfl) (by simp only [List.drop_succ_cons, List.drop_nil]; exact rfl) (fun _ => True) noG hB hG trivial ?_
 intro K L hN hL
 simp only [List.zip_cons_cons, List.zip_nil_left]
 refine gya ?_
 refine gx (Ax) (fun x : Ax => .slice x.1 m x.2) (fun x W => Lq W x.1 Q) (fun x u u' hg h => Lq.grow h hg) rfl ?_ (fun x45 => ?_)
 ·(rintro v ⟨hgu, hB, hG, -⟩ N hN; go_simp; ((with_reducible refine (HI2.out _ x41 (Lz.grow HQ.out hgu) (HT.grow hG)).mono ?_); rintro e w1 ⟨x, rfl, hx, hg⟩; exact ⟨_, rfl, hN x w1 hx hg⟩))
 refine okf (by simp only [Act.put, List.setIfInBounds_toArray, List.set_cons_succ, List.set_cons_zero]; exact rfl) ?_
 refine gya ?_
 refine gend ?_
 rintro v ⟨⟨hgu, hB1, hG1, -⟩, hx45⟩
 have HP' := Lib.hid (Lz.grow HP.out hgu)
 have HQ' := Lib.hid (Lz.grow HQ.out hgu)
 have HX' := Lib.hid (Lq.grow HX.out hgu)
 have HY := Lib.hid hx45
 clear HP HQ HX hx45
 have HP := HP'
 have HQ := HQ'
 have HX := HX'
 clear HP' HQ' HX'
 clear hB hG
 have hB := hB1
 have hG := hG1
 clear hB1 hG1
 refine hL _ _ ?_
 clear hL L hgu
 obtain ⟨u, rfl⟩ : ∃ x, x = v := ⟨_, rfl⟩
 refine wpList_nil ?_
 refine NoK.norm (hN _ _ ?_)
 clear hN K
 have HG0 := Lib.hid hG
 clear hB hF hG
 obtain ⟨w0, rfl⟩ : ∃ x, x = w := ⟨_, rfl⟩
 obtain ⟨w, hwu⟩ : ∃ x, x = u := ⟨_, rfl⟩
 rw [← hwu] at HG0 HP HQ HX HY
 have hB := Bx.nil u
 have hF := Fr.nil w
 have hG : Grow w u := hwu ▸ Grow.refl u
 clear hwu
 replace HT := HT.grow HG0.out
 refine then_norm ?_
 refine wp_seq ?_
 refine wp_rs (w := w) allocs2 6 [0, 0, 1, 1, 1, 2] (by kernel_rfl) (by simp only [List.drop_succ_cons, List.drop_zero]; exact rfl) (fun _ => True) noG hB hG trivial ?_
 intro K L hN hL
 simp only [List.zip_cons_cons, List.zip_nil_left]
 refine gya ?_
 refine gya ?_
 refine gr (ratR rx) rfl ?_ (fun (x48 : Ax × Ax) => ?_)
 ·(rintro v ⟨hgu, hB, hG, -⟩ N hN; go_simp; ((with_reducible refine (Hr.out _).mono ?_); rintro e w1 ⟨x, rfl, hx, hg⟩; exact ⟨_, rfl, hN x w1 hx hg⟩))
 refine okf (by simp only [natR, intR, ratR, nnR, Act.put, List.setIfInBounds_toArray, List.set_cons_succ, List.set_cons_zero]; exact rfl) ?_
 refine gr (ratR (qint 20)) rfl ?_ (fun (x49 : Ax × Ax) => ?_)
 ·(rintro v ⟨⟨hgu, hB, hG, -⟩, hx48⟩ N hN; obtain ⟨hx48a, hx48b⟩ : Rn v x48.1 _ ∧ Rn v x48.2 _ := hx48; go_simp; ((with_reducible refine (ref1_Of 20 (by omega) (by omega) _).mono ?_); rintro e w1 ⟨x, rfl, hx, hg⟩; exact ⟨_, rfl, hN x w1 hx hg⟩))
 refine okf (by simp only [natR, intR, ratR, nnR, Act.put, List.setIfInBounds_toArray, List.set_cons_succ, List.set_cons_zero]; exact rfl) ?_
 refine gr (ratR t) rfl ?_ (fun (x50 : Ax × Ax) => ?_)
 ·(rintro v ⟨⟨⟨hgu, hB, hG, -⟩, hx48⟩, hx49⟩ N hN; obtain ⟨hx48a, hx48b⟩ : Rn v x48.1 _ ∧ Rn v x48.2 _ := hx48; obtain ⟨hx49a, hx49b⟩ : Rn v x49.1 _ ∧ Rn v x49.2 _ := hx49; go_simp; ((with_reducible refine (Hdv.out _ x48 x49 hx48a hx48b hx49a hx49b).mono ?_); rintro e w1 ⟨x, rfl, hx, hg⟩; exact ⟨_, rfl, hN x w1 hx hg⟩))
 refine okf (by simp only [natR, intR, ratR, nnR, Act.put, List.setIfInBounds_toArray, List.set_cons_succ, List.set_cons_zero]; exact rfl) ?_
 refine ga (newObj_RQ _ _ _ _ _) fun b11 hb11 hn11 => ?_
 refine okf (by simp only [Act.put, List.setIfInBounds_toArray, List.set_cons_succ, List.set_cons_zero]; exact rfl) ?_
 refine gend ?_
 rintro v ⟨⟨⟨⟨⟨hgu, hB1, hG1, -⟩, hx48⟩, hx49⟩, hx50⟩, h11⟩
 obtain ⟨hx48a, hx48b⟩ : Rn v x48.1 _ ∧ Rn v x48.2 _ := hx48
 obtain ⟨hx49a, hx49b⟩ : Rn v x49.1 _ ∧ Rn v x49.2 _ := hx49
 obtain ⟨hx50a, hx50b⟩ : Rn v x50.1 _ ∧ Rn v x50.2 _ := hx50
 have hF := Fr.new (tk := []) hF hB hG hb11 hn11
 simp only [List.cons_append, List.nil_append, List.map_cons, List.map_nil] at hF
 clear hB hG
 have hB := (Bx.cons h11 hB1)
 have hG := hG1
 clear hB1 hG1 h11
 refine hL _ _ ?_
 clear hL L hgu
 obtain ⟨u, rfl⟩ : ∃ x, x = v := ⟨_, rfl⟩
 have r := hB.r
 simp only [BxR] at r
 go_wp2_with fail
 clear r
 generalize hu0 : World.setCell (World.setCell (World.setCell u _ _) _ _) _ _ = u0
 have hBG := over_n hB hF hG 0 rfl 0 [_, _, _] hu0
 replace hx48a := hx48a.put hB 0 rfl (by first | decide | simp) 0 [_, _, _] hu0
 replace hx48b := hx48b.put hB 0 rfl (by first | decide | simp) 0 [_, _, _] hu0
 replace hx49a := hx49a.put hB 0 rfl (by first | decide | simp) 0 [_, _, _] hu0
 replace hx49b := hx49b.put hB 0 rfl (by first | decide | simp) 0 [_, _, _] hu0
 replace hx50a := hx50a.put hB 0 rfl (by first | decide | simp) 0 [_, _, _] hu0
 replace hx50b := hx50b.put hB 0 rfl (by first | decide | simp) 0 [_, _, _] hu0
 clear hB hG hu0
 obtain ⟨hB, hG⟩ := hBG
 clear u
 obtain ⟨u, rfl⟩ : ∃ x, x = u0 := ⟨_, rfl⟩
 refine NoK.norm (hN _ _ ?_)
 clear hN K
 refine then_norm ?_
 refine wp_seq ?_
 refine wp_rs (w := w) allocs2 7 [0, 0, 1, 0, 0, 0, 2] (by kernel_rfl) (by simp only [List.drop_succ_cons, List.drop_zero]; exact rfl) (fun _ => True) noG hB hG trivial ?_
 intro K L hN hL
 simp only [List.zip_cons_cons, List.zip_nil_left]
 refine gya ?_
 refine gya ?_
 refine gma (by (rintro v ⟨hgu, hB, hG, -⟩ N hN; go_simp; with_reducible exact gmc (P1.out _ x43 x45 (HT.grow hG) (Lq.grow HX.out hG) (Lq.grow HY.out hG)) hN)) ?_
 refine gya ?_
 refine gya ?_
 refine gya ?_
 refine ga (newObj_Q _ _ _ _ _) fun b12 hb12 hn12 => ?_
 refine okf (by simp only [Act.put, List.setIfInBounds_toArray, List.set_cons_succ, List.set_cons_zero]; exact rfl) ?_
 refine gend ?_
 rintro v ⟨⟨hgu, hB1, hG1, -⟩, h12⟩
 replace hx48a := hx48a.grow hgu
 replace hx48b := hx48b.grow hgu
 replace hx49a := hx49a.grow hgu
 replace hx49b := hx49b.grow hgu
 replace hx50a := hx50a.grow hgu
 replace hx50b := hx50b.grow hgu
 have hF := Fr.new (tk := []) hF hB hG hb12 hn12
 simp only [List.cons_append, List.nil_append, List.map_cons, List.map_nil] at hF
 clear hB hG
 have hB := (Bx.cons h12 hB1)
 have hG := hG1
 clear hB1 hG1 h12
 refine hL _ _ ?_
 clear hL L hgu
 obtain ⟨u, rfl⟩ : ∃ x, x = v := ⟨_, rfl⟩
 have r := hB.r
 simp only [BxR] at r
 go_wp2_with fail
 clear r
 generalize hu0 : World.setCell (World.setCell (World.setCell (World.setCell (World.setCell u _ _) _ _) _ _) _ _) _ _ = u0
 have hBG := over_n hB hF hG 0 rfl 0 [_, _, _, _, _] hu0
 replace hx48a := hx48a.put hB 0 rfl (by first | decide | simp) 0 [_, _, _, _, _] hu0
 replace hx48b := hx48b.put hB 0 rfl (by first | decide | simp) 0 [_, _, _, _, _] hu0
 replace hx49a := hx49a.put hB 0 rfl (by first | decide | simp) 0 [_, _, _, _, _] hu0
 replace hx49b := hx49b.put hB 0 rfl (by first | decide | simp) 0 [_, _, _, _, _] hu0
 replace hx50a := hx50a.put hB 0 rfl (by first | decide | simp) 0 [_, _, _, _, _] hu0
 replace hx50b := hx50b.put hB 0 rfl (by first | decide | simp) 0 [_, _, _, _, _] hu0
 clear hB hG hu0
 obtain ⟨hB, hG⟩ := hBG
 clear u
 obtain ⟨u, rfl⟩ : ∃ x, x = u0 := ⟨_, rfl⟩
 refine NoK.norm (hN _ _ ?_)
 clear hN K
 refine then_norm ?_
 refine wp_seq ?_
 refine wp_rs (w := w) allocs2 7 [0, 0, 1, 0, 0, 0, 2] (by kernel_rfl) (by simp only [List.drop_succ_cons, List.drop_zero]; exact rfl) (fun _ => True) noG hB hG trivial ?_
 intro K L hN hL
 simp only [List.zip_cons_cons, List.zip_nil_left]
 refine gya ?_
 refine gya ?_
 refine gx (Az) (fun p : Az => .tuple #[rzV p v1, .int .i64 k1]) (fun p W => Rz W p v1) (fun p u u' hg h => Rz.grow h hg) rfl ?_ (fun x60 => ?_)
 ·(rintro v ⟨hgu, hB, hG, -⟩ N hN; go_simp; ((with_reducible refine (D1.out _ x32 x41 (Lz.grow HP.out hG) (Lz.grow HQ.out hG)).mono ?_); rintro e w1 ⟨x, rfl, hx, hg⟩; exact ⟨_, rfl, hN x w1 hx hg⟩))
 refine okf (by simp only [Act.put, List.setIfInBounds_toArray, List.set_cons_succ, List.set_cons_zero]; exact rfl) ?_
 refine gya ?_
 refine gya ?_
 refine gya ?_
 refine ga (newObj_RQ _ _ _ _ _) fun b14 hb14 hn14 => ?_
 refine okf (by simp only [Act.put, List.setIfInBounds_toArray, List.set_cons_succ, List.set_cons_zero]; exact rfl) ?_
 refine gend ?_
 rintro v ⟨⟨⟨hgu, hB1, hG1, -⟩, hx60⟩, h14⟩
 replace hx48a := hx48a.grow hgu
 replace hx48b := hx48b.grow hgu
 replace hx49a := hx49a.grow hgu
 replace hx49b := hx49b.grow hgu
 replace hx50a := hx50a.grow hgu
 replace hx50b := hx50b.grow hgu
 have hF := Fr.new (tk := []) hF hB hG hb14 hn14
 simp only [List.cons_append, List.nil_append, List.map_cons, List.map_nil] at hF
 clear hB hG
 have hB := (Bx.cons h14 hB1)
 have hG := hG1
 clear hB1 hG1 h14
 refine hL _ _ ?_
 clear hL L hgu
 obtain ⟨u, rfl⟩ : ∃ x, x = v := ⟨_, rfl⟩
 have r := hB.r
 simp only [BxR] at r
 go_wp2_with fail
 clear r
 generalize hu0 : World.setCell (World.setCell (World.setCell u _ _) _ _) _ _ = u0
 have hBG := over_n hB hF hG 0 rfl 0 [_, _, _] hu0
 replace hx48a := hx48a.put hB 0 rfl (by first | decide | simp) 0 [_, _, _] hu0
 replace hx48b := hx48b.put hB 0 rfl (by first | decide | simp) 0 [_, _, _] hu0
 replace hx49a := hx49a.put hB 0 rfl (by first | decide | simp) 0 [_, _, _] hu0
 replace hx49b := hx49b.put hB 0 rfl (by first | decide | simp) 0 [_, _, _] hu0
 replace hx50a := hx50a.put hB 0 rfl (by first | decide | simp) 0 [_, _, _] hu0
 replace hx50b := hx50b.put hB 0 rfl (by first | decide | simp) 0 [_, _, _] hu0
 replace hx60 := hx60.put hB 0 rfl (by first | decide | simp) 0 [_, _, _] hu0
 clear hB hG hu0
 obtain ⟨hB, hG⟩ := hBG
 clear u
 obtain ⟨u, rfl⟩ : ∃ x, x = u0 := ⟨_, rfl⟩
 refine NoK.norm (hN _ _ ?_)
 clear hN K
 refine then_norm ?_
 refine wp_seq ?_
 refine wp_rs (w := w) allocs2 7 [0, 0, 1, 0, 0, 0, 2] (by kernel_rfl) (by simp only [List.drop_succ_cons, List.drop_zero]; exact rfl) (fun _ => True) noG hB hG trivial ?_
 intro K L hN hL
 simp only [List.zip_cons_cons, List.zip_nil_left]
 refine gya ?_
 refine gya ?_
 refine gma (by (rintro v ⟨hgu, hB, hG, -⟩ N hN; go_simp; with_reducible exact gmc (P2.out _ x43 x45 (HT.grow hG) (Lq.grow HX.out hG) (Lq.grow HY.out hG)) hN)) ?_
 refine gya ?_
 refine gya ?_
 refine gya ?_
 refine ga (newObj_Q _ _ _ _ _) fun b16 hb16 hn16 => ?_
 refine okf (by simp only [Act.put, List.setIfInBounds_toArray, List.set_cons_succ, List.set_cons_zero]; exact rfl) ?_
 refine gend ?_
 rintro v ⟨⟨hgu, hB1, hG1, -⟩, h16⟩
 replace hx48a := hx48a.grow hgu
 replace hx48b := hx48b.grow hgu
 replace hx49a := hx49a.grow hgu
 replace hx49b := hx49b.grow hgu
 replace hx50a := hx50a.grow hgu
 replace hx50b := hx50b.grow hgu
 replace hx60 := hx60.grow hgu
 have hF := Fr.new (tk := []) hF hB hG hb16 hn16
 simp only [List.cons_append, List.nil_append, List.map_cons, List.map_nil] at hF
 clear hB hG
 have hB := (Bx.cons h16 hB1)
 have hG := hG1
 clear hB1 hG1 h16
 refine hL _ _ ?_
 clear hL L hgu
 obtain ⟨u, rfl⟩ : ∃ x, x = v := ⟨_, rfl⟩
 have r := hB.r
 simp only [BxR] at r
 go_wp2_with fail
 clear r
 generalize hu0 : World.setCell (World.setCell (World.setCell (World.setCell (World.setCell u _ _) _ _) _ _) _ _) _ _ = u0
 have hBG := over_n hB hF hG 0 rfl 0 [_, _, _, _, _] hu0
 replace hx48a := hx48a.put hB 0 rfl (by first | decide | simp) 0 [_, _, _, _, _] hu0
 replace hx48b := hx48b.put hB 0 rfl (by first | decide | simp) 0 [_, _, _, _, _] hu0
 replace hx49a := hx49a.put hB 0 rfl (by first | decide | simp) 0 [_, _, _, _, _] hu0
 replace hx49b := hx49b.put hB 0 rfl (by first | decide | simp) 0 [_, _, _, _, _] hu0
 replace hx50a := hx50a.put hB 0 rfl (by first | decide | simp) 0 [_, _, _, _, _] hu0
 replace hx50b := hx50b.put hB 0 rfl (by first | decide | simp) 0 [_, _, _, _, _] hu0
 replace hx60 := hx60.put hB 0 rfl (by first | decide | simp) 0 [_, _, _, _, _] hu0
 clear hB hG hu0
 obtain ⟨hB, hG⟩ := hBG
 clear u
 obtain ⟨u, rfl⟩ : ∃ x, x = u0 := ⟨_, rfl⟩
 refine NoK.norm (hN _ _ ?_)
 clear hN K
 refine then_norm ?_
 refine wp_seq ?_
 refine wp_rs (w := w) allocs2 7 [0, 0, 1, 0, 0, 0, 2] (by kernel_rfl) (by simp only [List.drop_succ_cons, List.drop_zero]; exact rfl) (fun _ => True) noG hB hG trivial ?_
 intro K L hN hL
 simp only [List.zip_cons_cons, List.zip_nil_left]
 refine gya ?_
 refine gya ?_
 refine gx (Az) (fun p : Az => .tuple #[rzV p v2, .int .i64 k2]) (fun p W => Rz W p v2) (fun p u u' hg h => Rz.grow h hg) rfl ?_ (fun x72 => ?_)
 ·(rintro v ⟨hgu, hB, hG, -⟩ N hN; go_simp; ((with_reducible refine (D2.out _ x32 x41 (Lz.grow HP.out hG) (Lz.grow HQ.out hG)).mono ?_); rintro e w1 ⟨x, rfl, hx, hg⟩; exact ⟨_, rfl, hN x w1 hx hg⟩))
 refine okf (by simp only [Act.put, List.setIfInBounds_toArray, List.set_cons_succ, List.set_cons_zero]; exact rfl) ?_
 refine gya ?_
 refine gya ?_
 refine gya ?_
 refine ga (newObj_RQ _ _ _ _ _) fun b18 hb18 hn18 => ?_
 refine okf (by simp only [Act.put, List.setIfInBounds_toArray, List.set_cons_succ, List.set_cons_zero]; exact rfl) ?_
 refine gend ?_
 rintro v ⟨⟨⟨hgu, hB1, hG1, -⟩, hx72⟩, h18⟩
 replace hx48a := hx48a.grow hgu
 replace hx48b := hx48b.grow hgu
 replace hx49a := hx49a.grow hgu
 replace hx49b := hx49b.grow hgu
 replace hx50a := hx50a.grow hgu
 replace hx50b := hx50b.grow hgu
 replace hx60 := hx60.grow hgu
 have hF := Fr.new (tk := []) hF hB hG hb18 hn18
 simp only [List.cons_append, List.nil_append, List.map_cons, List.map_nil] at hF
 clear hB hG
 have hB := (Bx.cons h18 hB1)
 have hG := hG1
 clear hB1 hG1 h18
 refine hL _ _ ?_
 clear hL L hgu
 obtain ⟨u, rfl⟩ : ∃ x, x = v := ⟨_, rfl⟩
 have r := hB.r
 simp only [BxR] at r
 go_wp2_with fail
 clear r
 generalize hu0 : World.setCell (World.setCell (World.setCell u _ _) _ _) _ _ = u0
 have hBG := over_n hB hF hG 0 rfl 0 [_, _, _] hu0
 replace hx48a := hx48a.put hB 0 rfl (by first | decide | simp) 0 [_, _, _] hu0
 replace hx48b := hx48b.put hB 0 rfl (by first | decide | simp) 0 [_, _, _] hu0
 replace hx49a := hx49a.put hB 0 rfl (by first | decide | simp) 0 [_, _, _] hu0
 replace hx49b := hx49b.put hB 0 rfl (by first | decide | simp) 0 [_, _, _] hu0
 replace hx50a := hx50a.put hB 0 rfl (by first | decide | simp) 0 [_, _, _] hu0
 replace hx50b := hx50b.put hB 0 rfl (by first | decide | simp) 0 [_, _, _] hu0
 replace hx60 := hx60.put hB 0 rfl (by first | decide | simp) 0 [_, _, _] hu0
 replace hx72 := hx72.put hB 0 rfl (by first | decide | simp) 0 [_, _, _] hu0
 clear hB hG hu0
 obtain ⟨hB, hG⟩ := hBG
 clear u
 obtain ⟨u, rfl⟩ : ∃ x, x = u0 := ⟨_, rfl⟩
 refine NoK.norm (hN _ _ ?_)
 clear hN K
 refine then_norm ?_
 refine wp_seq ?_
 refine wp_rs (w := w) allocs2 7 [0, 0, 1, 0, 0, 0, 2] (by kernel_rfl) (by simp only [List.drop_succ_cons, List.drop_zero]; exact rfl) (fun _ => True) noG hB hG trivial ?_
 intro K L hN hL
 simp only [List.zip_cons_cons, List.zip_nil_left]
 refine gya ?_
 refine gya ?_
 refine gma (by (rintro v ⟨hgu, hB, hG, -⟩ N hN; go_simp; with_reducible exact gmc (P3.out _ x43 x45 (HT.grow hG) (Lq.grow HX.out hG) (Lq.grow HY.out hG)) hN)) ?_
 refine gya ?_
 refine gya ?_
 refine gya ?_
 refine ga (newObj_Q _ _ _ _ _) fun b20 hb20 hn20 => ?_
 refine okf (by simp only [Act.put, List.setIfInBounds_toArray, List.set_cons_succ, List.set_cons_zero]; exact rfl) ?_
 refine gend ?_
 rintro v ⟨⟨hgu, hB1, hG1, -⟩, h20⟩
 replace hx48a := hx48a.grow hgu
 replace hx48b := hx48b.grow hgu
 replace hx49a := hx49a.grow hgu
 replace hx49b := hx49b.grow hgu
 replace hx50a := hx50a.grow hgu
 replace hx50b := hx50b.grow hgu
 replace hx60 := hx60.grow hgu
 replace hx72 := hx72.grow hgu
 have hF := Fr.new (tk := []) hF hB hG hb20 hn20
 simp only [List.cons_append, List.nil_append, List.map_cons, List.map_nil] at hF
 clear hB hG
 have hB := (Bx.cons h20 hB1)
 have hG := hG1
 clear hB1 hG1 h20
 refine hL _ _ ?_
 clear hL L hgu
 obtain ⟨u, rfl⟩ : ∃ x, x = v := ⟨_, rfl⟩
 have r := hB.r
 simp only [BxR] at r
 go_wp2_with fail
 clear r
 generalize hu0 : World.setCell (World.setCell (World.setCell (World.setCell (World.setCell u _ _) _ _) _ _) _ _) _ _ = u0
 have hBG := over_n hB hF hG 0 rfl 0 [_, _, _, _, _] hu0
 replace hx48a := hx48a.put hB 0 rfl (by first | decide | simp) 0 [_, _, _, _, _] hu0
 replace hx48b := hx48b.put hB 0 rfl (by first | decide | simp) 0 [_, _, _, _, _] hu0
 replace hx49a := hx49a.put hB 0 rfl (by first | decide | simp) 0 [_, _, _, _, _] hu0
 replace hx49b := hx49b.put hB 0 rfl (by first | decide | simp) 0 [_, _, _, _, _] hu0
 replace hx50a := hx50a.put hB 0 rfl (by first | decide | simp) 0 [_, _, _, _, _] hu0
 replace hx50b := hx50b.put hB 0 rfl (by first | decide | simp) 0 [_, _, _, _, _] hu0
 replace hx60 := hx60.put hB 0 rfl (by first | decide | simp) 0 [_, _, _, _, _] hu0
 replace hx72 := hx72.put hB 0 rfl (by first | decide | simp) 0 [_, _, _, _, _] hu0
 clear hB hG hu0
 obtain ⟨hB, hG⟩ := hBG
 clear u
 obtain ⟨u, rfl⟩ : ∃ x, x = u0 := ⟨_, rfl⟩
 refine NoK.norm (hN _ _ ?_)
 clear hN K
 refine then_norm ?_
 refine wp_seq ?_
 refine wp_rs (w := w) allocs2 7 [0, 0, 1, 0, 0, 0, 2] (by kernel_rfl) (by simp only [List.drop_succ_cons, List.drop_zero]; exact rfl) (fun _ => True) noG hB hG trivial ?_
 intro K L hN hL
 simp only [List.zip_cons_cons, List.zip_nil_left]
 refine gya ?_
 refine gya ?_
 refine gx (Az) (fun p : Az => .tuple #[rzV p v3, .int .i64 k3]) (fun p W => Rz W p v3) (fun p u u' hg h => Rz.grow h hg) rfl ?_ (fun x84 => ?_)
 ·(rintro v ⟨hgu, hB, hG, -⟩ N hN; go_simp; ((with_reducible refine (D3.out _ x32 x41 (Lz.grow HP.out hG) (Lz.grow HQ.out hG)).mono ?_); rintro e w1 ⟨x, rfl, hx, hg⟩; exact ⟨_, rfl, hN x w1 hx hg⟩))
 refine okf (by simp only [Act.put, List.setIfInBounds_toArray, List.set_cons_succ, List.set_cons_zero]; exact rfl) ?_
 refine gya ?_
 refine gya ?_
 refine gya ?_
 refine ga (newObj_RQ _ _ _ _ _) fun b22 hb22 hn22 => ?_
 refine okf (by simp only [Act.put, List.setIfInBounds_toArray, List.set_cons_succ, List.set_cons_zero]; exact rfl) ?_
 refine gend ?_
 rintro v ⟨⟨⟨hgu, hB1, hG1, -⟩, hx84⟩, h22⟩
 replace hx48a := hx48a.grow hgu
 replace hx48b := hx48b.grow hgu
 replace hx49a := hx49a.grow hgu
 replace hx49b := hx49b.grow hgu
 replace hx50a := hx50a.grow hgu
 replace hx50b := hx50b.grow hgu
 replace hx60 := hx60.grow hgu
 replace hx72 := hx72.grow hgu
 have hF := Fr.new (tk := []) hF hB hG hb22 hn22
 simp only [List.cons_append, List.nil_append, List.map_cons, List.map_nil] at hF
 clear hB hG
 have hB := (Bx.cons h22 hB1)
 have hG := hG1
 clear hB1 hG1 h22
 refine hL _ _ ?_
 clear hL L hgu
 obtain ⟨u, rfl⟩ : ∃ x, x = v := ⟨_, rfl⟩
 have r := hB.r
 simp only [BxR] at r
 go_wp2_with fail
 clear r
 generalize hu0 : World.setCell (World.setCell (World.setCell u _ _) _ _) _ _ = u0
 have hBG := over_n hB hF hG 0 rfl 0 [_, _, _] hu0
 replace hx48a := hx48a.put hB 0 rfl (by first | decide | simp) 0 [_, _, _] hu0
 replace hx48b := hx48b.put hB 0 rfl (by first | decide | simp) 0 [_, _, _] hu0
 replace hx49a := hx49a.put hB 0 rfl (by first | decide | simp) 0 [_, _, _] hu0
 replace hx49b := hx49b.put hB 0 rfl (by first | decide | simp) 0 [_, _, _] hu0
 replace hx50a := hx50a.put hB 0 rfl (by first | decide | simp) 0 [_, _, _] hu0
 replace hx50b := hx50b.put hB 0 rfl (by first | decide | simp) 0 [_, _, _] hu0
 replace hx60 := hx60.put hB 0 rfl (by first | decide | simp) 0 [_, _, _] hu0
 replace hx72 := hx72.put hB 0 rfl (by first | decide | simp) 0 [_, _, _] hu0
 replace hx84 := hx84.put hB 0 rfl (by first | decide | simp) 0 [_, _, _] hu0
 clear hB hG hu0
 obtain ⟨hB, hG⟩ := hBG
 clear u
 obtain ⟨u, rfl⟩ : ∃ x, x = u0 := ⟨_, rfl⟩
 refine NoK.norm (hN _ _ ?_)
 clear hN K
 refine then_norm ?_
 refine wp_seq ?_
 refine wp_rs (w := w) allocs2 9 [0, 0, 0, 1, 1, 0, 0, 0, 2] (by kernel_rfl) (by simp only [List.drop_succ_cons, List.drop_zero]; exact rfl) (fun _ => True) noG hB hG trivial ?_
 intro K L hN hL
 simp only [List.zip_cons_cons, List.zip_nil_left]
 refine gya ?_
 refine gya ?_
 refine gyr ?_
 refine gma (by (rintro v ⟨hgu, hB, hG, -⟩ N hN; go_simp; with_reducible exact gmc (hand_In x50.1 x50.2 t _ (hx50a.grow hgu) (hx50b.grow hgu) stB (HT.grow hG)) hN)) ?_
 refine gma (by (rintro v ⟨hgu, hB, hG, -⟩ N hN; go_simp; with_reducible exact gmc (P4.out _ x43 x45 (HT.grow hG) (Lq.grow HX.out hG) (Lq.grow HY.out hG)) hN)) ?_
 refine gya ?_
 refine gya ?_
 refine gya ?_
 refine ga (newObj_Q _ _ _ _ _) fun b24 hb24 hn24 => ?_
 refine okf (by simp only [Act.put, List.setIfInBounds_toArray, List.set_cons_succ, List.set_cons_zero]; exact rfl) ?_
 refine gend ?_
 rintro v ⟨⟨hgu, hB1, hG1, -⟩, h24⟩
 replace hx48a := hx48a.grow hgu
 replace hx48b := hx48b.grow hgu
 replace hx49a := hx49a.grow hgu
 replace hx49b := hx49b.grow hgu
 replace hx50a := hx50a.grow hgu
 replace hx50b := hx50b.grow hgu
 replace hx60 := hx60.grow hgu
 replace hx72 := hx72.grow hgu
 replace hx84 := hx84.grow hgu
 have hF := Fr.new (tk := []) hF hB hG hb24 hn24
 simp only [List.cons_append, List.nil_append, List.map_cons, List.map_nil] at hF
 clear hB hG
 have hB := (Bx.cons h24 hB1)
 have hG := hG1
 clear hB1 hG1 h24
 refine hL _ _ ?_
 clear hL L hgu
 obtain ⟨u, rfl⟩ : ∃ x, x = v := ⟨_, rfl⟩
 have r := hB.r
 simp only [BxR] at r
 go_wp2_with fail
 clear r
 generalize hu0 : World.setCell (World.setCell (World.setCell (World.setCell (World.setCell u _ _) _ _) _ _) _ _) _ _ = u0
 have hBG := over_n hB hF hG 0 rfl 0 [_, _, _, _, _] hu0
 replace hx48a := hx48a.put hB 0 rfl (by first | decide | simp) 0 [_, _, _, _, _] hu0
 replace hx48b := hx48b.put hB 0 rfl (by first | decide | simp) 0 [_, _, _, _, _] hu0
 replace hx49a := hx49a.put hB 0 rfl (by first | decide | simp) 0 [_, _, _, _, _] hu0
 replace hx49b := hx49b.put hB 0 rfl (by first | decide | simp) 0 [_, _, _, _, _] hu0
 replace hx50a := hx50a.put hB 0 rfl (by first | decide | simp) 0 [_, _, _, _, _] hu0
 replace hx50b := hx50b.put hB 0 rfl (by first | decide | simp) 0 [_, _, _, _, _] hu0
 replace hx60 := hx60.put hB 0 rfl (by first | decide | simp) 0 [_, _, _, _, _] hu0
 replace hx72 := hx72.put hB 0 rfl (by first | decide | simp) 0 [_, _, _, _, _] hu0
 replace hx84 := hx84.put hB 0 rfl (by first | decide | simp) 0 [_, _, _, _, _] hu0
 clear hB hG hu0
 obtain ⟨hB, hG⟩ := hBG
 clear u
 obtain ⟨u, rfl⟩ : ∃ x, x = u0 := ⟨_, rfl⟩
 refine NoK.norm (hN _ _ ?_)
 clear hN K
 refine then_norm ?_
 refine wp_seq ?_
 refine wp_rs (w := w) allocs2 8 [0, 0, 0, 1, 0, 0, 0, 2] (by kernel_rfl) (by simp only [List.drop_succ_cons, List.drop_zero]; exact rfl) (fun _ => True) noG hB hG trivial ?_
 intro K L hN hL
 simp only [List.zip_cons_cons, List.zip_nil_left]
 refine gya ?_
 refine gya ?_
 refine gyr ?_
 refine gx (Az) (fun p : Az => .tuple #[rzV p v4, .int .i64 k4]) (fun p W => Rz W p v4) (fun p u u' hg h => Rz.grow h hg) rfl ?_ (fun x99 => ?_)
 ·(rintro v ⟨hgu, hB, hG, -⟩ N hN; go_simp; ((with_reducible refine (D4.out _ x32 x41 x50 (Lz.grow HP.out hG) (Lz.grow HQ.out hG) (rz_mk (hx50a.grow hgu) (hx50b.grow hgu))).mono ?_); rintro e w1 ⟨x, rfl, hx, hg⟩; exact ⟨_, rfl, hN x w1 hx hg⟩))
 refine okf (by simp only [Act.put, List.setIfInBounds_toArray, List.set_cons_succ, List.set_cons_zero]; exact rfl) ?_
 refine gya ?_
 refine gya ?_
 refine gya ?_
 refine ga (newObj_RQ _ _ _ _ _) fun b26 hb26 hn26 => ?_
 refine okf (by simp only [Act.put, List.setIfInBounds_toArray, List.set_cons_succ, List.set_cons_zero]; exact rfl) ?_
 refine gend ?_
 rintro v ⟨⟨⟨hgu, hB1, hG1, -⟩, hx99⟩, h26⟩
 replace hx48a := hx48a.grow hgu
 replace hx48b := hx48b.grow hgu
 replace hx49a := hx49a.grow hgu
 replace hx49b := hx49b.grow hgu
 replace hx50a := hx50a.grow hgu
 replace hx50b := hx50b.grow hgu
 replace hx60 := hx60.grow hgu
 replace hx72 := hx72.grow hgu
 replace hx84 := hx84.grow hgu
 have hF := Fr.new (tk := []) hF hB hG hb26 hn26
 simp only [List.cons_append, List.nil_append, List.map_cons, List.map_nil] at hF
 clear hB hG
 have hB := (Bx.cons h26 hB1)
 have hG := hG1
 clear hB1 hG1 h26
 refine hL _ _ ?_
 clear hL L hgu
 obtain ⟨u, rfl⟩ : ∃ x, x = v := ⟨_, rfl⟩
 have r := hB.r
 simp only [BxR] at r
 go_wp2_with fail
 clear r
 generalize hu0 : World.setCell (World.setCell (World.setCell u _ _) _ _) _ _ = u0
 have hBG := over_n hB hF hG 0 rfl 0 [_, _, _] hu0
 replace hx48a := hx48a.put hB 0 rfl (by first | decide | simp) 0 [_, _, _] hu0
 replace hx48b := hx48b.put hB 0 rfl (by first | decide | simp) 0 [_, _, _] hu0
 replace hx49a := hx49a.put hB 0 rfl (by first | decide | simp) 0 [_, _, _] hu0
 replace hx49b := hx49b.put hB 0 rfl (by first | decide | simp) 0 [_, _, _] hu0
 replace hx50a := hx50a.put hB 0 rfl (by first | decide | simp) 0 [_, _, _] hu0
 replace hx50b := hx50b.put hB 0 rfl (by first | decide | simp) 0 [_, _, _] hu0
 replace hx60 := hx60.put hB 0 rfl (by first | decide | simp) 0 [_, _, _] hu0
 replace hx72 := hx72.put hB 0 rfl (by first | decide | simp) 0 [_, _, _] hu0
 replace hx84 := hx84.put hB 0 rfl (by first | decide | simp) 0 [_, _, _] hu0
 replace hx99 := hx99.put hB 0 rfl (by first | decide | simp) 0 [_, _, _] hu0
 clear hB hG hu0
 obtain ⟨hB, hG⟩ := hBG
 clear u
 obtain ⟨u, rfl⟩ : ∃ x, x = u0 := ⟨_, rfl⟩
 refine NoK.norm (hN _ _ ?_)
 clear hN K
 refine then_norm ?_
 refine wp_seq ?_
 refine wp_rs (w := w) allocs2 42 [1, 0, 0, 0, 1, 0, 0, 0, 0, 0, 0, 0, 0, 0, 1, 0, 0, 0, 0, 0, 0, 0, 0, 0, 1, 0, 0, 0, 0, 0, 0, 0, 0, 0, 1, 0, 0, 0, 0, 0, 0, 0] (by kernel_rfl) (by simp only [List.drop_succ_cons, List.drop_nil]; exact rfl) (fun _ => True) noG hB hG trivial ?_
 intro K L hN hL
 simp only [List.zip_cons_cons, List.zip_nil_left]
 refine gma (by (rintro v ⟨hgu, hB, hG, -⟩ N hN; go_simp; with_reducible exact gmc (law9_known _ (HT.grow hG)) hN)) ?_
 refine gya ?_
 first | (apply gy; exact rfl; (rintro v ⟨hgu, hB, hG, -⟩ N hN; have r := hB.r; simp only [BxR] at r; go_simp; exact hN)) | (apply gn; exact rfl)
 refine okf (by simp only [Act.put, List.setIfInBounds_toArray, List.set_cons_succ, List.set_cons_zero]; exact rfl) ?_
 first | (apply gy; exact rfl; (rintro v ⟨hgu, hB, hG, -⟩ N hN; have r := hB.r; simp only [BxR] at r; go_simp; exact hN)) | (apply gn; exact rfl)
 refine okf (by simp only [Act.put, List.setIfInBounds_toArray, List.set_cons_succ, List.set_cons_zero]; exact rfl) ?_
 first | (apply gm; exact rfl; (rintro v ⟨hgu, hB, hG, -⟩ N hN; go_simp; ((with_reducible refine (hand_Same v1 x60.1 x60.2 sv1 _ (Rz.grow hx60 hgu).a (Rz.grow hx60 hgu).b).mono ?_); rintro e w1 ⟨rfl, hb⟩; exact ⟨_, rfl, hN _ hb⟩))) | (apply gmn; exact rfl)
 refine okf (by simp only [Act.put, List.setIfInBounds_toArray, List.set_cons_succ, List.set_cons_zero]; exact rfl) ?_
 refine gya ?_
 refine gya ?_
 first | (apply gy; exact rfl; (rintro v - N hN; go_simp; exact hN)) | (apply gn; exact rfl)
 refine okf (by simp only [Act.put, List.setIfInBounds_toArray, List.set_cons_succ, List.set_cons_zero]; exact rfl) ?_
 first | (apply gy; exact rfl; (rintro v - N hN; go_simp; exact hN)) | (apply gn; exact rfl)
 refine okf (by simp only [Act.put, List.setIfInBounds_toArray, List.set_cons_succ, List.set_cons_zero]; exact rfl) ?_
 first | (apply gy; exact rfl; (rintro v - N hN; go_simp; exact hN)) | (apply gn; exact rfl)
 refine okf (by simp only [Act.put, List.setIfInBounds_toArray, List.set_cons_succ, List.set_cons_zero]; exact rfl) ?_
 refine gya ?_
 refine gya ?_
 first | (apply gy; exact rfl; (rintro v ⟨hgu, hB, hG, -⟩ N hN; have r := hB.r; simp only [BxR] at r; go_simp; exact hN)) | (apply gn; exact rfl)
 refine okf (by simp only [Act.put, List.setIfInBounds_toArray, List.set_cons_succ, List.set_cons_zero]; exact rfl) ?_
 first | (apply gy; exact rfl; (rintro v ⟨hgu, hB, hG, -⟩ N hN; have r := hB.r; simp only [BxR] at r; go_simp; exact hN)) | (apply gn; exact rfl)
 refine okf (by simp only [Act.put, List.setIfInBounds_toArray, List.set_cons_succ, List.set_cons_zero]; exact rfl) ?_
 first | (apply gm; exact rfl; (rintro v ⟨hgu, hB, hG, -⟩ N hN; go_simp; ((with_reducible refine (hand_Same v2 x72.1 x72.2 sv2 _ (Rz.grow hx72 hgu).a (Rz.grow hx72 hgu).b).mono ?_); rintro e w1 ⟨rfl, hb⟩; exact ⟨_, rfl, hN _ hb⟩))) | (apply gmn; exact rfl)
 refine okf (by simp only [Act.put, List.setIfInBounds_toArray, List.set_cons_succ, List.set_cons_zero]; exact rfl) ?_
 refine gya ?_
 refine gya ?_
 first | (apply gy; exact rfl; (rintro v - N hN; go_simp; exact hN)) | (apply gn; exact rfl)
 refine okf (by simp only [Act.put, List.setIfInBounds_toArray, List.set_cons_succ, List.set_cons_zero]; exact rfl) ?_
 first | (apply gy; exact rfl; (rintro v - N hN; go_simp; exact hN)) | (apply gn; exact rfl)
 refine okf (by simp only [Act.put, List.setIfInBounds_toArray, List.set_cons_succ, List.set_cons_zero]; exact rfl) ?_
 first | (apply gy; exact rfl; (rintro v - N hN; go_simp; exact hN)) | (apply gn; exact rfl)
 refine okf (by simp only [Act.put, List.setIfInBounds_toArray, List.set_cons_succ, List.set_cons_zero]; exact rfl) ?_
 refine gya ?_
 refine gya ?_
 first | (apply gy; exact rfl; (rintro v ⟨hgu, hB, hG, -⟩ N hN; have r := hB.r; simp only [BxR] at r; go_simp; exact hN)) | (apply gn; exact rfl)
 refine okf (by simp only [Act.put, List.setIfInBounds_toArray, List.set_cons_succ, List.set_cons_zero]; exact rfl) ?_
 first | (apply gy; exact rfl; (rintro v ⟨hgu, hB, hG, -⟩ N hN; have r := hB.r; simp only [BxR] at r; go_simp; exact hN)) | (apply gn; exact rfl)
 refine okf (by simp only [Act.put, List.setIfInBounds_toArray, List.set_cons_succ, List.set_cons_zero]; exact rfl) ?_
 first | (apply gm; exact rfl; (rintro v ⟨hgu, hB, hG, -⟩ N hN; go_simp; ((with_reducible refine (hand_Same v3 x84.1 x84.2 sv3 _ (Rz.grow hx84 hgu).a (Rz.grow hx84 hgu).b).mono ?_); rintro e w1 ⟨rfl, hb⟩; exact ⟨_, rfl, hN _ hb⟩))) | (apply gmn; exact rfl)
 refine okf (by simp only [Act.put, List.setIfInBounds_toArray, List.set_cons_succ, List.set_cons_zero]; exact rfl) ?_
 refine gya ?_
 refine gya ?_
 first | (apply gy; exact rfl; (rintro v - N hN; go_simp; exact hN)) | (apply gn; exact rfl)
 refine okf (by simp only [Act.put, List.setIfInBounds_toArray, List.set_cons_succ, List.set_cons_zero]; exact rfl) ?_
 first | (apply gy; exact rfl; (rintro v - N hN; go_simp; exact hN)) | (apply gn; exact rfl)
 refine okf (by simp only [Act.put, List.setIfInBounds_toArray, List.set_cons_succ, List.set_cons_zero]; exact rfl) ?_
 first | (apply gy; exact rfl; (rintro v - N hN; go_simp; exact hN)) | (apply gn; exact rfl)
 refine okf (by simp only [Act.put, List.setIfInBounds_toArray, List.set_cons_succ, List.set_cons_zero]; exact rfl) ?_
 refine gya ?_
 refine gya ?_
 first | (apply gy; exact rfl; (rintro v ⟨hgu, hB, hG, -⟩ N hN; have r := hB.r; simp only [BxR] at r; go_simp; exact hN)) | (apply gn; exact rfl)
 refine okf (by simp only [Act.put, List.setIfInBounds_toArray, List.set_cons_succ, List.set_cons_zero]; exact rfl) ?_
 first | (apply gy; exact rfl; (rintro v ⟨hgu, hB, hG, -⟩ N hN; have r := hB.r; simp only [BxR] at r; go_simp; exact hN)) | (apply gn; exact rfl)
 refine okf (by simp only [Act.put, List.setIfInBounds_toArray, List.set_cons_succ, List.set_cons_zero]; exact rfl) ?_
 first | (apply gm; exact rfl; (rintro v ⟨hgu, hB, hG, -⟩ N hN; go_simp; ((with_reducible refine (hand_Same v4 x99.1 x99.2 sv4 _ (Rz.grow hx99 hgu).a (Rz.grow hx99 hgu).b).mono ?_); rintro e w1 ⟨rfl, hb⟩; exact ⟨_, rfl, hN _ hb⟩))) | (apply gmn; exact rfl)
 refine okf (by simp only [Act.put, List.setIfInBounds_toArray, List.set_cons_succ, List.set_cons_zero]; exact rfl) ?_
 refine gya ?_
 refine gya ?_
 first | (apply gy; exact rfl; (rintro v - N hN; go_simp; exact hN)) | (apply gn; exact rfl)
 refine okf (by simp only [Act.put, List.setIfInBounds_toArray, List.set_cons_succ, List.set_cons_zero]; exact rfl) ?_
 first | (apply gy; exact rfl; (rintro v - N hN; go_simp; exact hN)) | (apply gn; exact rfl)
 refine okf (by simp only [Act.put, List.setIfInBounds_toArray, List.set_cons_succ, List.set_cons_zero]; exact rfl) ?_
 first | (apply gy; exact rfl; (rintro v - N hN; go_simp; exact hN)) | (apply gn; exact rfl)
 refine okf (by simp only [Act.put, List.setIfInBounds_toArray, List.set_cons_succ, List.set_cons_zero]; exact rfl) ?_
 refine gya ?_
 refine gya ?_
 refine gend ?_
 rintro v ⟨hgu, hB1, hG1, -⟩
 replace hx48a := hx48a.grow hgu
 replace hx48b := hx48b.grow hgu
 replace hx49a := hx49a.grow hgu
 replace hx49b := hx49b.grow hgu
 replace hx50a := hx50a.grow hgu
 replace hx50b := hx50b.grow hgu
 replace hx60 := hx60.grow hgu
 replace hx72 := hx72.grow hgu
 replace hx84 := hx84.grow hgu
 replace hx99 := hx99.grow hgu
 clear hB hG
 have hB := hB1
 have hG := hG1
 clear hB1 hG1
 refine hL _ _ ?_
 clear hL L hgu
 obtain ⟨u, rfl⟩ : ∃ x, x = v := ⟨_, rfl⟩
 refine wpList_nil ?_
 refine NoK.norm (hN _ _ ?_)
 clear hN K
 refine then_norm ?_
 refine wp_ret ?_
 refine ret_b rfl ?_
 intro N hN
 have r := hB.r
 simp only [BxR] at r
 simp only [results, Tryz.results5]
 go_simp
 refine hN _ ?_
 clear hN N r
 exact ⟨rfl, HG0.out.trans hG⟩
end Go.Proofs.YtimjnkfcnpfoeaaGreatDoor
