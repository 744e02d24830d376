/-
  Contracts and laws: FracC.
-/
import Derived.Test.YtjmopgepnndckaaGreatDoorO22
set_option linter.unusedSimpArgs false
set_option linter.unusedVariables false
namespace Go.Proofs.YtjmopgepnndckaaGreatDoor
open Go.RowKit
section
variable (a b : Rat) (w : World)
set_option maxHeartbeats 4000000 in
set_option maxRecDepth 100000 in
theorem frac_Add_nn (HT : Tab w) (h : qs a + qs b + 1 ≤ BIG) (x y : Bool) (hx : ∀ W, Calls Tryz.prog 83 #[qV a] W fun e w' => e = .returned (.bool x) ∧ Grow W w') (hy : ∀ W, Calls Tryz.prog 83 #[qV b] W fun e w' => e = .returned (.bool y) ∧ Grow W w') (hxy : (x && y) = false) :
  Calls Tryz.prog 122 #[qV a, qV b] w fun e w' => e = .returned (qV (qadd a b)) ∧ Grow w w' := by
 have hB40 := BIG_le
 obtain ⟨g1, g0, d1, d2, t1, t2, m1, m2, u1, k1, k0⟩ := add_sizes a b h
 have d1' := fits_most d1
 have d2' := fits_most d2
 have g1' := fits_most g1
 have He := Lib.hid (And.intro (num_add_ a b) (den_add_ a b))
 obtain ⟨G, hG0⟩ : ∃ G, G = Nat.gcd a.den b.den := ⟨_, rfl⟩
 obtain ⟨U, hU0⟩ : ∃ U, U = zadd (ztm a.num (b.den / G)) (ztm b.num (a.den / G)) := ⟨_, rfl⟩
 obtain ⟨H, hH0⟩ : ∃ H, H = Nat.gcd U.natAbs G := ⟨_, rfl⟩
 rw [← hG0] at g1 g0 t1 t2 m1 m2 u1 k1 k0 g1'
 rw [← hU0] at u1 k1 k0
 rw [← hH0] at k1 k0
 have hgc : ∀ W, Tab W → Calls Tryz.prog 149 #[intV (sgn false a.den), intV (sgn false b.den)] W fun e w' => e = .returned (natV G) ∧ Grow W w' := fun W ht => hG0 ▸ gcd_dd a.den b.den d1 d2 W ht
 have hgu : ∀ W, Tab W → Calls Tryz.prog 149 #[intV U, intV (sgn false G)] W fun e w' => e = .returned (natV H) ∧ Grow W w' := fun W ht => hH0 ▸ gcd_nd U G u1 g1 W ht
 have hau : ∀ W, Calls Tryz.prog 158 #[intV (ztm a.num (b.den / G)), intV (ztm b.num (a.den / G))] W fun e w' => e = .returned (intV U) ∧ Grow W w' := fun W => hU0 ▸ whole_Add _ _ m1 m2 W
 have e1 : (qadd a b).num = ztd U H := by
  have := He.out.1
  unfold upOf hOf upOf at this
  rw [← hG0] at this
  rw [hH0, hU0]
  exact this
 have e2 : (qadd a b).den = a.den / G * (b.den / H) := by
  have := He.out.2
  unfold hOf upOf at this
  rw [← hG0] at this
  rw [hH0, hU0]
  exact this
 have He2 := Lib.hid (And.intro e1 e2)
 have f1 : bl (a.den / G) ≤ 1099511627776 := Nat.le_trans (bl_div_le _ _) d1'
 have f2 : bl (b.den / H) ≤ 1099511627776 := Nat.le_trans (bl_div_le _ _) d2'
 have f3 : bl (a.den / G * (b.den / H)) ≤ 1099511627776 := by
  have s1 := bl_mul_le (a.den / G) (b.den / H)
  have s2 := bl_div_le a.den G
  have s3 := bl_div_le b.den H
  have s4 := qs_den a
  have s5 := qs_den b
  omega
 have Hx := Lib.hid hx
 have Hy := Lib.hid hy
 have Hgc := Lib.hid hgc
 have Hgu := Lib.hid hgu
 have Hau := Lib.hid hau
 clear hx hy hgc hgu hau e1 e2 He hG0 hU0 hH0
 cases x <;> cases y <;> first | (exact absurd hxy (by decide)) | skip
 all_goals clear hxy
 all_goals
  go_enter Tryz.func122, Tryz.ntmps122
  refine en3 ?_
  intro u hG b4 b3 b2 hB hF
  refine wp_seq ?_
  refine wp_seq (rsE allocs [0, 1, 0, 0, 1, 0] hB hG fun L hL => ?_)
  refine gs ?_
  refine gmw (C := fun v => Hx.out _) ?_
  refine gs ?_
  first | refine gmw (C := fun v => Hy.out _) ?_ | refine gmna ?_
  refine gs ?_
  refine geT hL ?_
  clear hB hG hL L
  rintro u ⟨-, hB, hG, -⟩
  refine wp_cond_false (rfl) ?_
  refine wp_skip ?_
  refine then_norm ?_
  refine wp_seq (rdC allocs [] [(0, 0), (0, 3), (1, 1), (1, 2), (1, 4), (1, 5), (1, 6), (2, 7)] hB hG fun K L hN hL => ?_)
  refine gs ?_
  refine gmw (C := fun v => frac_Den _ (by assumption) _) ?_
  refine gmw (C := fun v => whole_From _ _ (by assumption) _) ?_
  refine gmw (C := fun v => frac_Den _ (by assumption) _) ?_
  refine gmw (C := fun v => whole_From _ _ (by assumption) _) ?_
  refine gmd (C := fun v ⟨hgu, hB, hG, _⟩ => Hgc.out _ (HT.grow hG)) ?_
  refine gaa (newObj_Nat _ _ _ _ _) fun b5 hb5 hn5 => ?_
  replace hF := hF.n1 [] hB hG hb5 hn5
  refine geC hL ?_
  clear hB hG hL L
  rintro u ⟨⟨-, hB, hG, -⟩, h5⟩
  replace hB := hB.cons' h5
  clear h5
  clear hb5 hn5
  refine gtT ?_
  clear hN K
  refine st hB hF hG 0 0 [_, _] ?_
  clear hB hG
  intro u hB hG
  refine wp_seq (rdC allocs [] [(0, 0), (0, 2), (0, 4), (0, 6), (1, 1), (1, 3), (1, 5), (1, 7), (2, 8), (2, 9)] hB hG fun K L hN hL => ?_)
  refine gs ?_
  refine gmw (C := fun v => frac_Den _ (by assumption) _) ?_
  refine gmw (C := fun v => frac_over a.den G d1 g1 g0 _) ?_
  refine gmw (C := fun v => frac_Den _ (by assumption) _) ?_
  refine gmw (C := fun v => frac_over b.den G d2 g1 g0 _) ?_
  refine gaa (newObj_Nat _ _ _ _ _) fun b6 hb6 hn6 => ?_
  refine gaa (newObj_Nat _ _ _ _ _) fun b7 hb7 hn7 => ?_
  replace hF := hF.n1 [] hB hG hb6 hn6
  replace hF := hF.n1 [b6] hB hG hb7 hn7
  refine geC hL ?_
  clear hB hG hL L
  rintro u ⟨⟨⟨-, hB, hG, -⟩, h6⟩, h7⟩
  replace hB := hB.cons' h6
  replace hB := hB.cons' h7
  clear h6 h7
  clear hb6 hn6 hb7 hn7
  have hD : b6 ≠ b7 ∧ b7 ≠ b6 := ⟨hF.ne 1 0 rfl rfl (by decide), hF.ne 0 1 rfl rfl (by decide)⟩
  refine gtT ?_
  clear hN K
  clear hD
  refine st2 hB hF hG 1 0 [_, _] 0 0 [_, _] ?_
  clear hB hG
  intro u hB hG
  refine wp_seq (rdC allocs [] [(0, 0), (0, 1), (0, 2), (0, 4), (0, 5), (0, 6), (1, 3), (1, 7), (1, 8), (2, 9)] hB hG fun K L hN hL => ?_)
  refine gs ?_
  refine gmw (C := fun v => frac_times _ _ (by assumption) _) ?_
  refine gmw (C := fun v => frac_times _ _ (by assumption) _) ?_
  refine gmw (C := fun v => Hau.out _) ?_
  refine gaa (newObj_Int _ _ _ _ _) fun b8 hb8 hn8 => ?_
  replace hF := hF.n1 [] hB hG hb8 hn8
  refine geC hL ?_
  clear hB hG hL L
  rintro u ⟨⟨-, hB, hG, -⟩, h8⟩
  replace hB := hB.cons' h8
  clear h8
  clear hb8 hn8
  refine gtT ?_
  clear hN K
  refine st hB hF hG 0 0 [_, _, _] ?_
  clear hB hG
  intro u hB hG
  refine wp_seq (rdC allocs [] [(0, 0), (0, 1), (1, 2), (1, 3), (2, 4)] hB hG fun K L hN hL => ?_)
  refine gs ?_
  refine gmw (C := fun v => whole_From _ _ (by assumption) _) ?_
  refine gmd (C := fun v ⟨hgu, hB, hG, _⟩ => Hgu.out _ (HT.grow hG)) ?_
  refine gaa (newObj_Nat _ _ _ _ _) fun b9 hb9 hn9 => ?_
  replace hF := hF.n1 [] hB hG hb9 hn9
  refine geC hL ?_
  clear hB hG hL L
  rintro u ⟨⟨-, hB, hG, -⟩, h9⟩
  replace hB := hB.cons' h9
  clear h9
  clear hb9 hn9
  refine gtT ?_
  clear hN K
  refine st hB hF hG 0 0 [_, _] ?_
  clear hB hG
  intro u hB hG
  refine wp_seq (rdC allocs [] [(0, 0), (0, 1), (0, 3), (0, 4), (0, 6), (1, 2), (1, 5), (1, 7), (1, 8), (1, 9)] hB hG fun K L hN hL => ?_)
  refine gs ?_
  refine gmw (C := fun v => frac_part U H u1 k1 k0 _) ?_
  refine gmw (C := fun v => frac_Den _ (by assumption) _) ?_
  refine gmw (C := fun v => frac_over b.den H d2 k1 k0 _) ?_
  refine gmw (C := fun v => nat_Mul _ _ (by assumption) (by assumption) _) ?_
  refine gmw (C := fun v => frac_pack _ _ (by assumption) _) ?_
  refine geC hL ?_
  clear hB hG hL L
  rintro u ⟨-, hB, hG, -⟩
  refine gtT ?_
  clear hN K
  refine st hB hF hG 7 0 [_, _, _, _, _] ?_
  clear hB hG
  intro u hB hG
  refine rt Tryz.results122 ?_
  exact ⟨ret_nqV He2.out.1 He2.out.2, hG⟩
--! frac_Add = frac_Add _ _ _ SIDE (HT.grow hG)
theorem frac_Add (h : qs a + qs b + 1 ≤ BIG) (HT : Tab w) : Calls Tryz.prog 122 #[qV a, qV b] w fun e w' => e = .returned (qV (qadd a b)) ∧ Grow w w' := by
 have hB40 := BIG_le
 have h3 : bl a.den ≤ 1099511627776 := by have := qs_den a; omega
 have h4 : bl b.den ≤ 1099511627776 := by have := qs_den b; omega
 by_cases ha1 : a.den = 1
 ·by_cases hb1 : b.den = 1
  ·exact frac_Add_ww a b w h ha1 hb1
  ·exact frac_Add_nn a b w HT h true false (isWhole_t a h3 ha1) (isWhole_f b h4 hb1) rfl
 ·by_cases hb1 : b.den = 1
  ·exact frac_Add_nn a b w HT h false true (isWhole_f a h3 ha1) (isWhole_t b h4 hb1) rfl
  ·exact frac_Add_nn a b w HT h false false (isWhole_f a h3 ha1) (isWhole_f b h4 hb1) rfl
theorem qs_qneg : qs (qneg a) = qs a := qs_neg a
theorem qsub_eq : qadd a (qneg b) = qsub a b := (Rat.sub_eq_add_neg a b).symm
set_option maxHeartbeats 400000 in
set_option maxRecDepth 100000 in
--! frac_Sub = frac_Sub _ _ _ SIDE (HT.grow hG)
theorem frac_Sub (h : qs a + qs b + 1 ≤ BIG) (HT : Tab w) : Calls Tryz.prog 112 #[qV a, qV b] w fun e w' => e = .returned (qV (qsub a b)) ∧ Grow w w' := by
 have hB40 := BIG_le
 have h2 : bl b.num.natAbs ≤ 1099511627776 := by have := qs_num b; omega
 have h3 : qs a + qs (qneg b) + 1 ≤ BIG := by rw [qs_qneg]; exact h
 go_enter Tryz.func112, Tryz.ntmps112
 refine en3 ?_
 intro u hG b4 b3 b2 hB hF
 refine wp_seq (rdC allocs [] [(0, 0), (0, 1), (1, 2), (1, 3)] hB hG fun K L hN hL => ?_)
 refine gs ?_
 refine gmw (C := fun v => frac_Neg _ (by assumption) _) ?_
 refine gmd (C := fun v ⟨hgu, hB, hG, _⟩ => frac_Add _ _ _ (by assumption) (HT.grow hG)) ?_
 refine geC hL ?_
 clear hB hG hL L
 rintro u ⟨-, hB, hG, -⟩
 refine gtT ?_
 clear hN K
 refine st hB hF hG 2 0 [_, _, _, _, _] ?_
 clear hB hG
 intro u hB hG
 refine rt Tryz.results112 ?_
 exact ⟨ret_qV (qsub_eq a b), hG⟩
set_option maxHeartbeats 1000000 in
set_option maxRecDepth 100000 in
theorem frac_Mul_ww (h : qs a + qs b ≤ BIG) (ha1 : a.den = 1) (hb1 : b.den = 1) : Calls Tryz.prog 113 #[qV a, qV b] w fun e w' => e = .returned (qV (qmul a b)) ∧ Grow w w' := by
 have hB40 := BIG_le
 have h1 : bl a.num.natAbs + bl b.num.natAbs ≤ 1099511627776 := by have := qs_num a; have := qs_num b; omega
 have h3 : bl a.den ≤ 1099511627776 := by have := qs_den a; omega
 have h4 : bl b.den ≤ 1099511627776 := by have := qs_den b; omega
 have e : qmul a b = ((a.num * b.num : Int) : Rat) := by
  unfold qmul
  rw [Rat.intCast_mul, ← whole_is a ha1, ← whole_is b hb1]
 have e1 : (qmul a b).num = zmul a.num b.num := by rw [e, Rat.num_intCast]; rfl
 have e2 : (qmul a b).den = 1 := by rw [e, Rat.den_intCast]
 have He := Lib.hid (And.intro e1 e2)
 have Ha1 := Lib.hid ha1
 have Hb1 := Lib.hid hb1
 clear e e1 e2 ha1 hb1
 go_enter Tryz.func113, Tryz.ntmps113
 refine en3 ?_
 intro u hG b4 b3 b2 hB hF
 refine wp_seq ?_
 refine wp_seq (rsE allocs [0, 1, 0, 0, 1, 0] hB hG fun L hL => ?_)
 refine gs ?_
 refine gmw (C := fun v => isWhole_t a h3 Ha1.out _) ?_
 refine gs ?_
 first | refine gmw (C := fun v => isWhole_t b h4 Hb1.out _) ?_ | refine gmna ?_
 refine gs ?_
 refine geT hL ?_
 clear hB hG hL L
 rintro u ⟨-, hB, hG, -⟩
 refine wp_cond_true (rfl) ?_
 refine wp_seq (rsC allocs [0, 0, 0, 0, 1, 0] hB hG fun K L hN hL => ?_)
 refine gs ?_
 refine gmw (C := fun v => whole_Mul _ _ (by assumption) _) ?_
 refine gs ?_
 refine geC hL ?_
 clear hB hG hL L
 rintro u ⟨-, hB, hG, -⟩
 refine gtT ?_
 clear hN K
 refine st hB hF hG 2 0 [_, _, _, _, _] ?_
 clear hB hG
 intro u hB hG
 refine rt Tryz.results113 ?_
 exact ⟨ret_nqV He.out.1 He.out.2, hG⟩
set_option maxHeartbeats 4000000 in
set_option maxRecDepth 100000 in
theorem frac_Mul_nn (HT : Tab w) (h : qs a + qs b ≤ BIG) (x y : Bool) (hx : ∀ W, Calls Tryz.prog 83 #[qV a] W fun e w' => e = .returned (.bool x) ∧ Grow W w') (hy : ∀ W, Calls Tryz.prog 83 #[qV b] W fun e w' => e = .returned (.bool y) ∧ Grow W w') (hxy : (x && y) = false) :
  Calls Tryz.prog 113 #[qV a, qV b] w fun e w' => e = .returned (qV (qmul a b)) ∧ Grow w w' := by
 have hB40 := BIG_le
 have s1 := qs_num a
 have s2 := qs_den a
 have s3 := qs_num b
 have s4 := qs_den b
 have n1 : bl a.num.natAbs ≤ BIG := by omega
 have n2 : bl b.num.natAbs ≤ BIG := by omega
 have d1 : bl a.den ≤ BIG := by omega
 have d2 : bl b.den ≤ BIG := by omega
 have d1' := fits_most d1
 have d2' := fits_most d2
 have He := Lib.hid (And.intro (num_mul_ a b) (den_mul_ a b))
 obtain ⟨G, hG0⟩ : ∃ G, G = Nat.gcd a.num.natAbs b.den := ⟨_, rfl⟩
 obtain ⟨H, hH0⟩ : ∃ H, H = Nat.gcd b.num.natAbs a.den := ⟨_, rfl⟩
 have g0 : G ≠ 0 := fun e => b.den_nz (Nat.eq_zero_of_gcd_eq_zero_right (hG0 ▸ e))
 have k0 : H ≠ 0 := fun e => a.den_nz (Nat.eq_zero_of_gcd_eq_zero_right (hH0 ▸ e))
 have g1 : bl G ≤ BIG := by rw [hG0]; exact Nat.le_trans (bl_gcd_le' _ _ b.den_nz) d2
 have k1 : bl H ≤ BIG := by rw [hH0]; exact Nat.le_trans (bl_gcd_le' _ _ a.den_nz) d1
 have hgc : ∀ W, Tab W → Calls Tryz.prog 149 #[intV a.num, intV (sgn false b.den)] W fun e w' => e = .returned (natV G) ∧ Grow W w' := fun W ht => hG0 ▸ gcd_nd a.num b.den n1 d2 W ht
 have hgu : ∀ W, Tab W → Calls Tryz.prog 149 #[intV b.num, intV (sgn false a.den)] W fun e w' => e = .returned (natV H) ∧ Grow W w' := fun W ht => hH0 ▸ gcd_nd b.num a.den n2 d1 W ht
 have e1 : (qmul a b).num = zmul (ztd a.num G) (ztd b.num H) := by rw [hG0, hH0]; exact He.out.1
 have e2 : (qmul a b).den = a.den / H * (b.den / G) := by rw [hG0, hH0]; exact He.out.2
 have He2 := Lib.hid (And.intro e1 e2)
 have f1 : bl (a.den / H) ≤ 1099511627776 := Nat.le_trans (bl_div_le _ _) d1'
 have f2 : bl (b.den / G) ≤ 1099511627776 := Nat.le_trans (bl_div_le _ _) d2'
 have f3 : bl (a.den / H * (b.den / G)) ≤ 1099511627776 := by
  have s1 := bl_mul_le (a.den / H) (b.den / G)
  have s2 := bl_div_le a.den H
  have s3 := bl_div_le b.den G
  omega
 have f4 : bl (ztd a.num G).natAbs + bl (ztd b.num H).natAbs ≤ 1099511627776 := by
  have s1 := bl_mono (natAbs_tdiv_le a.num G)
  have s2 := bl_mono (natAbs_tdiv_le b.num H)
  unfold ztd
  omega
 have Hx := Lib.hid hx
 have Hy := Lib.hid hy
 have Hgc := Lib.hid hgc
 have Hgu := Lib.hid hgu
 clear hx hy hgc hgu e1 e2 He hG0 hH0
 cases x <;> cases y <;> first | (exact absurd hxy (by decide)) | skip
 all_goals clear hxy
 all_goals
  go_enter Tryz.func113, Tryz.ntmps113
  refine en3 ?_
  intro u hG b4 b3 b2 hB hF
  refine wp_seq ?_
  refine wp_seq (rsE allocs [0, 1, 0, 0, 1, 0] hB hG fun L hL => ?_)
  refine gs ?_
  refine gmw (C := fun v => Hx.out _) ?_
  refine gs ?_
  first | refine gmw (C := fun v => Hy.out _) ?_ | refine gmna ?_
  refine gs ?_
  refine geT hL ?_
  clear hB hG hL L
  rintro u ⟨-, hB, hG, -⟩
  refine wp_cond_false (rfl) ?_
  refine wp_skip ?_
  refine then_norm ?_
  refine wp_seq (rdC allocs [] [(0, 0), (0, 1), (0, 2), (1, 3), (1, 4), (1, 5), (2, 6)] hB hG fun K L hN hL => ?_)
  refine gs ?_
  refine gmw (C := fun v => frac_Den _ (by assumption) _) ?_
  refine gmw (C := fun v => whole_From _ _ (by assumption) _) ?_
  refine gmd (C := fun v ⟨hgu, hB, hG, _⟩ => Hgc.out _ (HT.grow hG)) ?_
  refine gaa (newObj_Nat _ _ _ _ _) fun b5 hb5 hn5 => ?_
  replace hF := hF.n1 [] hB hG hb5 hn5
  refine geC hL ?_
  clear hB hG hL L
  rintro u ⟨⟨-, hB, hG, -⟩, h5⟩
  replace hB := hB.cons' h5
  clear h5
  clear hb5 hn5
  refine gtT ?_
  clear hN K
  refine st hB hF hG 0 0 [_, _] ?_
  clear hB hG
  intro u hB hG
  refine wp_seq (rdC allocs [] [(0, 0), (0, 1), (0, 2), (1, 3), (1, 4), (1, 5), (2, 6)] hB hG fun K L hN hL => ?_)
  refine gs ?_
  refine gmw (C := fun v => frac_Den _ (by assumption) _) ?_
  refine gmw (C := fun v => whole_From _ _ (by assumption) _) ?_
  refine gmd (C := fun v ⟨hgu, hB, hG, _⟩ => Hgu.out _ (HT.grow hG)) ?_
  refine gaa (newObj_Nat _ _ _ _ _) fun b6 hb6 hn6 => ?_
  replace hF := hF.n1 [] hB hG hb6 hn6
  refine geC hL ?_
  clear hB hG hL L
  rintro u ⟨⟨-, hB, hG, -⟩, h6⟩
  replace hB := hB.cons' h6
  clear h6
  clear hb6 hn6
  refine gtT ?_
  clear hN K
  refine st hB hF hG 0 0 [_, _] ?_
  clear hB hG
  intro u hB hG
  refine wp_seq (rdC allocs [] [(0, 0), (0, 1), (0, 2), (0, 4), (0, 5), (0, 6), (0, 9), (0, 11), (0, 13), (0, 15), (1, 3), (1, 7), (1, 8), (1, 10), (1, 12), (1, 14), (1, 16), (1, 17), (1, 18)] hB hG fun K L hN hL => ?_)
  refine gs ?_
  refine gmw (C := fun v => frac_part a.num G n1 g1 g0 _) ?_
  refine gmw (C := fun v => frac_part b.num H n2 k1 k0 _) ?_
  refine gmw (C := fun v => whole_Mul _ _ (by assumption) _) ?_
  refine gmw (C := fun v => frac_Den _ (by assumption) _) ?_
  refine gmw (C := fun v => frac_over a.den H d1 k1 k0 _) ?_
  refine gmw (C := fun v => frac_Den _ (by assumption) _) ?_
  refine gmw (C := fun v => frac_over b.den G d2 g1 g0 _) ?_
  refine gmw (C := fun v => nat_Mul _ _ (by assumption) (by assumption) _) ?_
  refine gmw (C := fun v => frac_pack _ _ (by assumption) _) ?_
  refine geC hL ?_
  clear hB hG hL L
  rintro u ⟨-, hB, hG, -⟩
  refine gtT ?_
  clear hN K
  refine st hB hF hG 4 0 [_, _, _, _, _] ?_
  clear hB hG
  intro u hB hG
  refine rt Tryz.results113 ?_
  exact ⟨ret_nqV He2.out.1 He2.out.2, hG⟩
--! frac_Mul = frac_Mul _ _ _ SIDE (HT.grow hG)
theorem frac_Mul (h : qs a + qs b ≤ BIG) (HT : Tab w) : Calls Tryz.prog 113 #[qV a, qV b] w fun e w' => e = .returned (qV (qmul a b)) ∧ Grow w w' := by
 have hB40 := BIG_le
 have h3 : bl a.den ≤ 1099511627776 := by have := qs_den a; omega
 have h4 : bl b.den ≤ 1099511627776 := by have := qs_den b; omega
 by_cases ha1 : a.den = 1
 ·by_cases hb1 : b.den = 1
  ·exact frac_Mul_ww a b w h ha1 hb1
  ·exact frac_Mul_nn a b w HT h true false (isWhole_t a h3 ha1) (isWhole_f b h4 hb1) rfl
 ·by_cases hb1 : b.den = 1
  ·exact frac_Mul_nn a b w HT h false true (isWhole_f a h3 ha1) (isWhole_t b h4 hb1) rfl
  ·exact frac_Mul_nn a b w HT h false false (isWhole_f a h3 ha1) (isWhole_f b h4 hb1) rfl
theorem inv_num (h : b ≠ 0) : b⁻¹.num = sgn (intNeg b.num) b.den := by
 rw [Rat.num_inv]
 have h0 : b.num ≠ 0 := fun e => h (Rat.num_eq_zero.1 e)
 unfold sgn intNeg
 by_cases hn : b.num < 0
 ·rw [if_pos (decide_eq_true hn), Int.sign_eq_neg_one_of_neg hn]; omega
 ·rw [if_neg (by simpa using hn), Int.sign_eq_one_of_pos (by omega)]; omega
theorem inv_den (h : b ≠ 0) : b⁻¹.den = b.num.natAbs := by
 rw [Rat.den_inv, if_neg (fun e => h (Rat.num_eq_zero.1 e))]
def qinv (b : Rat) : Rat := b⁻¹
theorem pack_inv (h : b ≠ 0) (hb : bl b.num.natAbs ≤ 1099511627776) : Calls Tryz.prog 141 #[intV (sgn (decide (b.num < 0)) b.den), natV b.num.natAbs] w fun e w' => e = .returned (qV (qinv b)) ∧ Grow w w' := by
 have := frac_pack (sgn (intNeg b.num) b.den) b.num.natAbs hb w
 rw [nqV_eq (q := b⁻¹) (inv_num b h) (inv_den b h)] at this
 exact this
set_option maxHeartbeats 1000000 in
set_option maxRecDepth 100000 in
theorem frac_Div_zero (h : bl b.num.natAbs ≤ 1099511627776) (h0 : b = 0) : Calls Tryz.prog 95 #[qV a, qV b] w fun e w' => e = .returned (.tuple #[qV (qdiv a b), .bool (nzq b)]) ∧ Grow w w' := by
 have hs : (b.num.sign == 0) = true := by rw [h0]; rfl
 have h1 : qdiv a b = 0 := by rw [h0]; unfold qdiv; rw [Rat.div_def, Rat.inv_zero, Rat.mul_zero]
 have h2 : nzq b = false := by rw [h0]; rfl
 rw [h1, h2]
 have Hh := Lib.hid h0
 clear h0 h1 h2
 go_enter Tryz.func95, Tryz.ntmps95
 refine en3 ?_
 intro u hG b4 b3 b2 hB hF
 refine wp_seq ?_
 refine wp_seq (rsE allocs [0, 1, 0] hB hG fun L hL => ?_)
 refine gs ?_
 refine gmw (C := fun v => frac_Sign _ (by assumption) _) ?_
 refine gs ?_
 refine geT hL ?_
 clear hB hG hL L
 rintro u ⟨-, hB, hG, -⟩
 refine wp_cond_true (rfl) ?_
 refine r0T ?_
 refine st hB hF hG 2 0 [_, _, _, _, _] ?_
 clear hB hG
 intro u hB hG
 refine rt Tryz.results95 ?_
 exact ⟨rfl, hG⟩
set_option maxHeartbeats 1000000 in
set_option maxRecDepth 100000 in
theorem frac_Div_nz (h : qs a + qs b ≤ BIG) (h0 : b ≠ 0) (HT : Tab w) : Calls Tryz.prog 95 #[qV a, qV b] w fun e w' => e = .returned (.tuple #[qV (qdiv a b), .bool (nzq b)]) ∧ Grow w w' := by
 have hB40 := BIG_le
 have n2 : bl b.num.natAbs ≤ 1099511627776 := by have := qs_num b; omega
 have d2 : bl b.den ≤ 1099511627776 := by have := qs_den b; omega
 have hb0 : b.num ≠ 0 := fun e => h0 (Rat.num_eq_zero.1 e)
 have hs : (b.num.sign == 0) = false := by simpa using hb0
 have h2 : nzq b = true := decide_eq_true h0
 have hi : qs a + qs (qinv b) ≤ BIG := by unfold qinv; rw [qs_inv b h0]; exact h
 have hd : qmul a (qinv b) = qdiv a b := (Rat.div_def a b).symm
 have Hd := Lib.hid hd
 rw [h2]
 clear h2 hd
 go_enter Tryz.func95, Tryz.ntmps95
 refine en3 ?_
 intro u hG b4 b3 b2 hB hF
 refine wp_seq ?_
 refine wp_seq (rsE allocs [0, 1, 0] hB hG fun L hL => ?_)
 refine gs ?_
 refine gmw (C := fun v => frac_Sign _ (by assumption) _) ?_
 refine gs ?_
 refine geT hL ?_
 clear hB hG hL L
 rintro u ⟨-, hB, hG, -⟩
 refine wp_cond_false (rfl) ?_
 refine wp_skip ?_
 refine then_norm ?_
 refine wp_seq (rdC allocs [] [(0, 0), (0, 1), (0, 4), (0, 7), (0, 8), (1, 2), (0, 3), (1, 5), (1, 6), (1, 9), (1, 10), (1, 11)] hB hG fun K L hN hL => ?_)
 refine gs ?_
 refine gmw (C := fun v => frac_Sign _ (by assumption) _) ?_
 refine gs ?_
 refine gmw (C := fun v => frac_Den _ (by assumption) _) ?_
 refine gmw (C := fun v => whole_From _ _ (by assumption) _) ?_
 refine gmw (C := fun v => whole_Abs _ _) ?_
 refine gmw (C := fun v => pack_inv b _ h0 n2) ?_
 refine gmd (C := fun v ⟨hgu, hB, hG, _⟩ => frac_Mul _ _ _ (by assumption) (HT.grow hG)) ?_
 refine geC hL ?_
 clear hB hG hL L
 rintro u ⟨-, hB, hG, -⟩
 refine gtT ?_
 clear hN K
 refine st hB hF hG 2 0 [_, _, _, _, _] ?_
 clear hB hG
 intro u hB hG
 refine rt Tryz.results95 ?_
 exact ⟨ret_qb (Hd.out) rfl, hG⟩
--! frac_Div = frac_Div _ _ _ SIDE (HT.grow hG)
theorem frac_Div (h : qs a + qs b ≤ BIG) (HT : Tab w) : Calls Tryz.prog 95 #[qV a, qV b] w fun e w' => e = .returned (.tuple #[qV (qdiv a b), .bool (nzq b)]) ∧ Grow w w' := by
 by_cases h0 : b = 0
 ·exact frac_Div_zero a b w (by have := qs_num b; have := BIG_le; omega) h0
 ·exact frac_Div_nz a b w h h0 HT
end
end Go.Proofs.YtjmopgepnndckaaGreatDoor
