/-
  Contracts and laws: FracM FracA.
-/
import Derived.Test.YtjmopgepnndckaaGreatDoorO20
set_option linter.unusedSimpArgs false
set_option linter.unusedVariables false
namespace Go.Proofs.YtjmopgepnndckaaGreatDoor
/-- a fraction kept as numerator and denominator -/
abbrev nqV (n : Int) (d : Nat) : Value := .agg #[.bool (intNeg n), .int .u64 (natLo n.natAbs), .string (natMo n.natAbs), .int .u64 (natLo (keptDen d)), .string (natMo (keptDen d))]
theorem keptDen_one : keptDen 1 = 0 := rfl
theorem keptDen_ne {d : Nat} (h : d ≠ 1) : keptDen d = d := if_neg h
theorem nqV_eq {n : Int} {d : Nat} {q : Rat} (h1 : q.num = n) (h2 : q.den = d) : nqV n d = qV q := by subst h1; subst h2; rfl
theorem sgn_div (n : Int) (b : Nat) : sgn (intNeg n) (n.natAbs / b) = n.tdiv b := by
 unfold sgn intNeg
 by_cases h : n < 0
 ·rw [if_pos (decide_eq_true h)]
  obtain ⟨m, rfl⟩ : ∃ m : Nat, n = -(m : Int) := ⟨n.natAbs, by omega⟩
  rw [Int.neg_tdiv, Int.natAbs_neg, Int.natAbs_natCast, Int.ofNat_tdiv]
 ·rw [if_neg (by simpa using h)]
  obtain ⟨m, rfl⟩ : ∃ m : Nat, n = (m : Int) := ⟨n.natAbs, by omega⟩
  rw [Int.natAbs_natCast, Int.ofNat_tdiv]
theorem num_mul_ (a b : Rat) : (a * b).num = a.num.tdiv (Nat.gcd a.num.natAbs b.den) * b.num.tdiv (Nat.gcd b.num.natAbs a.den) := by
 show (Rat.mul a b).num = _
 unfold Rat.mul
 simp only [Int.divExact_eq_tdiv]
theorem den_mul_ (a b : Rat) : (a * b).den = a.den / Nat.gcd b.num.natAbs a.den * (b.den / Nat.gcd a.num.natAbs b.den) := by
 show (Rat.mul a b).den = _
 unfold Rat.mul
 simp only [Nat.divExact_eq_div]
/-- the sum's two parts, as the program makes them -/
def upOf (a b : Rat) : Int := a.num * ((b.den / Nat.gcd a.den b.den : Nat) : Int) + b.num * ((a.den / Nat.gcd a.den b.den : Nat) : Int)
def hOf (a b : Rat) : Nat := Nat.gcd (upOf a b).natAbs (Nat.gcd a.den b.den)
theorem add_norm (a b : Rat) (h : a.den / Nat.gcd a.den b.den * b.den ≠ 0) : a + b = Rat.normalize (upOf a b) (a.den / Nat.gcd a.den b.den * b.den) h := by
 rw [Rat.add_def]
 have hg : Nat.gcd a.den b.den ≠ 0 := fun h0 => a.den_nz (Nat.eq_zero_of_gcd_eq_zero_left h0)
 obtain ⟨x, hx⟩ := Nat.gcd_dvd_left a.den b.den
 obtain ⟨y, hy⟩ := Nat.gcd_dvd_right a.den b.den
 have hxd : a.den / Nat.gcd a.den b.den = x := Nat.div_eq_of_eq_mul_right (Nat.pos_of_ne_zero hg) hx
 have hyd : b.den / Nat.gcd a.den b.den = y := Nat.div_eq_of_eq_mul_right (Nat.pos_of_ne_zero hg) hy
 rw [← Rat.normalize_mul_right (a := Nat.gcd a.den b.den) h hg]
 congr 1
 ·unfold upOf
  rw [hxd, hyd]
  generalize Nat.gcd a.den b.den = g at *
  rw [hx, hy]
  push_cast
  grind
 ·rw [hxd]
  generalize Nat.gcd a.den b.den = g at *
  rw [hx]
  grind
theorem h_aux (a b : Rat) : hOf a b = Nat.gcd (upOf a b).natAbs (a.den / Nat.gcd a.den b.den * b.den) := Rat.add.aux a b rfl rfl rfl
theorem down_ne (a b : Rat) : a.den / Nat.gcd a.den b.den * b.den ≠ 0 := by
 have h1 := Nat.div_gcd_pos_of_pos_left b.den a.den_pos
 have h2 := b.den_pos
 exact Nat.ne_of_gt (Nat.mul_pos h1 h2)
theorem num_add_ (a b : Rat) : (a + b).num = (upOf a b).tdiv (hOf a b) := by
 rw [add_norm a b (down_ne a b), Rat.num_normalize, ← h_aux]
 refine (Int.tdiv_eq_ediv_of_dvd ?_).symm
 exact Int.ofNat_dvd_left.2 (Nat.gcd_dvd_left _ _)
theorem den_add_ (a b : Rat) : (a + b).den = a.den / Nat.gcd a.den b.den * (b.den / hOf a b) := by
 rw [add_norm a b (down_ne a b), Rat.den_normalize, ← h_aux]
 exact Nat.mul_div_assoc _ (Nat.dvd_trans (Nat.gcd_dvd_right _ _) (Nat.gcd_dvd_right _ _))
theorem num_low (n : Int) (d : Nat) (h : d ≠ 0) : (mkRat n d).num = n.tdiv (Nat.gcd n.natAbs d) := by
 rw [← Rat.normalize_eq_mkRat h, Rat.num_normalize]
 exact (Int.tdiv_eq_ediv_of_dvd (Int.ofNat_dvd_left.2 (Nat.gcd_dvd_left _ _))).symm
theorem den_low (n : Int) (d : Nat) (h : d ≠ 0) : (mkRat n d).den = d / Nat.gcd n.natAbs d := by
 rw [← Rat.normalize_eq_mkRat h, Rat.den_normalize]
def cmpQ (a b : Rat) : Int := if a < b then -1 else if b < a then 1 else 0
theorem cmpQ_cross (a b : Rat) : cmpQ a b = cmpZ (a.num * b.den) (b.num * a.den) := by
 unfold cmpQ cmpZ
 simp only [Rat.lt_iff]
theorem cmpQ_whole {a b : Rat} (ha : a.den = 1) (hb : b.den = 1) : cmpQ a b = cmpZ a.num b.num := by
 rw [cmpQ_cross, ha, hb]; simp
theorem cmpQ_sign {a b : Rat} (h : a.num.sign ≠ b.num.sign) : cmpQ a b = cmpZ a.num b.num := by
 rw [cmpQ_cross]
 have h1 := a.den_pos
 have h2 := b.den_pos
 generalize a.num = x at *
 generalize b.num = y at *
 generalize a.den = p at *
 generalize b.den = q at *
 have hx : (x * (q : Int)).sign = x.sign := by rw [Int.sign_mul, Int.sign_eq_one_of_pos (a := (q : Int)) (by omega), Int.mul_one]
 have hy : (y * (p : Int)).sign = y.sign := by rw [Int.sign_mul, Int.sign_eq_one_of_pos (a := (p : Int)) (by omega), Int.mul_one]
 rw [← hx, ← hy] at h
 have key : ∀ u v : Int, u.sign ≠ v.sign → cmpZ u v = cmpZ u.sign v.sign := by
  intro u v huv
  unfold cmpZ
  rcases Int.lt_trichotomy u 0 with hu | hu | hu <;> rcases Int.lt_trichotomy v 0 with hv | hv | hv <;>
   (first | (rw [Int.sign_eq_neg_one_of_neg hu] at huv ⊢) | (rw [hu, Int.sign_zero] at huv ⊢) | (rw [Int.sign_eq_one_of_pos hu] at huv ⊢)) <;>
   (first | (rw [Int.sign_eq_neg_one_of_neg hv] at huv ⊢) | (rw [hv, Int.sign_zero] at huv ⊢) | (rw [Int.sign_eq_one_of_pos hv] at huv ⊢)) <;>
   first | (exact absurd rfl huv) | (split <;> (try split) <;> simp <;> omega)
 rw [key _ _ h, hx, hy]
 rw [hx, hy] at h
 exact (key _ _ h).symm
/-- a fraction's size in bits -/
def qs (q : Rat) : Nat := max (bl q.num.natAbs) (bl q.den)
theorem qs_num (q : Rat) : bl q.num.natAbs ≤ qs q := Nat.le_max_left _ _
theorem qs_den (q : Rat) : bl q.den ≤ qs q := Nat.le_max_right _ _
theorem natAbs_tdiv_le (n : Int) (g : Nat) : (n.tdiv g).natAbs ≤ n.natAbs := by
 rw [Int.natAbs_tdiv]; exact Nat.div_le_self _ _
theorem qs_mul (a b : Rat) : qs (a * b) ≤ qs a + qs b := by
 refine Nat.max_le.2 ⟨?_, ?_⟩
 ·rw [num_mul_, Int.natAbs_mul]
  refine Nat.le_trans (bl_mul_le _ _) ?_
  have h1 := bl_mono (natAbs_tdiv_le a.num (Nat.gcd a.num.natAbs b.den))
  have h2 := bl_mono (natAbs_tdiv_le b.num (Nat.gcd b.num.natAbs a.den))
  have := qs_num a
  have := qs_num b
  omega
 ·rw [den_mul_]
  refine Nat.le_trans (bl_mul_le _ _) ?_
  have h1 := bl_div_le a.den (Nat.gcd b.num.natAbs a.den)
  have h2 := bl_div_le b.den (Nat.gcd a.num.natAbs b.den)
  have := qs_den a
  have := qs_den b
  omega
theorem bl_up (a b : Rat) : bl (upOf a b).natAbs ≤ qs a + qs b + 1 := by
 unfold upOf
 have h1 := bl_mul_le a.num.natAbs (b.den / Nat.gcd a.den b.den)
 have h2 := bl_mul_le b.num.natAbs (a.den / Nat.gcd a.den b.den)
 have h3 := bl_div_le b.den (Nat.gcd a.den b.den)
 have h4 := bl_div_le a.den (Nat.gcd a.den b.den)
 have := qs_num a
 have := qs_den a
 have := qs_num b
 have := qs_den b
 refine Nat.le_trans (bl_mono (Int.natAbs_add_le _ _)) ?_
 rw [Int.natAbs_mul, Int.natAbs_mul, Int.natAbs_natCast, Int.natAbs_natCast]
 refine Nat.le_trans (bl_add_le _ _) ?_
 omega
theorem qs_add (a b : Rat) : qs (a + b) ≤ qs a + qs b + 1 := by
 refine Nat.max_le.2 ⟨?_, ?_⟩
 ·rw [num_add_]
  exact Nat.le_trans (bl_mono (natAbs_tdiv_le _ _)) (bl_up a b)
 ·rw [den_add_]
  refine Nat.le_trans (bl_mul_le _ _) ?_
  have h1 := bl_div_le a.den (Nat.gcd a.den b.den)
  have h2 := bl_div_le b.den (hOf a b)
  have := qs_den a
  have := qs_den b
  omega
theorem qs_neg (a : Rat) : qs (-a) = qs a := by
 unfold qs; rw [Rat.neg_num, Rat.neg_den, Int.natAbs_neg]
theorem qs_sub (a b : Rat) : qs (a - b) ≤ qs a + qs b + 1 := by
 rw [Rat.sub_eq_add_neg]
 have := qs_add a (-b)
 rw [qs_neg] at this
 exact this
theorem qs_inv (a : Rat) (h : a ≠ 0) : qs a⁻¹ = qs a := by
 have h0 : a.num ≠ 0 := fun e => h (Rat.num_eq_zero.1 e)
 unfold qs
 rw [Rat.num_inv, Rat.den_inv, if_neg h0, Int.natAbs_mul, Int.natAbs_natCast, Int.natAbs_sign_of_ne_zero h0, Nat.one_mul, Nat.max_comm]
theorem qs_pos (a : Rat) : 1 ≤ qs a := by
 have : 0 < bl a.den := bl_pos.2 a.den_nz
 have := qs_den a
 omega
theorem qs_int (n : Int) (k : Nat) (h : n.natAbs < 2 ^ k) (hk : 1 ≤ k) : qs (n : Rat) ≤ k := by
 refine Nat.max_le.2 ⟨?_, ?_⟩
 ·rw [Rat.num_intCast]; exact bl_le.2 h
 ·rw [Rat.den_intCast]; exact Nat.le_trans (by decide) hk
end Go.Proofs.YtjmopgepnndckaaGreatDoor
namespace Go.Proofs.YtjmopgepnndckaaGreatDoor
open Go.RowKit
theorem ret_qV {p q : Rat} (h : p = q) : Ending.returned (qV p) = .returned (qV q) := by rw [h]
theorem ret_nqV {n : Int} {d : Nat} {q : Rat} (h1 : q.num = n) (h2 : q.den = d) : Ending.returned (nqV n d) = .returned (qV q) := by rw [nqV_eq h1 h2]
theorem ret_natV {a b : Nat} (h : a = b) : Ending.returned (natV a) = .returned (natV b) := by rw [h]
theorem kept_big {d : Nat} (h : bl d ≤ 1099511627776) : bl (keptDen d) ≤ 1099511627776 := by
 unfold keptDen; split
 ·rw [bl_zero]; omega
 ·exact h
--! frac_isWhole = frac_isWhole _ SIDE _
set_option maxHeartbeats 400000 in
set_option maxRecDepth 100000 in
theorem frac_isWhole (q : Rat) (h : bl q.den ≤ 1099511627776) (w : World) : Calls Tryz.prog 83 #[qV q] w fun e w' => e = .returned (.bool (decide (q.den = 1))) ∧ Grow w w' := by
 have hk := kept_big h
 have hd : decide (q.den = 1) = ((bl (keptDen q.den) : Int) == 0) := by
  have h2 := q.den_pos
  by_cases h1 : q.den = 1
  ·rw [h1, keptDen_one, bl_zero]; rfl
  ·rw [keptDen_ne h1, decide_eq_false h1]
   have : bl q.den ≠ 0 := fun e => by have := bl_eq_zero.1 e; omega
   symm
   simpa using this
 rw [hd]
 clear hd
 go_enter Tryz.func83, Tryz.ntmps83
 refine en1 ?_
 intro u hG b1 hB hF
 refine wp_seq (rsE allocs [0, 0, 1, 0, 0] hB hG fun L hL => ?_)
 refine gs ?_
 refine gmw (C := fun v => nat_Bits _ (by assumption) _) ?_
 refine gs ?_
 refine geT hL ?_
 clear hB hG hL L
 rintro u ⟨-, hB, hG, -⟩
 refine rt Tryz.results83 ?_
 exact ⟨rfl, hG⟩
theorem nat_Of_1 (w : World) : Calls Tryz.prog 108 #[.int .u64 1] w fun e w' => e = .returned (natV 1) ∧ Grow w w' := nat_Of 1 (by unfold W64; omega) w
--! frac_Den = frac_Den _ SIDE _
set_option maxHeartbeats 400000 in
set_option maxRecDepth 100000 in
theorem frac_Den (q : Rat) (h : bl q.den ≤ 1099511627776) (w : World) : Calls Tryz.prog 86 #[qV q] w fun e w' => e = .returned (natV q.den) ∧ Grow w w' := by
 go_enter Tryz.func86, Tryz.ntmps86
 refine en2 ?_
 intro u hG b2 b1 hB hF
 refine wp_seq ?_
 refine wp_seq (rsE allocs [0, 1] hB hG fun L hL => ?_)
 refine gs ?_
 refine gmw (C := fun v => frac_isWhole _ (by assumption) _) ?_
 refine geT hL ?_
 clear hB hG hL L
 rintro u ⟨-, hB, hG, -⟩
 refine wp_cond_split rfl ?_ ?_
 ·intro ht
  have ht4 := ht
  refine wp_seq (rsC allocs [1] hB hG fun K L hN hL => ?_)
  refine gmw (C := fun v => nat_Of_1 _) ?_
  refine geC hL ?_
  clear hB hG hL L
  rintro u ⟨-, hB, hG, -⟩
  refine gtT ?_
  clear hN K
  refine st hB hF hG 1 0 [_, _] ?_
  clear hB hG
  intro u hB hG
  refine rt Tryz.results86 ?_
  have e : q.den = 1 := of_decide_eq_true ht
  exact ⟨ret_natV e.symm, hG⟩
 ·intro ht
  have ht4 := ht
  refine wp_skip ?_
  refine then_norm ?_
  refine r0T ?_
  refine st hB hF hG 1 0 [_, _] ?_
  clear hB hG
  intro u hB hG
  refine rt Tryz.results86 ?_
  have e : q.den ≠ 1 := of_decide_eq_false ht
  exact ⟨ret_natV (keptDen_ne e), hG⟩
--! frac_Num = frac_Num _ _
set_option maxHeartbeats 400000 in
theorem frac_Num (q : Rat) (w : World) : Calls Tryz.prog 99 #[qV q] w fun e w' => e = .returned (intV q.num) ∧ Grow w w' := by
 go_enter Tryz.func99, Tryz.ntmps99
 refine en2 ?_
 intro u hG b2 b1 hB hF
 refine r0T ?_
 refine st hB hF hG 1 0 [_, _, _] ?_
 clear hB hG
 intro u hB hG
 refine rt Tryz.results99 ?_
 exact ⟨rfl, hG⟩
--! frac_Sign = frac_Sign _ SIDE _
set_option maxHeartbeats 400000 in
set_option maxRecDepth 100000 in
theorem frac_Sign (q : Rat) (h : bl q.num.natAbs ≤ 1099511627776) (w : World) : Calls Tryz.prog 75 #[qV q] w fun e w' => e = .returned (.int .i64 q.num.sign) ∧ Grow w w' := by
 go_enter Tryz.func75, Tryz.ntmps75
 refine en1 ?_
 intro u hG b1 hB hF
 refine wp_seq (rsE allocs [0, 0, 1, 0] hB hG fun L hL => ?_)
 refine gs ?_
 refine gmw (C := fun v => whole_Sign _ (by assumption) _) ?_
 refine gs ?_
 refine geT hL ?_
 clear hB hG hL L
 rintro u ⟨-, hB, hG, -⟩
 refine rt Tryz.results75 ?_
 exact ⟨rfl, hG⟩
--! frac_pack = frac_pack _ _ SIDE _
set_option maxHeartbeats 400000 in
set_option maxRecDepth 100000 in
theorem frac_pack (n : Int) (d : Nat) (h : bl d ≤ 1099511627776) (w : World) : Calls Tryz.prog 141 #[intV n, natV d] w fun e w' => e = .returned (nqV n d) ∧ Grow w w' := by
 go_enter Tryz.func141, Tryz.ntmps141
 refine en3 ?_
 intro u hG b4 b3 b2 hB hF
 refine wp_seq ?_
 refine wp_seq (rsE allocs [0, 1, 0] hB hG fun L hL => ?_)
 refine gs ?_
 refine gmw (C := fun v => nat_Bits _ (by assumption) _) ?_
 refine gs ?_
 refine geT hL ?_
 clear hB hG hL L
 rintro u ⟨-, hB, hG, -⟩
 refine wp_cond_split rfl ?_ ?_
 ·intro ht
  have ht7 := ht
  refine r0T ?_
  refine st hB hF hG 2 0 [_, _, _, _, _] ?_
  clear hB hG
  intro u hB hG
  refine rt Tryz.results141 ?_
  have e : d = 1 := bl_eq_one.1 (by simp at ht; omega)
  subst e
  exact ⟨rfl, hG⟩
 ·intro ht
  have ht7 := ht
  refine wp_skip ?_
  refine then_norm ?_
  refine r0T ?_
  refine st hB hF hG 2 0 [_, _, _, _, _] ?_
  clear hB hG
  intro u hB hG
  refine rt Tryz.results141 ?_
  have e : d ≠ 1 := fun e => by
   have h2 := bl_eq_one.2 e
   rw [h2] at ht
   simp at ht
  exact ⟨by rw [nqV, keptDen_ne e], hG⟩
--! frac_over = frac_over _ _ SIDE SIDE SIDE _
set_option maxHeartbeats 400000 in
set_option maxRecDepth 100000 in
theorem frac_over (a b : Nat) (ha : bl a ≤ BIG) (hb : bl b ≤ BIG) (h0 : b ≠ 0) (w : World) : Calls Tryz.prog 151 #[natV a, natV b] w fun e w' => e = .returned (natV (a / b)) ∧ Grow w w' := by
 have hb' := fits_most hb
 go_enter Tryz.func151, Tryz.ntmps151
 refine en3 ?_
 intro u hG b4 b3 b2 hB hF
 refine wp_seq ?_
 refine wp_seq (rsE allocs [0, 1, 0] hB hG fun L hL => ?_)
 refine gs ?_
 refine gmw (C := fun v => nat_Bits _ (by assumption) _) ?_
 refine gs ?_
 refine geT hL ?_
 clear hB hG hL L
 rintro u ⟨-, hB, hG, -⟩
 refine wp_cond_split rfl ?_ ?_
 ·intro ht
  have ht10 := ht
  refine r0T ?_
  refine st hB hF hG 2 0 [_, _] ?_
  clear hB hG
  intro u hB hG
  refine rt Tryz.results151 ?_
  have e : b = 1 := bl_eq_one.1 (by simp at ht; omega)
  exact ⟨ret_natV (by rw [e, Nat.div_one]), hG⟩
 ·intro ht
  have ht10 := ht
  refine wp_skip ?_
  refine then_norm ?_
  refine wp_seq (rsC allocs [0, 0, 1, 0, 0, 0, 0, 2, 2] hB hG fun K L hN hL => ?_)
  refine gs ?_
  refine gmw (C := fun v => nat_Div _ _ (by assumption) (by assumption) (by assumption) _) ?_
  refine gs ?_
  refine gaa (newObj_Nat _ _ _ _ _) fun b5 hb5 hn5 => ?_
  refine gaa (newObj_Nat _ _ _ _ _) fun b6 hb6 hn6 => ?_
  replace hF := hF.n1 [] hB hG hb5 hn5
  replace hF := hF.n1 [b5] hB hG hb6 hn6
  refine geC hL ?_
  clear hB hG hL L
  rintro u ⟨⟨⟨-, hB, hG, -⟩, h5⟩, h6⟩
  replace hB := hB.cons' h5
  replace hB := hB.cons' h6
  clear h5 h6
  clear hb5 hn5 hb6 hn6
  have hD : b5 ≠ b6 ∧ b6 ≠ b5 := ⟨hF.ne 1 0 rfl rfl (by decide), hF.ne 0 1 rfl rfl (by decide)⟩
  refine gtT ?_
  clear hN K
  clear hD
  refine st2 hB hF hG 1 0 [_, _] 0 0 [_, _] ?_
  clear hB hG
  intro u hB hG
  refine r0T ?_
  refine st hB hF hG 4 0 [_, _] ?_
  clear hB hG
  intro u hB hG
  refine rt Tryz.results151 ?_
  exact ⟨rfl, hG⟩
--! frac_part = frac_part _ _ SIDE SIDE SIDE _
set_option maxHeartbeats 400000 in
set_option maxRecDepth 100000 in
theorem frac_part (n : Int) (b : Nat) (ha : bl n.natAbs ≤ BIG) (hb : bl b ≤ BIG) (h0 : b ≠ 0) (w : World) : Calls Tryz.prog 150 #[intV n, natV b] w fun e w' => e = .returned (intV (ztd n b)) ∧ Grow w w' := by
 have ha' := fits_most ha
 have hd : bl (n.natAbs / b) ≤ 1099511627776 := Nat.le_trans (bl_div_le _ _) ha'
 go_enter Tryz.func150, Tryz.ntmps150
 refine en3 ?_
 intro u hG b4 b3 b2 hB hF
 refine wp_seq (rdC allocs [] [(0, 0), (0, 3), (0, 5), (1, 1), (0, 2), (1, 4), (1, 6), (1, 7)] hB hG fun K L hN hL => ?_)
 refine gs ?_
 refine gmw (C := fun v => whole_Sign _ (by assumption) _) ?_
 refine gs ?_
 refine gmw (C := fun v => whole_Abs _ _) ?_
 refine gmw (C := fun v => frac_over _ _ (by assumption) (by assumption) (by assumption) _) ?_
 refine gmw (C := fun v => whole_From _ _ (by assumption) _) ?_
 refine geC hL ?_
 clear hB hG hL L
 rintro u ⟨-, hB, hG, -⟩
 refine gtT ?_
 clear hN K
 refine st hB hF hG 2 0 [_, _, _] ?_
 clear hB hG
 intro u hB hG
 refine rt Tryz.results150 ?_
 exact ⟨ret_intV (sgn_div n b), hG⟩
--! frac_times = frac_times _ _ SIDE _
set_option maxHeartbeats 400000 in
set_option maxRecDepth 100000 in
theorem frac_times (n : Int) (d : Nat) (h : bl n.natAbs + bl d ≤ 1099511627776) (w : World) : Calls Tryz.prog 85 #[intV n, natV d] w fun e w' => e = .returned (intV (ztm n d)) ∧ Grow w w' := by
 have hd : bl d ≤ 1099511627776 := by omega
 have h' : bl n.natAbs + bl (sgn false d).natAbs ≤ 1099511627776 := h
 go_enter Tryz.func85, Tryz.ntmps85
 refine en3 ?_
 intro u hG b4 b3 b2 hB hF
 refine wp_seq (rdC allocs [] [(0, 0), (0, 1), (1, 2), (1, 3)] hB hG fun K L hN hL => ?_)
 refine gs ?_
 refine gmw (C := fun v => whole_From _ _ (by assumption) _) ?_
 refine gmw (C := fun v => whole_Mul _ _ (by assumption) _) ?_
 refine geC hL ?_
 clear hB hG hL L
 rintro u ⟨-, hB, hG, -⟩
 refine gtT ?_
 clear hN K
 refine st hB hF hG 2 0 [_, _, _] ?_
 clear hB hG
 intro u hB hG
 refine rt Tryz.results85 ?_
 exact ⟨rfl, hG⟩
theorem gcd_nd (n : Int) (d : Nat) (hn : bl n.natAbs ≤ BIG) (hd : bl d ≤ BIG) (w : World) (HT : Tab w) : Calls Tryz.prog 149 #[intV n, intV (sgn false d)] w fun e w' => e = .returned (natV (Nat.gcd n.natAbs d)) ∧ Grow w w' := by
 have := whole_Gcd n (sgn false d) hn (by rw [sgn_abs]; exact hd) w HT
 rw [sgn_abs] at this
 exact this
theorem gcd_dd (c d : Nat) (hc : bl c ≤ BIG) (hd : bl d ≤ BIG) (w : World) (HT : Tab w) : Calls Tryz.prog 149 #[intV (sgn false c), intV (sgn false d)] w fun e w' => e = .returned (natV (Nat.gcd c d)) ∧ Grow w w' := by
 have := gcd_nd (sgn false c) d (by rw [sgn_abs]; exact hc) hd w HT
 rw [sgn_abs] at this
 exact this
--! frac_lowest = frac_lowest _ _ SIDE SIDE SIDE _ (HT.grow hG)
set_option maxHeartbeats 1000000 in
set_option maxRecDepth 100000 in
theorem frac_lowest (n : Int) (d : Nat) (hn : bl n.natAbs ≤ BIG) (hd : bl d ≤ BIG) (h0 : d ≠ 0) (w : World) (HT : Tab w) : Calls Tryz.prog 117 #[intV n, natV d] w fun e w' => e = .returned (qV (mkRat n d)) ∧ Grow w w' := by
 have hd' := fits_most hd
 have hg : bl (Nat.gcd n.natAbs d) ≤ BIG := Nat.le_trans (bl_gcd_le' _ _ h0) hd
 have hg0 : Nat.gcd n.natAbs d ≠ 0 := fun e => h0 (Nat.eq_zero_of_gcd_eq_zero_right e)
 have hdd : bl (d / Nat.gcd n.natAbs d) ≤ 1099511627776 := Nat.le_trans (bl_div_le _ _) hd'
 go_enter Tryz.func117, Tryz.ntmps117
 refine en3 ?_
 intro u hG b4 b3 b2 hB hF
 refine wp_seq (rdC allocs [] [(0, 0), (0, 1), (1, 2), (1, 3), (2, 4)] hB hG fun K L hN hL => ?_)
 refine gs ?_
 refine gmw (C := fun v => whole_From _ _ (by assumption) _) ?_
 refine gmd (C := fun v ⟨hgu, hB, hG, _⟩ => gcd_nd n d hn hd _ (HT.grow hG)) ?_
 refine gaa (newObj_Nat _ _ _ _ _) fun b5 hb5 hn5 => ?_
 replace hF := hF.n1 [] hB hG hb5 hn5
 refine geC hL ?_
 clear hB hG hL L
 rintro u ⟨⟨-, hB, hG, -⟩, h5⟩
 replace hB := hB.cons' h5
 clear h5
 clear hb5 hn5
 refine gtT ?_
 clear hN K
 refine st hB hF hG 0 0 [_, _] ?_
 clear hB hG
 intro u hB hG
 refine wp_seq (rdC allocs [] [(0, 0), (0, 1), (0, 3), (0, 4), (1, 2), (1, 5), (1, 6)] hB hG fun K L hN hL => ?_)
 refine gs ?_
 refine gmw (C := fun v => frac_part n (Nat.gcd n.natAbs d) hn hg hg0 _) ?_
 refine gmw (C := fun v => frac_over d (Nat.gcd n.natAbs d) hd hg hg0 _) ?_
 refine gmw (C := fun v => frac_pack _ _ (by assumption) _) ?_
 refine geC hL ?_
 clear hB hG hL L
 rintro u ⟨-, hB, hG, -⟩
 refine gtT ?_
 clear hN K
 refine st hB hF hG 3 0 [_, _, _, _, _] ?_
 clear hB hG
 intro u hB hG
 refine rt Tryz.results117 ?_
 exact ⟨ret_nqV (num_low n d h0) (den_low n d h0), hG⟩
end Go.Proofs.YtjmopgepnndckaaGreatDoor
