/-
  Contracts and laws: FracM.
-/
import Derived.Test.YtimjnkfcnpfoeaaGreatDoorV22
set_option linter.unusedSimpArgs false
set_option linter.unusedVariables false
namespace Go.Proofs.YtimjnkfcnpfoeaaGreatDoor
/-- a fraction kept as numerator and denominator -/
abbrev nqV (n : Int) (d : Nat) : Value := .agg #[.bool (intNeg n), .int .u64 (natLo n.natAbs), .string (natMo n.natAbs), .int .u64 (natLo (keptDen d)), .string (natMo (keptDen d))]
theorem keptDen_one : keptDen 1 = 0 := rfl
theorem keptDen_ne {d : Nat} (h : d ≠ 1) : keptDen d = d := if_neg h
theorem nqV_eq {n : Int} {d : Nat} {q : Rat} (h1 : q.num = n) (h2 : q.den = d) : nqV n d = qV q := by subst h1; subst h2; rfl
theorem sgn_div (n : Int) (b : Nat) : sgn (intNeg n) (n.natAbs / b) = n.tdiv b := by
 unfold sgn intNeg
 by_cases h : n < 0
 ·rw [if_pos (decide_eq_true h)]
  obtain ⟨m, rfl⟩ : ∃ m : Nat, n = -(m : Int) := ⟨n.natAbs, by omega⟩
  rw [Int.neg_tdiv, Int.natAbs_neg, Int.natAbs_natCast, Int.ofNat_tdiv]
 ·rw [if_neg (by simpa using h)]
  obtain ⟨m, rfl⟩ : ∃ m : Nat, n = (m : Int) := ⟨n.natAbs, by omega⟩
  rw [Int.natAbs_natCast, Int.ofNat_tdiv]
theorem num_mul_ (a b : Rat) : (a * b).num = a.num.tdiv (Nat.gcd a.num.natAbs b.den) * b.num.tdiv (Nat.gcd b.num.natAbs a.den) := by
 show (Rat.mul a b).num = _
 unfold Rat.mul
 simp only [Int.divExact_eq_tdiv]
theorem den_mul_ (a b : Rat) : (a * b).den = a.den / Nat.gcd b.num.natAbs a.den * (b.den / Nat.gcd a.num.natAbs b.den) := by
 show (Rat.mul a b).den = _
 unfold Rat.mul
 simp only [Nat.divExact_eq_div]
/-- the sum's two parts, as the program makes them -/
def upOf (a b : Rat) : Int := a.num * ((b.den / Nat.gcd a.den b.den : Nat) : Int) + b.num * ((a.den / Nat.gcd a.den b.den : Nat) : Int)
def hOf (a b : Rat) : Nat := Nat.gcd (upOf a b).natAbs (Nat.gcd a.den b.den)
theorem add_norm (a b : Rat) (h : a.den / Nat.gcd a.den b.den * b.den ≠ 0) : a + b = Rat.normalize (upOf a b) (a.den / Nat.gcd a.den b.den * b.den) h := by
 rw [Rat.add_def]
 have hg : Nat.gcd a.den b.den ≠ 0 := fun h0 => a.den_nz (Nat.eq_zero_of_gcd_eq_zero_left h0)
 obtain ⟨x, hx⟩ := Nat.gcd_dvd_left a.den b.den
 obtain ⟨y, hy⟩ := Nat.gcd_dvd_right a.den b.den
 have hxd : a.den / Nat.gcd a.den b.den = x := Nat.div_eq_of_eq_mul_right (Nat.pos_of_ne_zero hg) hx
 have hyd : b.den / Nat.gcd a.den b.den = y := Nat.div_eq_of_eq_mul_right (Nat.pos_of_ne_zero hg) hy
 rw [← Rat.normalize_mul_right (a := Nat.gcd a.den b.den) h hg]
 congr 1
 ·unfold upOf
  rw [hxd, hyd]
  generalize Nat.gcd a.den b.den = g at *
  rw [hx, hy]
  push_cast
  grind
 ·rw [hxd]
  generalize Nat.gcd a.den b.den = g at *
  rw [hx]
  grind
theorem h_aux (a b : Rat) : hOf a b = Nat.gcd (upOf a b).natAbs (a.den / Nat.gcd a.den b.den * b.den) := Rat.add.aux a b rfl rfl rfl
theorem down_ne (a b : Rat) : a.den / Nat.gcd a.den b.den * b.den ≠ 0 := by
 have h1 := Nat.div_gcd_pos_of_pos_left b.den a.den_pos
 have h2 := b.den_pos
 exact Nat.ne_of_gt (Nat.mul_pos h1 h2)
theorem num_add_ (a b : Rat) : (a + b).num = (upOf a b).tdiv (hOf a b) := by
 rw [add_norm a b (down_ne a b), Rat.num_normalize, ← h_aux]
 refine (Int.tdiv_eq_ediv_of_dvd ?_).symm
 exact Int.ofNat_dvd_left.2 (Nat.gcd_dvd_left _ _)
theorem den_add_ (a b : Rat) : (a + b).den = a.den / Nat.gcd a.den b.den * (b.den / hOf a b) := by
 rw [add_norm a b (down_ne a b), Rat.den_normalize, ← h_aux]
 exact Nat.mul_div_assoc _ (Nat.dvd_trans (Nat.gcd_dvd_right _ _) (Nat.gcd_dvd_right _ _))
theorem num_low (n : Int) (d : Nat) (h : d ≠ 0) : (mkRat n d).num = n.tdiv (Nat.gcd n.natAbs d) := by
 rw [← Rat.normalize_eq_mkRat h, Rat.num_normalize]
 exact (Int.tdiv_eq_ediv_of_dvd (Int.ofNat_dvd_left.2 (Nat.gcd_dvd_left _ _))).symm
theorem den_low (n : Int) (d : Nat) (h : d ≠ 0) : (mkRat n d).den = d / Nat.gcd n.natAbs d := by
 rw [← Rat.normalize_eq_mkRat h, Rat.den_normalize]
def cmpQ (a b : Rat) : Int := if a < b then -1 else if b < a then 1 else 0
theorem cmpQ_cross (a b : Rat) : cmpQ a b = cmpZ (a.num * b.den) (b.num * a.den) := by
 unfold cmpQ cmpZ
 simp only [Rat.lt_iff]
theorem cmpQ_whole {a b : Rat} (ha : a.den = 1) (hb : b.den = 1) : cmpQ a b = cmpZ a.num b.num := by
 rw [cmpQ_cross, ha, hb]; simp
theorem cmpQ_sign {a b : Rat} (h : a.num.sign ≠ b.num.sign) : cmpQ a b = cmpZ a.num b.num := by
 rw [cmpQ_cross]
 have h1 := a.den_pos
 have h2 := b.den_pos
 generalize a.num = x at *
 generalize b.num = y at *
 generalize a.den = p at *
 generalize b.den = q at *
 have hx : (x * (q : Int)).sign = x.sign := by rw [Int.sign_mul, Int.sign_eq_one_of_pos (a := (q : Int)) (by omega), Int.mul_one]
 have hy : (y * (p : Int)).sign = y.sign := by rw [Int.sign_mul, Int.sign_eq_one_of_pos (a := (p : Int)) (by omega), Int.mul_one]
 rw [← hx, ← hy] at h
 have key : ∀ u v : Int, u.sign ≠ v.sign → cmpZ u v = cmpZ u.sign v.sign := by
  intro u v huv
  unfold cmpZ
  rcases Int.lt_trichotomy u 0 with hu | hu | hu <;> rcases Int.lt_trichotomy v 0 with hv | hv | hv <;>
   (first | (rw [Int.sign_eq_neg_one_of_neg hu] at huv ⊢) | (rw [hu, Int.sign_zero] at huv ⊢) | (rw [Int.sign_eq_one_of_pos hu] at huv ⊢)) <;>
   (first | (rw [Int.sign_eq_neg_one_of_neg hv] at huv ⊢) | (rw [hv, Int.sign_zero] at huv ⊢) | (rw [Int.sign_eq_one_of_pos hv] at huv ⊢)) <;>
   first | (exact absurd rfl huv) | (split <;> (try split) <;> simp <;> omega)
 rw [key _ _ h, hx, hy]
 rw [hx, hy] at h
 exact (key _ _ h).symm
/-- a fraction's size in bits -/
def qs (q : Rat) : Nat := max (bl q.num.natAbs) (bl q.den)
theorem qs_num (q : Rat) : bl q.num.natAbs ≤ qs q := Nat.le_max_left _ _
theorem qs_den (q : Rat) : bl q.den ≤ qs q := Nat.le_max_right _ _
theorem natAbs_tdiv_le (n : Int) (g : Nat) : (n.tdiv g).natAbs ≤ n.natAbs := by
 rw [Int.natAbs_tdiv]; exact Nat.div_le_self _ _
theorem qs_mul (a b : Rat) : qs (a * b) ≤ qs a + qs b := by
 refine Nat.max_le.2 ⟨?_, ?_⟩
 ·rw [num_mul_, Int.natAbs_mul]
  refine Nat.le_trans (bl_mul_le _ _) ?_
  have h1 := bl_mono (natAbs_tdiv_le a.num (Nat.gcd a.num.natAbs b.den))
  have h2 := bl_mono (natAbs_tdiv_le b.num (Nat.gcd b.num.natAbs a.den))
  have := qs_num a
  have := qs_num b
  omega
 ·rw [den_mul_]
  refine Nat.le_trans (bl_mul_le _ _) ?_
  have h1 := bl_div_le a.den (Nat.gcd b.num.natAbs a.den)
  have h2 := bl_div_le b.den (Nat.gcd a.num.natAbs b.den)
  have := qs_den a
  have := qs_den b
  omega
theorem bl_up (a b : Rat) : bl (upOf a b).natAbs ≤ qs a + qs b + 1 := by
 unfold upOf
 have h1 := bl_mul_le a.num.natAbs (b.den / Nat.gcd a.den b.den)
 have h2 := bl_mul_le b.num.natAbs (a.den / Nat.gcd a.den b.den)
 have h3 := bl_div_le b.den (Nat.gcd a.den b.den)
 have h4 := bl_div_le a.den (Nat.gcd a.den b.den)
 have := qs_num a
 have := qs_den a
 have := qs_num b
 have := qs_den b
 refine Nat.le_trans (bl_mono (Int.natAbs_add_le _ _)) ?_
 rw [Int.natAbs_mul, Int.natAbs_mul, Int.natAbs_natCast, Int.natAbs_natCast]
 refine Nat.le_trans (bl_add_le _ _) ?_
 omega
theorem qs_add (a b : Rat) : qs (a + b) ≤ qs a + qs b + 1 := by
 refine Nat.max_le.2 ⟨?_, ?_⟩
 ·rw [num_add_]
  exact Nat.le_trans (bl_mono (natAbs_tdiv_le _ _)) (bl_up a b)
 ·rw [den_add_]
  refine Nat.le_trans (bl_mul_le _ _) ?_
  have h1 := bl_div_le a.den (Nat.gcd a.den b.den)
  have h2 := bl_div_le b.den (hOf a b)
  have := qs_den a
  have := qs_den b
  omega
theorem qs_neg (a : Rat) : qs (-a) = qs a := by
 unfold qs; rw [Rat.neg_num, Rat.neg_den, Int.natAbs_neg]
theorem qs_sub (a b : Rat) : qs (a - b) ≤ qs a + qs b + 1 := by
 rw [Rat.sub_eq_add_neg]
 have := qs_add a (-b)
 rw [qs_neg] at this
 exact this
theorem qs_inv (a : Rat) (h : a ≠ 0) : qs a⁻¹ = qs a := by
 have h0 : a.num ≠ 0 := fun e => h (Rat.num_eq_zero.1 e)
 unfold qs
 rw [Rat.num_inv, Rat.den_inv, if_neg h0, Int.natAbs_mul, Int.natAbs_natCast, Int.natAbs_sign_of_ne_zero h0, Nat.one_mul, Nat.max_comm]
theorem qs_div (a b : Rat) : qs (a / b) ≤ qs a + qs b := by
 by_cases h : b = 0
 ·subst h
  have : a / 0 = 0 := by rw [Rat.div_def, Rat.inv_zero, Rat.mul_zero]
  rw [this]
  have h0 : qs 0 = 1 := by show max (bl 0) (bl 1) = 1; rw [bl_zero, bl_eq_one.2 rfl]; rfl
  have : 0 < bl a.den := bl_pos.2 a.den_nz
  have := qs_den a
  omega
 ·rw [Rat.div_def, ← qs_inv b h]
  exact qs_mul _ _
theorem qs_pos (a : Rat) : 1 ≤ qs a := by
 have : 0 < bl a.den := bl_pos.2 a.den_nz
 have := qs_den a
 omega
theorem qs_int (n : Int) (k : Nat) (h : n.natAbs < 2 ^ k) (hk : 1 ≤ k) : qs (n : Rat) ≤ k := by
 refine Nat.max_le.2 ⟨?_, ?_⟩
 ·rw [Rat.num_intCast]; exact bl_le.2 h
 ·rw [Rat.den_intCast]; exact Nat.le_trans (by decide) hk
end Go.Proofs.YtimjnkfcnpfoeaaGreatDoor
