/-
  Contracts and laws: Vals.
-/
import Derived.Test.YtimjnkfcnpfoeaaGreatDoorA1
import Derived.Test.YtimjnkfcnpfoeaaGreatDoorA2
import Derived.Lib.Endian
import Derived.Lib.BitFns
set_option linter.unusedSimpArgs false
set_option linter.unusedVariables false
namespace Go.Proofs.YtimjnkfcnpfoeaaGreatDoor
open Go
def W64 : Nat := 18446744073709551616
theorem W64_ge : 2 ≤ W64 := by unfold W64; omega
theorem W64_pos : 0 < W64 := by unfold W64; omega
theorem W64_pow : W64 = 2 ^ 64 := rfl
/-- the number of bits, none for 0 -/
def bl (a : Nat) : Nat := if a = 0 then 0 else a.log2 + 1
theorem bl_zero : bl 0 = 0 := rfl
theorem bl_le {a k : Nat} : bl a ≤ k ↔ a < 2 ^ k := by
 unfold bl
 split
 ·rename_i h; subst h; simp [Nat.two_pow_pos]
 ·rename_i h; rw [Nat.add_one_le_iff, Nat.log2_lt h]
theorem bl_lt {a k : Nat} : k < bl a ↔ 2 ^ k ≤ a := by
 rw [← Nat.not_le, bl_le, Nat.not_lt]
theorem lt_bl (a : Nat) : a < 2 ^ bl a := bl_le.1 (Nat.le_refl _)
theorem bl_mono {a b : Nat} (h : a ≤ b) : bl a ≤ bl b := bl_le.2 (Nat.lt_of_le_of_lt h (lt_bl b))
theorem bl_eq_zero {a : Nat} : bl a = 0 ↔ a = 0 := by
 rw [← Nat.le_zero, bl_le]; simp
theorem bl_pos {a : Nat} : 0 < bl a ↔ a ≠ 0 := by
 have := @bl_eq_zero a; omega
theorem bl_eq_one {a : Nat} : bl a = 1 ↔ a = 1 := by
 have h1 := @bl_le a 1
 have h2 := @bl_eq_zero a
 simp at h1
 omega
theorem bl_eq {a k : Nat} (h1 : 2 ^ k ≤ a) (h2 : a < 2 ^ (k + 1)) : bl a = k + 1 := by
 have := bl_lt.2 h1
 have := bl_le.2 h2
 omega
theorem bl_add_le (a b : Nat) : bl (a + b) ≤ max (bl a) (bl b) + 1 := by
 rw [bl_le, Nat.pow_succ]
 have h1 := Nat.lt_of_lt_of_le (lt_bl a) (Nat.pow_le_pow_right (by omega) (Nat.le_max_left (bl a) (bl b)))
 have h2 := Nat.lt_of_lt_of_le (lt_bl b) (Nat.pow_le_pow_right (by omega) (Nat.le_max_right (bl a) (bl b)))
 omega
theorem bl_mul_le (a b : Nat) : bl (a * b) ≤ bl a + bl b := by
 rw [bl_le, Nat.pow_add]
 rcases Nat.eq_zero_or_pos b with rfl | hb
 ·simp [Nat.two_pow_pos]
 ·exact Nat.lt_of_lt_of_le (Nat.mul_lt_mul_of_pos_right (lt_bl a) hb) (Nat.mul_le_mul_left _ (Nat.le_of_lt (lt_bl b)))
theorem bl_div_le (a b : Nat) : bl (a / b) ≤ bl a := bl_mono (Nat.div_le_self a b)
theorem bl_mod_le (a b : Nat) : bl (a % b) ≤ bl a := bl_mono (Nat.mod_le a b)
theorem bl_sub_le (a b : Nat) : bl (a - b) ≤ bl a := bl_mono (Nat.sub_le a b)
theorem bl_gcd_le (a b : Nat) (ha : a ≠ 0) : bl (a.gcd b) ≤ bl a := bl_mono (Nat.gcd_le_left b (by omega))
theorem bl_gcd_le' (a b : Nat) (hb : b ≠ 0) : bl (a.gcd b) ≤ bl b := bl_mono (Nat.gcd_le_right a (by omega))
theorem bl_split {x y k : Nat} (hx : x < 2 ^ k) (hy : y ≠ 0) : bl (x + 2 ^ k * y) = k + bl y := by
 obtain ⟨m, hm⟩ : ∃ m, bl y = m + 1 := ⟨bl y - 1, by have := bl_pos.2 hy; omega⟩
 have h1 : 2 ^ m ≤ y := bl_lt.1 (by omega)
 have h2 : y < 2 ^ (m + 1) := by rw [← hm]; exact lt_bl y
 rw [hm, ← Nat.add_assoc]
 refine bl_eq ?_ ?_
 ·rw [Nat.pow_add]
  have := Nat.mul_le_mul_left (2 ^ k) h1
  omega
 ·rw [Nat.add_assoc, Nat.pow_add]
  have h3 : 2 ^ k * (y + 1) ≤ 2 ^ k * 2 ^ (m + 1) := Nat.mul_le_mul_left _ h2
  rw [Nat.mul_add, Nat.mul_one] at h3
  omega
theorem bitLen_eq (x : Nat) (h : x < 2 ^ 64) : Lib.bitLen x = bl x := by
  have key : ∀ f y, y < 2 ^ f → Lib.bitLenAux f y = bl y := by
    intro f
    induction f with
    | zero => intro y hy; have : y = 0 := by simp at hy; omega
              subst this; rfl
    | succ f ih =>
      intro y hy
      simp only [Lib.bitLenAux]
      split
      · rename_i h0; subst h0; rfl
      · rename_i h0
        rw [Nat.pow_succ] at hy
        rw [ih (y / 2) (by omega)]
        by_cases h1 : y / 2 = 0
        · have hy1 : y = 1 := by omega
          subst hy1; rfl
        · have := bl_split (x := y % 2) (y := y / 2) (k := 1) (by omega) h1
          rw [show y % 2 + 2 ^ 1 * (y / 2) = y by omega] at this
          omega
  exact key 64 x h
/-- the words above the lowest one -/
def upper (a : Nat) : List Nat := digs W64 (a / W64)
def natLo (a : Nat) : Int := (a % W64 : Nat)
def natMo (a : Nat) : ByteArray := ⟨((upper a).flatMap (Lib.leBytes 8)).toArray⟩
def intNeg (z : Int) : Bool := decide (z < 0)
/-- the denominator as it is kept: 0 for 1 -/
def keptDen (d : Nat) : Nat := if d = 1 then 0 else d
abbrev natV (a : Nat) : Value := .agg #[.int .u64 (natLo a), .string (natMo a)]
abbrev intV (z : Int) : Value := .agg #[.bool (intNeg z), .int .u64 (natLo z.natAbs), .string (natMo z.natAbs)]
abbrev qV (q : Rat) : Value := .agg #[.bool (intNeg q.num), .int .u64 (natLo q.num.natAbs), .string (natMo q.num.natAbs), .int .u64 (natLo (keptDen q.den)), .string (natMo (keptDen q.den))]
theorem upper_small {a : Nat} (h : a < W64) : upper a = [] := by
 unfold upper; rw [Nat.div_eq_of_lt h]; rfl
theorem natMo_small {a : Nat} (h : a < W64) : natMo a = ⟨#[]⟩ := by
 unfold natMo; rw [upper_small h]; rfl
theorem natLo_small {a : Nat} (h : a < W64) : natLo a = a := by
 unfold natLo; rw [Nat.mod_eq_of_lt h]
theorem natLo_nonneg (a : Nat) : 0 ≤ natLo a := Int.natCast_nonneg _
theorem natLo_lt (a : Nat) : natLo a < 18446744073709551616 := by
 have := Nat.mod_lt a W64_pos; unfold natLo; unfold W64 at *; omega
theorem natLo_toNat (a : Nat) : (natLo a).toNat = a % W64 := by unfold natLo; omega
theorem leBytes_length (k v : Nat) : (Lib.leBytes k v).length = k := by
 induction k generalizing v with
 | zero => rfl
 | succ k ih => simp [Lib.leBytes, ih]
theorem flat_length (l : List Nat) : (l.flatMap (Lib.leBytes 8)).length = 8 * l.length := by
 induction l with
 | nil => rfl
 | cons x l ih => simp [List.flatMap_cons, leBytes_length, ih]; omega
theorem natMo_size (a : Nat) : (natMo a).size = 8 * (upper a).length := by
 show ((upper a).flatMap (Lib.leBytes 8)).toArray.size = _
 rw [List.size_toArray, flat_length]
theorem natMo_list (a : Nat) : (natMo a).data.toList = (upper a).flatMap (Lib.leBytes 8) := rfl
theorem flat_drop (l : List Nat) (i : Nat) : (l.flatMap (Lib.leBytes 8)).drop (8 * i) = (l.drop i).flatMap (Lib.leBytes 8) := by
 induction i generalizing l with
 | zero => simp
 | succ i ih =>
  cases l with
  | nil => simp
  | cons x l =>
   rw [List.flatMap_cons, show 8 * (i + 1) = 8 + 8 * i by omega, ← List.drop_drop, List.drop_left' (leBytes_length 8 x), ih]
   rfl
theorem flat_take8 (x : Nat) (l : List Nat) : ((x :: l).flatMap (Lib.leBytes 8)).take 8 = Lib.leBytes 8 x := by
 rw [List.flatMap_cons, List.take_left' (leBytes_length 8 x)]
theorem dig_upper (a : Nat) : Dig W64 (upper a) := dig_digs W64_ge _
theorem natMo_word (a i : Nat) (h : i < (upper a).length) : Lib.leNat (((natMo a).data.toList.drop (8 * i)).take 8) = (upper a)[i] := by
 rw [natMo_list, flat_drop, List.drop_eq_getElem_cons h, flat_take8]
 exact Lib.leNat_leBytes 8 _ (by have := dig_upper a (upper a)[i] (List.getElem_mem h); unfold W64 at this; omega)
theorem digs_upper {a : Nat} (h : a ≠ 0) : digs W64 a = a % W64 :: upper a := digs_pos W64_ge h
theorem upper_nil {a : Nat} : upper a = [] ↔ a < W64 := by
 constructor
 ·intro h
  have h1 := val_digs W64_ge (a / W64)
  have h2 : digs W64 (a / W64) = [] := h
  rw [h2] at h1
  have h3 : a / W64 = 0 := h1.symm
  rcases Nat.div_eq_zero_iff.1 h3 with h4 | h4
  ·exact absurd h4 (Nat.ne_of_gt W64_pos)
  ·exact h4
 ·exact upper_small
theorem natMo_isEmpty (a : Nat) : (natMo a).toList.isEmpty = decide (a < W64) := by
 rw [Bool.eq_iff_iff, List.isEmpty_iff, decide_eq_true_eq, ← upper_nil]
 have hs : (natMo a).toList = (natMo a).data.toList := ByteArray.toList_eq _
 rw [hs, natMo_list]
 constructor
 ·intro h
  have := flat_length (upper a)
  rw [h] at this
  simp only [List.length_nil] at this
  exact List.eq_nil_of_length_eq_zero (by omega)
 ·intro h; rw [h]; rfl
theorem upper_bits (a : Nat) : 64 * (upper a).length ≤ bl a := by
 rcases Nat.eq_zero_or_pos (upper a).length with h | h
 ·omega
 ·have hne : a / W64 ≠ 0 := by
   intro h0
   have : upper a = [] := by unfold upper; rw [h0]; rfl
   rw [this] at h; simp at h
  have ht := (tight_iff (dig_digs W64_ge (a / W64))).1 (tight_digs W64_ge (a / W64))
  rw [val_digs W64_ge] at ht
  rcases ht with ht | ht
  ·have : upper a = [] := ht
   rw [this] at h; simp at h
  ·have h1 : W64 ^ (upper a).length ≤ a := by
    have h2 : W64 * W64 ^ ((upper a).length - 1) ≤ a := Nat.le_trans (Nat.mul_le_mul_left _ ht) (Nat.mul_div_le a W64)
    rw [← Nat.pow_succ', Nat.succ_eq_add_one, Nat.sub_add_cancel h] at h2
    exact h2
   rw [W64_pow, ← Nat.pow_mul] at h1
   exact Nat.le_of_lt (bl_lt.2 h1)
/-- the length in bits, as the program reckons it -/
theorem bl_words {a : Nat} (h : W64 ≤ a) : ∃ x, (upper a).getLast? = some x ∧ x < 2 ^ 64 ∧ bl a = 64 * (upper a).length + bl x := by
 have hne : upper a ≠ [] := by rw [Ne, upper_nil]; omega
 obtain ⟨m, x, hmx⟩ : ∃ m x, upper a = m ++ [x] := ⟨_, _, (List.dropLast_concat_getLast hne).symm⟩
 have hx : x < W64 := dig_upper a x (by rw [hmx]; simp)
 have hx0 : x ≠ 0 := by
  have ht : Tight (upper a) := tight_digs W64_ge _
  rcases ht with ht | ht
  ·exact absurd ht hne
  ·rw [hmx] at ht; simpa using ht
 refine ⟨x, by rw [hmx]; simp, by rw [← W64_pow]; exact hx, ?_⟩
 have hv : val W64 (a % W64 :: upper a) = a := by
  have h0 : a ≠ 0 := by have := W64_pos; omega
  rw [← digs_upper h0, val_digs W64_ge]
 have hd : Dig W64 (a % W64 :: m) := by
  intro y hy
  rcases List.mem_cons.1 hy with rfl | hy
  ·exact Nat.mod_lt _ W64_pos
  ·exact dig_upper a y (by rw [hmx]; simp [hy])
 have hs : a = val W64 (a % W64 :: m) + 2 ^ (64 * (upper a).length) * x := by
  have h1 : a % W64 :: upper a = (a % W64 :: m) ++ [x] := by rw [hmx]; rfl
  rw [h1, val_snoc] at hv
  rw [hmx]
  simp only [List.length_append, List.length_cons, List.length_nil] at hv ⊢
  rw [Nat.pow_mul, ← W64_pow]
  exact hv.symm
 have hlt : val W64 (a % W64 :: m) < 2 ^ (64 * (upper a).length) := by
  have := val_lt hd
  rw [hmx]
  simp only [List.length_append, List.length_cons, List.length_nil] at this ⊢
  rw [Nat.pow_mul, ← W64_pow]
  exact this
 rw [hs, bl_split hlt hx0, ← hs]
theorem bl_small {a : Nat} (h : a < W64) : bl a ≤ 64 := bl_le.2 (by rw [← W64_pow]; exact h)
end Go.Proofs.YtimjnkfcnpfoeaaGreatDoor
