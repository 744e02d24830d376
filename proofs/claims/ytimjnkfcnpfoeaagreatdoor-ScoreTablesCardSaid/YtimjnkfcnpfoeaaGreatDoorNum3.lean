/-
  Plain arithmetic for bits.Div64 and for the shifts.
-/
import Derived.Test.YtimjnkfcnpfoeaaGreatDoorNum2
namespace Go.Proofs.YtimjnkfcnpfoeaaGreatDoor

/-- a guess q of a digit, and its rest r: u b + n is divided by Y = y1 b + y0 -/
def DG (b y1 y0 u n q r : Nat) : Prop := q * y1 + r = u ∧ u * b + n < (q + 1) * (y1 * b + y0) ∧ r < b ∧ q ≤ b + 1
theorem DG.start {b y1 y0 u n : Nat} (hy1 : y1 < b) (hb : b ≤ 2 * y1) (hy0 : y0 < b) (hn : n < b) (hu : u < y1 * b + y0) : DG b y1 y0 u n (u / y1) (u % y1) := by
  have hp : 0 < y1 := by omega
  have h1 := Nat.div_add_mod u y1
  have h2 := Nat.mod_lt u hp
  rw [Nat.mul_comm] at h1
  refine ⟨h1, ?_, by omega, ?_⟩
  · have h3 : u + 1 ≤ (u / y1 + 1) * y1 := by rw [Nat.add_mul]; omega
    calc u * b + n < (u + 1) * b := by rw [Nat.add_mul]; omega
      _ ≤ (u / y1 + 1) * y1 * b := Nat.mul_le_mul_right b h3
      _ ≤ (u / y1 + 1) * (y1 * b + y0) := by rw [Nat.mul_assoc]; exact Nat.mul_le_mul_left _ (by omega)
  · rcases Nat.lt_or_ge (b + 1) (u / y1) with h | h
    · have h3 : (b + 2) * y1 ≤ u / y1 * y1 := Nat.mul_le_mul_right y1 h
      rw [Nat.add_mul, Nat.mul_comm b y1] at h3
      omega
    · exact h
/-- a guess that is too great -/
theorem DG.much {b y1 y0 u n q r : Nat} (h : DG b y1 y0 u n q r) (hn : n < b) (hu : u < y1 * b + y0) (hc : b ≤ q ∨ b * r + n < q * y0) : 0 < q ∧ u * b + n < q * (y1 * b + y0) := by
  obtain ⟨h1, h2, h3, h4⟩ := h
  rcases hc with hc | hc
  · refine ⟨by omega, ?_⟩
    calc u * b + n < (u + 1) * b := by rw [Nat.add_mul]; omega
      _ ≤ (y1 * b + y0) * b := Nat.mul_le_mul_right b hu
      _ ≤ q * (y1 * b + y0) := by rw [Nat.mul_comm]; exact Nat.mul_le_mul_right _ hc
  · refine ⟨Nat.pos_of_ne_zero fun h0 => by rw [h0, Nat.zero_mul] at hc; omega, ?_⟩
    rw [← h1, Nat.mul_add, ← Nat.mul_assoc, Nat.add_mul, Nat.mul_comm r b]
    omega
theorem DG.next {b y1 y0 u n q r : Nat} (h : DG b y1 y0 u n q r) (hn : n < b) (hu : u < y1 * b + y0) (hc : b ≤ q ∨ b * r + n < q * y0) (hr : r + y1 < b) : DG b y1 y0 u n (q - 1) (r + y1) := by
  obtain ⟨hq, hlt⟩ := h.much hn hu hc
  obtain ⟨h1, h2, h3, h4⟩ := h
  obtain ⟨q', rfl⟩ : ∃ q', q = q' + 1 := ⟨q - 1, by omega⟩
  refine ⟨?_, hlt, hr, by omega⟩
  rw [Nat.add_sub_cancel, ← h1, Nat.add_mul]; omega
theorem DG.stop {b y1 y0 u n q r : Nat} (h : DG b y1 y0 u n q r) (hc : q * y0 ≤ b * r + n) : (u * b + n) / (y1 * b + y0) = q := by
  obtain ⟨h1, h2, h3, h4⟩ := h
  refine Nat.div_eq_of_lt_le ?_ h2
  rw [← h1, Nat.mul_add, ← Nat.mul_assoc, Nat.add_mul, Nat.mul_comm r b]
  omega
theorem DG.broke {b y1 y0 u n q r : Nat} (h : DG b y1 y0 u n q r) (hn : n < b) (hy0 : y0 < b) (hu : u < y1 * b + y0) (hc : b ≤ q ∨ b * r + n < q * y0) (hr : b ≤ r + y1) : (u * b + n) / (y1 * b + y0) = q - 1 := by
  obtain ⟨hq, hlt⟩ := h.much hn hu hc
  obtain ⟨h1, h2, h3, h4⟩ := h
  obtain ⟨q', rfl⟩ : ∃ q', q = q' + 1 := ⟨q - 1, by omega⟩
  rw [Nat.add_sub_cancel]
  refine Nat.div_eq_of_lt_le ?_ hlt
  have h5 : q' * y0 ≤ b * b := Nat.mul_le_mul (by omega) (by omega)
  have h6 : b * b ≤ b * (r + y1) := Nat.mul_le_mul_left b hr
  have h7 : u = q' * y1 + (r + y1) := by rw [← h1, Nat.add_mul]; omega
  rw [h7, Nat.mul_add, ← Nat.mul_assoc, Nat.add_mul, Nat.mul_comm (r + y1) b]
  omega

/-- a number of two words, moved to the left by s < 64 bits -/
theorem shl_split (x W p : Nat) (_hp : 0 < p) (r : Nat) (hW : W = p * r) (_hr : 0 < r) : x * p / W = x / r ∧ x * p % W = x % r * p := by
  subst hW
  rw [Nat.mul_comm x p, Nat.mul_div_mul_left _ _ _hp, Nat.mul_mod_mul_left, Nat.mul_comm p]
  exact ⟨rfl, rfl⟩
theorem or_add {a b s : Nat} (h : b < 2 ^ s) (ha : 2 ^ s ∣ a) : a ||| b = a + b := by
  obtain ⟨k, rfl⟩ := ha
  exact (Nat.two_pow_add_eq_or_of_lt h k).symm
theorem or_add' {a b s : Nat} (h : b < 2 ^ s) (ha : 2 ^ s ∣ a) : b ||| a = a + b := by
  rw [Nat.or_comm]; exact or_add h ha

theorem two_digits {X p u n1 n0 y b : Nat} (hp : 0 < p) (hy : 0 < y) (h : X * p = (u * b + n1) * b + n0) :
    X / y = (u * b + n1) / (y * p) * b + ((u * b + n1) % (y * p) * b + n0) / (y * p) ∧ X % y = ((u * b + n1) % (y * p) * b + n0) % (y * p) / p := by
  have hY : 0 < y * p := Nat.mul_pos hy hp
  have e1 := Nat.div_add_mod (u * b + n1) (y * p)
  have e2 := Nat.div_add_mod ((u * b + n1) % (y * p) * b + n0) (y * p)
  have l2 := Nat.mod_lt ((u * b + n1) % (y * p) * b + n0) hY
  generalize (u * b + n1) / (y * p) = q1 at *
  generalize (u * b + n1) % (y * p) = u2 at *
  generalize (u2 * b + n0) / (y * p) = q2 at *
  generalize (u2 * b + n0) % (y * p) = r2 at *
  have e3 : X * p = (y * p) * (q1 * b + q2) + r2 := by rw [h, ← e1]; grind
  constructor
  · rw [← Nat.mul_div_mul_right X y hp, e3, Nat.mul_add_div hY, Nat.div_eq_of_lt l2, Nat.add_zero]
  · have e4 : X % y * p = r2 := by
      rw [← Nat.mul_mod_mul_right, e3, Nat.mul_add_mod, Nat.mod_eq_of_lt l2]
    rw [← e4, Nat.mul_div_cancel _ hp]
theorem digit_lt {u Y b n : Nat} (hu : u < Y) (hn : n < b) : (u * b + n) / Y < b := by
  rw [Nat.div_lt_iff_lt_mul (by omega)]
  calc u * b + n < (u + 1) * b := by rw [Nat.add_mul]; omega
    _ ≤ Y * b := Nat.mul_le_mul_right b hu
    _ = b * Y := Nat.mul_comm _ _
end Go.Proofs.YtimjnkfcnpfoeaaGreatDoor
