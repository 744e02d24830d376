/-
  Plain mathematics: products digit by digit.
-/
import Derived.Test.YtimjnkfcnpfoeaaGreatDoorNum
namespace Go.Proofs.YtimjnkfcnpfoeaaGreatDoor

theorem val_set (B : Nat) : ∀ (l : List Nat) (k y : Nat), k < l.length → val B (l.set k y) + B ^ k * dg l k = val B l + B ^ k * y
  | [], k, _, h => by simp at h
  | x :: l, 0, y, _ => by simp [val, dg]; omega
  | x :: l, k + 1, y, h => by
    have ih := val_set B l k y (by simpa using h)
    have e : dg (x :: l) (k + 1) = dg l k := by simp [dg]
    rw [List.set_cons_succ, val_cons, val_cons, e, Nat.pow_succ]
    have h1 : B * (val B (l.set k y) + B ^ k * dg l k) = B * (val B l + B ^ k * y) := by rw [ih]
    grind
theorem dig_set {B : Nat} {l : List Nat} (h : Dig B l) (k : Nat) {y : Nat} (hy : y < B) : Dig B (l.set k y) := fun x hx => by
  rcases List.mem_or_eq_of_mem_set hx with h1 | h1
  · exact h x h1
  · rw [h1]; exact hy
theorem dg_set_ne (l : List Nat) {k j : Nat} (y : Nat) (h : k ≠ j) : dg (l.set k y) j = dg l j := by
  unfold dg; rw [List.getElem?_set_ne h]
/-- one digit by one digit, a digit and a carry added -/
theorem mul_digit {B x y d c : Nat} (hx : x < B) (hy : y < B) (hd : d < B) (hc : c < B) :
    ((x * y % B + d) % B + c) % B = (x * y + d + c) % B ∧ x * y / B + (x * y % B + d) / B + ((x * y % B + d) % B + c) / B = (x * y + d + c) / B ∧ (x * y + d + c) / B < B := by
  have hB : 0 < B := by omega
  have h1 := Nat.mod_add_div (x * y) B
  have h2 := Nat.mod_add_div (x * y % B + d) B
  have h3 := Nat.mod_add_div ((x * y % B + d) % B + c) B
  obtain ⟨r, hr⟩ : ∃ r, r = ((x * y % B + d) % B + c) % B := ⟨_, rfl⟩
  obtain ⟨q, hq⟩ : ∃ q, q = x * y / B + (x * y % B + d) / B + ((x * y % B + d) % B + c) / B := ⟨_, rfl⟩
  have hrB : r < B := by rw [hr]; exact Nat.mod_lt _ hB
  have ht : x * y + d + c = r + B * q := by
    rw [hq, Nat.mul_add, Nat.mul_add]
    rw [← hr] at h3
    omega
  have hlt : x * y + d + c < B * B := by
    have h5 : x * y ≤ (B - 1) * (B - 1) := Nat.mul_le_mul (by omega) (by omega)
    have h6 : (B - 1) * (B - 1) + 2 * (B - 1) + 1 = B * B := by
      obtain ⟨m, rfl⟩ : ∃ m, B = m + 1 := ⟨B - 1, by omega⟩
      simp only [Nat.add_sub_cancel]
      grind
    omega
  refine ⟨?_, ?_, ?_⟩
  · rw [← hr, ht, Nat.add_mul_mod_self_left, Nat.mod_eq_of_lt hrB]
  · rw [← hq, ht, Nat.add_mul_div_left _ _ hB, Nat.div_eq_of_lt hrB, Nat.zero_add]
  · exact Nat.div_lt_of_lt_mul hlt
/-- one round of the inner loop of a product -/
theorem mul_step {B : Nat} {zs l2 : List Nat} {v0 m i j c : Nat} (hij : i + j < zs.length)
    (h : val B zs + c * B ^ (i + j) = v0 + B ^ i * (m * val B (l2.take j))) :
    val B (zs.set (i + j) ((m * dg l2 j + dg zs (i + j) + c) % B)) + (m * dg l2 j + dg zs (i + j) + c) / B * B ^ (i + j + 1) = v0 + B ^ i * (m * val B (l2.take (j + 1))) := by
  have h1 := val_set B zs (i + j) ((m * dg l2 j + dg zs (i + j) + c) % B) hij
  have h2 := divmod_mul B (B ^ (i + j)) (m * dg l2 j + dg zs (i + j) + c)
  rw [val_take_dg, Nat.pow_succ]
  have h3 : B ^ (i + j) * (m * dg l2 j + dg zs (i + j) + c) = B ^ (i + j) * (m * dg l2 j) + B ^ (i + j) * dg zs (i + j) + c * B ^ (i + j) := by grind
  have h4 : B ^ i * (m * (val B (l2.take j) + B ^ j * dg l2 j)) = B ^ i * (m * val B (l2.take j)) + B ^ (i + j) * (m * dg l2 j) := by rw [Nat.pow_add]; grind
  rw [h4]
  omega
end Go.Proofs.YtimjnkfcnpfoeaaGreatDoor
