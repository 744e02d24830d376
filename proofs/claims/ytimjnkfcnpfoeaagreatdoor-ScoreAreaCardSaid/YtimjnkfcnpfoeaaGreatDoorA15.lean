/-
  Contracts and laws: Num7.
-/
import Derived.Test.YtimjnkfcnpfoeaaGreatDoorA12
set_option linter.unusedSimpArgs false
set_option linter.unusedVariables false
namespace Go.Proofs.YtimjnkfcnpfoeaaGreatDoor
theorem sub_word {W x y b : Nat} (hb : b ≤ 1) (hx : x < W) (hy : y < W) : (x + W - y - b) % W + y + b = x + (if x < y + b then 1 else 0) * W ∧ (x + W - y - b) % W < W := by
 refine ⟨?_, Nat.mod_lt _ (by omega)⟩
 split
 ·rename_i h
  rw [Nat.mod_eq_of_lt (by omega)]; omega
 ·rename_i h
  rw [show x + W - y - b = x - y - b + W by omega, Nat.add_mod_right, Nat.mod_eq_of_lt (by omega)]
  omega
/-- while g times the divisor is taken away -/
def DvM (W j g : Nat) (vs us : List Nat) (i cy br : Nat) (zs : List Nat) : Prop :=
 zs.length = us.length ∧ Dig W zs ∧ (∀ t, j + i ≤ t → dg zs t = dg us t) ∧ val W zs + g * val W (vs.take i) * W ^ j = val W us + (cy + br) * W ^ (j + i) ∧ cy < W ∧ br ≤ 1
theorem DvM.start {W j g : Nat} {vs us : List Nat} (hW : 0 < W) (hd : Dig W us) : DvM W j g vs us 0 0 0 us :=
 ⟨rfl, hd, fun _ _ => rfl, by simp [val], hW, by omega⟩
/-- the words of one place -/
theorem mul_word {W g x cy : Nat} (hW : 0 < W) (hg : g < W) (hx : x < W) (hc : cy < W) :
  g * x / W + (g * x % W + cy) / W < W ∧ (g * x / W + (g * x % W + cy) / W) * W + (g * x % W + cy) % W = g * x + cy := by
 have e1 := Nat.div_add_mod (g * x) W
 have e2 := Nat.div_add_mod (g * x % W + cy) W
 have e3 : (g * x / W + (g * x % W + cy) / W) * W + (g * x % W + cy) % W = g * x + cy := by
  rw [Nat.add_mul, Nat.mul_comm (g * x / W), Nat.mul_comm ((g * x % W + cy) / W)]
  omega
 refine ⟨?_, e3⟩
 have h1 : g * x ≤ (W - 1) * (W - 1) := Nat.mul_le_mul (by omega) (by omega)
 obtain ⟨k, rfl⟩ : ∃ k, W = k + 1 := ⟨W - 1, by omega⟩
 rw [Nat.add_sub_cancel] at h1
 have h2 : g * x + cy < (k + 1) * (k + 1) := by
  have : (k + 1) * (k + 1) = k * k + k + k + 1 := by grind
  omega
 rw [← e3] at h2
 exact Nat.lt_of_mul_lt_mul_right (show (g * x / (k + 1) + (g * x % (k + 1) + cy) / (k + 1)) * (k + 1) < (k + 1) * (k + 1) by omega)
theorem DvM.next {W j g : Nat} {vs us : List Nat} {i cy br : Nat} {zs : List Nat} (h : DvM W j g vs us i cy br zs) (hW : 0 < W) (hg : g < W) (hv : Dig W vs) (hu : Dig W us) (hi : j + i < us.length) :
  DvM W j g vs us (i + 1) (g * dg vs i / W + (g * dg vs i % W + cy) / W) (if dg us (j + i) < (g * dg vs i % W + cy) % W + br then 1 else 0) (zs.set (j + i) ((dg us (j + i) + W - (g * dg vs i % W + cy) % W - br) % W)) := by
 obtain ⟨h1, h2, h3, h4, h5, h6⟩ := h
 have hx := dg_lt hW hv i
 have hux := dg_lt hW hu (j + i)
 obtain ⟨a1, a2⟩ := mul_word hW hg hx h5
 obtain ⟨b1, b2⟩ := sub_word (W := W) (x := dg us (j + i)) (y := (g * dg vs i % W + cy) % W) h6 hux (Nat.mod_lt _ hW)
 obtain ⟨s, hs⟩ : ∃ s, s = (g * dg vs i % W + cy) % W := ⟨_, rfl⟩
 obtain ⟨c, hc⟩ : ∃ s, s = g * dg vs i / W + (g * dg vs i % W + cy) / W := ⟨_, rfl⟩
 rw [← hs, ← hc] at a2
 rw [← hc] at a1
 rw [← hs] at b1 b2
 rw [← hs, ← hc]
 obtain ⟨z, hz⟩ : ∃ z, z = (dg us (j + i) + W - s - br) % W := ⟨_, rfl⟩
 obtain ⟨e, he⟩ : ∃ e, e = (if dg us (j + i) < s + br then 1 else 0) := ⟨_, rfl⟩
 rw [← hz, ← he] at b1
 rw [← hz] at b2
 rw [← hz, ← he]
 have e1 := val_set W zs (j + i) z (by omega)
 rw [h3 (j + i) (Nat.le_refl _)] at e1
 refine ⟨by simp [h1], dig_set h2 _ b2, fun t ht => by rw [dg_set_ne _ _ (by omega)]; exact h3 t (by omega), ?_, a1, by rw [he]; split <;> omega⟩
 rw [val_take_dg]
 have e2 : val W (zs.set (j + i) z) + g * (val W (vs.take i) + W ^ i * dg vs i) * W ^ j + W ^ (j + i) * dg us (j + i) = val W us + (c + e) * W ^ (j + (i + 1)) + W ^ (j + i) * dg us (j + i) := by
  calc val W (zs.set (j + i) z) + g * (val W (vs.take i) + W ^ i * dg vs i) * W ^ j + W ^ (j + i) * dg us (j + i)
    = (val W (zs.set (j + i) z) + W ^ (j + i) * dg us (j + i)) + g * val W (vs.take i) * W ^ j + W ^ (j + i) * (g * dg vs i) := by rw [Nat.pow_add]; grind
   _ = (val W zs + W ^ (j + i) * z) + g * val W (vs.take i) * W ^ j + W ^ (j + i) * (g * dg vs i) := by rw [e1]
   _ = (val W zs + g * val W (vs.take i) * W ^ j) + W ^ (j + i) * (z + g * dg vs i) := by grind
   _ = val W us + W ^ (j + i) * (z + (g * dg vs i + cy) + br) := by rw [h4]; grind
   _ = val W us + W ^ (j + i) * ((z + s + br) + c * W) := by rw [← a2]; grind
   _ = val W us + W ^ (j + i) * ((dg us (j + i) + e * W) + c * W) := by rw [b1]
   _ = val W us + (c + e) * W ^ (j + (i + 1)) + W ^ (j + i) * dg us (j + i) := by rw [← Nat.add_assoc, Nat.pow_succ]; grind
 omega
/-- the highest place -/
theorem DvM.last {W j g n : Nat} {vs us : List Nat} {cy br : Nat} {zs : List Nat} (h : DvM W j g vs us n cy br zs) (hW : 0 < W) (hu : Dig W us) (hi : j + n < us.length) (hvn : val W (vs.take n) = val W vs) :
  (zs.set (j + n) ((dg us (j + n) + W - cy - br) % W)).length = us.length ∧ Dig W (zs.set (j + n) ((dg us (j + n) + W - cy - br) % W)) ∧ (∀ t, j + n + 1 ≤ t → dg (zs.set (j + n) ((dg us (j + n) + W - cy - br) % W)) t = dg us t) ∧
  val W (zs.set (j + n) ((dg us (j + n) + W - cy - br) % W)) + g * val W vs * W ^ j = val W us + (if dg us (j + n) < cy + br then 1 else 0) * W ^ (j + n + 1) := by
 obtain ⟨h1, h2, h3, h4, h5, h6⟩ := h
 rw [hvn] at h4
 have hux := dg_lt hW hu (j + n)
 obtain ⟨b1, b2⟩ := sub_word (W := W) (x := dg us (j + n)) (y := cy) h6 hux h5
 obtain ⟨z, hz⟩ : ∃ s, s = (dg us (j + n) + W - cy - br) % W := ⟨_, rfl⟩
 obtain ⟨e, he⟩ : ∃ e, e = (if dg us (j + n) < cy + br then 1 else 0) := ⟨_, rfl⟩
 rw [← hz, ← he] at b1
 rw [← hz] at b2
 rw [← hz, ← he]
 have e1 := val_set W zs (j + n) z (by omega)
 rw [h3 (j + n) (Nat.le_refl _)] at e1
 refine ⟨by simp [h1], dig_set h2 _ b2, fun t ht => by rw [dg_set_ne _ _ (by omega)]; exact h3 t (by omega), ?_⟩
 have e2 : val W (zs.set (j + n) z) + g * val W vs * W ^ j + W ^ (j + n) * dg us (j + n) = val W us + e * W ^ (j + n + 1) + W ^ (j + n) * dg us (j + n) := by
  calc val W (zs.set (j + n) z) + g * val W vs * W ^ j + W ^ (j + n) * dg us (j + n)
    = (val W zs + g * val W vs * W ^ j) + W ^ (j + n) * z := by grind
   _ = val W us + W ^ (j + n) * (z + cy + br) := by rw [h4]; grind
   _ = val W us + W ^ (j + n) * (dg us (j + n) + e * W) := by rw [b1]
   _ = val W us + e * W ^ (j + n + 1) + W ^ (j + n) * dg us (j + n) := by rw [Nat.pow_succ]; grind
 omega
/-- while the divisor is given back -/
def DvA (W j : Nat) (vs us : List Nat) (i c : Nat) (zs : List Nat) : Prop :=
 zs.length = us.length ∧ Dig W zs ∧ (∀ t, j + i ≤ t → dg zs t = dg us t) ∧ val W zs + c * W ^ (j + i) = val W us + val W (vs.take i) * W ^ j ∧ c ≤ 1
theorem DvA.start {W j : Nat} {vs us : List Nat} (hd : Dig W us) : DvA W j vs us 0 0 us := ⟨rfl, hd, fun _ _ => rfl, by simp [val], by omega⟩
theorem DvA.next {W j : Nat} {vs us : List Nat} {i c : Nat} {zs : List Nat} (h : DvA W j vs us i c zs) (hW : 0 < W) (hv : Dig W vs) (hu : Dig W us) (hi : j + i < us.length) :
  DvA W j vs us (i + 1) ((dg us (j + i) + dg vs i + c) / W) (zs.set (j + i) ((dg us (j + i) + dg vs i + c) % W)) := by
 obtain ⟨h1, h2, h3, h4, h5⟩ := h
 have hx := dg_lt hW hv i
 have hux := dg_lt hW hu (j + i)
 have b1 := Nat.div_add_mod (dg us (j + i) + dg vs i + c) W
 obtain ⟨z, hz⟩ : ∃ s, s = (dg us (j + i) + dg vs i + c) % W := ⟨_, rfl⟩
 obtain ⟨e, he⟩ : ∃ e, e = (dg us (j + i) + dg vs i + c) / W := ⟨_, rfl⟩
 rw [← hz, ← he] at b1
 rw [← hz, ← he]
 have e1 := val_set W zs (j + i) z (by omega)
 rw [h3 (j + i) (Nat.le_refl _)] at e1
 have hzW : z < W := by rw [hz]; exact Nat.mod_lt _ hW
 have he1 : e ≤ 1 := by
  have : e < 2 := by rw [he, Nat.div_lt_iff_lt_mul hW]; omega
  omega
 refine ⟨by simp [h1], dig_set h2 _ hzW, fun t ht => by rw [dg_set_ne _ _ (by omega)]; exact h3 t (by omega), ?_, he1⟩
 rw [val_take_dg]
 have e2 : val W (zs.set (j + i) z) + e * W ^ (j + (i + 1)) + W ^ (j + i) * dg us (j + i) = val W us + (val W (vs.take i) + W ^ i * dg vs i) * W ^ j + W ^ (j + i) * dg us (j + i) := by
  calc val W (zs.set (j + i) z) + e * W ^ (j + (i + 1)) + W ^ (j + i) * dg us (j + i)
    = val W zs + W ^ (j + i) * (W * e + z) := by rw [← Nat.add_assoc j i 1, Nat.pow_succ]; grind
   _ = val W zs + c * W ^ (j + i) + W ^ (j + i) * (dg us (j + i) + dg vs i) := by rw [b1]; grind
   _ = val W us + val W (vs.take i) * W ^ j + W ^ (j + i) * (dg us (j + i) + dg vs i) := by rw [h4]
   _ = val W us + (val W (vs.take i) + W ^ i * dg vs i) * W ^ j + W ^ (j + i) * dg us (j + i) := by rw [Nat.pow_add]; grind
 omega
/-- the whole loop: k words of the quotient are still to come -/
def DvI (W V X k : Nat) (us qs : List Nat) : Prop := Dig W us ∧ Dig W qs ∧ val W us + V * val W qs = X ∧ val W us < V * W ^ k ∧ ∀ t, t < k → dg qs t = 0
/-- the word fitted -/
theorem DvI.fit {W V X j g : Nat} {us qs zs : List Nat} (h : DvI W V X (j + 1) us qs) (hW : 0 < W) (hV : 0 < V) (hg : g < W) (hj : j < qs.length) (hcase : g = val W us / W ^ j / V ∨ (g = val W us / W ^ j / V + 1 ∧ val W us / W ^ j < g * V))
  (hz : Dig W zs) (hv : val W zs + g * V * W ^ j = val W us) : DvI W V X j zs (qs.set j g) := by
 obtain ⟨h1, h2, h3, h4, h5⟩ := h
 have hp : 0 < W ^ j := Nat.pow_pos hW
 have hq := val_set W qs j g hj
 rw [h5 j (by omega), Nat.mul_zero, Nat.add_zero] at hq
 have hle : g * V ≤ val W us / W ^ j := (Nat.le_div_iff_mul_le hp).2 (by omega)
 have hge : g = val W us / W ^ j / V := by
  rcases hcase with h | h
  ·exact h
  ·omega
 refine ⟨hz, dig_set h2 _ hg, ?_, ?_, fun t ht => by rw [dg_set_ne _ _ (by omega)]; exact h5 t (by omega)⟩
 ·rw [hq, Nat.mul_add, ← h3, ← hv]
  grind
 ·have h6 : val W us / W ^ j < (g + 1) * V := by
   rw [hge]
   have := Nat.lt_mul_div_succ (val W us / W ^ j) hV
   rw [Nat.mul_comm] at this
   exact this
  rw [Nat.div_lt_iff_lt_mul hp, Nat.add_mul g, Nat.one_mul, Nat.add_mul] at h6
  omega
/-- the word was one too much: given back -/
theorem DvI.back {W V X j n g e : Nat} {us qs ys zs : List Nat} (h : DvI W V X (j + 1) us qs) (hW : 0 < W) (hV : 0 < V) (hg : g < W) (hj : j < qs.length) (hcase : g = val W us / W ^ j / V ∨ (g = val W us / W ^ j / V + 1 ∧ val W us / W ^ j < g * V))
  (hVM : V * W ^ j ≤ W ^ (j + n + 1)) (hy : val W ys < W ^ (j + n + 1)) (hv : val W ys + g * V * W ^ j = val W us + 1 * W ^ (j + n + 1)) (hz : Dig W zs) (hzl : val W zs < W ^ (j + n + 1)) (he : val W zs + e * W ^ (j + n + 1) = val W ys + V * W ^ j) : 0 < g ∧ DvI W V X j zs (qs.set j (g - 1)) := by
 have hp : 0 < W ^ j := Nat.pow_pos hW
 generalize W ^ (j + n + 1) = M at hy hv hzl he hVM
 rw [Nat.one_mul] at hv
 have hgt : val W us < g * V * W ^ j := by omega
 have hg1 : g = val W us / W ^ j / V + 1 := by
  rcases hcase with h' | h'
  ·exfalso
   have h6 : g * V ≤ val W us / W ^ j := by rw [h']; exact Nat.div_mul_le_self _ _
   have h7 := (Nat.le_div_iff_mul_le hp).1 h6
   omega
  ·exact h'.1
 have hg0 : 0 < g := by rw [hg1]; exact Nat.succ_pos _
 obtain ⟨q, rfl⟩ : ∃ q, g = q + 1 := ⟨g - 1, by omega⟩
 refine ⟨hg0, ?_⟩
 rw [Nat.add_sub_cancel]
 refine h.fit hW hV (by omega) hj (.inl (Nat.succ.inj hg1)) hz ?_
 rw [Nat.add_mul q 1, Nat.one_mul, Nat.add_mul] at hv
 have hq : q * V * W ^ j ≤ val W us := by
  have h6 : q * V ≤ val W us / W ^ j := by rw [show q = val W us / W ^ j / V from Nat.succ.inj hg1]; exact Nat.div_mul_le_self _ _
  exact (Nat.le_div_iff_mul_le hp).1 h6
 have he1 : e = 1 := by
  have h8 : val W ys + V * W ^ j < 2 * M := by
   have : val W us < q * V * W ^ j + V * W ^ j := by rw [Nat.add_mul q 1, Nat.one_mul, Nat.add_mul] at hgt; exact hgt
   omega
  have h9 : M ≤ val W ys + V * W ^ j := by omega
  rcases Nat.lt_or_ge e 1 with h0 | h0
  ·have : e = 0 := by omega
   rw [this, Nat.zero_mul] at he
   omega
  ·rcases Nat.lt_or_ge e 2 with h2 | h2
   ·omega
   ·have : 2 * M ≤ e * M := Nat.mul_le_mul_right _ h2
    omega
 rw [he1, Nat.one_mul] at he
 omega
theorem DvI.done {W V X : Nat} {us qs : List Nat} (h : DvI W V X 0 us qs) (hV : 0 < V) : val W qs = X / V ∧ val W us = X % V := by
 obtain ⟨h1, h2, h3, h4, h5⟩ := h
 rw [Nat.pow_zero, Nat.mul_one] at h4
 rw [← h3, Nat.add_mul_div_left _ _ hV, Nat.div_eq_of_lt h4, Nat.zero_add, Nat.add_mul_mod_self_left, Nat.mod_eq_of_lt h4]
 exact ⟨rfl, rfl⟩
end Go.Proofs.YtimjnkfcnpfoeaaGreatDoor
