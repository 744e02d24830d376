/-
  score.Rates: the plain sums.
-/
import Derived.Test.YtimjnkfcnpfoeaaGreatDoorScoreC
set_option linter.unusedSimpArgs false
set_option linter.unusedVariables false
namespace Go.Proofs.YtimjnkfcnpfoeaaGreatDoor

def sumTo (f : Nat → Int) : Nat → Int
  | 0 => 0
  | n + 1 => sumTo f n + f n
theorem sumTo_nonneg {f : Nat → Int} {n : Nat} (h : ∀ i, i < n → 0 ≤ f i) : 0 ≤ sumTo f n := by
  induction n with
  | zero => exact Int.le_refl _
  | succ n ih => simp only [sumTo]; have := h n (by omega); have := ih fun i hi => h i (by omega); omega
theorem sumTo_mono {f : Nat → Int} {m n : Nat} (hmn : m ≤ n) (h : ∀ i, i < n → 0 ≤ f i) : sumTo f m ≤ sumTo f n := by
  induction n with
  | zero => obtain rfl : m = 0 := by omega
            exact Int.le_refl _
  | succ n ih =>
    by_cases e : m = n + 1
    · subst e; exact Int.le_refl _
    · simp only [sumTo]; have := h n (by omega); have := ih (by omega) fun i hi => h i (by omega); omega
theorem sumTo_congr {f g : Nat → Int} {n : Nat} (h : ∀ i, i < n → f i = g i) : sumTo f n = sumTo g n := by
  induction n with
  | zero => rfl
  | succ n ih => simp only [sumTo]; rw [ih fun i hi => h i (by omega), h n (by omega)]
theorem sumTo_add (f g : Nat → Int) (n : Nat) : sumTo (fun i => f i + g i) n = sumTo f n + sumTo g n := by
  induction n with
  | zero => rfl
  | succ n ih => simp only [sumTo]; rw [ih]; omega
theorem sumTo_swap (f : Nat → Nat → Int) (m n : Nat) : sumTo (fun i => sumTo (f i) n) m = sumTo (fun j => sumTo (fun i => f i j) m) n := by
  induction m with
  | zero =>
    have : sumTo (fun _ => (0 : Int)) n = 0 := by induction n with
      | zero => rfl
      | succ n ih => simp only [sumTo]; omega
    simp only [sumTo]; rw [this]
  | succ m ih => simp only [sumTo]; rw [ih, ← sumTo_add]
theorem le_sumTo {f : Nat → Int} {n i : Nat} (hi : i < n) (h : ∀ i, i < n → 0 ≤ f i) : f i ≤ sumTo f n := by
  have h1 := sumTo_mono (m := i + 1) (n := n) (by omega) h
  have h2 := sumTo_nonneg (f := f) (n := i) fun j hj => h j (by omega)
  simp only [sumTo] at h1
  omega
/-- the rows' and the columns' sums while they are made: i rows are done, j entries of the next -/
def rowL (k : Nat) (T : Nat → Nat → Int) (i j : Nat) : List Int := (List.range k).map fun a => if a < i then sumTo (T a) k else if a = i then sumTo (T i) j else 0
def colL (k : Nat) (T : Nat → Nat → Int) (i j : Nat) : List Int := (List.range k).map fun t => sumTo (fun a => T a t) i + if t < j then T i t else 0
def allS (k : Nat) (T : Nat → Nat → Int) (i j : Nat) : Int := sumTo (fun a => sumTo (T a) k) i + sumTo (T i) j
section
variable {k : Nat} {T : Nat → Nat → Int} {i j : Nat}
theorem rowL_get (hi : i < k) : (rowL k T i j)[i]? = some (sumTo (T i) j) := by unfold rowL; simp [hi]
theorem rowL_set (hi : i < k) : (rowL k T i j).set i (sumTo (T i) j + T i j) = rowL k T i (j + 1) := by
  unfold rowL
  refine List.ext_getElem (by simp) fun t h1 h2 => ?_
  rw [List.getElem_set]
  simp only [List.getElem_map, List.getElem_range]
  by_cases e : i = t
  · subst e; simp [sumTo]
  · rw [if_neg e, if_neg (show ¬ t = i by omega), if_neg (show ¬ t = i by omega)]
theorem rowL_next (hi : i < k) : rowL k T i k = rowL k T (i + 1) 0 := by
  unfold rowL
  refine List.map_congr_left fun t ht => ?_
  rcases Nat.lt_trichotomy t i with h | h | h
  · rw [if_pos h, if_pos (by omega)]
  · subst h; simp
  · rw [if_neg (by omega), if_neg (by omega), if_neg (by omega)]
    split <;> rfl
theorem rowL_start : rowL k T 0 0 = List.replicate k 0 := by
  unfold rowL
  refine List.ext_getElem (by simp) fun t h1 h2 => ?_
  simp [sumTo]
theorem rowL_end (hi : i < k) : (rowL k T k 0)[i]? = some (sumTo (T i) k) := by unfold rowL; simp [hi]
theorem colL_get (hj : j < k) : (colL k T i j)[j]? = some (sumTo (fun a => T a j) i) := by unfold colL; simp [hj]
theorem colL_set (hj : j < k) : (colL k T i j).set j (sumTo (fun a => T a j) i + T i j) = colL k T i (j + 1) := by
  unfold colL
  refine List.ext_getElem (by simp) fun t h1 h2 => ?_
  rw [List.getElem_set]
  simp only [List.getElem_map, List.getElem_range]
  by_cases e : j = t
  · subst e; simp
  · rw [if_neg e]
    by_cases h : t < j
    · rw [if_pos h, if_pos (by omega)]
    · rw [if_neg h, if_neg (by omega)]
theorem colL_next : colL k T i k = colL k T (i + 1) 0 := by
  unfold colL
  refine List.map_congr_left fun t ht => ?_
  rw [if_pos (List.mem_range.1 ht)]
  simp [sumTo]
theorem colL_start : colL k T 0 0 = List.replicate k 0 := by
  unfold colL
  refine List.ext_getElem (by simp) fun t h1 h2 => ?_
  simp [sumTo]
theorem colL_end (hi : i < k) : (colL k T k 0)[i]? = some (sumTo (fun a => T a i) k) := by unfold colL; simp [hi]
theorem allS_succ : allS k T i (j + 1) = allS k T i j + T i j := by unfold allS; simp only [sumTo]; omega
theorem allS_next : allS k T i k = allS k T (i + 1) 0 := by unfold allS; simp only [sumTo]; omega
theorem rowL_len : (rowL k T i j).length = k := by unfold rowL; simp
theorem colL_len : (colL k T i j).length = k := by unfold colL; simp
theorem allS_le (hT : ∀ a, a < k → ∀ t, t < k → 0 ≤ T a t) (hi : i < k) (hj : j < k) : 0 ≤ allS k T i j ∧ allS k T i j + T i j ≤ sumTo (fun a => sumTo (T a) k) k ∧ 0 ≤ T i j := by
  have h0 : ∀ a, a < k → 0 ≤ sumTo (T a) k := fun a ha => sumTo_nonneg (hT a ha)
  have h1 := sumTo_mono (f := fun a => sumTo (T a) k) (m := i + 1) (n := k) (by omega) h0
  have h2 := sumTo_mono (f := T i) (m := j + 1) (n := k) (by omega) (hT i hi)
  have h3 := sumTo_nonneg (f := fun a => sumTo (T a) k) (n := i) fun a ha => h0 a (by omega)
  have h4 := sumTo_nonneg (f := T i) (n := j) fun t ht => hT i hi t (by omega)
  simp only [sumTo] at h1 h2
  unfold allS
  exact ⟨by omega, by omega, hT i hi j hj⟩
theorem row_le (hT : ∀ a, a < k → ∀ t, t < k → 0 ≤ T a t) (hi : i < k) (n : Nat) (hn : n ≤ k) : 0 ≤ sumTo (T i) n ∧ sumTo (T i) n ≤ sumTo (fun a => sumTo (T a) k) k := by
  have h0 : ∀ a, a < k → 0 ≤ sumTo (T a) k := fun a ha => sumTo_nonneg (hT a ha)
  have h1 := sumTo_mono (f := T i) (m := n) (n := k) hn (hT i hi)
  have h2 := le_sumTo (f := fun a => sumTo (T a) k) hi h0
  exact ⟨sumTo_nonneg fun t ht => hT i hi t (by omega), Int.le_trans h1 h2⟩
theorem col_le (hT : ∀ a, a < k → ∀ t, t < k → 0 ≤ T a t) (hj : j < k) (n : Nat) (hn : n ≤ k) : 0 ≤ sumTo (fun a => T a j) n ∧ sumTo (fun a => T a j) n ≤ sumTo (fun a => sumTo (T a) k) k := by
  rw [sumTo_swap]
  exact row_le (T := fun j a => T a j) (fun a ha t ht => hT t ht a ha) hj n hn
end
end Go.Proofs.YtimjnkfcnpfoeaaGreatDoor
