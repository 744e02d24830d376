/-
  Contracts and laws: ScoreC RateM RateA.
-/
import Derived.Test.YtimjnkfcnpfoeaaGreatDoorC41
import Derived.RegionTactic
set_option linter.unusedSimpArgs false
set_option linter.unusedVariables false
namespace Go.Proofs.YtimjnkfcnpfoeaaGreatDoor
open Go.RowKit
def rowPtr (B0 k i : Nat) : Value := .slice (some ⟨B0 + 1 + i, 0, none⟩) k k
def outTo (B0 k i : Nat) : List Value := (List.range i).map (rowPtr B0 k) ++ List.replicate (k - i) (.slice none 0 0)
theorem outTo_get (B0 k : Nat) {i : Nat} (h : i < k) : (outTo B0 k i)[i]? = some (.slice none 0 0) := by
 unfold outTo
 rw [List.getElem?_append_right (by simp), List.getElem?_replicate, if_pos (by simp; omega)]
theorem outTo_set (B0 k : Nat) {i : Nat} (h : i < k) : (outTo B0 k i).set i (rowPtr B0 k i) = outTo B0 k (i + 1) := by
 unfold outTo
 rw [List.set_append_right _ _ (by simp), List.length_map, List.length_range, Nat.sub_self]
 obtain ⟨m, hm⟩ : ∃ m, k - i = m + 1 := ⟨k - i - 1, by omega⟩
 rw [hm, show k - (i + 1) = m by omega, List.range_succ, List.map_append, List.append_assoc]
 rfl
theorem outTo_full (B0 k : Nat) {i : Nat} (h : i < k) : (outTo B0 k k)[i]? = some (rowPtr B0 k i) := by
 unfold outTo; simp [h]
theorem cellsS_get (l : List Value) (i : Nat) : (cellsS l)[i]? = l[i]? := by unfold cellsS; simp
theorem cellsS_set (l : List Value) (i : Nat) (v : Value) : (cellsS l).setIfInBounds i v = cellsS (l.set i v) := by
 unfold cellsS; rw [List.setIfInBounds_toArray]
/-- the table's rows while it is made -/
def Made (B0 k i : Nat) (wr : World) : Prop := wr.heap.size = B0 + 1 + i ∧ Blk wr B0 22 (cellsS (outTo B0 k i)) ∧ ∀ j, j < i → Blk wr (B0 + 1 + j) 3 (cellsI (List.replicate k 0))
def Tabd (B0 k : Nat) (l l' : List Int) (r : Nat) (wr : World) : Prop := Blk wr B0 22 (cellsS (outTo B0 k k)) ∧ ∀ j, j < k → Blk wr (B0 + 1 + j) 3 (cellsI (tabRow l l' r k j))
theorem setCell_size (u : World) (p : Addr) (v : Value) : (u.setCell p v).heap.size = u.heap.size := by simp [World.setCell]
theorem Made.next {B0 k i : Nat} {wr : World} (h : Made B0 k i wr) (hi : i < k) : Made B0 k (i + 1) ((wr.setCell ⟨B0, i, none⟩ (.slice (some ⟨wr.heap.size, 0, none⟩) k k)).alloc (.cells (cellsI (List.replicate k 0)) 3)) := by
 obtain ⟨h1, h2, h3⟩ := h
 refine ⟨by rw [alloc_size, setCell_size, h1]; omega, ?_, fun j hj => ?_⟩
 ·have := h2.set_ i (.slice (some ⟨wr.heap.size, 0, none⟩) k k)
  rw [cellsS_set, h1, show (Value.slice (some ⟨B0 + 1 + i, 0, none⟩) k k) = rowPtr B0 k i from rfl, outTo_set B0 k hi] at this
  rw [h1]
  exact this.grow (Grow.alloc _ _)
 ·rcases Nat.lt_or_ge j i with hlt | hge
  ·exact ((h3 j hlt).far (p := ⟨B0, i, none⟩) (by show B0 + 1 + j ≠ B0; omega) _).grow (Grow.alloc _ _)
  ·obtain rfl : j = i := by omega
   have := Blk.new (wr.setCell ⟨B0, j, none⟩ (.slice (some ⟨wr.heap.size, 0, none⟩) k k)) 3 (cellsI (List.replicate k 0))
   rw [setCell_size, h1] at this
   rw [h1]
   exact this
theorem Tabd.next {B0 k : Nat} {l l' : List Int} {r : Nat} {wr : World} (h : Tabd B0 k l l' r wr) {p q : Nat} (hp : gi l r = (p : Int)) (hq : gi l' r = (q : Int)) (hpk : p < k) :
  Tabd B0 k l l' (r + 1) (wr.setCell ⟨B0 + 1 + p, q, none⟩ (.int .i64 (tabAt l l' r p q + 1))) := by
 refine ⟨h.1.far (p := ⟨B0 + 1 + p, q, none⟩) (by show B0 ≠ B0 + 1 + p; omega) _, fun j hj => ?_⟩
 by_cases e : j = p
 ·subst e
  have := (h.2 j hj).set_ q (.int .i64 (tabAt l l' r j q + 1))
  rw [cellsI_set, tabRow_hit l l' r k j q hp hq] at this
  exact this
 ·rw [← tabRow_miss l l' r k j (by rw [hp]; omega)]
  exact (h.2 j hj).far (p := ⟨B0 + 1 + p, q, none⟩) (by show B0 + 1 + j ≠ B0 + 1 + p; omega) _
def tabRows (B0 k : Nat) (l l' : List Int) (m : Nat) : List Rw := (List.range k).map fun i => (some ⟨B0 + 1 + i, 0, none⟩, k, tabRow l l' m k i)
theorem Tabd.rows {B0 k : Nat} {l l' : List Int} {m : Nat} {wr : World} (h : Tabd B0 k l l' m wr) : Lrows wr (some ⟨B0, 0, none⟩) (tabRows B0 k l l' m) := fun _ =>
 ⟨B0, 0, rfl, h.1.lt, fun i r hi => by
  unfold tabRows at hi
  rw [List.getElem?_map, Option.map_eq_some_iff] at hi
  obtain ⟨j, hj, rfl⟩ := hi
  rw [List.getElem?_eq_some_iff] at hj
  obtain ⟨hj1, hj2⟩ := hj
  simp only [List.length_range] at hj1
  simp only [List.getElem_range] at hj2
  subst hj2
  refine ⟨?_, li_blk (h.2 i hj1)⟩
  rw [Nat.zero_add, h.1.cell, cellsS_get, outTo_full B0 k hj1]
  simp [rowPtr, tabRow]⟩
set_option maxHeartbeats 2000000 in
set_option maxRecDepth 100000 in
theorem score_Table_ok (A B : Option Addr) (m c d k : Nat) (l l' : List Int) (hl : l.length = m) (hl' : l'.length = m) (hm0 : 0 < m) (hm : m ≤ 1099511627776) (hk1 : 1 ≤ k) (hk2 : k ≤ 12)
  (hr : ∀ i, i < m → (0 ≤ gi l i ∧ gi l i < k) ∧ 0 ≤ gi l' i ∧ gi l' i < k) (w : World) (h1 : Li w A l) (h2 : Li w B l') :
  Calls Tryz.prog 14 #[.slice A m c, .slice B m d, .int .i64 k] w fun e w' => ∃ B0 : Nat, w.heap.size ≤ B0 ∧ e = .returned (.tuple #[.slice (some ⟨B0, 0, none⟩) k k, .int .i64 0]) ∧ Lrows w' (some ⟨B0, 0, none⟩) (tabRows B0 k l l' m) ∧ Grow w w' := by
 have hp : ∀ W, Calls Tryz.prog 57 #[.slice A m c, .slice B m d] W fun e w' => e = .returned (.bool true) ∧ Grow W w' := fun W => by
  have := score_paired_ii A B m m c d W
  rw [show pairedB m m = true by unfold pairedB; simp [hm0]] at this
  exact this
 have Hp := Lib.hid hp
 have H1 := Lib.hid h1
 have H2 := Lib.hid h2
 have Hr := Lib.hid hr
 have Hl := Lib.hid hl
 have Hl' := Lib.hid hl'
 have hmk1 := make_Sint k (by omega) (k : Int) rfl
 have hmk2 := make_int k (by omega) (k : Int) rfl
 clear hp h1 h2 hr hl hl'
 go_enter Tryz.func14, Tryz.ntmps14
 go_wp2_with (go_at_call 57; ((with_reducible refine (Hp.out _).mono ?_); rintro e w1 ⟨rfl, hg1⟩))
 clear hmk1
 obtain ⟨B0, hB0⟩ : ∃ b, b = w1.heap.size := ⟨_, rfl⟩
 rw [← hB0]
 have hw1 := hg1.size
 have hst : Made B0 k 0 (w1.alloc (.cells (cellsS (List.replicate k (.slice none 0 0))) 22)) := ⟨by rw [alloc_size, hB0], by rw [hB0]; unfold outTo; exact Blk.new w1 22 _, fun j hj => by omega⟩
 have Hst := Lib.hid hst
 have hB : w.heap.size ≤ B0 := by rw [hB0]; exact hw1
 clear hst hB0
 go_loopw [27] (fun s wr => ∃ i : Nat, i ≤ k ∧ s = .int .i64 i ∧ Made B0 k i wr ∧ Grow w wr) (fun s _ => k - (intOf s).toNat)
 case atStart => exact ⟨0, Nat.zero_le _, rfl, Hst.out, hg1.trans (Grow.alloc _ _)⟩
 case round =>
  obtain ⟨i, hi, rfl, hM, hG⟩ := hrel
  have HM := Lib.hid hM
  clear hM
  rcases Nat.lt_or_ge i k with hlt | hge
  ·have hc := HM.out.2.1.cell i
   have hf := HM.out.2.1.frozen i
   have hz := HM.out.1
   rw [cellsS_get, outTo_get B0 k hlt] at hc
   have hBl : B0 < wr.heap.size := by omega
   clear hz
   go_wp2_with fail
   go_roundw
   case rel => exact ⟨i + 1, by omega, by go_num, HM.out.next hlt, (hG.setCell (p := ⟨B0, i, none⟩) hB _).trans (Grow.alloc _ _)⟩
   case measure => simp [intOf]; omega
  ·obtain rfl : i = k := by omega
   have hT : Tabd B0 i l l' 0 wr := ⟨HM.out.2.1, fun j hj => by rw [tabRow_zero]; exact HM.out.2.2 j hj⟩
   have HT := Lib.hid hT
   clear hT
   go_wp2_with fail
   obtain ⟨wo, rfl⟩ : ∃ wo : World, wo = wr := ⟨_, rfl⟩
   go_loopw [38] (fun s wr => ∃ r : Nat, r ≤ m ∧ s = .int .i64 r ∧ Tabd B0 i l l' r wr ∧ Grow w wr) (fun s _ => m - (intOf s).toNat)
   case atStart => exact ⟨0, Nat.zero_le _, rfl, HT.out, hG⟩
   case round =>
    obtain ⟨r, hr, rfl, hT, hG⟩ := hrel
    have HT := Lib.hid hT
    clear hT
    rcases Nat.lt_or_ge r m with hlt | hge
    ·obtain ⟨⟨a1, a2⟩, a3, a4⟩ := Hr.out r hlt
     obtain ⟨b1, o1, rfl, hc1⟩ := (H1.out.grow hG).cell (i := r) (by rw [Hl.out]; exact hlt)
     obtain ⟨b2, o2, rfl, hc2⟩ := (H2.out.grow hG).cell (i := r) (by rw [Hl'.out]; exact hlt)
     obtain ⟨p, hp⟩ : ∃ p : Nat, gi l r = (p : Int) := ⟨(gi l r).toNat, by omega⟩
     obtain ⟨q, hq⟩ : ∃ q : Nat, gi l' r = (q : Int) := ⟨(gi l' r).toNat, by omega⟩
     rw [hp] at hc1 a1 a2
     rw [hq] at hc2 a3 a4
     have hc3 := HT.out.1.cell p
     rw [cellsS_get, outTo_full B0 i (by omega)] at hc3
     have hc4 := (HT.out.2 p (by omega)).cell q
     rw [cellsI_get, tabRow_get l l' r i p (by omega)] at hc4
     have hf4 := (HT.out.2 p (by omega)).frozen q
     simp only [Option.map_some, rowPtr] at hc3 hc4
     have hb := tabAt_le l l' r p q
     have hnx := HT.out.next hp hq (by omega)
     obtain ⟨v, hv⟩ : ∃ v, v = tabAt l l' r p q := ⟨_, rfl⟩
     rw [← hv] at hc4 hb hnx
     have Hnx := Lib.hid hnx
     have Hp := Lib.hid hp
     have Hq := Lib.hid hq
     clear hp hq hnx hv a1 a3
     have hpi : (p : Int) < (i : Int) := by omega
     have hqi : (q : Int) < (i : Int) := by omega
     have hmin : ¬ (min (p : Int) (q : Int) < 0) := by omega
     have hmax : ¬ ((i : Int) ≤ max (p : Int) (q : Int)) := by omega
     go_wp2_with fail
     go_roundw
     case rel => exact ⟨r + 1, by omega, by go_num, Hnx.out, hG.setCell (p := ⟨B0 + 1 + p, q, none⟩) (by show _ ≤ B0 + 1 + p; omega) _⟩
     case measure => simp [intOf]; omega
    ·obtain rfl : r = m := by omega
     go_wp2_with fail
     go_ret2
     exact ⟨B0, hB, rfl, HT.out.rows, hG⟩
end Go.Proofs.YtimjnkfcnpfoeaaGreatDoor
namespace Go.Proofs.YtimjnkfcnpfoeaaGreatDoor
def sumTo (f : Nat → Int) : Nat → Int
 | 0 => 0
 | n + 1 => sumTo f n + f n
theorem sumTo_nonneg {f : Nat → Int} {n : Nat} (h : ∀ i, i < n → 0 ≤ f i) : 0 ≤ sumTo f n := by
 induction n with
 | zero => exact Int.le_refl _
 | succ n ih => simp only [sumTo]; have := h n (by omega); have := ih fun i hi => h i (by omega); omega
theorem sumTo_mono {f : Nat → Int} {m n : Nat} (hmn : m ≤ n) (h : ∀ i, i < n → 0 ≤ f i) : sumTo f m ≤ sumTo f n := by
  induction n with
  | zero => obtain rfl : m = 0 := by omega
            exact Int.le_refl _
  | succ n ih =>
    by_cases e : m = n + 1
    · subst e; exact Int.le_refl _
    · simp only [sumTo]; have := h n (by omega); have := ih (by omega) fun i hi => h i (by omega); omega
theorem sumTo_add (f g : Nat → Int) (n : Nat) : sumTo (fun i => f i + g i) n = sumTo f n + sumTo g n := by
 induction n with
 | zero => rfl
 | succ n ih => simp only [sumTo]; rw [ih]; omega
theorem sumTo_swap (f : Nat → Nat → Int) (m n : Nat) : sumTo (fun i => sumTo (f i) n) m = sumTo (fun j => sumTo (fun i => f i j) m) n := by
 induction m with
 | zero =>
  have : sumTo (fun _ => (0 : Int)) n = 0 := by induction n with
   | zero => rfl
   | succ n ih => simp only [sumTo]; omega
  simp only [sumTo]; rw [this]
 | succ m ih => simp only [sumTo]; rw [ih, ← sumTo_add]
theorem le_sumTo {f : Nat → Int} {n i : Nat} (hi : i < n) (h : ∀ i, i < n → 0 ≤ f i) : f i ≤ sumTo f n := by
 have h1 := sumTo_mono (m := i + 1) (n := n) (by omega) h
 have h2 := sumTo_nonneg (f := f) (n := i) fun j hj => h j (by omega)
 simp only [sumTo] at h1
 omega
/-- the rows' and the columns' sums while they are made: i rows are done, j entries of the next -/
def rowL (k : Nat) (T : Nat → Nat → Int) (i j : Nat) : List Int := (List.range k).map fun a => if a < i then sumTo (T a) k else if a = i then sumTo (T i) j else 0
def colL (k : Nat) (T : Nat → Nat → Int) (i j : Nat) : List Int := (List.range k).map fun t => sumTo (fun a => T a t) i + if t < j then T i t else 0
def allS (k : Nat) (T : Nat → Nat → Int) (i j : Nat) : Int := sumTo (fun a => sumTo (T a) k) i + sumTo (T i) j
section
variable {k : Nat} {T : Nat → Nat → Int} {i j : Nat}
theorem rowL_get (hi : i < k) : (rowL k T i j)[i]? = some (sumTo (T i) j) := by unfold rowL; simp [hi]
theorem rowL_set (hi : i < k) : (rowL k T i j).set i (sumTo (T i) j + T i j) = rowL k T i (j + 1) := by
 unfold rowL
 refine List.ext_getElem (by simp) fun t h1 h2 => ?_
 rw [List.getElem_set]
 simp only [List.getElem_map, List.getElem_range]
 by_cases e : i = t
 ·subst e; simp [sumTo]
 ·rw [if_neg e, if_neg (show ¬ t = i by omega), if_neg (show ¬ t = i by omega)]
theorem rowL_next (hi : i < k) : rowL k T i k = rowL k T (i + 1) 0 := by
 unfold rowL
 refine List.map_congr_left fun t ht => ?_
 rcases Nat.lt_trichotomy t i with h | h | h
 ·rw [if_pos h, if_pos (by omega)]
 ·subst h; simp
 ·rw [if_neg (by omega), if_neg (by omega), if_neg (by omega)]
  split <;> rfl
theorem rowL_start : rowL k T 0 0 = List.replicate k 0 := by
 unfold rowL
 refine List.ext_getElem (by simp) fun t h1 h2 => ?_
 simp [sumTo]
theorem rowL_end (hi : i < k) : (rowL k T k 0)[i]? = some (sumTo (T i) k) := by unfold rowL; simp [hi]
theorem colL_get (hj : j < k) : (colL k T i j)[j]? = some (sumTo (fun a => T a j) i) := by unfold colL; simp [hj]
theorem colL_set (hj : j < k) : (colL k T i j).set j (sumTo (fun a => T a j) i + T i j) = colL k T i (j + 1) := by
 unfold colL
 refine List.ext_getElem (by simp) fun t h1 h2 => ?_
 rw [List.getElem_set]
 simp only [List.getElem_map, List.getElem_range]
 by_cases e : j = t
 ·subst e; simp
 ·rw [if_neg e]
  by_cases h : t < j
  ·rw [if_pos h, if_pos (by omega)]
  ·rw [if_neg h, if_neg (by omega)]
theorem colL_next : colL k T i k = colL k T (i + 1) 0 := by
 unfold colL
 refine List.map_congr_left fun t ht => ?_
 rw [if_pos (List.mem_range.1 ht)]
 simp [sumTo]
theorem colL_start : colL k T 0 0 = List.replicate k 0 := by
 unfold colL
 refine List.ext_getElem (by simp) fun t h1 h2 => ?_
 simp [sumTo]
theorem colL_end (hi : i < k) : (colL k T k 0)[i]? = some (sumTo (fun a => T a i) k) := by unfold colL; simp [hi]
theorem allS_succ : allS k T i (j + 1) = allS k T i j + T i j := by unfold allS; simp only [sumTo]; omega
theorem allS_next : allS k T i k = allS k T (i + 1) 0 := by unfold allS; simp only [sumTo]; omega
theorem allS_le (hT : ∀ a, a < k → ∀ t, t < k → 0 ≤ T a t) (hi : i < k) (hj : j < k) : 0 ≤ allS k T i j ∧ allS k T i j + T i j ≤ sumTo (fun a => sumTo (T a) k) k ∧ 0 ≤ T i j := by
 have h0 : ∀ a, a < k → 0 ≤ sumTo (T a) k := fun a ha => sumTo_nonneg (hT a ha)
 have h1 := sumTo_mono (f := fun a => sumTo (T a) k) (m := i + 1) (n := k) (by omega) h0
 have h2 := sumTo_mono (f := T i) (m := j + 1) (n := k) (by omega) (hT i hi)
 have h3 := sumTo_nonneg (f := fun a => sumTo (T a) k) (n := i) fun a ha => h0 a (by omega)
 have h4 := sumTo_nonneg (f := T i) (n := j) fun t ht => hT i hi t (by omega)
 simp only [sumTo] at h1 h2
 unfold allS
 exact ⟨by omega, by omega, hT i hi j hj⟩
theorem row_le (hT : ∀ a, a < k → ∀ t, t < k → 0 ≤ T a t) (hi : i < k) (n : Nat) (hn : n ≤ k) : 0 ≤ sumTo (T i) n ∧ sumTo (T i) n ≤ sumTo (fun a => sumTo (T a) k) k := by
 have h0 : ∀ a, a < k → 0 ≤ sumTo (T a) k := fun a ha => sumTo_nonneg (hT a ha)
 have h1 := sumTo_mono (f := T i) (m := n) (n := k) hn (hT i hi)
 have h2 := le_sumTo (f := fun a => sumTo (T a) k) hi h0
 exact ⟨sumTo_nonneg fun t ht => hT i hi t (by omega), Int.le_trans h1 h2⟩
theorem col_le (hT : ∀ a, a < k → ∀ t, t < k → 0 ≤ T a t) (hj : j < k) (n : Nat) (hn : n ≤ k) : 0 ≤ sumTo (fun a => T a j) n ∧ sumTo (fun a => T a j) n ≤ sumTo (fun a => sumTo (T a) k) k := by
 rw [sumTo_swap]
 exact row_le (T := fun j a => T a j) (fun a ha t ht => hT t ht a ha) hj n hn
end
end Go.Proofs.YtimjnkfcnpfoeaaGreatDoor
namespace Go.Proofs.YtimjnkfcnpfoeaaGreatDoor
open Go.RowKit
/-- a square table that lies in memory -/
def Tb (w : World) (bt ot k : Nat) (rb ro rc : Nat → Nat) (T : Nat → Nat → Int) : Prop :=
 bt < w.heap.size ∧ ∀ i, i < k → w.cell? ⟨bt, ot + i, none⟩ = some (.slice (some ⟨rb i, ro i, none⟩) k (rc i)) ∧ rb i < w.heap.size ∧ ∀ j, j < k → w.cell? ⟨rb i, ro i + j, none⟩ = some (.int .i64 (T i j))
theorem Tb.grow {w u : World} {bt ot k : Nat} {rb ro rc : Nat → Nat} {T : Nat → Nat → Int} (h : Tb w bt ot k rb ro rc T) (hg : Grow w u) : Tb u bt ot k rb ro rc T :=
 ⟨Nat.lt_of_lt_of_le h.1 hg.size, fun i hi => ⟨(hg.cell (p := ⟨bt, ot + i, none⟩) h.1).trans (h.2 i hi).1, Nat.lt_of_lt_of_le (h.2 i hi).2.1 hg.size, fun j hj => (hg.cell (p := ⟨rb i, ro i + j, none⟩) (h.2 i hi).2.1).trans ((h.2 i hi).2.2 j hj)⟩⟩
/-- the cells of a fraction, of a rate -/
def qL (q : Rat) : List Value := [.bool (intNeg q.num), .int .u64 (natLo q.num.natAbs), .string (natMo q.num.natAbs), .int .u64 (natLo (keptDen q.den)), .string (natMo (keptDen q.den))]
abbrev R3 := Rat × Rat × Rat
def rL (r : R3) : List Value := qL r.1 ++ qL r.2.1 ++ qL r.2.2
def cellsR (l : List R3) : Array Value := (l.flatMap rL).toArray
theorem rL_len (r : R3) : (rL r).length = 15 := rfl
theorem flat_len (l : List R3) : (l.flatMap rL).length = 15 * l.length := by
 induction l with
 | nil => rfl
 | cons x l ih => rw [List.flatMap_cons, List.length_append, ih, rL_len, List.length_cons]; omega
theorem flat_get (l : List R3) {i : Nat} (hi : i < l.length) {j : Nat} (hj : j < 15) : (l.flatMap rL)[15 * i + j]? = (rL l[i])[j]? := by
 induction l generalizing i with
 | nil => cases hi
 | cons x l ih =>
  rw [List.flatMap_cons]
  cases i with
  | zero =>
   rw [Nat.mul_zero, Nat.zero_add, List.getElem?_append_left (by rw [rL_len]; exact hj)]
   rfl
  | succ i =>
   rw [List.getElem?_append_right (by rw [rL_len]; omega), rL_len, show 15 * (i + 1) + j - 15 = 15 * i + j by omega]
   exact ih (by simpa using hi)
theorem cellsR_get (l : List R3) {i : Nat} (hi : i < l.length) {j : Nat} (hj : j < 15) : (cellsR l)[15 * i + j]? = (rL l[i])[j]? := by
 unfold cellsR; rw [List.getElem?_toArray, flat_get l hi hj]
theorem info_Rate : (Tryz.prog.info? 58).map (fun i => (i.zero, i.size, i.bytes)) = some (some (.agg (rL (0, 0, 0)).toArray), 15, 168) := by kernel_rfl
theorem cells_madeR (n : Nat) : madeCells (Value.agg (rL (0, 0, 0)).toArray).cells (n * 15) = cellsR (List.replicate n (0, 0, 0)) := by
 unfold cellsR madeCells
 refine Array.ext (by simp [flat_len, rL_len]) fun i h1 h2 => ?_
 have hi : i < n * 15 := by simpa using h1
 have e : i = 15 * (i / 15) + i % 15 := by omega
 have hg := flat_get (List.replicate n ((0, 0, 0) : R3)) (i := i / 15) (by rw [List.length_replicate]; omega) (j := i % 15) (by omega)
 rw [← e, List.getElem_replicate] at hg
 simp only [Value.cells, Array.getElem_ofFn]
 have h3 : ((List.replicate n ((0, 0, 0) : R3)).flatMap rL)[i]? = some ((List.replicate n ((0, 0, 0) : R3)).flatMap rL)[i] := List.getElem?_eq_getElem _
 rw [h3] at hg
 have h4 : (rL (0, 0, 0))[i % 15]? = some ((rL (0, 0, 0))[i % 15]'(by rw [rL_len]; omega)) := List.getElem?_eq_getElem _
 rw [h4] at hg
 injection hg with hg
 simp only [List.getElem_toArray]
 rw [hg]
 simp [rL_len]
 rw [h4]
 rfl
theorem make_Rate (n : Nat) (hn : n ≤ 1048576) (x : Int) (hx : x = n) (W : World) : (Instr.makeSlice 53 (.int .i64 x) (.int .i64 x)).run Tryz.prog W =
  .ok (.slice (some ⟨W.heap.size, 0, none⟩) n n) (W.alloc (.cells (cellsR (List.replicate n (0, 0, 0))) 58)) := by
 obtain ⟨i0, hi0, hz0, hz1, hz2⟩ := info_parts info_Rate
 have hr := run_make (P := Tryz.prog) W 53 58 i0 (.agg (rL (0, 0, 0)).toArray) Tryz.underlying53 hi0 hz0 .i64 .i64 n n (by omega) (by omega) (by rw [hz2]; omega) (by omega)
 rw [hx]
 rw [hr, hz1]
 simp only [Int.toNat_natCast]
 rw [cells_madeR]
/-- a class's rates -/
def precAt (k : Nat) (T : Nat → Nat → Int) (i : Nat) : Rat := qover (T i i) (sumTo (fun a => T a i) k)
def recAt (k : Nat) (T : Nat → Nat → Int) (i : Nat) : Rat := qover (T i i) (sumTo (T i) k)
def prodAt (k : Nat) (T : Nat → Nat → Int) (i : Nat) : Rat := qmul (precAt k T i) (recAt k T i)
def bothAt (k : Nat) (T : Nat → Nat → Int) (i : Nat) : Rat := qdiv (qadd (prodAt k T i) (prodAt k T i)) (qadd (precAt k T i) (recAt k T i))
def rateAt (k : Nat) (T : Nat → Nat → Int) (i : Nat) : R3 := (precAt k T i, recAt k T i, bothAt k T i)
def rateTo (k : Nat) (T : Nat → Nat → Int) (a : Nat) : List R3 := (List.range k).map fun i => if i < a then rateAt k T i else (0, 0, 0)
theorem rateTo_start (k : Nat) (T : Nat → Nat → Int) : rateTo k T 0 = List.replicate k (0, 0, 0) := by
 unfold rateTo
 refine List.ext_getElem (by simp) fun t h1 h2 => ?_
 simp
theorem newObj_Rate (d : Option Tmp) (ty : TypeId) (pos : String) (af : Array Edge) (gd : Option (Nat × Bool)) : newObj Tryz.prog ⟨d, .alloc 58, ty, pos, af, gd⟩ = .cells #[.bool false, .int .u64 0, .string ⟨#[]⟩, .int .u64 0, .string ⟨#[]⟩, .bool false, .int .u64 0, .string ⟨#[]⟩, .int .u64 0, .string ⟨#[]⟩, .bool false, .int .u64 0, .string ⟨#[]⟩, .int .u64 0, .string ⟨#[]⟩] 58 := by kernel_rfl
theorem allocs3 : ∀ t ∈ [28, 30, 32, 39, 41, 58], AllocT Tryz.prog t := by
 intro t ht
 simp only [List.mem_cons, List.not_mem_nil, or_false] at ht
 rcases ht with rfl | rfl | rfl | rfl | rfl | rfl
 ·exact fun _ _ _ _ _ _ => by rw [newObj_Nat]; kernel_rfl
 ·exact fun _ _ _ _ _ _ => by rw [newObj_Int]; kernel_rfl
 ·exact fun _ _ _ _ _ _ => by rw [newObj_Q]; kernel_rfl
 ·exact fun _ _ _ _ _ _ => by rw [newObj_RInt]; kernel_rfl
 ·exact fun _ _ _ _ _ _ => by rw [newObj_RQ]; kernel_rfl
 ·exact fun _ _ _ _ _ _ => by rw [newObj_Rate]; kernel_rfl
theorem over_sub (x : Int) (y : Nat) (n d : Int) (s : Nat) (hn : n.natAbs < 2 ^ s) (hd : d.natAbs < 2 ^ s) (hs : 1 ≤ s) : qs (qover n d) ≤ s := by
 by_cases h0 : d = 0
 ·subst h0
  unfold qover
  rw [Rat.divInt_zero]
  exact qs_int 0 s (by simp; exact Nat.two_pow_pos s) hs
 ·refine Nat.max_le.2 ⟨?_, ?_⟩
  ·rw [over_num n d h0, sgn_abs]
   exact Nat.le_trans (bl_div_le _ _) (bl_le.2 hn)
  ·rw [over_den n d h0]
   exact Nat.le_trans (bl_div_le _ _) (bl_le.2 hd)
theorem wrAll_size (vs : List Value) : ∀ (cs : Array Value) (i : Nat), (wrAll cs i vs).size = cs.size := by
 induction vs with
 | nil => intro cs i; rfl
 | cons v vs ih => intro cs i; simp only [wrAll]; rw [ih]; simp
theorem wrAll_get (vs : List Value) : ∀ (cs : Array Value) (i t : Nat), t < cs.size → (wrAll cs i vs)[t]? = if i ≤ t ∧ t < i + vs.length then vs[t - i]? else cs[t]? := by
 induction vs with
 | nil => intro cs i t _; simp only [wrAll, List.length_nil]; rw [if_neg (by omega)]
 | cons v vs ih =>
  intro cs i t ht
  simp only [wrAll]
  rw [ih _ _ _ (by simpa using ht)]
  by_cases e : t = i
  ·subst e
   rw [if_neg (by omega), if_pos (by simp)]
   simp [ht]
  ·by_cases h : i + 1 ≤ t ∧ t < i + 1 + vs.length
   ·rw [if_pos h, if_pos (by simp; omega), show t - i = (t - (i + 1)) + 1 by omega, List.getElem?_cons_succ]
   ·rw [if_neg h, if_neg (by simp; omega), Array.getElem?_setIfInBounds_ne (by omega)]
theorem cellsR_size (l : List R3) : (cellsR l).size = 15 * l.length := by unfold cellsR; rw [List.size_toArray, flat_len]
theorem wrAll_rate (l : List R3) {a : Nat} (ha : a < l.length) (r : R3) : wrAll (cellsR l) (a * 15) (rL r) = cellsR (l.set a r) := by
 refine Array.ext_getElem? fun t => ?_
 rcases Nat.lt_or_ge t (15 * l.length) with ht | ht
 ·rw [wrAll_get _ _ _ _ (by rw [cellsR_size]; exact ht), rL_len]
  have e : t = 15 * (t / 15) + t % 15 := by omega
  have h1 := cellsR_get (l.set a r) (i := t / 15) (by rw [List.length_set]; omega) (j := t % 15) (by omega)
  have h2 := cellsR_get l (i := t / 15) (by omega) (j := t % 15) (by omega)
  rw [← e] at h1 h2
  rw [h1, h2, List.getElem_set]
  by_cases h : a * 15 ≤ t ∧ t < a * 15 + 15
  ·rw [if_pos h, if_pos (by omega), show t - a * 15 = t % 15 by omega]
  ·rw [if_neg h, if_neg (by omega)]
 ·rw [Array.getElem?_eq_none (by rw [wrAll_size, cellsR_size]; exact ht), Array.getElem?_eq_none (by rw [cellsR_size, List.length_set]; exact ht)]
theorem rateTo_len (k : Nat) (T : Nat → Nat → Int) (a : Nat) : (rateTo k T a).length = k := by unfold rateTo; simp
theorem rateTo_set (k : Nat) (T : Nat → Nat → Int) {a : Nat} (h : a < k) : (rateTo k T a).set a (rateAt k T a) = rateTo k T (a + 1) := by
 unfold rateTo
 refine List.ext_getElem (by simp) fun t h1 h2 => ?_
 rw [List.getElem_set]
 simp only [List.getElem_map, List.getElem_range]
 by_cases e : a = t
 ·subst e; simp
 ·rw [if_neg e]
  by_cases h3 : t < a
  ·rw [if_pos h3, if_pos (by omega)]
  ·rw [if_neg h3, if_neg (by omega)]
theorem old_cell (k : Nat) (T : Nat → Nat → Int) (c a : Nat) (h : a < k) (j : Nat) (hj : j < 15) : ∃ v, (cellsR (rateTo k T c))[a * 15 + j]? = some v := by
 rw [Nat.mul_comm, cellsR_get _ (by rw [rateTo_len]; exact h) hj, List.getElem?_eq_getElem (by rw [rL_len]; exact hj)]
 exact ⟨_, rfl⟩
theorem wr_rate (k : Nat) (T : Nat → Nat → Int) {a : Nat} (h : a < k) (p r b : Rat) (hr : rateAt k T a = (p, r, b)) : wrAll (cellsR (rateTo k T a)) (a * 15) (qL p ++ qL r ++ qL b) = cellsR (rateTo k T (a + 1)) := by
 have := wrAll_rate (rateTo k T a) (a := a) (by rw [rateTo_len]; exact h) (rateAt k T a)
 rw [rateTo_set k T h, hr] at this
 exact this
end Go.Proofs.YtimjnkfcnpfoeaaGreatDoor
