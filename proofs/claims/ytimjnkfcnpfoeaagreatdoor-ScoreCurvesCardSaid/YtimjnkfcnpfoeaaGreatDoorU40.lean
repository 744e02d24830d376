/-
  Contracts and laws: Apart CurveR RefQ ScoreE ScoreH SheetA CurveX AreaP Fast AreaA.
-/
import Derived.Test.YtimjnkfcnpfoeaaGreatDoorU39
set_option linter.unusedSimpArgs false
set_option linter.unusedVariables false
namespace Go.Proofs.YtimjnkfcnpfoeaaGreatDoor
open Go Go.RowKit
/-- two rows lie in two blocks -/
def Apart (v v2 : Value) : Prop := ∀ g, v.ownBlock = some g → v2.ownBlock = some g → False
theorem Apart.symm {v v2 : Value} (h : Apart v v2) : Apart v2 v := fun g h1 h2 => h g h2 h1
end Go.Proofs.YtimjnkfcnpfoeaaGreatDoor
namespace Go.Proofs.YtimjnkfcnpfoeaaGreatDoor
theorem gq_gett {l : List Rat} {i : Nat} (h : i < l.length) : gq l i = l[i] := by
 unfold gq
 rw [List.getElem?_eq_getElem h]
 rfl
/-- the document's points: from the sorted list's end down, counted over all -/
def refPts (is : List Bool) (l : List Rat) (n : Nat) : Nat → List (Nat × Nat)
 | 0 => [(0, 0)]
 | j + 1 => refPts is l n j ++ (if 0 < n - 1 - j ∧ gq (rsort l) (n - 1 - j) = gq (rsort l) (n - 1 - j - 1) then [] else
   [(cnt (fun i => decide (gq (rsort l) (n - 1 - j) ≤ gq l i) && !gb is i) n, cnt (fun i => decide (gq (rsort l) (n - 1 - j) ≤ gq l i) && gb is i) n)])
theorem cnt_cong {f g : Nat → Bool} : ∀ n, (∀ i, i < n → f i = g i) → cnt f n = cnt g n
 | 0, _ => rfl
 | n + 1, h => by
  show cnt f n + _ = cnt g n + _
  rw [cnt_cong n fun i hi => h i (by omega), h n (by omega)]
theorem cnt_none (n : Nat) : cnt (fun _ => false) n = 0 := by
 induction n with
 | zero => rfl
 | succ n ih => show cnt _ n + _ = 0; rw [ih]; rfl
theorem cnt_not (t : Nat → Bool) : ∀ n, cnt (fun i => !t i) n = n - cnt t n
 | 0 => rfl
 | n + 1 => by
  have := cnt_lek t n
  show cnt _ n + (if !t n then 1 else 0) = n + 1 - (cnt t n + if t n then 1 else 0)
  rw [cnt_not t n]
  cases t n <;> simp <;> omega
theorem down_sorted {l : List Rat} {n : Nat} {o : List Nat} (hl : l.length = n) (h : Down l n o) {i : Nat} (hi : i < n) : gq (rsort l) (n - 1 - i) = gq l (at0 o i) := by
 have ho : o.length = n := by rw [h.1.length_eq, List.length_range]
 have hp : ((o.map (gq l)).reverse).Perm l := by
  refine (List.reverse_perm _).trans ((h.1.map (gq l)).trans ?_)
  have : (List.range n).map (gq l) = l := by
   apply List.ext_getElem
   ·simp [hl]
   ·intro i h1 h2
    simp [gq, h2]
  rw [this]
 have hg : ∀ j, j < n → gq ((o.map (gq l)).reverse) j = gq l (at0 o (n - 1 - j)) := fun j hj => by
  rw [gq_gett (by simp; omega)]
  simp only [List.getElem_reverse, List.getElem_map, List.length_map, ho]
  unfold at0
  rw [List.getElem?_eq_getElem (by omega)]
  rfl
 have hs : ((o.map (gq l)).reverse).Pairwise (· ≤ ·) := by
  rw [List.pairwise_iff_getElem]
  intro i j hi hj hij
  have hin : i < n := by simp at hi; omega
  have hjn : j < n := by simp at hj; omega
  have e1 := hg i hin
  have e2 := hg j hjn
  have e3 : gq ((o.map (gq l)).reverse) i = ((o.map (gq l)).reverse)[i] := gq_gett hi
  have e4 : gq ((o.map (gq l)).reverse) j = ((o.map (gq l)).reverse)[j] := gq_gett hj
  rw [← e3, ← e4, e1, e2]
  exact h.2 _ _ (by omega) (by omega)
 rw [← rsort_uniq hp hs, hg _ (by omega), show n - 1 - (n - 1 - i) = i by omega]
theorem refPts_eq {is : List Bool} {l : List Rat} {n : Nat} {o : List Nat} (hl : l.length = n) (h : Down l n o) : ∀ j, j ≤ n → refPts is l n j = ptsN (fun i => gb is (at0 o i)) (fun i => gq l (at0 o i)) n j
 | 0, _ => rfl
 | j + 1, hj => by
  show refPts is l n j ++ _ = ptsN _ _ n j ++ _
  rw [refPts_eq hl h j (by omega), down_sorted hl h (show j < n by omega)]
  congr 1
  by_cases hend : j + 1 = n
  ·rw [if_neg (by omega), if_pos (Or.inl hend)]
   have hall : ∀ i, i < n → gq l (at0 o j) ≤ gq l (at0 o i) := fun i hi => by
    rcases Nat.eq_or_lt_of_le (show i ≤ j by omega) with rfl | hlt
    ·exact Rat.le_refl
    ·exact h.2 _ _ hlt (by omega)
   have e1 : cnt (fun i => decide (gq l (at0 o j) ≤ gq l i) && !gb is i) n = cnt (fun i => !gb is (at0 o i)) n := by
    rw [← cnt_perm h.1]
    exact cnt_cong n fun i hi => by simp [hall i hi]
   have e2 : cnt (fun i => decide (gq l (at0 o j) ≤ gq l i) && gb is i) n = cnt (fun i => gb is (at0 o i)) n := by
    rw [← cnt_perm h.1]
    exact cnt_cong n fun i hi => by simp [hall i hi]
   rw [e1, e2, cnt_not (fun i => gb is (at0 o i)), hend]
  ·rw [show n - 1 - j - 1 = n - 1 - (j + 1) by omega, down_sorted hl h (show j + 1 < n by omega)]
   by_cases hv : gq l (at0 o (j + 1)) = gq l (at0 o j)
   ·rw [if_pos ⟨by omega, hv.symm⟩, if_neg (by rintro (h | h); exact hend h; exact h hv)]
   ·rw [if_neg (fun h => hv h.2.symm), if_pos (Or.inr hv)]
    have hlt : gq l (at0 o (j + 1)) < gq l (at0 o j) := by
     have := h.2 j (j + 1) (by omega) (by omega)
     grind
    have hup : ∀ i, i < n → (gq l (at0 o j) ≤ gq l (at0 o i) ↔ i < j + 1) := fun i hi => by
     constructor
     ·intro hle
      refine Decidable.byContradiction fun hc => ?_
      have : gq l (at0 o i) ≤ gq l (at0 o (j + 1)) := by
       rcases Nat.eq_or_lt_of_le (show j + 1 ≤ i by omega) with rfl | hq
       ·exact Rat.le_refl
       ·exact h.2 _ _ hq (by omega)
      grind
     ·intro hlt
      rcases Nat.eq_or_lt_of_le (show i ≤ j by omega) with rfl | hq
      ·exact Rat.le_refl
      ·exact h.2 _ _ hq (by omega)
    have cut : ∀ f : Nat → Bool, cnt (fun i => decide (gq l (at0 o j) ≤ gq l (at0 o i)) && f i) n = cnt f (j + 1) := fun f => by
     rw [cnt_split _ (j + 1) n (by omega)]
     rw [cnt_cong (g := f) (j + 1) fun i hi => by simp [(hup i (by omega)).2 hi]]
     rw [cnt_cong (g := fun _ => false) (n - (j + 1)) fun i hi => by
      have : ¬ gq l (at0 o j) ≤ gq l (at0 o (j + 1 + i)) := fun hh => by have := (hup (j + 1 + i) (by omega)).1 hh; omega
      simp [this]]
     rw [cnt_none, Nat.add_zero]
    have e1 : cnt (fun i => decide (gq l (at0 o j) ≤ gq l i) && !gb is i) n = cnt (fun i => !gb is (at0 o i)) (j + 1) := by
     rw [← cnt_perm h.1]
     exact cut (fun i => !gb is (at0 o i))
    have e2 : cnt (fun i => decide (gq l (at0 o j) ≤ gq l i) && gb is i) n = cnt (fun i => gb is (at0 o i)) (j + 1) := by
     rw [← cnt_perm h.1]
     exact cut (fun i => gb is (at0 o i))
    rw [e1, e2, cnt_not (fun i => gb is (at0 o i))]
end Go.Proofs.YtimjnkfcnpfoeaaGreatDoor
namespace Go.Proofs.YtimjnkfcnpfoeaaGreatDoor
open Go.RowKit
theorem qint_zero : qint 0 = 0 := rfl
abbrev zCellsR (p : Az) (q : Rat) : Array Value := #[.bool (intNeg q.num), .slice p.1.1 (ln q.num.natAbs) p.1.2, .slice p.2.1 (ln q.den) p.2.2]
abbrev zNone : Array Value := #[.bool false, .slice none 0 0, .slice none 0 0]
theorem qint_nz {n : Nat} (h : 0 < n) : qint (n : Nat) ≠ 0 := fun h0 => by
 have h1 := qint_num (n : Int)
 rw [h0] at h1
 have : (0 : Rat).num = 0 := rfl
 omega
end Go.Proofs.YtimjnkfcnpfoeaaGreatDoor
namespace Go.Proofs.YtimjnkfcnpfoeaaGreatDoor
open Go.RowKit
abbrev qCells (q : Rat) : Array Value := #[.bool (intNeg q.num), .int .u64 (natLo q.num.natAbs), .string (natMo q.num.natAbs), .int .u64 (natLo (keptDen q.den)), .string (natMo (keptDen q.den))]
/-- what the closure of Told reads -/
def OneLq (b2 b8 : Nat) (A : Option Addr) (m c : Nat) (l : List Rat) (q : Rat) (W : World) : Prop :=
 Blk W b2 67 #[.slice A m c] ∧ Blk W b8 32 (qCells q) ∧ Lq W A l
theorem OneLq.mk {b2 b8 : Nat} {A : Option Addr} {m c : Nat} {l : List Rat} {q : Rat} {u : World} (h1 : Blk u b2 67 #[.slice A m c]) (h2 : Blk u b8 32 (qCells q)) (h3 : Lq u A l) : OneLq b2 b8 A m c l q u := ⟨h1, h2, h3⟩
theorem OneLq.grow {b2 b8 : Nat} {A : Option Addr} {m c : Nat} {l : List Rat} {q : Rat} {u u' : World} (hg : Grow u u') (h : OneLq b2 b8 A m c l q u) : OneLq b2 b8 A m c l q u' := ⟨h.1.grow hg, h.2.1.grow hg, h.2.2.grow hg⟩
end Go.Proofs.YtimjnkfcnpfoeaaGreatDoor
namespace Go.Proofs.YtimjnkfcnpfoeaaGreatDoor
open Go.RowKit
/-- what the closure of Tilt reads -/
def FourLq (b3 b4 b5 b8 : Nat) (A B : Option Addr) (m c d : Nat) (l l' : List Rat) (a : Rat) (W : World) : Prop :=
 Blk W b3 67 #[.slice A m c] ∧ Blk W b4 67 #[.slice B m d] ∧ Blk W b5 32 (qCells a) ∧ Blk W b8 32 (qCells (qint 1)) ∧ Lq W A l ∧ Lq W B l'
theorem FourLq.mk {b3 b4 b5 b8 : Nat} {A B : Option Addr} {m c d : Nat} {l l' : List Rat} {a : Rat} {u : World} (h1 : Blk u b3 67 #[.slice A m c]) (h2 : Blk u b4 67 #[.slice B m d]) (h3 : Blk u b5 32 (qCells a)) (h4 : Blk u b8 32 (qCells (qint 1))) (h5 : Lq u A l) (h6 : Lq u B l') : FourLq b3 b4 b5 b8 A B m c d l l' a u := ⟨h1, h2, h3, h4, h5, h6⟩
theorem FourLq.grow {b3 b4 b5 b8 : Nat} {A B : Option Addr} {m c d : Nat} {l l' : List Rat} {a : Rat} {u u' : World} (hg : Grow u u') (h : FourLq b3 b4 b5 b8 A B m c d l l' a u) : FourLq b3 b4 b5 b8 A B m c d l l' a u' :=
 ⟨h.1.grow hg, h.2.1.grow hg, h.2.2.1.grow hg, h.2.2.2.1.grow hg, h.2.2.2.2.1.grow hg, h.2.2.2.2.2.grow hg⟩
end Go.Proofs.YtimjnkfcnpfoeaaGreatDoor
namespace Go.Proofs.YtimjnkfcnpfoeaaGreatDoor
open Go.RowKit
/-- a fraction of the document's and an error -/
def RetE (q : Rat) (k : Int) (w : World) : Ending → World → Prop := RetY (fun p : Az => .tuple #[rzV p q, .int .i64 k]) (fun p W => Rz W p q) w
/-- fractions of the document's that lie beside the boxes bs -/
def LzX (u : World) (bs : List Nat) (A : Option Addr) (l : List Rat) : Prop := Lz u A l ∧ (∀ b off, A = some ⟨b, off, none⟩ → b ∉ bs) ∧ 0 < l.length
theorem LzX.a {u : World} {bs : List Nat} {A : Option Addr} {l : List Rat} (h : LzX u bs A l) : Lz u A l := h.1
theorem LzX.grow {u u' : World} {bs : List Nat} {A : Option Addr} {l : List Rat} (h : LzX u bs A l) (hg : Grow u u') : LzX u' bs A l := ⟨h.1.grow hg, h.2⟩
theorem Cz.far {u : World} {b i : Nat} {p : Az} {q : Rat} (h : Cz u b i p q) {a : Addr} (ha : b ≠ a.block) (v : Value) : Cz (u.setCell a v) b i p q := by
 have key : ∀ j, (u.setCell a v).cell? ⟨b, j, none⟩ = u.cell? ⟨b, j, none⟩ := fun j => World.cell?_of_block (Below.heap_setCell u a v b ha)
 exact ⟨(key _).trans h.1, (key _).trans h.2.1, (key _).trans h.2.2⟩
theorem LzX.put {u u' : World} {bs : List Nat} {A : Option Addr} {l : List Rat} (h : LzX u bs A l) {bl : List (Nat × TypeId × Array Value)} (hB : Bx u bl) (k : Nat) {b : Nat} {t : TypeId} {cs : Array Value} (hk : bl[k]? = some (b, t, cs)) (ht : b ∈ bs ∧ t ≠ 157) (i : Nat) (vs : List Value) (hu : putAll u b i vs = u') : LzX u' bs A l := by
 refine ⟨fun hn => ?_, h.2⟩
 obtain ⟨ba, oa, e, hb, hc⟩ := h.1 hn
 have hne : ba ≠ b := fun e' => h.2.1 ba oa e (e' ▸ ht.1)
 have hsz : ∀ (vs : List Value) (i : Nat) (u : World), (putAll u b i vs).heap.size = u.heap.size := by
  intro vs
  induction vs with
  | nil => exact fun _ _ => rfl
  | cons v vs ih => exact fun i u => (ih (i + 1) (u.setCell ⟨b, i, none⟩ v)).trans (by simp [World.setCell])
 have hcz : ∀ (vs : List Value) (i : Nat) (u : World) (j : Nat) (p : Az) (q : Rat), Cz u ba j p q → Cz (putAll u b i vs) ba j p q := by
  intro vs
  induction vs with
  | nil => exact fun _ _ _ _ _ h => h
  | cons v vs ih => exact fun i u j p q h => ih (i + 1) (u.setCell ⟨b, i, none⟩ v) j p q (h.far (a := ⟨b, i, none⟩) hne v)
 refine ⟨ba, oa, e, by rw [← hu, hsz]; exact hb, fun j hj => ?_⟩
 obtain ⟨p, h1, h2⟩ := hc j hj
 exact ⟨p, h1.put hB k hk ht.2 i vs hu, by rw [← hu]; exact hcz vs i u _ p _ h2⟩
theorem LzX.lt {u : World} {bs : List Nat} {A : Option Addr} {l : List Rat} (h : LzX u bs A l) : ∀ b off, A = some ⟨b, off, none⟩ → b < u.heap.size := fun b off e => by
 obtain ⟨b', off', e', hb, _⟩ := h.1 (fun h0 => by have := h.2.2; rw [h0] at this; cases this)
 rw [e] at e'
 cases e'
 exact hb
theorem LzX.more {v : World} {n b : Nat} {bs : List Nat} {A : Option Addr} {l : List Rat} (h : LzX v bs A l) (hlt : ∀ b off, A = some ⟨b, off, none⟩ → b < n) (hb : n ≤ b) : LzX v (b :: bs) A l :=
 ⟨h.1, fun b' off e hm => by
  rcases List.mem_cons.1 hm with rfl | hm
  ·have := hlt b' off e; omega
  ·exact h.2.1 b' off e hm, h.2.2⟩
theorem LzX.addr {u : World} {bs : List Nat} {A : Option Addr} {l : List Rat} (h : LzX u bs A l) : ∃ b off, A = some ⟨b, off, none⟩ := h.1.addr h.2.2
end Go.Proofs.YtimjnkfcnpfoeaaGreatDoor
namespace Go.Proofs.YtimjnkfcnpfoeaaGreatDoor
open Go Go.RowKit
theorem down_exists (l : List Rat) (n : Nat) : ∃ o, Down l n o := by
 refine ⟨(List.range n).mergeSort fun i j => decide (gq l j ≤ gq l i), List.mergeSort_perm _ _, fun i j hij hj => ?_⟩
 have h := List.pairwise_mergeSort (le := fun i j : Nat => decide (gq l j ≤ gq l i)) (fun a b c h1 h2 => decide_eq_true (Rat.le_trans (of_decide_eq_true h2) (of_decide_eq_true h1))) (fun a b => by
  by_cases h : gq l b ≤ gq l a
  ·simp [h]
  ·simp [Rat.le_of_lt (Rat.not_le.1 h)]) (List.range n)
 generalize he : (List.range n).mergeSort (fun i j => decide (gq l j ≤ gq l i)) = o at h
 have hl : o.length = n := by rw [← he, List.length_mergeSort, List.length_range]
 have := List.pairwise_iff_getElem.1 h i j (by omega) (by omega) hij
 have ei : at0 o i = o[i]'(by omega) := by unfold at0; rw [List.getElem?_eq_getElem (by omega)]; rfl
 have ej : at0 o j = o[j]'(by omega) := by unfold at0; rw [List.getElem?_eq_getElem (by omega)]; rfl
 rw [ei, ej]
 exact of_decide_eq_true this
theorem pts_ref {is : List Bool} {l : List Rat} {n : Nat} {o : List Nat} (hl : l.length = n) (h : Down l n o) : ptsO is l n o = refPts is l n n := (refPts_eq hl h n (Nat.le_refl n)).symm
/-- the points lie at a row's head -/
def Ptl (W : World) (g : Nat) (a b : Nat) (pts : List (Nat × Nat)) : Prop := g < W.heap.size ∧ ∀ i, i < pts.length → Cq W g (i * 10) (qover ((gp pts i).1 : Nat) a) ∧ Cq W g (i * 10 + 5) (qover ((gp pts i).2 : Nat) b)
theorem cq_grow {u u' : World} {b o : Nat} {q : Rat} (h : Cq u b o q) (hb : b < u.heap.size) (hg : Grow u u') : Cq u' b o q :=
 ⟨(hg.cell (p := ⟨b, o, none⟩) hb).trans h.1, (hg.cell (p := ⟨b, o + 1, none⟩) hb).trans h.2.1, (hg.cell (p := ⟨b, o + 2, none⟩) hb).trans h.2.2.1, (hg.cell (p := ⟨b, o + 3, none⟩) hb).trans h.2.2.2.1, (hg.cell (p := ⟨b, o + 4, none⟩) hb).trans h.2.2.2.2⟩
theorem Ptl.grow {u u' : World} {g a b : Nat} {pts : List (Nat × Nat)} (hg : Grow u u') (h : Ptl u g a b pts) : Ptl u' g a b pts := ⟨Nat.lt_of_lt_of_le h.1 hg.size, fun i hi => ⟨cq_grow (h.2 i hi).1 h.1 hg, cq_grow (h.2 i hi).2 h.1 hg⟩⟩
theorem flatP_get (a b : Nat) : ∀ (pts : List (Nat × Nat)) (i : Nat), i < pts.length → gq (flatP a b pts) (i * 2) = qover ((gp pts i).1 : Nat) a ∧ gq (flatP a b pts) (i * 2 + 1) = qover ((gp pts i).2 : Nat) b
 | p :: l, 0, _ => ⟨rfl, rfl⟩
 | p :: l, i + 1, h => by
  have ih := flatP_get a b l i (by simpa using h)
  have e : ∀ j, gq (flatP a b (p :: l)) (j + 2) = gq (flatP a b l) j := fun j => by
   unfold gq flatP
   rw [List.flatMap_cons, List.getElem?_append_right (by simp)]
   simp
  rw [show (i + 1) * 2 = i * 2 + 2 by omega, e, show i * 2 + 2 + 1 = i * 2 + 1 + 2 by omega, e]
  exact ih
theorem ptl_of {W : World} {g a b : Nat} {pts : List (Nat × Nat)} (hg : g < W.heap.size) (h : Lq W (some ⟨g, 0, none⟩) (flatP a b pts)) : Ptl W g a b pts := ⟨hg, fun i hi => by
 obtain ⟨e1, e2⟩ := flatP_get a b pts i hi
 have hl := flatP_len a b pts
 have h1 := h.read (i := i * 2) (by omega)
 have h2 := h.read (i := i * 2 + 1) (by omega)
 rw [e1, Nat.zero_add, show i * 2 * 5 = i * 10 by omega] at h1
 rw [e2, Nat.zero_add, show (i * 2 + 1) * 5 = i * 10 + 5 by omega] at h2
 exact ⟨h1, h2⟩⟩
theorem score_Curve_X (A B : Option Addr) (m c d : Nat) (is : List Bool) (l : List Rat) (hl : is.length = m) (hl' : l.length = m) (hy : 0 < yesN is m) (hn : yesN is m < m) (hm : m ≤ 1048576) (s : Nat) (hs : ∀ x ∈ l, qs x ≤ s) (hB : 2 * s + 1000 ≤ BIG) (w : World) (h1 : Lb w A is) (h2 : Lq w B l) (HT : Tab w) :
  Calls Tryz.prog 46 #[.slice A m c, .slice B m d] w (RetY (fun x : Nat × Nat => .tuple #[.slice (some ⟨x.1, 0, none⟩) (refPts is l m m).length x.2, .int .i64 0]) (fun x W => Ptl W x.1 (m - yesN is m) (yesN is m) (refPts is l m m)) w) :=
 (score_Curve_ok A B m c d is l hl hl' hy hn hm s hs hB w h1 h2 HT).mono fun e w' ⟨o, A', c', he, hd, hL, hg⟩ => by
  obtain ⟨g, rfl, hb⟩ := hL
  rw [pts_ref hl' hd] at he hb
  exact ⟨(g, c'), he, ptl_of hb.1 hb.2, hg⟩
theorem score_Curve_err (A B : Option Addr) (m n c d : Nat) (k : Int) (hk : (k != 0) = true) (w : World) (h : ∀ W, Grow w W → Calls Tryz.prog 104 #[.slice A m c, .slice B n d] W fun e w' => e = .returned (.tuple #[.int .i64 0, .int .i64 0, .int .i64 k]) ∧ Grow W w') :
  Calls Tryz.prog 46 #[.slice A m c, .slice B n d] w fun e w' => e = .returned (.tuple #[.slice none 0 0, .int .i64 k]) ∧ Grow w w' := by
 have H := Lib.hid h
 clear h
 go_enter Tryz.func46, Tryz.ntmps46
 refine en1 ?_
 intro u hG b3 hB hF
 refine wp_seq (rsE allocs [0, 0, 1, 0, 0, 0, 0, 0, 0, 0] hB hG fun L hL => ?_)
 refine gs ?_
 refine gmd (C := fun v ⟨hgu, hB, hG, _⟩ => H.out _ hG) ?_
 refine gs ?_
 refine geT hL ?_
 clear hB hG hL L
 rintro u ⟨-, hB, hG, -⟩
 refine wp_seq ?_
 refine r0T ?_
 refine wp_cond_true (rfl) ?_
 refine r0T ?_
 refine rt Tryz.results46 ?_
 exact ⟨rfl, hG⟩
end Go.Proofs.YtimjnkfcnpfoeaaGreatDoor
namespace Go.Proofs.YtimjnkfcnpfoeaaGreatDoor
open Go Go.RowKit
theorem qs_qadd (a b : Rat) : qs (qadd a b) ≤ qs a + qs b + 1 := qs_add a b
theorem qs_qmul (a b : Rat) : qs (qmul a b) ≤ qs a + qs b := qs_mul a b
theorem qs_qdiv (a b : Rat) : qs (qdiv a b) ≤ qs a + qs b := qs_div a b
theorem areaQ_sz (is : List Bool) (l : List Rat) (m : Nat) (hm : m ≤ 1048576) : qs (areaQ is l m) ≤ 300 := by
 have h := halves_range is l m m (Nat.le_refl _) hm
 have hy := yesN_le is m
 have z1 : qs (qint (halves is l m)) ≤ 64 := qint_i64 (by unfold halves; omega) (by unfold halves; omega)
 have z2 := qint_sz (m - yesN is m) (by omega)
 have z3 := qint_sz (yesN is m) (by omega)
 have z4 := qs_qmul (qint ((m - yesN is m : Nat) : Int)) (qint (yesN is m : Nat))
 have z5 := qs_qadd (qmul (qint ((m - yesN is m : Nat) : Int)) (qint (yesN is m : Nat))) (qmul (qint ((m - yesN is m : Nat) : Int)) (qint (yesN is m : Nat)))
 unfold areaQ
 refine Nat.le_trans (qs_qdiv _ _) ?_
 omega
theorem gp_mem {pts : List (Nat × Nat)} {i : Nat} (h : i < pts.length) : gp pts i ∈ pts := by
 unfold gp
 rw [List.getElem?_eq_getElem h]
 exact List.getElem_mem _
/-- a point's size -/
theorem pt_sz {x a : Nat} (hx : x ≤ 20) (ha : a ≤ 20) : qs (qover (x : Nat) (a : Nat)) ≤ 5 := over_sub 0 0 x a 5 (by omega) (by omega) (by omega)
end Go.Proofs.YtimjnkfcnpfoeaaGreatDoor
namespace Go.Proofs.YtimjnkfcnpfoeaaGreatDoor
open Go Go.RowKit
def maskE (R : List Nat) (i : Nat) (e : Edge) : Nat := if Region.binds .any e = true then (2 ^ e.on ||| (if e.on < i then R.getD e.on 0 else 0)) else 0
def rowM (R : List Nat) (i : Nat) : List Edge → Nat
 | [] => 0
 | e :: r => maskE R i e ||| rowM R i r
def rowsOk (ops : Array Oper) (R : List Nat) : Bool := (List.range ops.size).all fun i => match ops[i]? with
 | some o => Nat.beq (R.getD i 0) (rowM R i o.after.toList)
 | none => false
theorem rowM_bit {R : List Nat} {i j : Nat} : ∀ l : List Edge, (rowM R i l).testBit j = true → ∃ e ∈ l, Region.binds .any e = true ∧ (e.on = j ∨ (e.on < i ∧ (R.getD e.on 0).testBit j = true))
 | [], h => by simp [rowM] at h
 | e :: r, h => by
  unfold rowM at h
  rw [Nat.testBit_or, Bool.or_eq_true] at h
  rcases h with h | h
  ·refine ⟨e, List.mem_cons_self, ?_⟩
   unfold maskE at h
   split at h
   ·rename_i hb
    refine ⟨hb, ?_⟩
    rw [Nat.testBit_or, Bool.or_eq_true] at h
    rcases h with h | h
    ·left
     rw [Nat.testBit_two_pow] at h
     simpa using h
    ·right
     split at h
     ·rename_i hlt; exact ⟨hlt, h⟩
     ·simp at h
   ·simp at h
  ·obtain ⟨e', he', h'⟩ := rowM_bit r h
   exact ⟨e', List.mem_cons_of_mem _ he', h'⟩
theorem rows_wait {ops : Array Oper} {R : List Nat} (h : rowsOk ops R = true) : ∀ (f i j : Nat), i < f → i < ops.size → (R.getD i 0).testBit j = true → waitB ops f i j = true
 | 0, _, _, h0, _, _ => absurd h0 (Nat.not_lt_zero _)
 | f + 1, i, j, hif, hi, hb => by
  have h1 := List.all_eq_true.1 h i (List.mem_range.2 hi)
  unfold waitB
  rw [Array.getElem?_eq_getElem hi] at h1 ⊢
  simp only at h1 ⊢
  rw [Nat.eq_of_beq_eq_true h1] at hb
  obtain ⟨e, he, hbd, hor⟩ := rowM_bit _ hb
  refine Array.any_eq_true'.2 ⟨e, Array.mem_toList_iff.1 he, ?_⟩
  rw [hbd, Bool.true_and, Bool.or_eq_true, beq_iff_eq]
  rcases hor with hor | ⟨hlt, hor⟩
  ·exact .inl hor
  ·exact .inr (rows_wait h f e.on j (by omega) (by omega) hor)
def pairM (ops : Array Oper) (R : List Nat) : List (Nat × Nat) → Bool
 | [] => true
 | (k, i) :: r => (r.all fun e => (decide (e.2 < ops.size) && (R.getD e.2 0).testBit i) || (match ops[i]?, ops[e.2]? with
   | some oi, some oe => swapB ops (k, oi) (e.1, oe)
   | _, _ => false)) && pairM ops R r
theorem pairM_of {ops : Array Oper} {R : List Nat} (h : rowsOk ops R = true) : ∀ s : List (Nat × Nat), pairM ops R s = true → pairB ops s = true
 | [], _ => rfl
 | (k, i) :: r, hs => by
  unfold pairM at hs
  unfold pairB
  rw [Bool.and_eq_true] at hs ⊢
  refine ⟨List.all_eq_true.2 fun e he => ?_, pairM_of h r hs.2⟩
  have h1 := List.all_eq_true.1 hs.1 e he
  rw [Bool.or_eq_true] at h1 ⊢
  rcases h1 with h1 | h1
  ·rw [Bool.and_eq_true, decide_eq_true_eq] at h1
   exact .inl (rows_wait h _ _ _ h1.1 h1.1 h1.2)
  ·exact .inr h1
def growFM (ts : List TypeId) (l : List Oper) (n : Nat) (fl : List Nat) (s : List (Nat × Nat)) (R : List Nat) : Bool :=
 Region.noSelect l.toArray && decide (n < l.toArray.size) && sinkF l.toArray n fl && Region.chainB .any l.toArray n && setB (s.map (·.2)) n && (rowsOk l.toArray R && pairM l.toArray R s) && backB l.toArray n (s.map (·.2)) &&
  Region.seqB .any l.toArray (l.toArray.size - n) n (headEnd n l.toArray.size) && allocB ts l.toArray s && floatB l.toArray n fl && (s.all fun e => !fl.contains e.2 || decide (e.1 = 0))
theorem growF_of {ts : List TypeId} {l : List Oper} {n : Nat} {fl : List Nat} {s : List (Nat × Nat)} (R : List Nat) (h : growFM ts l n fl s R = true) : growFB ts l n fl s = true := by
 unfold growFM at h
 unfold growFB
 simp only [Bool.and_eq_true] at h ⊢
 obtain ⟨⟨⟨⟨⟨⟨⟨⟨⟨⟨a1, a2⟩, a3⟩, a4⟩, a5⟩, a6⟩, a7⟩, a8⟩, a9⟩, a10⟩, a11⟩ := h
 exact ⟨⟨⟨⟨⟨⟨⟨⟨⟨⟨a1, a2⟩, a3⟩, a4⟩, a5⟩, pairM_of a6.1 _ a6.2⟩, a7⟩, a8⟩, a9⟩, a10⟩, a11⟩
end Go.Proofs.YtimjnkfcnpfoeaaGreatDoor
namespace Go.Proofs.YtimjnkfcnpfoeaaGreatDoor
open Go Go.RowKit
theorem cq_five {W : World} {b o : Nat} {q : Rat} (h : Cq W b (o + 5) q) : W.cell? ⟨b, o + 5, none⟩ = some (.bool (intNeg q.num)) ∧ W.cell? ⟨b, o + 6, none⟩ = some (.int .u64 (natLo q.num.natAbs)) ∧ W.cell? ⟨b, o + 7, none⟩ = some (.string (natMo q.num.natAbs)) ∧ W.cell? ⟨b, o + 8, none⟩ = some (.int .u64 (natLo (keptDen q.den))) ∧ W.cell? ⟨b, o + 9, none⟩ = some (.string (natMo (keptDen q.den))) := h
theorem rowQ_szA (l : List Int) (n : Nat) : ∀ x ∈ rowQ l n, qs x ≤ 50 := fun x hx => by
 unfold rowQ at hx
 obtain ⟨i, -, rfl⟩ := List.mem_map.1 hx
 unfold rowAtL
 split
 ·exact Nat.le_trans (rawQ_sz _) (by omega)
 ·rw [show qint 0 = 0 from rfl, qs_zero]; omega
/-- is[:m] -/
theorem cut_bools (A : Option Addr) (la : List Bool) (ca m : Nat) (hm : m = min la.length 20) (hc : la.length ≤ ca) (w : World) (h : Lb w A la) : ∃ A' : Option Addr, (∀ W, (Instr.slice 79 (.slice A la.length ca) none (some (.int .i64 (m : Nat))) none).run Tryz.prog W = .ok (.slice A' m ca) W) ∧ Lb w A' (la.take m) ∧ (la.take m).length = m := by
 rcases Nat.eq_zero_or_pos la.length with h0 | h0
 ·obtain rfl : m = 0 := by omega
  refine ⟨if ca = 0 then A else A.map (·.add 0), fun W => ?_, ?_, by simp⟩
  ·have h3 : (0 : Int) ≤ (ca : Int) := by omega
   clear hm h h0 hc
   go_simp
  ·rw [List.take_zero]
   exact Lb.nil _ _
 ·obtain ⟨b, off, rfl⟩ := h.addr h0
  refine ⟨some ⟨b, off, none⟩, fun W => ?_, fun hne => ?_, by simp; omega⟩
  ·have h3 : (m : Int) ≤ (ca : Int) := by omega
   have h4 : ¬ ca < m := by omega
   clear hm h h0 hc
   go_simp
  ·obtain ⟨b', off', e, hb, hx⟩ := h (fun e => by rw [e] at h0; cases h0)
   refine ⟨b', off', e, hb, fun i x hi => hx i x ?_⟩
   rw [List.getElem?_take] at hi
   split at hi
   ·exact hi
   ·cases hi
end Go.Proofs.YtimjnkfcnpfoeaaGreatDoor
