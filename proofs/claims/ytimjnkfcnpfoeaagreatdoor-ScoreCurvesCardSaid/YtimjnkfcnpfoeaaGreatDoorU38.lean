/-
  Contracts and laws: SortL SortQ CurveP SortI.
-/
import Derived.Test.YtimjnkfcnpfoeaaGreatDoorU13
import Derived.Test.YtimjnkfcnpfoeaaGreatDoorU36
import Derived.Test.YtimjnkfcnpfoeaaGreatDoorU37
import Derived.Shelf.SlLaysF0
import Derived.Shelf.SlLaysF
import Derived.Shelf.SlLaysE0
import Derived.Test.YtimjnkfcnpfoeaaGreatDoorProg
import Derived.Shelf.SlSortCmp.WholeK
import Derived.Shelf.SlicesE.Clone
import Derived.Shelf.SlSortCmp.Whole1
set_option linter.unusedSimpArgs false
set_option linter.unusedVariables false
namespace Go.Proofs
open Go.Shelf
def Tryz.sortI_ren : Go.Shelf.Ren := ⟨fun | 6 => 108 | 15 => 147 | 14 => 146 | 28 => 185 | 29 => 152 | 20 => 177 | 21 => 178 | 22 => 179 | 23 => 180 | 24 => 181 | 25 => 182 | 26 => 183 | 27 => 184 | 46 => 197 | 47 => 198 | 48 => 199 | 49 => 200 | 50 => 201 | 57 => 212 | n => n, fun | 22 => 22 | 24 => 3 | 25 => 24 | 3 => 3 | 39 => 177 | 0 => 0 | 53 => 157 | 55 => 26 | 4 => 4 | 46 => 218 | 45 => 217 | 50 => 222 | 5 => 5 | 9 => 9 | 66 => 230 | 70 => 234 | 76 => 245 | 77 => 246 | n => n, fun | n => n⟩
theorem Tryz.sortI : Go.Proofs.SlLaysF.n6 Tryz.prog Tryz.sortI_ren := {
 mixed := by kernel_rfl
 f6 := ⟨Tryz.f108.name, by decide, Tryz.func108.trans (congrArg some (by kernel_rfl))⟩
 f14 := ⟨Tryz.f146.name, by decide, Tryz.func146.trans (congrArg some (by kernel_rfl))⟩
 f15 := Tryz.func147.trans (congrArg some (by kernel_rfl))
 f20 := ⟨Tryz.f177.name, by decide, Tryz.func177.trans (congrArg some (by kernel_rfl))⟩
 f21 := ⟨Tryz.f178.name, by decide, Tryz.func178.trans (congrArg some (by kernel_rfl))⟩
 f22 := ⟨Tryz.f179.name, by decide, Tryz.func179.trans (congrArg some (by kernel_rfl))⟩
 f23 := ⟨Tryz.f180.name, by decide, Tryz.func180.trans (congrArg some (by kernel_rfl))⟩
 f24 := ⟨Tryz.f181.name, by decide, Tryz.func181.trans (congrArg some (by kernel_rfl))⟩
 f25 := ⟨Tryz.f182.name, by decide, Tryz.func182.trans (congrArg some (by kernel_rfl))⟩
 f26 := ⟨Tryz.f183.name, by decide, Tryz.func183.trans (congrArg some (by kernel_rfl))⟩
 f27 := ⟨Tryz.f184.name, by decide, Tryz.func184.trans (congrArg some (by kernel_rfl))⟩
 f28 := Tryz.func185.trans (congrArg some (by kernel_rfl))
 f29 := Tryz.func152.trans (congrArg some (by kernel_rfl))
 f46 := ⟨Tryz.f197.name, by decide, Tryz.func197.trans (congrArg some (by kernel_rfl))⟩
 f47 := Tryz.func198.trans (congrArg some (by kernel_rfl))
 f48 := Tryz.func199.trans (congrArg some (by kernel_rfl))
 f49 := ⟨Tryz.f200.name, by decide, Tryz.func200.trans (congrArg some (by kernel_rfl))⟩
 f50 := ⟨Tryz.f201.name, by decide, Tryz.func201.trans (congrArg some (by kernel_rfl))⟩
 f57 := ⟨Tryz.f212.name, by decide, Tryz.func212.trans (congrArg some (by kernel_rfl))⟩
 t0 := Tryz.underlying0
 a0 := Tryz.isAgg0
 z0 := Tryz.sizeOf0
 v0 := Tryz.zeroValue0
 t3 := Tryz.underlying3
 a3 := Tryz.isAgg3
 z3 := Tryz.sizeOf3
 v3 := Tryz.zeroValue3
 t4 := Tryz.underlying4
 a4 := Tryz.isAgg4
 z4 := Tryz.sizeOf4
 v4 := Tryz.zeroValue4
 t5 := Tryz.underlying5
 a5 := Tryz.isAgg5
 z5 := Tryz.sizeOf5
 v5 := Tryz.zeroValue5
 t9 := Tryz.underlying9
 a9 := Tryz.isAgg9
 z9 := Tryz.sizeOf9
 v9 := Tryz.zeroValue9
 t22 := Tryz.underlying22
 a22 := Tryz.isAgg22
 z22 := Tryz.sizeOf22
 v22 := Tryz.zeroValue22
 a24 := Tryz.isAgg3
 z24 := Tryz.sizeOf3
 t25 := Tryz.underlying24
 a25 := Tryz.isAgg24
 z25 := Tryz.sizeOf24
 v25 := Tryz.zeroValue24
 t39 := Tryz.underlying177
 a39 := Tryz.isAgg177
 z39 := Tryz.sizeOf177
 v39 := Tryz.zeroValue177
 t45 := Tryz.underlying217
 a45 := Tryz.isAgg217
 z45 := Tryz.sizeOf217
 v45 := Tryz.zeroValue217
 t46 := Tryz.underlying218
 a46 := Tryz.isAgg218
 z46 := Tryz.sizeOf218
 v46 := Tryz.zeroValue218
 t50 := Tryz.underlying222
 a50 := Tryz.isAgg222
 z50 := Tryz.sizeOf222
 v50 := Tryz.zeroValue222
 t53 := Tryz.underlying157
 a53 := Tryz.isAgg157
 z53 := Tryz.sizeOf157
 v53 := Tryz.zeroValue157
 t55 := Tryz.underlying26
 a55 := Tryz.isAgg26
 z55 := Tryz.sizeOf26
 v55 := Tryz.zeroValue26
 t66 := Tryz.underlying230
 a66 := Tryz.isAgg230
 z66 := Tryz.sizeOf230
 v66 := Tryz.zeroValue230
 t70 := Tryz.underlying234
 a70 := Tryz.isAgg234
 z70 := Tryz.sizeOf234
 v70 := Tryz.zeroValue234
 t76 := Tryz.underlying245
 a76 := Tryz.isAgg245
 z76 := Tryz.sizeOf245
 v76 := Tryz.zeroValue245
 t77 := Tryz.underlying246
 a77 := Tryz.isAgg246
 z77 := Tryz.sizeOf246
 v77 := Tryz.zeroValue246 }
end Go.Proofs
namespace Go.Proofs.YtimjnkfcnpfoeaaGreatDoor
open Go Go.RowKit Go.Sort Go.Shelf
/-- rationals of a bounded size -/
abbrev Bq (s : Nat) := {x : Rat // qs x ≤ s + qs 0}
instance (s : Nat) : Inhabited (Bq s) := ⟨⟨0, Nat.le_add_left _ _⟩⟩
/-- the list from the least on -/
def rsort (l : List Rat) : List Rat := l.mergeSort fun a b => decide (a ≤ b)
theorem rsort_perm (l : List Rat) : (rsort l).Perm l := List.mergeSort_perm l _
theorem rsort_sorted (l : List Rat) : (rsort l).Pairwise (· ≤ ·) := by
 have h := List.pairwise_mergeSort (le := fun a b : Rat => decide (a ≤ b)) (fun a b c h1 h2 => decide_eq_true (Rat.le_trans (of_decide_eq_true h1) (of_decide_eq_true h2))) (fun a b => by
  by_cases h : a ≤ b
  ·simp [h]
  ·simp [Rat.le_of_lt (Rat.not_le.1 h)]) l
 exact h.imp fun h => of_decide_eq_true h
theorem rsort_uniq {l l' : List Rat} (h1 : l'.Perm l) (h2 : l'.Pairwise (· ≤ ·)) : l' = rsort l :=
 List.Perm.eq_of_pairwise (le := fun a b : Rat => a ≤ b) (fun a b _ _ h1 h2 => Rat.le_antisymm h1 h2) h2 (rsort_sorted l) (h1.trans (rsort_perm l).symm)
theorem rsort_len (l : List Rat) : (rsort l).length = l.length := (rsort_perm l).length_eq
end Go.Proofs.YtimjnkfcnpfoeaaGreatDoor
namespace Go.Proofs.YtimjnkfcnpfoeaaGreatDoor
/-- what a pair of places adds, of any marks and numbers -/
def hw (t : Nat → Bool) (v : Nat → Rat) (i j : Nat) : Int := if t i && !t j then cmpQ (v i) (v j) + 1 else 0
/-- the points behind k of the sorted: how many are not, how many are -/
def ptsN (t : Nat → Bool) (v : Nat → Rat) (n : Nat) : Nat → List (Nat × Nat)
 | 0 => [(0, 0)]
 | k + 1 => ptsN t v n k ++ (if k + 1 = n ∨ v (k + 1) ≠ v k then [(k + 1 - cnt t (k + 1), cnt t (k + 1))] else [])
theorem ptsN_ne (t : Nat → Bool) (v : Nat → Rat) (n : Nat) : ∀ k, ptsN t v n k ≠ []
 | 0 => by simp [ptsN]
 | k + 1 => by
  have := ptsN_ne t v n k
  unfold ptsN
  simp [this]
theorem cmpQ_self (a : Rat) : cmpQ a a = 0 := by unfold cmpQ; simp [Rat.lt_irrefl]
theorem cmpQ_below {a b : Rat} (h : a < b) : cmpQ a b = -1 := by unfold cmpQ; simp [h]
theorem sum_yes (t : Nat → Bool) (c : Int) : ∀ k, sumTo (fun i => if t i then c else 0) k = c * cnt t k
 | 0 => by simp [sumTo, cnt]
 | k + 1 => by
  show sumTo (fun i => if t i then c else 0) k + (if t k then c else 0) = c * ((cnt t k + if t k then 1 else 0 : Nat) : Int)
  rw [sum_yes t c k]
  cases t k <;> simp [Int.mul_add]
theorem cnt_lek (t : Nat → Bool) : ∀ k, cnt t k ≤ k
 | 0 => Nat.le_refl _
 | k + 1 => by have := cnt_lek t k; unfold cnt; split <;> omega
theorem cnt_split (t : Nat → Bool) (g : Nat) : ∀ k, g ≤ k → cnt t k = cnt t g + cnt (fun i => t (g + i)) (k - g)
  | 0, h => by obtain rfl : g = 0 := by omega
               rfl
  | k + 1, h => by
    rcases Nat.eq_or_lt_of_le h with rfl | h
    · simp [cnt]
    · have ih := cnt_split t g k (by omega)
      rw [show k + 1 - g = (k - g) + 1 by omega]
      show cnt t k + _ = _ + (cnt (fun i => t (g + i)) (k - g) + _)
      rw [ih]
      simp only [show g + (k - g) = k by omega]
      omega
def isum : List Int → Int
 | [] => 0
 | x :: l => x + isum l
theorem isum_perm {l l' : List Int} (h : l.Perm l') : isum l = isum l' := by
 induction h with
 | nil => rfl
 | cons x _ ih => show x + _ = x + _; rw [ih]
 | swap x y l => show y + (x + isum l) = x + (y + isum l); omega
 | trans _ _ h1 h2 => exact h1.trans h2
theorem isum_snoc (x : Int) : ∀ l, isum (l ++ [x]) = isum l + x
 | [] => by simp [isum]
 | y :: l => by show y + isum (l ++ [x]) = y + isum l + x; rw [isum_snoc x l]; omega
theorem sumTo_isum (f : Nat → Int) : ∀ n, sumTo f n = isum ((List.range n).map f)
 | 0 => rfl
 | n + 1 => by rw [List.range_succ, List.map_append, List.map_singleton, isum_snoc, ← sumTo_isum f n]; rfl
/-- the place at a place of a list of places -/
def at0 (o : List Nat) (i : Nat) : Nat := o[i]?.getD 0
theorem map_at0 (o : List Nat) : (List.range o.length).map (at0 o) = o := by
 apply List.ext_getElem
 ·simp
 ·intro i h1 h2
  simp [at0, h2]
theorem sumTo_perm {o : List Nat} {n : Nat} (h : o.Perm (List.range n)) (f : Nat → Int) : sumTo (fun i => f (at0 o i)) n = sumTo f n := by
 have hl : o.length = n := by rw [h.length_eq, List.length_range]
 rw [sumTo_isum, sumTo_isum]
 have e : (List.range n).map (fun i => f (at0 o i)) = o.map f := by
  rw [← hl]
  conv => rhs; rw [← map_at0 o]
  rw [List.map_map]
  rfl
 rw [e]
 exact isum_perm (h.map f)
theorem cnt_sum (t : Nat → Bool) : ∀ n, (cnt t n : Int) = sumTo (fun i => if t i then 1 else 0) n := fun n => by
 rw [sum_yes]; simp
theorem cnt_perm {o : List Nat} {n : Nat} (h : o.Perm (List.range n)) (t : Nat → Bool) : cnt (fun i => t (at0 o i)) n = cnt t n := by
 have e := sumTo_perm h (fun i => if t i then 1 else 0)
 have e1 := cnt_sum (fun i => t (at0 o i)) n
 have e2 := cnt_sum t n
 omega
/-- an order of the places from the greatest number down -/
def Down (l : List Rat) (n : Nat) (o : List Nat) : Prop := o.Perm (List.range n) ∧ ∀ i j, i < j → j < n → gq l (at0 o j) ≤ gq l (at0 o i)
/-- the curve's points at an order, whole numbers -/
def ptsO (is : List Bool) (l : List Rat) (n : Nat) (o : List Nat) : List (Nat × Nat) := ptsN (fun i => gb is (at0 o i)) (fun i => gq l (at0 o i)) n n
theorem pts_sorted (t : Nat → Bool) (v : Nat → Rat) (n : Nat) : ∀ k, (ptsN t v n k).Pairwise (fun p q => p.1 ≤ q.1 ∧ p.2 ≤ q.2) ∧ ∀ p ∈ ptsN t v n k, p.1 ≤ k - cnt t k ∧ p.2 ≤ cnt t k
 | 0 => by simp [ptsN]
 | k + 1 => by
  obtain ⟨h1, h2⟩ := pts_sorted t v n k
  have hk := cnt_lek t k
  have hc : cnt t (k + 1) = cnt t k + if t k then 1 else 0 := rfl
  have hm : k - cnt t k ≤ k + 1 - cnt t (k + 1) ∧ cnt t k ≤ cnt t (k + 1) := by rw [hc]; split <;> omega
  unfold ptsN
  split
  ·constructor
   ·rw [List.pairwise_append]
    refine ⟨h1, by simp, fun p hp q hq => ?_⟩
    have := h2 p hp
    simp only [List.mem_singleton] at hq
    subst hq
    simp only
    omega
   ·intro p hp
    rcases List.mem_append.1 hp with hp | hp
    ·have := h2 p hp; omega
    ·simp only [List.mem_singleton] at hp
     subst hp
     exact ⟨Nat.le_refl _, Nat.le_refl _⟩
  ·rw [List.append_nil]
   exact ⟨h1, fun p hp => by have := h2 p hp; omega⟩
def gp (l : List (Nat × Nat)) (i : Nat) : Nat × Nat := l[i]?.getD (0, 0)
end Go.Proofs.YtimjnkfcnpfoeaaGreatDoor
namespace Go.Proofs.YtimjnkfcnpfoeaaGreatDoor
open Go Go.RowKit Go.Sort Go.Shelf
/-- what the closure reads -/
def ByL (b3 : Nat) (B : Option Addr) (m d : Nat) (l : List Rat) (W : World) : Prop := Blk W b3 67 #[.slice B m d] ∧ Lq W B l
theorem ByL.grow {b3 : Nat} {B : Option Addr} {m d : Nat} {l : List Rat} {u u' : World} (hg : Grow u u') (h : ByL b3 B m d l u) : ByL b3 B m d l u' := ⟨h.1.grow hg, h.2.grow hg⟩
set_option maxHeartbeats 400000 in
set_option maxRecDepth 100000 in
theorem score_Curve_c1 (b3 bb ob : Nat) (m d : Nat) (l : List Rat) (hl : l.length = m) (s : Nat) (hs : ∀ x ∈ l, qs x ≤ s) (hB : 2 * s + 1 ≤ BIG) (i j : Nat) (hi : i < m) (hj : j < m) (w : World) (h : ByL b3 (some ⟨bb, ob, none⟩) m d l w) :
  Calls Tryz.prog 109 #[.int .i64 (i : Nat), .int .i64 (j : Nat), .pointer (some ⟨b3, 0, none⟩)] w fun e w' => e = .returned (.int .i64 (cmpQ (gq l j) (gq l i))) ∧ Grow w w' := by
 have hc : ∀ W, Grow w W → W.cell? ⟨b3, 0, none⟩ = some (.slice (some ⟨bb, ob, none⟩) m d) ∧ Cq W bb (ob + i * 5) (gq l i) ∧ Cq W bb (ob + j * 5) (gq l j) := fun W hg => ⟨(h.grow hg).1.cell 0, (h.grow hg).2.read (by omega), (h.grow hg).2.read (by omega)⟩
 have z1 := hs _ (gq_mem (l := l) (i := i) (by omega))
 have z2 := hs _ (gq_mem (l := l) (i := j) (by omega))
 generalize gq l i = X at *
 generalize gq l j = Y at *
 have Hc := Lib.hid hc
 clear hc h hs hl
 go_enter Tryz.func109, Tryz.ntmps109
 refine en0 ?_
 intro u hG hB hF
 refine wp_seq (rdC allocs [] [(0, 0), (0, 1), (0, 2), (0, 3), (0, 4), (0, 5), (0, 6), (0, 7), (1, 8)] hB hG fun K L hN hL => ?_)
 repeat first | refine gya ?_ | refine gyr ?_ | refine gna ?_ | refine gyb (by (rintro v ⟨hgu, hB, hG, -⟩ N hN; have r := hB.r; simp only [BxR] at r; obtain ⟨p1, ⟨q1, q2, q3, q4, q5⟩, ⟨y1, y2, y3, y4, y5⟩⟩ := Hc.out v hG; go_simp; exact hN)) ?_
 refine gmw (C := fun v => frac_Cmp _ _ _ (by omega)) ?_
 refine geC hL ?_
 clear hB hG hL L
 rintro u ⟨-, hB, hG, -⟩
 refine gtT ?_
 clear hN K
 refine rt Tryz.results109 ?_
 exact ⟨rfl, hG⟩
abbrev cfI (l : List Rat) {m : Nat} (x y : Fin m) : Int := cmpQ (gq l y.1) (gq l x.1)
abbrev encI {m : Nat} (x : Fin m) : Value := .int .i64 (x.1 : Nat)
theorem ltI (l : List Rat) {m : Nat} (x y : Fin m) : ltOf (cfI l) x y = decide (gq l y.1 < gq l x.1) := by
 unfold ltOf cfI cmpQ
 by_cases h1 : gq l y.1 < gq l x.1
 ·simp [h1]
 ·by_cases h2 : gq l x.1 < gq l y.1 <;> simp [h1, h2]
theorem swoI (l : List Rat) (m : Nat) : SWO (ltOf (cfI l (m := m))) where
 irrefl x := by rw [ltI]; exact decide_eq_false (Rat.not_lt.2 Rat.le_refl)
 trans x y z h1 h2 := by
  rw [ltI] at *
  exact decide_eq_true (Decidable.byContradiction fun h => Rat.not_lt.2 (Rat.le_trans (Rat.le_of_lt (of_decide_eq_true h1)) (Rat.not_lt.1 h)) (of_decide_eq_true h2))
 ntrans x y z h1 h2 := by
  rw [ltI] at *
  exact decide_eq_false (Rat.not_lt.2 (Rat.le_trans (Rat.not_lt.1 (of_decide_eq_false h1)) (Rat.not_lt.1 (of_decide_eq_false h2))))
theorem grow_sort1 {α : Type} [Inhabited α] {enc : α → Value} {w w1 : World} (h : Grow w w1) {g : Nat} (hg : w.heap.size ≤ g) (off n : Nat) (d : Array α) (os : Array Obj) : Grow w (sortWorld enc w1 g off n d os) := by
 refine Below.trans h ⟨rfl, rfl, rfl, ?_, fun j hj => ?_⟩
 ·show _ ≤ ((w1.heap.modify g _) ++ os).size
  rw [Array.size_append, Array.size_modify]
  omega
 ·show ((w1.heap.modify g _) ++ os)[j]? = _
  have := h.size
  rw [Array.getElem?_append, if_pos (by rw [Array.size_modify]; omega), Array.getElem?_modify, if_neg (by omega)]
/-- the sorted places as a list of numbers -/
def natsI {m : Nat} (d : Array (Fin m)) : List Nat := d.toList.map (·.1)
theorem slices_SortI (b3 bb ob : Nat) (m dc : Nat) (l : List Rat) (hl : l.length = m) (hm0 : 0 < m) (s : Nat) (hs : ∀ x ∈ l, qs x ≤ s) (hB : 2 * s + 1 ≤ BIG) (w0 w : World) (hP : ByL b3 (some ⟨bb, ob, none⟩) m dc l w0) (hG : Grow w0 w) (blk cap : Nat) (hb0 : w0.heap.size ≤ blk) (hm : m < 4611686018427387904)
  (hH : Blk w blk 3 (cellsI ((List.range m).map fun (i : Nat) => (i : Int)))) :
  Calls Tryz.prog 108 #[.slice (some ⟨blk, 0, none⟩) m cap, .func (.func 109) #[] #[.pointer (some ⟨b3, 0, none⟩)]] w fun e w' =>
   e = .returned (.tuple #[]) ∧ ∃ o, Down l m o ∧ (∀ i, i < m → w'.cell? ⟨blk, i, none⟩ = some (.int .i64 (at0 o i : Nat))) ∧ blk < w'.heap.size ∧ Grow w0 w' := by
 haveI : Inhabited (Fin m) := ⟨⟨0, hm0⟩⟩
 have hd : (Array.finRange m).size = m := Array.size_finRange
 have hget : ∀ i (h : i < m), ((Array.finRange m)[i]!).1 = i := fun i h => by
  rw [getElem!_pos _ i (by rw [hd]; exact h)]
  simp
 have hHo : Holds encI w blk 0 (Array.finRange m) := by
  intro t ht
  rw [hd] at ht
  refine ⟨?_, hH.frozen _⟩
  rw [Nat.zero_add, hH.cell t, cellsI_get, List.getElem?_map, List.getElem?_range ht]
  show some (Value.int .i64 (t : Int)) = some (Value.int .i64 (((Array.finRange m)[t]!).1 : Nat))
  rw [hget t ht]
 have hc : CmpLays1 Tryz.prog 109 #[.pointer (some ⟨b3, 0, none⟩)] encI (cfI l (m := m)) blk 0 (Array.finRange m).size w := fun q os dk _ x y =>
  calls_grown (score_Curve_c1 b3 bb ob m dc l hl s hs hB x.1 y.1 x.2 y.2 _ (hP.grow (grow_sort1 hG hb0 0 q dk os)))
 have := Any.slices_SortFunc Tryz.sortI encI (fun _ => rfl) (cfI l (m := m)) (swoI l m) 109 #[.pointer (some ⟨b3, 0, none⟩)] blk 0 cap (Array.finRange m) w
  (enters_of Tryz.func109 (by kernel_rfl) rfl) hc hHo hH.lt (by rw [hd]; exact hm)
 rw [hd] at this
 refine this.mono ?_
 rintro e w' ⟨he, d', n, os, hp, hst, rfl⟩
 obtain ⟨h1, -, h2⟩ := hp
 have hd' : d'.size = m := by rw [h1, hd]
 have hat : ∀ i (h : i < m), at0 (natsI d') i = (d'[i]!).1 := fun i h => by
  unfold at0 natsI
  rw [getElem!_pos _ i (by rw [hd']; exact h)]
  simp [hd', h]
 refine ⟨he, natsI d', ⟨?_, fun i j hij hj => ?_⟩, fun i hi => ?_, ?_, grow_sort1 hG hb0 0 n d' os⟩
 ·have h3 : d'.toList.Perm (Array.finRange m).toList := by
   have e1 : d'.extract 0 m = d' := Array.extract_eq_self_of_le (by omega)
   have e2 : (Array.finRange m).extract 0 m = Array.finRange m := Array.extract_eq_self_of_le (by omega)
   rw [e1, e2] at h2
   exact h2
  have h4 := h3.map (·.1)
  have e3 : (Array.finRange m).toList.map (·.1) = List.range m := by
   apply List.ext_getElem
   ·simp
   ·intro i g1 g2
    simp
  rw [e3] at h4
  exact h4
 ·have h3 := hst i j (Nat.zero_le _) hij (by omega)
  rw [ltI] at h3
  rw [hat i (by omega), hat j hj]
  exact Rat.not_lt.1 (of_decide_eq_false h3)
 ·have h3 := (SW.holds (⟨n, os, rfl⟩ : SW encI w blk 0 d' (sortWorld encI w blk 0 n d' os)) hH.lt hHo (by rw [hd', hd]) i (by rw [hd']; exact hi)).1
  rw [Nat.zero_add] at h3
  rw [h3, hat i hi]
 ·have := hH.lt
  show blk < ((w.heap.modify blk _) ++ os).size
  rw [Array.size_append, Array.size_modify]
  omega
end Go.Proofs.YtimjnkfcnpfoeaaGreatDoor
