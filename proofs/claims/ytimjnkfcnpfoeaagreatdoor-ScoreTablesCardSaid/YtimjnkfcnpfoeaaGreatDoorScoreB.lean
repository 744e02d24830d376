/-
  score.Table.
-/
import Derived.Test.YtimjnkfcnpfoeaaGreatDoorScoreA
set_option linter.unusedSimpArgs false
namespace Go.Proofs.YtimjnkfcnpfoeaaGreatDoor
open Go.RowKit

abbrev Rw := Option Addr × Nat × List Int
/-- slices of integers that lie from the address on -/
def Lrows (u : World) (A : Option Addr) (rs : List Rw) : Prop :=
  rs ≠ [] → ∃ b off, A = some ⟨b, off, none⟩ ∧ b < u.heap.size ∧ ∀ i r, rs[i]? = some r → u.cell? ⟨b, off + i, none⟩ = some (.slice r.1 r.2.2.length r.2.1) ∧ Li u r.1 r.2.2
theorem Lrows.grow {u u' : World} {A : Option Addr} {rs : List Rw} (h : Lrows u A rs) (hg : Grow u u') : Lrows u' A rs := fun hn => by
  obtain ⟨b, off, e, hb, hc⟩ := h hn
  exact ⟨b, off, e, Nat.lt_of_lt_of_le hb hg.size, fun i r hi => ⟨(hg.cell (p := ⟨b, off + i, none⟩) hb).trans (hc i r hi).1, (hc i r hi).2.grow hg⟩⟩
def cellsI (l : List Int) : Array Value := (l.map fun x => Value.int .i64 x).toArray
theorem cellsI_get (l : List Int) (i : Nat) : (cellsI l)[i]? = (l[i]?).map fun x => Value.int .i64 x := by
  unfold cellsI; simp
theorem cellsI_set (l : List Int) (i : Nat) (y : Int) : (cellsI l).setIfInBounds i (.int .i64 y) = cellsI (l.set i y) := by
  unfold cellsI
  rw [List.setIfInBounds_toArray, List.map_set]
theorem li_blk {u : World} {b : Nat} {l : List Int} (h : Blk u b 3 (cellsI l)) : Li u (some ⟨b, 0, none⟩) l := fun _ =>
  ⟨b, 0, rfl, h.lt, fun i x hi => by rw [Nat.zero_add, h.cell, cellsI_get, hi]; rfl⟩
theorem info_int : (Tryz.prog.info? 3).map (fun i => (i.zero, i.size, i.bytes)) = some (some (.int .i64 0), 1, 8) := by kernel_rfl
theorem cells_madeI (n : Nat) : madeCells (Value.int .i64 0).cells (n * 1) = cellsI (List.replicate n 0) := by
  unfold cellsI madeCells
  refine Array.ext (by simp) fun i h1 h2 => ?_
  simp [Value.cells, Nat.mod_one]
theorem make_int (n : Nat) (hn : n ≤ 1099511627776) (x : Int) (hx : x = n) (W : World) : (Instr.makeSlice 22 (.int .i64 x) (.int .i64 x)).run Tryz.prog W =
    .ok (.slice (some ⟨W.heap.size, 0, none⟩) n n) (W.alloc (.cells (cellsI (List.replicate n 0)) 3)) := by
  obtain ⟨i0, hi0, hz0, hz1, hz2⟩ := info_parts info_int
  have hr := run_make (P := Tryz.prog) W 22 3 i0 (.int .i64 0) Tryz.underlying22 hi0 hz0 .i64 .i64 n n (by omega) (by omega) (by rw [hz2]; omega) (by omega)
  rw [hx]
  rw [hr, hz1]
  simp only [Int.toNat_natCast]
  rw [cells_madeI]
def cellsS (l : List Value) : Array Value := l.toArray
theorem info_Sint : (Tryz.prog.info? 22).map (fun i => (i.zero, i.size, i.bytes)) = some (some (.slice none 0 0), 1, 24) := by kernel_rfl
theorem cells_madeS (n : Nat) : madeCells (Value.slice none 0 0).cells (n * 1) = cellsS (List.replicate n (.slice none 0 0)) := by
  unfold cellsS madeCells
  refine Array.ext (by simp) fun i h1 h2 => ?_
  simp [Value.cells, Nat.mod_one]
theorem make_Sint (n : Nat) (hn : n ≤ 1099511627776) (x : Int) (hx : x = n) (W : World) : (Instr.makeSlice 23 (.int .i64 x) (.int .i64 x)).run Tryz.prog W =
    .ok (.slice (some ⟨W.heap.size, 0, none⟩) n n) (W.alloc (.cells (cellsS (List.replicate n (.slice none 0 0))) 22)) := by
  obtain ⟨i0, hi0, hz0, hz1, hz2⟩ := info_parts info_Sint
  have hr := run_make (P := Tryz.prog) W 23 22 i0 (.slice none 0 0) Tryz.underlying23 hi0 hz0 .i64 .i64 n n (by omega) (by omega) (by rw [hz2]; omega) (by omega)
  rw [hx]
  rw [hr, hz1]
  simp only [Int.toNat_natCast]
  rw [cells_madeS]
/-- the table's entry after r rows -/
def tabAt (l l' : List Int) (r i j : Nat) : Int := (cnt (fun s => gi l s == (i : Int) && gi l' s == (j : Int)) r : Nat)
def tabRow (l l' : List Int) (r k i : Nat) : List Int := (List.range k).map (tabAt l l' r i)
theorem tabRow_zero (l l' : List Int) (k i : Nat) : tabRow l l' 0 k i = List.replicate k 0 := by
  unfold tabRow
  refine List.ext_getElem (by simp) fun j h1 h2 => ?_
  simp [tabAt, cnt]
theorem tabRow_get (l l' : List Int) (r k i : Nat) {j : Nat} (h : j < k) : (tabRow l l' r k i)[j]? = some (tabAt l l' r i j) := by
  unfold tabRow; simp [h]
theorem tabAt_succ (l l' : List Int) (r i j : Nat) : tabAt l l' (r + 1) i j = tabAt l l' r i j + if gi l r = (i : Int) ∧ gi l' r = (j : Int) then 1 else 0 := by
  unfold tabAt
  simp only [cnt]
  by_cases h : gi l r = (i : Int) ∧ gi l' r = (j : Int)
  · rw [if_pos h, if_pos (by simp [h.1, h.2])]; omega
  · rw [if_neg h, if_neg (by simpa using h)]; omega
theorem tabAt_le (l l' : List Int) (r i j : Nat) : 0 ≤ tabAt l l' r i j ∧ tabAt l l' r i j ≤ r := by
  unfold tabAt; have := cnt_le (fun s => gi l s == (i : Int) && gi l' s == (j : Int)) r; omega
theorem tabRow_hit (l l' : List Int) (r k i j : Nat) (h1 : gi l r = (i : Int)) (h2 : gi l' r = (j : Int)) : (tabRow l l' r k i).set j (tabAt l l' r i j + 1) = tabRow l l' (r + 1) k i := by
  unfold tabRow
  refine List.ext_getElem (by simp) fun t g1 g2 => ?_
  rw [List.getElem_set]
  simp only [List.getElem_map, List.getElem_range, tabAt_succ, h1, h2, true_and]
  by_cases e : j = t
  · subst e; simp
  · rw [if_neg e, if_neg (by omega)]; omega
theorem tabRow_miss (l l' : List Int) (r k i : Nat) (h1 : gi l r ≠ (i : Int)) : tabRow l l' r k i = tabRow l l' (r + 1) k i := by
  unfold tabRow
  refine List.map_congr_left fun t _ => ?_
  rw [tabAt_succ, if_neg (fun h => h1 h.1)]
  omega
end Go.Proofs.YtimjnkfcnpfoeaaGreatDoor
