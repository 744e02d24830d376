/-
  Contracts and laws: ScoreB Law LawB.
-/
import Derived.Test.YtimjnkfcnpfoeaaGreatDoorC40
import Derived.Test.YtimjnkfcnpfoeaaGreatDoorCards
import Derived.Test.YtimjnkfcnpfoeaaGreatDoorTie
import Derived.WalkKit
import Derived.ProofKit
import Derived.OpenShut
import Derived.Carry
import Derived.ChangeOld
import Derived.ChangeSlices
import Derived.Deep.DeepHandedRow
import Derived.Lib.LaidTab
import Derived.Deep.Matrix
set_option linter.unusedSimpArgs false
set_option linter.unusedVariables false
namespace Go.Proofs.YtimjnkfcnpfoeaaGreatDoor
open Go.RowKit
abbrev Rw := Option Addr × Nat × List Int
/-- slices of integers that lie from the address on -/
def Lrows (u : World) (A : Option Addr) (rs : List Rw) : Prop :=
 rs ≠ [] → ∃ b off, A = some ⟨b, off, none⟩ ∧ b < u.heap.size ∧ ∀ i r, rs[i]? = some r → u.cell? ⟨b, off + i, none⟩ = some (.slice r.1 r.2.2.length r.2.1) ∧ Li u r.1 r.2.2
theorem Lrows.grow {u u' : World} {A : Option Addr} {rs : List Rw} (h : Lrows u A rs) (hg : Grow u u') : Lrows u' A rs := fun hn => by
 obtain ⟨b, off, e, hb, hc⟩ := h hn
 exact ⟨b, off, e, Nat.lt_of_lt_of_le hb hg.size, fun i r hi => ⟨(hg.cell (p := ⟨b, off + i, none⟩) hb).trans (hc i r hi).1, (hc i r hi).2.grow hg⟩⟩
def cellsI (l : List Int) : Array Value := (l.map fun x => Value.int .i64 x).toArray
theorem cellsI_get (l : List Int) (i : Nat) : (cellsI l)[i]? = (l[i]?).map fun x => Value.int .i64 x := by
 unfold cellsI; simp
theorem cellsI_set (l : List Int) (i : Nat) (y : Int) : (cellsI l).setIfInBounds i (.int .i64 y) = cellsI (l.set i y) := by
 unfold cellsI
 rw [List.setIfInBounds_toArray, List.map_set]
theorem li_blk {u : World} {b : Nat} {l : List Int} (h : Blk u b 3 (cellsI l)) : Li u (some ⟨b, 0, none⟩) l := fun _ =>
 ⟨b, 0, rfl, h.lt, fun i x hi => by rw [Nat.zero_add, h.cell, cellsI_get, hi]; rfl⟩
theorem info_int : (Tryz.prog.info? 3).map (fun i => (i.zero, i.size, i.bytes)) = some (some (.int .i64 0), 1, 8) := by kernel_rfl
theorem cells_madeI (n : Nat) : madeCells (Value.int .i64 0).cells (n * 1) = cellsI (List.replicate n 0) := by
 unfold cellsI madeCells
 refine Array.ext (by simp) fun i h1 h2 => ?_
 simp [Value.cells, Nat.mod_one]
theorem make_int (n : Nat) (hn : n ≤ 1099511627776) (x : Int) (hx : x = n) (W : World) : (Instr.makeSlice 22 (.int .i64 x) (.int .i64 x)).run Tryz.prog W =
  .ok (.slice (some ⟨W.heap.size, 0, none⟩) n n) (W.alloc (.cells (cellsI (List.replicate n 0)) 3)) := by
 obtain ⟨i0, hi0, hz0, hz1, hz2⟩ := info_parts info_int
 have hr := run_make (P := Tryz.prog) W 22 3 i0 (.int .i64 0) Tryz.underlying22 hi0 hz0 .i64 .i64 n n (by omega) (by omega) (by rw [hz2]; omega) (by omega)
 rw [hx]
 rw [hr, hz1]
 simp only [Int.toNat_natCast]
 rw [cells_madeI]
def cellsS (l : List Value) : Array Value := l.toArray
theorem info_Sint : (Tryz.prog.info? 22).map (fun i => (i.zero, i.size, i.bytes)) = some (some (.slice none 0 0), 1, 24) := by kernel_rfl
theorem cells_madeS (n : Nat) : madeCells (Value.slice none 0 0).cells (n * 1) = cellsS (List.replicate n (.slice none 0 0)) := by
 unfold cellsS madeCells
 refine Array.ext (by simp) fun i h1 h2 => ?_
 simp [Value.cells, Nat.mod_one]
theorem make_Sint (n : Nat) (hn : n ≤ 1099511627776) (x : Int) (hx : x = n) (W : World) : (Instr.makeSlice 23 (.int .i64 x) (.int .i64 x)).run Tryz.prog W =
  .ok (.slice (some ⟨W.heap.size, 0, none⟩) n n) (W.alloc (.cells (cellsS (List.replicate n (.slice none 0 0))) 22)) := by
 obtain ⟨i0, hi0, hz0, hz1, hz2⟩ := info_parts info_Sint
 have hr := run_make (P := Tryz.prog) W 23 22 i0 (.slice none 0 0) Tryz.underlying23 hi0 hz0 .i64 .i64 n n (by omega) (by omega) (by rw [hz2]; omega) (by omega)
 rw [hx]
 rw [hr, hz1]
 simp only [Int.toNat_natCast]
 rw [cells_madeS]
/-- the table's entry after r rows -/
def tabAt (l l' : List Int) (r i j : Nat) : Int := (cnt (fun s => gi l s == (i : Int) && gi l' s == (j : Int)) r : Nat)
def tabRow (l l' : List Int) (r k i : Nat) : List Int := (List.range k).map (tabAt l l' r i)
theorem tabRow_zero (l l' : List Int) (k i : Nat) : tabRow l l' 0 k i = List.replicate k 0 := by
 unfold tabRow
 refine List.ext_getElem (by simp) fun j h1 h2 => ?_
 simp [tabAt, cnt]
theorem tabRow_get (l l' : List Int) (r k i : Nat) {j : Nat} (h : j < k) : (tabRow l l' r k i)[j]? = some (tabAt l l' r i j) := by
 unfold tabRow; simp [h]
theorem tabAt_succ (l l' : List Int) (r i j : Nat) : tabAt l l' (r + 1) i j = tabAt l l' r i j + if gi l r = (i : Int) ∧ gi l' r = (j : Int) then 1 else 0 := by
 unfold tabAt
 simp only [cnt]
 by_cases h : gi l r = (i : Int) ∧ gi l' r = (j : Int)
 ·rw [if_pos h, if_pos (by simp [h.1, h.2])]; omega
 ·rw [if_neg h, if_neg (by simpa using h)]; omega
theorem tabAt_le (l l' : List Int) (r i j : Nat) : 0 ≤ tabAt l l' r i j ∧ tabAt l l' r i j ≤ r := by
 unfold tabAt; have := cnt_le (fun s => gi l s == (i : Int) && gi l' s == (j : Int)) r; omega
theorem tabRow_hit (l l' : List Int) (r k i j : Nat) (h1 : gi l r = (i : Int)) (h2 : gi l' r = (j : Int)) : (tabRow l l' r k i).set j (tabAt l l' r i j + 1) = tabRow l l' (r + 1) k i := by
 unfold tabRow
 refine List.ext_getElem (by simp) fun t g1 g2 => ?_
 rw [List.getElem_set]
 simp only [List.getElem_map, List.getElem_range, tabAt_succ, h1, h2, true_and]
 by_cases e : j = t
 ·subst e; simp
 ·rw [if_neg e, if_neg (by omega)]; omega
theorem tabRow_miss (l l' : List Int) (r k i : Nat) (h1 : gi l r ≠ (i : Int)) : tabRow l l' r k i = tabRow l l' (r + 1) k i := by
 unfold tabRow
 refine List.map_congr_left fun t _ => ?_
 rw [tabAt_succ, if_neg (fun h => h1 h.1)]
 omega
end Go.Proofs.YtimjnkfcnpfoeaaGreatDoor
namespace Go.Proofs.YtimjnkfcnpfoeaaGreatDoor
open Go.ChangeShapes Go.WideShapes Go.ChangeAt Go.RowKit
theorem ownK : ownKnob Tryz.prog.godebug = none := by kernel_rfl
theorem laidOutP : laidOutB Tryz.prog = true := by kernel_rfl
theorem cellsT_int : Tryz.prog.cellsOf 3 = 1 := by kernel_rfl
theorem trodAll_below {H : Type} {enc : TypeId × Value → H} {W W' : World} (hb : Below W.heap.size W W') : ∀ {ts : List TypeId} {vs : List Value} {ds : List (DataW H)} {ps : List MemPlace}, (∀ t ∈ ts, Tryz.prog.readableRec t = true ∧ t < Tryz.prog.types.size) → (∀ x ∈ ps, x.block < W.heap.size) →
  DataW.TrodAll enc Tryz.prog W 0 (fun _ => true) true ts vs ds ps → DataW.TrodAll enc Tryz.prog W' 0 (fun b => decide (b < W.heap.size)) true ts vs ds ps
 | [], vs, ds, ps, _, _, h => by
  obtain ⟨rfl, rfl, rfl⟩ := trodAll_nil h
  exact trodAll_mk0
 | t :: ts, vs, ds, ps, ht, hlt, h => by
  obtain ⟨v, vs1, d, ds1, a, b, rfl, rfl, rfl, h1, h2⟩ := trodAll_cons h
  obtain ⟨r1, r2⟩ := ht t (by simp)
  exact ⟨a, b, Below.trod laidOutP r1 r2 h1 hb (fun x hx => hlt x (by simp [hx])), trodAll_below hb (fun t ht' => ht t (by simp [ht'])) (fun x hx => hlt x (by simp [hx])) h2, rfl⟩
/-- what a law owes behind its call -/
theorem law_post {H : Type} {enc : TypeId × Value → H} {f : Func} {s : ChangeSpec} {apart : Bool} {W W' : World} {args : Array Value} {ds gs : List (DataW H)} {before : List MemPlace}
  (hW : DataW.Whole enc Tryz.prog f.params.toList s.vars apart W args.toList ds gs before) (hv : s.vars = []) (hf1 : (s.fn H (ds ++ gs)).results = [.lit (.bool true)]) (hf2 : (s.fn H (ds ++ gs)).args = ds) (hf3 : (s.fn H (ds ++ gs)).vars = []) (hr : f.resultTypes = #[4])
  (hp : ∀ t ∈ f.params.toList, Tryz.prog.readableRec t = true ∧ t < Tryz.prog.types.size) (hb : Below W.heap.size W W') : s.post enc Tryz.prog f apart true false false W args (.bool true) W' := by
 have hlt := hW.lt
 have hW2 := hW
 obtain ⟨p, q, hA, hV, rfl, hz, hn⟩ := hW
 refine ⟨ds, gs, p ++ q, [], p, [], hW2, ?_, ?_, ?_, ?_, fun h => by cases h⟩
 ·rw [hf1, hr]
  exact trodAll_cons_mk (shut_bool Tryz.underlying4 _) trodAll_mk0
 ·rw [hf2]
  exact trodAll_below hb hp (fun x hx => hlt x (by simp [hx])) hA
 ·rw [hf3, hv]
  rfl
 ·exact hb.frame _
set_option maxRecDepth 100000 in
/-- an argument that is a slice of integers -/
theorem arg_ints {H : Type} {enc : TypeId × Value → H} {W : World} {base : Nat} {v : Value} {d : DataW H} {p : List MemPlace} (hval : Value.okWide Tryz.prog W .any base 22 v) (h : DataW.Trod enc Tryz.prog W 0 (fun _ => true) true 22 v d p) :
  ∃ (A : Option Addr) (l : List Int) (c : Nat), v = .slice A l.length c ∧ Li W A l ∧ l.length ≤ 9223372036854775807 ∧ ∀ x ∈ l, -9223372036854775808 ≤ x ∧ x ≤ 9223372036854775807 := by
 obtain ⟨a0, len, cap, rfl⟩ := okWide_slice Tryz.underlying22 hval
 obtain ⟨fuel, hf⟩ := h
 rcases open_ints Tryz.underlying22 Tryz.underlying3 cellsT_int hf with ⟨hcs, hx⟩ | ⟨a, len', cap', zs, hcs, _, hl, hm, hz, hx, hcell, hwz⟩
 ·simp [Value.cells] at hcs
  obtain ⟨rfl, rfl, rfl⟩ := hcs
  exact ⟨none, [], 0, rfl, Li.nil _ _, by simp, fun x hx => by cases hx⟩
 ·simp [Value.cells] at hcs
  obtain ⟨rfl, rfl, rfl⟩ := hcs
  simp only [if_true] at hz
  have hlen : (zs.take len).length = len := by simp; omega
  refine ⟨some a, zs.take len, cap, by rw [hlen], fun hne => ?_, by rw [hlen]; unfold maxLen at hm; omega, fun x hx => bounds_i64 (hwz x (List.mem_of_mem_take hx))⟩
  have h0 : 0 < zs.length := by
   have : 0 < (zs.take len).length := List.length_pos_iff.2 hne
   omega
  obtain ⟨b, off, rfl, hc⟩ := ints_at hcell h0
  have hb : b < W.heap.size := World.block_lt_of_cell? W _ (hc 0 h0)
  refine ⟨b, off, rfl, hb, fun i x hi => ?_⟩
  have hi2 : i < (zs.take len).length := (List.getElem?_eq_some_iff.1 hi).1
  have hi3 : zs[i]? = some x := by
   rw [List.getElem?_take] at hi
   split at hi
   ·exact hi
   ·cases hi
  rw [hc i (by rw [hlen] at hi2; omega)]
  simp [List.getD, hi3]
/-- the table of the program's bits -/
def tab64L : List Int := [0, 1, 56, 2, 57, 49, 28, 3, 61, 58, 42, 50, 38, 29, 17, 4, 62, 47, 59, 36, 45, 43, 51, 22, 53, 39, 33, 30, 24, 18, 12, 5, 63, 55, 48, 27, 60, 41, 37, 16, 46, 35, 44, 21, 52, 32, 23, 11, 54, 26, 40, 15, 34, 20, 31, 10, 25, 14, 19, 9, 13, 8, 7, 6]
theorem tab64_same : ∀ j, j < 64 → tab64L.getD j 0 = ((Lib.deBruijn64tab.getD j 0 : Nat) : Int) := by decide
theorem tab64_type : (Tryz.prog.globals[2]?).map (·.type) = some 241 := by kernel_rfl
theorem tab64_cells : Tryz.prog.cellsOf 241 = 64 := by kernel_rfl
theorem tab64_cell : Tryz.prog.cellsOf 5 = 1 := by kernel_rfl
/-- the row's list gives the table -/
theorem tab_laid {W : World} {name : String} (hg : Tryz.prog.globalNamed name = some 2) (h : laidMetH Tryz.prog [(name, Lib.tabData .u8 tab64L)] W) : Tab W := fun j hj => by
 have h1 := (Lib.tabIs_of_head (rest := []) hg tab64_type Tryz.underlying241 Tryz.underlying5 tab64_cell tab64_cells h).cell hg j (by show j < 64; exact hj)
 rw [tab64_same j hj] at h1
 exact h1
/-- the settled world, the table holding what its initialiser lays -/
noncomputable def laidWorld (os : Os) : World :=
 { World.holding Tryz.prog os ⟨#[], #[], []⟩ with heap := (World.holding Tryz.prog os ⟨#[], #[], []⟩).heap.modify 2 fun
   | .cells _ t frozen => .cells (tab64L.map fun x => Value.int .u8 x).toArray t frozen
   | o => o }
end Go.Proofs.YtimjnkfcnpfoeaaGreatDoor
namespace Go.Proofs.YtimjnkfcnpfoeaaGreatDoor
open Go.ChangeShapes Go.WideShapes Go.ChangeAt Go.RowKit
theorem cellsT_Sint : Tryz.prog.cellsOf 22 = 1 := by kernel_rfl
theorem addr_plain {W : World} {a : Addr} {n : Nat} {f : Nat → Value} (h : ∀ i, i < n → W.cell? (a.add i) = some (f i)) (hp : 0 < n) : ∃ b off, a = ⟨b, off, none⟩ ∧ ∀ j, j < n → W.cell? ⟨b, off + j, none⟩ = some (f j) := by
 obtain ⟨b, off, spot⟩ := a
 have hspot : spot = none := by simpa [Addr.add] using World.cell?_spot (h 0 hp)
 subst hspot
 exact ⟨b, off, rfl, fun j hj => by rw [← Go.WideShapes.add_plain]; exact h j hj⟩
set_option maxRecDepth 100000 in
theorem arg_rows {H : Type} {enc : TypeId × Value → H} {W : World} {base : Nat} {v : Value} {d : DataW H} {p : List MemPlace} (hval : Value.okWide Tryz.prog W .any base 23 v) (h : DataW.Trod enc Tryz.prog W 0 (fun _ => true) true 23 v d p) :
  ∃ (A : Option Addr) (rs : List Rw) (c : Nat), v = .slice A rs.length c ∧ Lrows W A rs ∧ rs.length ≤ c ∧ c ≤ 9223372036854775807 := by
 obtain ⟨a0, len, cap, rfl⟩ := okWide_slice Tryz.underlying23 hval
 obtain ⟨fuel, hf⟩ := h
 rcases Go.Deep.open_int_rows Tryz.underlying23 Tryz.underlying22 Tryz.underlying3 cellsT_Sint cellsT_int hf with ⟨hcs, hx⟩ | ⟨a, len', cap', A, L, C, Z, hcs, _, hl, hm, hx, hr⟩
 ·simp [Value.cells] at hcs
  obtain ⟨rfl, rfl, rfl⟩ := hcs
  exact ⟨none, [], 0, rfl, fun h => absurd rfl h, Nat.le_refl _, by omega⟩
 ·simp [Value.cells] at hcs
  obtain ⟨rfl, rfl, rfl⟩ := hcs
  have hlen : ((List.range len).map fun r => ((A r, C r, (Z r).take (L r)) : Rw)).length = len := by simp
  refine ⟨some a, (List.range len).map fun r => (A r, C r, (Z r).take (L r)), cap, by rw [hlen], fun hne => ?_, by rw [hlen]; exact hl, by unfold maxLen at hm; omega⟩
  have h0 : 0 < len := by
   rcases Nat.eq_zero_or_pos len with e | e
   ·subst e; exact absurd rfl hne
   ·exact e
  obtain ⟨b, off, rfl, hc⟩ := addr_plain (n := cap) (f := fun r => .slice (A r) (L r) (C r)) (fun r hrc => (hr r hrc).1) (by omega)
  have hb : b < W.heap.size := World.block_lt_of_cell? W _ (hc 0 (by omega))
  refine ⟨b, off, rfl, hb, fun i r hi => ?_⟩
  rw [List.getElem?_map, Option.map_eq_some_iff] at hi
  obtain ⟨j, hj, rfl⟩ := hi
  obtain ⟨hj1, hj2⟩ := List.getElem?_eq_some_iff.1 hj
  simp only [List.length_range] at hj1
  simp only [List.getElem_range] at hj2
  subst hj2
  obtain ⟨e1, e2, e3, e4, e5, e6, e7⟩ := hr i (by omega)
  have hzl : ((Z i).take (L i)).length = L i := by simp; omega
  refine ⟨by rw [hc i (by omega), hzl], fun hne2 => ?_⟩
  have hLi : 0 < L i := by
   have : 0 < ((Z i).take (L i)).length := List.length_pos_iff.2 hne2
   omega
  cases hA : A i with
  | none => have := e6 hA; omega
  | some a' =>
   obtain ⟨_, hcc⟩ := e7 a' hA
   obtain ⟨b2, off2, rfl, hc2⟩ := addr_plain (n := C i) (f := fun c => .int .i64 ((Z i).getD c 0)) hcc (by omega)
   refine ⟨b2, off2, by simp [hA], World.block_lt_of_cell? W _ (hc2 0 (by omega)), fun t x ht => ?_⟩
   have ht2 : t < L i := by have := (List.getElem?_eq_some_iff.1 ht).1; simp at this; omega
   have ht3 : (Z i)[t]? = some x := by
    rw [List.getElem?_take, if_pos ht2] at ht
    exact ht
   rw [hc2 t (by omega)]
   simp [List.getD, ht3]
theorem slice_run (A : Option Addr) (p c Q : Nat) (h : Q ≤ c) (W : World) : (Instr.slice 23 (.slice A p c) none (some (.int .i64 (Q : Nat))) none).run Tryz.prog W = .ok (.slice (if c = 0 then A else A.map (·.add 0)) Q c) W := by
 have h2 : (Q : Int) ≤ (c : Int) := by omega
 go_simp
theorem slice_rows (A : Option Addr) (c Q : Nat) (rs : List Rw) (W : World) (h : Lrows W A rs) : Lrows W (if c = 0 then A else A.map (·.add 0)) (rs.take Q) := fun hne => by
 obtain ⟨b, off, rfl, hb, hc⟩ := h (fun h0 => hne (by rw [h0]; simp))
 refine ⟨b, off, by split <;> simp [Addr.add], hb, fun i r hi => ?_⟩
 rw [List.getElem?_take] at hi
 split at hi
 ·exact hc i r hi
 ·cases hi
end Go.Proofs.YtimjnkfcnpfoeaaGreatDoor
