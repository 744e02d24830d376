/-
  score.Rates where all is well.
-/
import Derived.Test.YtimjnkfcnpfoeaaGreatDoorRateM
import Derived.RegionTactic
set_option linter.unusedSimpArgs false
set_option linter.unusedVariables false
namespace Go.Proofs.YtimjnkfcnpfoeaaGreatDoor
open Go.RowKit

/-- a square table that lies in memory -/
def Tb (w : World) (bt ot k : Nat) (rb ro rc : Nat → Nat) (T : Nat → Nat → Int) : Prop :=
  bt < w.heap.size ∧ ∀ i, i < k → w.cell? ⟨bt, ot + i, none⟩ = some (.slice (some ⟨rb i, ro i, none⟩) k (rc i)) ∧ rb i < w.heap.size ∧ ∀ j, j < k → w.cell? ⟨rb i, ro i + j, none⟩ = some (.int .i64 (T i j))
theorem Tb.grow {w u : World} {bt ot k : Nat} {rb ro rc : Nat → Nat} {T : Nat → Nat → Int} (h : Tb w bt ot k rb ro rc T) (hg : Grow w u) : Tb u bt ot k rb ro rc T :=
  ⟨Nat.lt_of_lt_of_le h.1 hg.size, fun i hi => ⟨(hg.cell (p := ⟨bt, ot + i, none⟩) h.1).trans (h.2 i hi).1, Nat.lt_of_lt_of_le (h.2 i hi).2.1 hg.size, fun j hj => (hg.cell (p := ⟨rb i, ro i + j, none⟩) (h.2 i hi).2.1).trans ((h.2 i hi).2.2 j hj)⟩⟩
/-- the cells of a fraction, of a rate -/
def qL (q : Rat) : List Value := [.bool (intNeg q.num), .int .u64 (natLo q.num.natAbs), .string (natMo q.num.natAbs), .int .u64 (natLo (keptDen q.den)), .string (natMo (keptDen q.den))]
abbrev R3 := Rat × Rat × Rat
def rL (r : R3) : List Value := qL r.1 ++ qL r.2.1 ++ qL r.2.2
def cellsR (l : List R3) : Array Value := (l.flatMap rL).toArray
theorem rL_len (r : R3) : (rL r).length = 15 := rfl
theorem flat_len (l : List R3) : (l.flatMap rL).length = 15 * l.length := by
  induction l with
  | nil => rfl
  | cons x l ih => rw [List.flatMap_cons, List.length_append, ih, rL_len, List.length_cons]; omega
theorem flat_get (l : List R3) {i : Nat} (hi : i < l.length) {j : Nat} (hj : j < 15) : (l.flatMap rL)[15 * i + j]? = (rL l[i])[j]? := by
  induction l generalizing i with
  | nil => cases hi
  | cons x l ih =>
    rw [List.flatMap_cons]
    cases i with
    | zero =>
      rw [Nat.mul_zero, Nat.zero_add, List.getElem?_append_left (by rw [rL_len]; exact hj)]
      rfl
    | succ i =>
      rw [List.getElem?_append_right (by rw [rL_len]; omega), rL_len, show 15 * (i + 1) + j - 15 = 15 * i + j by omega]
      exact ih (by simpa using hi)
theorem cellsR_get (l : List R3) {i : Nat} (hi : i < l.length) {j : Nat} (hj : j < 15) : (cellsR l)[15 * i + j]? = (rL l[i])[j]? := by
  unfold cellsR; rw [List.getElem?_toArray, flat_get l hi hj]
theorem info_Rate : (Tryz.prog.info? 58).map (fun i => (i.zero, i.size, i.bytes)) = some (some (.agg (rL (0, 0, 0)).toArray), 15, 168) := by kernel_rfl
theorem cells_madeR (n : Nat) : madeCells (Value.agg (rL (0, 0, 0)).toArray).cells (n * 15) = cellsR (List.replicate n (0, 0, 0)) := by
  unfold cellsR madeCells
  refine Array.ext (by simp [flat_len, rL_len]) fun i h1 h2 => ?_
  have hi : i < n * 15 := by simpa using h1
  have e : i = 15 * (i / 15) + i % 15 := by omega
  have hg := flat_get (List.replicate n ((0, 0, 0) : R3)) (i := i / 15) (by rw [List.length_replicate]; omega) (j := i % 15) (by omega)
  rw [← e, List.getElem_replicate] at hg
  simp only [Value.cells, Array.getElem_ofFn]
  have h3 : ((List.replicate n ((0, 0, 0) : R3)).flatMap rL)[i]? = some ((List.replicate n ((0, 0, 0) : R3)).flatMap rL)[i] := List.getElem?_eq_getElem _
  rw [h3] at hg
  have h4 : (rL (0, 0, 0))[i % 15]? = some ((rL (0, 0, 0))[i % 15]'(by rw [rL_len]; omega)) := List.getElem?_eq_getElem _
  rw [h4] at hg
  injection hg with hg
  simp only [List.getElem_toArray]
  rw [hg]
  simp [rL_len]
  rw [h4]
  rfl
theorem make_Rate (n : Nat) (hn : n ≤ 1048576) (x : Int) (hx : x = n) (W : World) : (Instr.makeSlice 53 (.int .i64 x) (.int .i64 x)).run Tryz.prog W =
    .ok (.slice (some ⟨W.heap.size, 0, none⟩) n n) (W.alloc (.cells (cellsR (List.replicate n (0, 0, 0))) 58)) := by
  obtain ⟨i0, hi0, hz0, hz1, hz2⟩ := info_parts info_Rate
  have hr := run_make (P := Tryz.prog) W 53 58 i0 (.agg (rL (0, 0, 0)).toArray) Tryz.underlying53 hi0 hz0 .i64 .i64 n n (by omega) (by omega) (by rw [hz2]; omega) (by omega)
  rw [hx]
  rw [hr, hz1]
  simp only [Int.toNat_natCast]
  rw [cells_madeR]
/-- a class's rates -/
def precAt (k : Nat) (T : Nat → Nat → Int) (i : Nat) : Rat := qover (T i i) (sumTo (fun a => T a i) k)
def recAt (k : Nat) (T : Nat → Nat → Int) (i : Nat) : Rat := qover (T i i) (sumTo (T i) k)
def prodAt (k : Nat) (T : Nat → Nat → Int) (i : Nat) : Rat := qmul (precAt k T i) (recAt k T i)
def bothAt (k : Nat) (T : Nat → Nat → Int) (i : Nat) : Rat := qdiv (qadd (prodAt k T i) (prodAt k T i)) (qadd (precAt k T i) (recAt k T i))
def rateAt (k : Nat) (T : Nat → Nat → Int) (i : Nat) : R3 := (precAt k T i, recAt k T i, bothAt k T i)
def rateTo (k : Nat) (T : Nat → Nat → Int) (a : Nat) : List R3 := (List.range k).map fun i => if i < a then rateAt k T i else (0, 0, 0)
theorem rateTo_start (k : Nat) (T : Nat → Nat → Int) : rateTo k T 0 = List.replicate k (0, 0, 0) := by
  unfold rateTo
  refine List.ext_getElem (by simp) fun t h1 h2 => ?_
  simp
theorem newObj_Rate (d : Option Tmp) (ty : TypeId) (pos : String) (af : Array Edge) (gd : Option (Nat × Bool)) : newObj Tryz.prog ⟨d, .alloc 58, ty, pos, af, gd⟩ = .cells #[.bool false, .int .u64 0, .string ⟨#[]⟩, .int .u64 0, .string ⟨#[]⟩, .bool false, .int .u64 0, .string ⟨#[]⟩, .int .u64 0, .string ⟨#[]⟩, .bool false, .int .u64 0, .string ⟨#[]⟩, .int .u64 0, .string ⟨#[]⟩] 58 := by kernel_rfl
theorem allocs3 : ∀ t ∈ [28, 30, 32, 39, 41, 58], AllocT Tryz.prog t := by
  intro t ht
  simp only [List.mem_cons, List.not_mem_nil, or_false] at ht
  rcases ht with rfl | rfl | rfl | rfl | rfl | rfl
  · exact fun _ _ _ _ _ _ => by rw [newObj_Nat]; kernel_rfl
  · exact fun _ _ _ _ _ _ => by rw [newObj_Int]; kernel_rfl
  · exact fun _ _ _ _ _ _ => by rw [newObj_Q]; kernel_rfl
  · exact fun _ _ _ _ _ _ => by rw [newObj_RInt]; kernel_rfl
  · exact fun _ _ _ _ _ _ => by rw [newObj_RQ]; kernel_rfl
  · exact fun _ _ _ _ _ _ => by rw [newObj_Rate]; kernel_rfl
theorem over_sub (x : Int) (y : Nat) (n d : Int) (s : Nat) (hn : n.natAbs < 2 ^ s) (hd : d.natAbs < 2 ^ s) (hs : 1 ≤ s) : qs (qover n d) ≤ s := by
  by_cases h0 : d = 0
  · subst h0
    unfold qover
    rw [Rat.divInt_zero]
    exact qs_int 0 s (by simp; exact Nat.two_pow_pos s) hs
  · refine Nat.max_le.2 ⟨?_, ?_⟩
    · rw [over_num n d h0, sgn_abs]
      exact Nat.le_trans (bl_div_le _ _) (bl_le.2 hn)
    · rw [over_den n d h0]
      exact Nat.le_trans (bl_div_le _ _) (bl_le.2 hd)
theorem wrAll_size (vs : List Value) : ∀ (cs : Array Value) (i : Nat), (wrAll cs i vs).size = cs.size := by
  induction vs with
  | nil => intro cs i; rfl
  | cons v vs ih => intro cs i; simp only [wrAll]; rw [ih]; simp
theorem wrAll_get (vs : List Value) : ∀ (cs : Array Value) (i t : Nat), t < cs.size → (wrAll cs i vs)[t]? = if i ≤ t ∧ t < i + vs.length then vs[t - i]? else cs[t]? := by
  induction vs with
  | nil => intro cs i t _; simp only [wrAll, List.length_nil]; rw [if_neg (by omega)]
  | cons v vs ih =>
    intro cs i t ht
    simp only [wrAll]
    rw [ih _ _ _ (by simpa using ht)]
    by_cases e : t = i
    · subst e
      rw [if_neg (by omega), if_pos (by simp)]
      simp [ht]
    · by_cases h : i + 1 ≤ t ∧ t < i + 1 + vs.length
      · rw [if_pos h, if_pos (by simp; omega), show t - i = (t - (i + 1)) + 1 by omega, List.getElem?_cons_succ]
      · rw [if_neg h, if_neg (by simp; omega), Array.getElem?_setIfInBounds_ne (by omega)]
theorem cellsR_size (l : List R3) : (cellsR l).size = 15 * l.length := by unfold cellsR; rw [List.size_toArray, flat_len]
theorem wrAll_rate (l : List R3) {a : Nat} (ha : a < l.length) (r : R3) : wrAll (cellsR l) (a * 15) (rL r) = cellsR (l.set a r) := by
  refine Array.ext_getElem? fun t => ?_
  rcases Nat.lt_or_ge t (15 * l.length) with ht | ht
  · rw [wrAll_get _ _ _ _ (by rw [cellsR_size]; exact ht), rL_len]
    have e : t = 15 * (t / 15) + t % 15 := by omega
    have h1 := cellsR_get (l.set a r) (i := t / 15) (by rw [List.length_set]; omega) (j := t % 15) (by omega)
    have h2 := cellsR_get l (i := t / 15) (by omega) (j := t % 15) (by omega)
    rw [← e] at h1 h2
    rw [h1, h2, List.getElem_set]
    by_cases h : a * 15 ≤ t ∧ t < a * 15 + 15
    · rw [if_pos h, if_pos (by omega), show t - a * 15 = t % 15 by omega]
    · rw [if_neg h, if_neg (by omega)]
  · rw [Array.getElem?_eq_none (by rw [wrAll_size, cellsR_size]; exact ht), Array.getElem?_eq_none (by rw [cellsR_size, List.length_set]; exact ht)]
theorem rateTo_len (k : Nat) (T : Nat → Nat → Int) (a : Nat) : (rateTo k T a).length = k := by unfold rateTo; simp
theorem rateTo_set (k : Nat) (T : Nat → Nat → Int) {a : Nat} (h : a < k) : (rateTo k T a).set a (rateAt k T a) = rateTo k T (a + 1) := by
  unfold rateTo
  refine List.ext_getElem (by simp) fun t h1 h2 => ?_
  rw [List.getElem_set]
  simp only [List.getElem_map, List.getElem_range]
  by_cases e : a = t
  · subst e; simp
  · rw [if_neg e]
    by_cases h3 : t < a
    · rw [if_pos h3, if_pos (by omega)]
    · rw [if_neg h3, if_neg (by omega)]
theorem old_cell (k : Nat) (T : Nat → Nat → Int) (c a : Nat) (h : a < k) (j : Nat) (hj : j < 15) : ∃ v, (cellsR (rateTo k T c))[a * 15 + j]? = some v := by
  rw [Nat.mul_comm, cellsR_get _ (by rw [rateTo_len]; exact h) hj, List.getElem?_eq_getElem (by rw [rL_len]; exact hj)]
  exact ⟨_, rfl⟩
theorem wr_rate (k : Nat) (T : Nat → Nat → Int) {a : Nat} (h : a < k) (p r b : Rat) (hr : rateAt k T a = (p, r, b)) : wrAll (cellsR (rateTo k T a)) (a * 15) (qL p ++ qL r ++ qL b) = cellsR (rateTo k T (a + 1)) := by
  have := wrAll_rate (rateTo k T a) (a := a) (by rw [rateTo_len]; exact h) (rateAt k T a)
  rw [rateTo_set k T h, hr] at this
  exact this
end Go.Proofs.YtimjnkfcnpfoeaaGreatDoor
