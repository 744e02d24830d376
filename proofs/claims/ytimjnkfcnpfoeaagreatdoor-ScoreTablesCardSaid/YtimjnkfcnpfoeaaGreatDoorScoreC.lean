/-
  score.Table where all is well.
-/
import Derived.Test.YtimjnkfcnpfoeaaGreatDoorScoreB
set_option linter.unusedSimpArgs false
namespace Go.Proofs.YtimjnkfcnpfoeaaGreatDoor
open Go.RowKit
def rowPtr (B0 k i : Nat) : Value := .slice (some ⟨B0 + 1 + i, 0, none⟩) k k
def outTo (B0 k i : Nat) : List Value := (List.range i).map (rowPtr B0 k) ++ List.replicate (k - i) (.slice none 0 0)
theorem outTo_get (B0 k : Nat) {i : Nat} (h : i < k) : (outTo B0 k i)[i]? = some (.slice none 0 0) := by
  unfold outTo
  rw [List.getElem?_append_right (by simp), List.getElem?_replicate, if_pos (by simp; omega)]
theorem outTo_set (B0 k : Nat) {i : Nat} (h : i < k) : (outTo B0 k i).set i (rowPtr B0 k i) = outTo B0 k (i + 1) := by
  unfold outTo
  rw [List.set_append_right _ _ (by simp), List.length_map, List.length_range, Nat.sub_self]
  obtain ⟨m, hm⟩ : ∃ m, k - i = m + 1 := ⟨k - i - 1, by omega⟩
  rw [hm, show k - (i + 1) = m by omega, List.range_succ, List.map_append, List.append_assoc]
  rfl
theorem outTo_full (B0 k : Nat) {i : Nat} (h : i < k) : (outTo B0 k k)[i]? = some (rowPtr B0 k i) := by
  unfold outTo; simp [h]
theorem cellsS_get (l : List Value) (i : Nat) : (cellsS l)[i]? = l[i]? := by unfold cellsS; simp
theorem cellsS_set (l : List Value) (i : Nat) (v : Value) : (cellsS l).setIfInBounds i v = cellsS (l.set i v) := by
  unfold cellsS; rw [List.setIfInBounds_toArray]
/-- the table's rows while it is made -/
def Made (B0 k i : Nat) (wr : World) : Prop := wr.heap.size = B0 + 1 + i ∧ Blk wr B0 22 (cellsS (outTo B0 k i)) ∧ ∀ j, j < i → Blk wr (B0 + 1 + j) 3 (cellsI (List.replicate k 0))
def Tabd (B0 k : Nat) (l l' : List Int) (r : Nat) (wr : World) : Prop := Blk wr B0 22 (cellsS (outTo B0 k k)) ∧ ∀ j, j < k → Blk wr (B0 + 1 + j) 3 (cellsI (tabRow l l' r k j))
theorem setCell_size (u : World) (p : Addr) (v : Value) : (u.setCell p v).heap.size = u.heap.size := by simp [World.setCell]
theorem Made.next {B0 k i : Nat} {wr : World} (h : Made B0 k i wr) (hi : i < k) : Made B0 k (i + 1) ((wr.setCell ⟨B0, i, none⟩ (.slice (some ⟨wr.heap.size, 0, none⟩) k k)).alloc (.cells (cellsI (List.replicate k 0)) 3)) := by
  obtain ⟨h1, h2, h3⟩ := h
  refine ⟨by rw [alloc_size, setCell_size, h1]; omega, ?_, fun j hj => ?_⟩
  · have := h2.set_ i (.slice (some ⟨wr.heap.size, 0, none⟩) k k)
    rw [cellsS_set, h1, show (Value.slice (some ⟨B0 + 1 + i, 0, none⟩) k k) = rowPtr B0 k i from rfl, outTo_set B0 k hi] at this
    rw [h1]
    exact this.grow (Grow.alloc _ _)
  · rcases Nat.lt_or_ge j i with hlt | hge
    · exact ((h3 j hlt).far (p := ⟨B0, i, none⟩) (by show B0 + 1 + j ≠ B0; omega) _).grow (Grow.alloc _ _)
    · obtain rfl : j = i := by omega
      have := Blk.new (wr.setCell ⟨B0, j, none⟩ (.slice (some ⟨wr.heap.size, 0, none⟩) k k)) 3 (cellsI (List.replicate k 0))
      rw [setCell_size, h1] at this
      rw [h1]
      exact this
theorem Tabd.next {B0 k : Nat} {l l' : List Int} {r : Nat} {wr : World} (h : Tabd B0 k l l' r wr) {p q : Nat} (hp : gi l r = (p : Int)) (hq : gi l' r = (q : Int)) (hpk : p < k) :
    Tabd B0 k l l' (r + 1) (wr.setCell ⟨B0 + 1 + p, q, none⟩ (.int .i64 (tabAt l l' r p q + 1))) := by
  refine ⟨h.1.far (p := ⟨B0 + 1 + p, q, none⟩) (by show B0 ≠ B0 + 1 + p; omega) _, fun j hj => ?_⟩
  by_cases e : j = p
  · subst e
    have := (h.2 j hj).set_ q (.int .i64 (tabAt l l' r j q + 1))
    rw [cellsI_set, tabRow_hit l l' r k j q hp hq] at this
    exact this
  · rw [← tabRow_miss l l' r k j (by rw [hp]; omega)]
    exact (h.2 j hj).far (p := ⟨B0 + 1 + p, q, none⟩) (by show B0 + 1 + j ≠ B0 + 1 + p; omega) _
def tabRows (B0 k : Nat) (l l' : List Int) (m : Nat) : List Rw := (List.range k).map fun i => (some ⟨B0 + 1 + i, 0, none⟩, k, tabRow l l' m k i)
theorem Tabd.rows {B0 k : Nat} {l l' : List Int} {m : Nat} {wr : World} (h : Tabd B0 k l l' m wr) : Lrows wr (some ⟨B0, 0, none⟩) (tabRows B0 k l l' m) := fun _ =>
  ⟨B0, 0, rfl, h.1.lt, fun i r hi => by
    unfold tabRows at hi
    rw [List.getElem?_map, Option.map_eq_some_iff] at hi
    obtain ⟨j, hj, rfl⟩ := hi
    rw [List.getElem?_eq_some_iff] at hj
    obtain ⟨hj1, hj2⟩ := hj
    simp only [List.length_range] at hj1
    simp only [List.getElem_range] at hj2
    subst hj2
    refine ⟨?_, li_blk (h.2 i hj1)⟩
    rw [Nat.zero_add, h.1.cell, cellsS_get, outTo_full B0 k hj1]
    simp [rowPtr, tabRow]⟩
set_option maxHeartbeats 2000000 in
set_option maxRecDepth 100000 in
theorem score_Table_ok (A B : Option Addr) (m c d k : Nat) (l l' : List Int) (hl : l.length = m) (hl' : l'.length = m) (hm0 : 0 < m) (hm : m ≤ 1099511627776) (hk1 : 1 ≤ k) (hk2 : k ≤ 12)
    (hr : ∀ i, i < m → (0 ≤ gi l i ∧ gi l i < k) ∧ 0 ≤ gi l' i ∧ gi l' i < k) (w : World) (h1 : Li w A l) (h2 : Li w B l') :
    Calls Tryz.prog 14 #[.slice A m c, .slice B m d, .int .i64 k] w fun e w' => ∃ B0 : Nat, w.heap.size ≤ B0 ∧ e = .returned (.tuple #[.slice (some ⟨B0, 0, none⟩) k k, .int .i64 0]) ∧ Lrows w' (some ⟨B0, 0, none⟩) (tabRows B0 k l l' m) ∧ Grow w w' := by
  have hp : ∀ W, Calls Tryz.prog 57 #[.slice A m c, .slice B m d] W fun e w' => e = .returned (.bool true) ∧ Grow W w' := fun W => by
    have := score_paired_ii A B m m c d W
    rw [show pairedB m m = true by unfold pairedB; simp [hm0]] at this
    exact this
  have Hp := Lib.hid hp
  have H1 := Lib.hid h1
  have H2 := Lib.hid h2
  have Hr := Lib.hid hr
  have Hl := Lib.hid hl
  have Hl' := Lib.hid hl'
  have hmk1 := make_Sint k (by omega) (k : Int) rfl
  have hmk2 := make_int k (by omega) (k : Int) rfl
  clear hp h1 h2 hr hl hl'
  go_enter Tryz.func14, Tryz.ntmps14
  go_wp2_with (go_at_call 57; ((with_reducible refine (Hp.out _).mono ?_); rintro e w1 ⟨rfl, hg1⟩))
  clear hmk1
  obtain ⟨B0, hB0⟩ : ∃ b, b = w1.heap.size := ⟨_, rfl⟩
  rw [← hB0]
  have hw1 := hg1.size
  have hst : Made B0 k 0 (w1.alloc (.cells (cellsS (List.replicate k (.slice none 0 0))) 22)) := ⟨by rw [alloc_size, hB0], by rw [hB0]; unfold outTo; exact Blk.new w1 22 _, fun j hj => by omega⟩
  have Hst := Lib.hid hst
  have hB : w.heap.size ≤ B0 := by rw [hB0]; exact hw1
  clear hst hB0
  go_loopw [27] (fun s wr => ∃ i : Nat, i ≤ k ∧ s = .int .i64 i ∧ Made B0 k i wr ∧ Grow w wr) (fun s _ => k - (intOf s).toNat)
  case atStart => exact ⟨0, Nat.zero_le _, rfl, Hst.out, hg1.trans (Grow.alloc _ _)⟩
  case round =>
    obtain ⟨i, hi, rfl, hM, hG⟩ := hrel
    have HM := Lib.hid hM
    clear hM
    rcases Nat.lt_or_ge i k with hlt | hge
    · have hc := HM.out.2.1.cell i
      have hf := HM.out.2.1.frozen i
      have hz := HM.out.1
      rw [cellsS_get, outTo_get B0 k hlt] at hc
      have hBl : B0 < wr.heap.size := by omega
      clear hz
      go_wp2_with fail
      go_roundw
      case rel => exact ⟨i + 1, by omega, by go_num, HM.out.next hlt, (hG.setCell (p := ⟨B0, i, none⟩) hB _).trans (Grow.alloc _ _)⟩
      case measure => simp [intOf]; omega
    · obtain rfl : i = k := by omega
      have hT : Tabd B0 i l l' 0 wr := ⟨HM.out.2.1, fun j hj => by rw [tabRow_zero]; exact HM.out.2.2 j hj⟩
      have HT := Lib.hid hT
      clear hT
      go_wp2_with fail
      obtain ⟨wo, rfl⟩ : ∃ wo : World, wo = wr := ⟨_, rfl⟩
      go_loopw [38] (fun s wr => ∃ r : Nat, r ≤ m ∧ s = .int .i64 r ∧ Tabd B0 i l l' r wr ∧ Grow w wr) (fun s _ => m - (intOf s).toNat)
      case atStart => exact ⟨0, Nat.zero_le _, rfl, HT.out, hG⟩
      case round =>
        obtain ⟨r, hr, rfl, hT, hG⟩ := hrel
        have HT := Lib.hid hT
        clear hT
        rcases Nat.lt_or_ge r m with hlt | hge
        · obtain ⟨⟨a1, a2⟩, a3, a4⟩ := Hr.out r hlt
          obtain ⟨b1, o1, rfl, hc1⟩ := (H1.out.grow hG).cell (i := r) (by rw [Hl.out]; exact hlt)
          obtain ⟨b2, o2, rfl, hc2⟩ := (H2.out.grow hG).cell (i := r) (by rw [Hl'.out]; exact hlt)
          obtain ⟨p, hp⟩ : ∃ p : Nat, gi l r = (p : Int) := ⟨(gi l r).toNat, by omega⟩
          obtain ⟨q, hq⟩ : ∃ q : Nat, gi l' r = (q : Int) := ⟨(gi l' r).toNat, by omega⟩
          rw [hp] at hc1 a1 a2
          rw [hq] at hc2 a3 a4
          have hc3 := HT.out.1.cell p
          rw [cellsS_get, outTo_full B0 i (by omega)] at hc3
          have hc4 := (HT.out.2 p (by omega)).cell q
          rw [cellsI_get, tabRow_get l l' r i p (by omega)] at hc4
          have hf4 := (HT.out.2 p (by omega)).frozen q
          simp only [Option.map_some, rowPtr] at hc3 hc4
          have hb := tabAt_le l l' r p q
          have hnx := HT.out.next hp hq (by omega)
          obtain ⟨v, hv⟩ : ∃ v, v = tabAt l l' r p q := ⟨_, rfl⟩
          rw [← hv] at hc4 hb hnx
          have Hnx := Lib.hid hnx
          have Hp := Lib.hid hp
          have Hq := Lib.hid hq
          clear hp hq hnx hv a1 a3
          have hpi : (p : Int) < (i : Int) := by omega
          have hqi : (q : Int) < (i : Int) := by omega
          have hmin : ¬ (min (p : Int) (q : Int) < 0) := by omega
          have hmax : ¬ ((i : Int) ≤ max (p : Int) (q : Int)) := by omega
          go_wp2_with fail
          go_roundw
          case rel => exact ⟨r + 1, by omega, by go_num, Hnx.out, hG.setCell (p := ⟨B0 + 1 + p, q, none⟩) (by show _ ≤ B0 + 1 + p; omega) _⟩
          case measure => simp [intOf]; omega
        · obtain rfl : r = m := by omega
          go_wp2_with fail
          go_ret2
          exact ⟨B0, hB, rfl, HT.out.rows, hG⟩
end Go.Proofs.YtimjnkfcnpfoeaaGreatDoor
