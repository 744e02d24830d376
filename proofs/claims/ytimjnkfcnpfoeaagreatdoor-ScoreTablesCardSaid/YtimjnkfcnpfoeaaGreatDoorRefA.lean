/-
  The document's numbers: limbs of 32 bits in memory; trim.
-/
import Derived.Test.YtimjnkfcnpfoeaaGreatDoorFracC
set_option linter.unusedSimpArgs false
namespace Go.Proofs.YtimjnkfcnpfoeaaGreatDoor
open Go.RowKit

def W32 : Nat := 4294967296
theorem W32_ge : 2 ≤ W32 := by unfold W32; omega
theorem W32_pos : 0 < W32 := by unfold W32; omega
/-- how many limbs -/
def ln (a : Nat) : Nat := (digs W32 a).length
theorem ln_zero : ln 0 = 0 := rfl
theorem ln_eq_zero {a : Nat} : ln a = 0 ↔ a = 0 := by
  constructor
  · intro h
    have h1 := val_digs W32_ge a
    rw [List.eq_nil_of_length_eq_zero h] at h1
    exact h1.symm
  · rintro rfl; rfl
theorem ln_pos {a : Nat} : 0 < ln a ↔ a ≠ 0 := by have := @ln_eq_zero a; omega
/-- these limbs lie from the address on; nothing is asked of none -/
def Lim (u : World) (A : Option Addr) (l : List Nat) : Prop :=
  l ≠ [] → ∃ b off cs fr, A = some ⟨b, off, none⟩ ∧ u.heap[b]? = some (.cells cs 157 fr) ∧ ∀ i x, l[i]? = some x → cs[off + i]? = some (.int .u32 (x : Nat))
theorem heap_lt {u : World} {b : Nat} {o : Obj} (h : u.heap[b]? = some o) : b < u.heap.size := by
  rcases Nat.lt_or_ge b u.heap.size with hlt | hge
  · exact hlt
  · rw [Array.getElem?_eq_none hge] at h; cases h
theorem Lim.nil (u : World) (A : Option Addr) : Lim u A [] := fun h => absurd rfl h
theorem Lim.grow {u u' : World} {A : Option Addr} {l : List Nat} (h : Lim u A l) (hg : Grow u u') : Lim u' A l := fun hn => by
  obtain ⟨b, off, cs, fr, e, hb, hc⟩ := h hn
  exact ⟨b, off, cs, fr, e, (hg.block b (heap_lt hb)).trans hb, hc⟩
theorem Lim.take {u : World} {A : Option Addr} {l : List Nat} (h : Lim u A l) (n : Nat) : Lim u A (l.take n) := fun hn => by
  obtain ⟨b, off, cs, fr, e, hb, hc⟩ := h (fun h0 => hn (by rw [h0]; simp))
  refine ⟨b, off, cs, fr, e, hb, fun i x hi => hc i x ?_⟩
  rw [List.getElem?_take] at hi
  split at hi
  · exact hi
  · cases hi
theorem Lim.cell {u : World} {A : Option Addr} {l : List Nat} (h : Lim u A l) {i : Nat} (hi : i < l.length) : ∃ b off, A = some ⟨b, off, none⟩ ∧ u.cell? ⟨b, off + i, none⟩ = some (.int .u32 (dg l i : Nat)) := by
  obtain ⟨b, off, cs, fr, e, hb, hc⟩ := h (fun h0 => by rw [h0] at hi; cases hi)
  refine ⟨b, off, e, ?_⟩
  rw [dg_eq hi, ← hc i _ (List.getElem?_eq_getElem hi)]
  exact cell_of_row u b (off + i) cs 157 fr hb
/-- a store into a box, which is of another type -/
theorem Lim.put {u u' : World} {A : Option Addr} {l : List Nat} (h : Lim u A l) {bl : List (Nat × TypeId × Array Value)} (hB : Bx u bl) (k : Nat) {b : Nat} {t : TypeId} {cs : Array Value} (hk : bl[k]? = some (b, t, cs)) (ht : t ≠ 157) (i : Nat) (vs : List Value) (hu : putAll u b i vs = u') : Lim u' A l := fun hn => by
  obtain ⟨b', off, cs', fr, e, hb, hc⟩ := h hn
  refine ⟨b', off, cs', fr, e, ?_, hc⟩
  have hbk : Blk u b t cs := hB (b, t, cs) (List.mem_of_getElem? hk)
  have hne : b' ≠ b := fun e => by
    subst e
    have := hbk.symm.trans hb
    injection this with this
    injection this with _ h2 _
    exact ht h2
  clear hbk hB hk hc h
  subst hu
  induction vs generalizing u i with
  | nil => exact hb
  | cons v vs ih => exact ih _ ((Below.heap_setCell u ⟨b, i, none⟩ v b' hne).trans hb)

set_option maxHeartbeats 1000000 in
theorem ref1_trim (A : Option Addr) (l : List Nat) (c : Nat) (w : World) (h : Lim w A l) (hc : l.length ≤ c) (hm : c ≤ 9223372036854775807) :
    Calls Tryz.prog 135 #[.slice A l.length c] w fun e w' => e = .returned (.slice A (trimL l).length c) ∧ Grow w w' := by
  have H := Lib.hid h
  clear h
  obtain ⟨n, hn⟩ : ∃ n, n = l.length := ⟨_, rfl⟩
  rw [← hn]
  rw [← hn] at hc
  have Hn := Lib.hid hn
  clear hn
  go_enter Tryz.func135, Tryz.ntmps135
  go_wp2
  go_loop [3] (fun s => ∃ k : Nat, k ≤ n ∧ s = .int .i64 k ∧ trimL (l.take k) = trimL l) (fun s => (intOf s).toNat)
  case atStart => exact ⟨n, Nat.le_refl _, rfl, by rw [List.take_of_length_le (by rw [Hn.out]; exact Nat.le_refl _)]⟩
  case round =>
    obtain ⟨k, hk, rfl, ht⟩ := hrel
    have Ht := Lib.hid ht
    clear ht
    rcases Nat.eq_zero_or_pos k with rfl | hpos
    · go_wp2
      go_ret
      refine ⟨?_, Grow.refl _⟩
      have : trimL l = [] := by rw [← Ht.out]; rfl
      rw [this]
      rfl
    · have hkl : k - 1 < l.length := by rw [← Hn.out]; omega
      obtain ⟨b, off, rfl, hcell⟩ := H.out.cell hkl
      have hsn : l.take k = l.take (k - 1) ++ [dg l (k - 1)] := by
        have := List.take_succ_eq_append_getElem hkl
        rw [show k - 1 + 1 = k by omega] at this
        rw [dg_eq hkl]
        exact this
      have Hsn := Lib.hid hsn
      clear hsn
      obtain ⟨x, hx⟩ : ∃ x, x = dg l (k - 1) := ⟨_, rfl⟩
      rw [← hx] at hcell
      have Hx := Lib.hid hx
      clear hx
      have hidx : (0 : Int) ≤ (k : Int) - 1 := by omega
      by_cases h0 : x = 0
      · subst h0
        go_wp2
        go_round
        case rel => exact ⟨k - 1, by omega, by go_num, by rw [← Ht.out, Hsn.out, ← Hx.out, trimL_snoc_zero]⟩
        case measure => simp [intOf]; omega
      · have hb : ((x : Int) == 0) = false := by simpa using h0
        go_wp2
        go_ret
        refine ⟨?_, Grow.refl _⟩
        have : trimL l = l.take k := by rw [← Ht.out, Hsn.out, trimL_snoc _ (by rw [← Hx.out]; exact h0)]
        rw [this, List.length_take, Nat.min_eq_left (by omega)]
        rfl
end Go.Proofs.YtimjnkfcnpfoeaaGreatDoor
