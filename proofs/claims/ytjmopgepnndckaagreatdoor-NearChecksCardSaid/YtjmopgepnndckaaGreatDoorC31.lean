/- Contracts and laws. -/
import Derived.Test.YtjmopgepnndckaaGreatDoorC30
import Derived.RegionTactic
set_option linter.unusedSimpArgs false
set_option linter.unusedVariables false
namespace Go.Proofs.YtjmopgepnndckaaGreatDoor
open Go.RowKit
def Li (u : World) (A : Option Addr) (l : List Int) : Prop :=
 l ≠ [] → ∃ b off, A = some ⟨b, off, none⟩ ∧ b < u.heap.size ∧ ∀ i x, l[i]? = some x → u.cell? ⟨b, off + i, none⟩ = some (.int .i64 x)
theorem Li.nil (u : World) (A : Option Addr) : Li u A [] := fun h => absurd rfl h
theorem Li.grow {u u' : World} {A : Option Addr} {l : List Int} (h : Li u A l) (hg : A3 u u') : Li u' A l := fun hn => by
 obtain ⟨b, off, e, hb, hc⟩ := h hn
 exact ⟨b, off, e, Nat.lt_of_lt_of_le hb hg.size, fun i x hi => (hg.cell (p := ⟨b, off + i, none⟩) hb).trans (hc i x hi)⟩
def gi (l : List Int) (i : Nat) : Int := (l[i]?).getD 0
theorem A5f {l : List Int} {i : Nat} (h : i < l.length) : l[i]? = some (gi l i) := by
 unfold gi; rw [List.getElem?_eq_getElem h]; rfl
theorem Li.cell {u : World} {A : Option Addr} {l : List Int} (h : Li u A l) {i : Nat} (hi : i < l.length) : ∃ b off, A = some ⟨b, off, none⟩ ∧ u.cell? ⟨b, off + i, none⟩ = some (.int .i64 (gi l i)) := by
 obtain ⟨b, off, e, hb, hc⟩ := h (fun h0 => by rw [h0] at hi; cases hi)
 exact ⟨b, off, e, hc i _ (A5f hi)⟩
def cnt (t : Nat → Bool) : Nat → Nat
 | 0 => 0
 | n + 1 => cnt t n + (if t n then 1 else 0)
def A1i (b2 b3 : Nat) (A B : Option Addr) (m c d : Nat) (l l' : List Int) (W : World) : Prop :=
 Blk W b2 22 #[.slice A m c] ∧ Blk W b3 22 #[.slice B m d] ∧ Li W A l ∧ Li W B l'
theorem A1i.mk {b2 b3 : Nat} {A B : Option Addr} {m c d : Nat} {l l' : List Int} {u : World} (h1 : Blk u b2 22 #[.slice A m c]) (h2 : Blk u b3 22 #[.slice B m d]) (h3 : Li u A l) (h4 : Li u B l') : A1i b2 b3 A B m c d l l' u := ⟨h1, h2, h3, h4⟩
theorem A1i.grow {b2 b3 : Nat} {A B : Option Addr} {m c d : Nat} {l l' : List Int} {u u' : World} (hg : A3 u u') (h : A1i b2 b3 A B m c d l l' u) : A1i b2 b3 A B m c d l l' u' := ⟨h.1.grow hg, h.2.1.grow hg, h.2.2.1.grow hg, h.2.2.2.grow hg⟩
def hits (l l' : List Int) (m : Nat) : Nat := cnt (fun i => gi l i == gi l' i) m
abbrev Rw := Option Addr × Nat × List Int
def A2K (u : World) (A : Option Addr) (rs : List Rw) : Prop :=
 rs ≠ [] → ∃ b off, A = some ⟨b, off, none⟩ ∧ b < u.heap.size ∧ ∀ i r, rs[i]? = some r → u.cell? ⟨b, off + i, none⟩ = some (.slice r.1 r.2.2.length r.2.1) ∧ Li u r.1 r.2.2
theorem A2K.grow {u u' : World} {A : Option Addr} {rs : List Rw} (h : A2K u A rs) (hg : A3 u u') : A2K u' A rs := fun hn => by
 obtain ⟨b, off, e, hb, hc⟩ := h hn
 exact ⟨b, off, e, Nat.lt_of_lt_of_le hb hg.size, fun i r hi => ⟨(hg.cell (p := ⟨b, off + i, none⟩) hb).trans (hc i r hi).1, (hc i r hi).2.grow hg⟩⟩
def K5 (l : List Int) : Array Value := (l.map fun x => Value.int .i64 x).toArray
theorem B0M (l : List Int) (i : Nat) : (K5 l)[i]? = (l[i]?).map fun x => Value.int .i64 x := by
 unfold K5; simp
theorem A7f (l : List Int) (i : Nat) (y : Int) : (K5 l).setIfInBounds i (.int .i64 y) = K5 (l.set i y) := by
 unfold K5
 rw [List.setIfInBounds_toArray, List.map_set]
theorem A9M {u : World} {b : Nat} {l : List Int} (h : Blk u b 3 (K5 l)) : Li u (some ⟨b, 0, none⟩) l := fun _ =>
 ⟨b, 0, rfl, h.lt, fun i x hi => by rw [Nat.zero_add, h.cell, B0M, hi]; rfl⟩
theorem B1l : (Tryz.prog.info? 3).map (fun i => (i.zero, i.size, i.bytes)) = some (some (.int .i64 0), 1, 8) := by kernel_rfl
theorem A9i (n : Nat) : madeCells (Value.int .i64 0).cells (n * 1) = K5 (List.replicate n 0) := by
 unfold K5 madeCells
 refine Array.ext (by simp) fun i h1 h2 => ?_
 simp [Value.cells, Nat.mod_one]
theorem A4x (n : Nat) (hn : n ≤ 1099511627776) (x : Int) (hx : x = n) (W : World) : (Instr.makeSlice 22 (.int .i64 x) (.int .i64 x)).run Tryz.prog W =
  .ok (.slice (some ⟨W.heap.size, 0, none⟩) n n) (W.alloc (.cells (K5 (List.replicate n 0)) 3)) := by
 obtain ⟨i0, hi0, hz0, hz1, hz2⟩ := info_parts B1l
 have hr := run_make (P := Tryz.prog) W 22 3 i0 (.int .i64 0) Tryz.underlying22 hi0 hz0 .i64 .i64 n n (by omega) (by omega) (by rw [hz2]; omega) (by omega)
 rw [hx]
 rw [hr, hz1]
 simp only [Int.toNat_natCast]
 rw [A9i]
def Z8 (l : List Value) : Array Value := l.toArray
def A0E (l l' : List Int) (r i j : Nat) : Int := (cnt (fun s => gi l s == (i : Int) && gi l' s == (j : Int)) r : Nat)
def V5 (l l' : List Int) (r k i : Nat) : List Int := (List.range k).map (A0E l l' r i)
theorem A4r (l l' : List Int) (r i j : Nat) : A0E l l' (r + 1) i j = A0E l l' r i j + if gi l r = (i : Int) ∧ gi l' r = (j : Int) then 1 else 0 := by
 unfold A0E
 simp only [cnt]
 by_cases h : gi l r = (i : Int) ∧ gi l' r = (j : Int)
 ·rw [if_pos h, if_pos (by simp [h.1, h.2])]; omega
 ·rw [if_neg h, if_neg (by simpa using h)]; omega
theorem B0Q (l l' : List Int) (r k i j : Nat) (h1 : gi l r = (i : Int)) (h2 : gi l' r = (j : Int)) : (V5 l l' r k i).set j (A0E l l' r i j + 1) = V5 l l' (r + 1) k i := by
 unfold V5
 refine List.ext_getElem (by simp) fun t g1 g2 => ?_
 rw [List.getElem_set]
 simp only [List.getElem_map, List.getElem_range, A4r, h1, h2, true_and]
 by_cases e : j = t
 ·subst e; simp
 ·rw [if_neg e, if_neg (by omega)]; omega
theorem A9Z (l l' : List Int) (r k i : Nat) (h1 : gi l r ≠ (i : Int)) : V5 l l' r k i = V5 l l' (r + 1) k i := by
 unfold V5
 refine List.map_congr_left fun t _ => ?_
 rw [A4r, if_neg (fun h => h1 h.1)]
 omega
def A1X (B0 k i : Nat) : Value := .slice (some ⟨B0 + 1 + i, 0, none⟩) k k
def A0S (B0 k i : Nat) : List Value := (List.range i).map (A1X B0 k) ++ List.replicate (k - i) (.slice none 0 0)
theorem A7r (B0 k : Nat) {i : Nat} (h : i < k) : (A0S B0 k i).set i (A1X B0 k i) = A0S B0 k (i + 1) := by
 unfold A0S
 rw [List.set_append_right _ _ (by simp), List.length_map, List.length_range, Nat.sub_self]
 obtain ⟨m, hm⟩ : ∃ m, k - i = m + 1 := ⟨k - i - 1, by omega⟩
 rw [hm, show k - (i + 1) = m by omega, List.range_succ, List.map_append, List.append_assoc]
 rfl
theorem B1j (B0 k : Nat) {i : Nat} (h : i < k) : (A0S B0 k k)[i]? = some (A1X B0 k i) := by
 unfold A0S; simp [h]
theorem B2I (l : List Value) (i : Nat) : (Z8 l)[i]? = l[i]? := by unfold Z8; simp
theorem B25 (l : List Value) (i : Nat) (v : Value) : (Z8 l).setIfInBounds i v = Z8 (l.set i v) := by
 unfold Z8; rw [List.setIfInBounds_toArray]
def A3b (B0 k i : Nat) (wr : World) : Prop := wr.heap.size = B0 + 1 + i ∧ Blk wr B0 22 (Z8 (A0S B0 k i)) ∧ ∀ j, j < i → Blk wr (B0 + 1 + j) 3 (K5 (List.replicate k 0))
def A1S (B0 k : Nat) (l l' : List Int) (r : Nat) (wr : World) : Prop := Blk wr B0 22 (Z8 (A0S B0 k k)) ∧ ∀ j, j < k → Blk wr (B0 + 1 + j) 3 (K5 (V5 l l' r k j))
theorem A4Q (u : World) (p : Addr) (v : Value) : (u.setCell p v).heap.size = u.heap.size := by simp [World.setCell]
theorem A3b.next {B0 k i : Nat} {wr : World} (h : A3b B0 k i wr) (hi : i < k) : A3b B0 k (i + 1) ((wr.setCell ⟨B0, i, none⟩ (.slice (some ⟨wr.heap.size, 0, none⟩) k k)).alloc (.cells (K5 (List.replicate k 0)) 3)) := by
 obtain ⟨h1, h2, h3⟩ := h
 refine ⟨by rw [F0, A4Q, h1]; omega, ?_, fun j hj => ?_⟩
 ·have := h2.set_ i (.slice (some ⟨wr.heap.size, 0, none⟩) k k)
  rw [B25, h1, show (Value.slice (some ⟨B0 + 1 + i, 0, none⟩) k k) = A1X B0 k i from rfl, A7r B0 k hi] at this
  rw [h1]
  exact this.grow (A3.alloc _ _)
 ·rcases Nat.lt_or_ge j i with hlt | hge
  ·exact ((h3 j hlt).far (p := ⟨B0, i, none⟩) (by show B0 + 1 + j ≠ B0; omega) _).grow (A3.alloc _ _)
  ·obtain rfl : j = i := by omega
   have := Blk.new (wr.setCell ⟨B0, j, none⟩ (.slice (some ⟨wr.heap.size, 0, none⟩) k k)) 3 (K5 (List.replicate k 0))
   rw [A4Q, h1] at this
   rw [h1]
   exact this
theorem A1S.next {B0 k : Nat} {l l' : List Int} {r : Nat} {wr : World} (h : A1S B0 k l l' r wr) {p q : Nat} (hp : gi l r = (p : Int)) (hq : gi l' r = (q : Int)) (hpk : p < k) :
  A1S B0 k l l' (r + 1) (wr.setCell ⟨B0 + 1 + p, q, none⟩ (.int .i64 (A0E l l' r p q + 1))) := by
 refine ⟨h.1.far (p := ⟨B0 + 1 + p, q, none⟩) (by show B0 ≠ B0 + 1 + p; omega) _, fun j hj => ?_⟩
 by_cases e : j = p
 ·subst e
  have := (h.2 j hj).set_ q (.int .i64 (A0E l l' r j q + 1))
  rw [A7f, B0Q l l' r k j q hp hq] at this
  exact this
 ·rw [← A9Z l l' r k j (by rw [hp]; omega)]
  exact (h.2 j hj).far (p := ⟨B0 + 1 + p, q, none⟩) (by show B0 + 1 + j ≠ B0 + 1 + p; omega) _
def A5r (B0 k : Nat) (l l' : List Int) (m : Nat) : List Rw := (List.range k).map fun i => (some ⟨B0 + 1 + i, 0, none⟩, k, V5 l l' m k i)
theorem A1S.rows {B0 k : Nat} {l l' : List Int} {m : Nat} {wr : World} (h : A1S B0 k l l' m wr) : A2K wr (some ⟨B0, 0, none⟩) (A5r B0 k l l' m) := fun _ =>
 ⟨B0, 0, rfl, h.1.lt, fun i r hi => by
  unfold A5r at hi
  rw [List.getElem?_map, Option.map_eq_some_iff] at hi
  obtain ⟨j, hj, rfl⟩ := hi
  rw [List.getElem?_eq_some_iff] at hj
  obtain ⟨hj1, hj2⟩ := hj
  simp only [List.length_range] at hj1
  simp only [List.getElem_range] at hj2
  subst hj2
  refine ⟨?_, A9M (h.2 i hj1)⟩
  rw [Nat.zero_add, h.1.cell, B2I, B1j B0 k hj1]
  simp [A1X, V5]⟩
end Go.Proofs.YtjmopgepnndckaaGreatDoor
namespace Go.Proofs.YtjmopgepnndckaaGreatDoor
def A39 (f : Nat → Int) : Nat → Int
 | 0 => 0
 | n + 1 => A39 f n + f n
section
variable {k : Nat} {T : Nat → Nat → Int} {i j : Nat}
end
end Go.Proofs.YtjmopgepnndckaaGreatDoor
namespace Go.Proofs.YtjmopgepnndckaaGreatDoor
open Go.RowKit
def Tb (w : World) (bt ot k : Nat) (rb ro rc : Nat → Nat) (T : Nat → Nat → Int) : Prop :=
 bt < w.heap.size ∧ ∀ i, i < k → w.cell? ⟨bt, ot + i, none⟩ = some (.slice (some ⟨rb i, ro i, none⟩) k (rc i)) ∧ rb i < w.heap.size ∧ ∀ j, j < k → w.cell? ⟨rb i, ro i + j, none⟩ = some (.int .i64 (T i j))
theorem Tb.grow {w u : World} {bt ot k : Nat} {rb ro rc : Nat → Nat} {T : Nat → Nat → Int} (h : Tb w bt ot k rb ro rc T) (hg : A3 w u) : Tb u bt ot k rb ro rc T :=
 ⟨Nat.lt_of_lt_of_le h.1 hg.size, fun i hi => ⟨(hg.cell (p := ⟨bt, ot + i, none⟩) h.1).trans (h.2 i hi).1, Nat.lt_of_lt_of_le (h.2 i hi).2.1 hg.size, fun j hj => (hg.cell (p := ⟨rb i, ro i + j, none⟩) (h.2 i hi).2.1).trans ((h.2 i hi).2.2 j hj)⟩⟩
def qL (q : Rat) : List Value := [.bool (D3 q.num), .int .u64 (B1 q.num.natAbs), .string (A9 q.num.natAbs), .int .u64 (B1 (H5 q.den)), .string (A9 (H5 q.den))]
abbrev R3 := Rat × Rat × Rat
def rL (r : R3) : List Value := qL r.1 ++ qL r.2.1 ++ qL r.2.2
theorem A3e (x : Int) (y : Nat) (n d : Int) (s : Nat) (hn : n.natAbs < 2 ^ s) (hd : d.natAbs < 2 ^ s) (hs : 1 ≤ s) : qs (E4 n d) ≤ s := by
 by_cases h0 : d = 0
 ·subst h0
  unfold E4
  rw [Rat.divInt_zero]
  exact A4e 0 s (by simp; exact Nat.two_pow_pos s) hs
 ·refine Nat.max_le.2 ⟨?_, ?_⟩
  ·rw [A43 n d h0, O2]
   exact Nat.le_trans (H7 _ _) (J6.2 hn)
  ·rw [A5o n d h0]
   exact Nat.le_trans (H7 _ _) (J6.2 hd)
def Lq (u : World) (A : Option Addr) (l : List Rat) : Prop :=
 l ≠ [] → ∃ b off, A = some ⟨b, off, none⟩ ∧ b < u.heap.size ∧ ∀ i q, l[i]? = some q → ∀ j v, (qL q)[j]? = some v → u.cell? ⟨b, off + i * 5 + j, none⟩ = some v
theorem Lq.nil (u : World) (A : Option Addr) : Lq u A [] := fun h => absurd rfl h
theorem Lq.grow {u u' : World} {A : Option Addr} {l : List Rat} (h : Lq u A l) (hg : A3 u u') : Lq u' A l := fun hn => by
 obtain ⟨b, off, e, hb, hc⟩ := h hn
 exact ⟨b, off, e, Nat.lt_of_lt_of_le hb hg.size, fun i x hi j v hj => (hg.cell (p := ⟨b, off + i * 5 + j, none⟩) hb).trans (hc i x hi j v hj)⟩
def gq (l : List Rat) (i : Nat) : Rat := (l[i]?).getD 0
theorem A0a {l : List Rat} {i : Nat} (h : i < l.length) : l[i]? = some (gq l i) := by
 unfold gq; rw [List.getElem?_eq_getElem h]; rfl
theorem Z0 {l : List Rat} {i : Nat} (h : i < l.length) : gq l i ∈ l := List.mem_of_getElem? (A0a h)
def Cq (u : World) (b o : Nat) (q : Rat) : Prop := u.cell? ⟨b, o, none⟩ = some (.bool (D3 q.num)) ∧ u.cell? ⟨b, o + 1, none⟩ = some (.int .u64 (B1 q.num.natAbs)) ∧ u.cell? ⟨b, o + 2, none⟩ = some (.string (A9 q.num.natAbs)) ∧
 u.cell? ⟨b, o + 3, none⟩ = some (.int .u64 (B1 (H5 q.den))) ∧ u.cell? ⟨b, o + 4, none⟩ = some (.string (A9 (H5 q.den)))
theorem Lq.at {u : World} {A : Option Addr} {l : List Rat} (h : Lq u A l) (hne : l ≠ []) : ∃ b off, A = some ⟨b, off, none⟩ ∧ b < u.heap.size ∧ ∀ i, i < l.length → Cq u b (off + i * 5) (gq l i) := by
 obtain ⟨b, off, e, hb, hc⟩ := h hne
 exact ⟨b, off, e, hb, fun i hi => ⟨hc i _ (A0a hi) 0 _ rfl, hc i _ (A0a hi) 1 _ rfl, hc i _ (A0a hi) 2 _ rfl, hc i _ (A0a hi) 3 _ rfl, hc i _ (A0a hi) 4 _ rfl⟩⟩
theorem Lq.read {u : World} {b off : Nat} {l : List Rat} (h : Lq u (some ⟨b, off, none⟩) l) {i : Nat} (hi : i < l.length) : Cq u b (off + i * 5) (gq l i) := by
 obtain ⟨b', off', e, _, hc⟩ := h.at (fun h0 => by rw [h0] at hi; cases hi)
 cases e
 exact hc i hi
theorem Lq.addr {u : World} {A : Option Addr} {l : List Rat} (h : Lq u A l) (hl : 0 < l.length) : ∃ b off, A = some ⟨b, off, none⟩ := by
 obtain ⟨b, off, e, _⟩ := h (fun h0 => by rw [h0] at hl; cases hl)
 exact ⟨b, off, e⟩
def Q7 (f : Nat → Rat) : Nat → Rat
 | 0 => 0
 | n + 1 => O7 (Q7 f n) (f n)
theorem A21 : qs 0 = 1 := by show max (bl 0) (bl 1) = 1; rw [X6, A14.2 rfl]; rfl
theorem A4j (f : Nat → Rat) (s n : Nat) (h : ∀ i, i < n → qs (f i) ≤ s) : ∀ j, j ≤ n → qs (Q7 f j) ≤ j * (s + 1) + 1
 | 0, _ => by rw [Q7, A21]; omega
 | j + 1, hj => by
  have ih := A4j f s n h j (by omega)
  have h1 := A5R (Q7 f j) (f j)
  have h2 := h j (by omega)
  show qs (Q7 f j + f j) ≤ _
  rw [Nat.add_mul]
  omega
theorem A1p (n : Nat) (h : n ≤ 1099511627776) : qs (D5 (n : Nat)) ≤ 41 := by
 refine A4e (n : Int) 41 ?_ (by omega)
 rw [Int.natAbs_natCast]
 omega
def Z9 (b2 b3 : Nat) (A B : Option Addr) (m c d : Nat) (l l' : List Rat) (W : World) : Prop :=
 Blk W b2 35 #[.slice A m c] ∧ Blk W b3 35 #[.slice B m d] ∧ Lq W A l ∧ Lq W B l'
theorem Z9.mk {b2 b3 : Nat} {A B : Option Addr} {m c d : Nat} {l l' : List Rat} {u : World} (h1 : Blk u b2 35 #[.slice A m c]) (h2 : Blk u b3 35 #[.slice B m d]) (h3 : Lq u A l) (h4 : Lq u B l') : Z9 b2 b3 A B m c d l l' u := ⟨h1, h2, h3, h4⟩
theorem Z9.grow {b2 b3 : Nat} {A B : Option Addr} {m c d : Nat} {l l' : List Rat} {u u' : World} (hg : A3 u u') (h : Z9 b2 b3 A B m c d l l' u) : Z9 b2 b3 A B m c d l l' u' := ⟨h.1.grow hg, h.2.1.grow hg, h.2.2.1.grow hg, h.2.2.2.grow hg⟩
theorem Z9.cells {b2 b3 ba oa bb ob : Nat} {m c d : Nat} {l l' : List Rat} {W : World} (h : Z9 b2 b3 (some ⟨ba, oa, none⟩) (some ⟨bb, ob, none⟩) m c d l l' W) {i : Nat} (h1 : i < l.length) (h2 : i < l'.length) :
  (W.cell? ⟨b2, 0, none⟩ = some (.slice (some ⟨ba, oa, none⟩) m c) ∧ W.cell? ⟨b3, 0, none⟩ = some (.slice (some ⟨bb, ob, none⟩) m d)) ∧ Cq W ba (oa + i * 5) (gq l i) ∧ Cq W bb (ob + i * 5) (gq l' i) :=
 ⟨⟨h.1.cell 0, h.2.1.cell 0⟩, h.2.2.1.read h1, h.2.2.2.read h2⟩
abbrev A0L (q : Rat) : Array Value := #[.bool (D3 q.num), .int .u64 (B1 q.num.natAbs), .string (A9 q.num.natAbs), .int .u64 (B1 (H5 q.den)), .string (A9 (H5 q.den))]
def A1O (b2 b8 : Nat) (A : Option Addr) (m c : Nat) (l : List Rat) (q : Rat) (W : World) : Prop :=
 Blk W b2 35 #[.slice A m c] ∧ Blk W b8 49 (A0L q) ∧ Lq W A l
theorem A1O.mk {b2 b8 : Nat} {A : Option Addr} {m c : Nat} {l : List Rat} {q : Rat} {u : World} (h1 : Blk u b2 35 #[.slice A m c]) (h2 : Blk u b8 49 (A0L q)) (h3 : Lq u A l) : A1O b2 b8 A m c l q u := ⟨h1, h2, h3⟩
theorem A1O.grow {b2 b8 : Nat} {A : Option Addr} {m c : Nat} {l : List Rat} {q : Rat} {u u' : World} (hg : A3 u u') (h : A1O b2 b8 A m c l q u) : A1O b2 b8 A m c l q u' := ⟨h.1.grow hg, h.2.1.grow hg, h.2.2.grow hg⟩
def Lb (u : World) (A : Option Addr) (l : List Bool) : Prop :=
 l ≠ [] → ∃ b off, A = some ⟨b, off, none⟩ ∧ b < u.heap.size ∧ ∀ i x, l[i]? = some x → u.cell? ⟨b, off + i, none⟩ = some (.bool x)
theorem Lb.nil (u : World) (A : Option Addr) : Lb u A [] := fun h => absurd rfl h
theorem Lb.grow {u u' : World} {A : Option Addr} {l : List Bool} (h : Lb u A l) (hg : A3 u u') : Lb u' A l := fun hn => by
 obtain ⟨b, off, e, hb, hc⟩ := h hn
 exact ⟨b, off, e, Nat.lt_of_lt_of_le hb hg.size, fun i x hi => (hg.cell (p := ⟨b, off + i, none⟩) hb).trans (hc i x hi)⟩
def gb (l : List Bool) (i : Nat) : Bool := (l[i]?).getD false
theorem B3W {l : List Bool} {i : Nat} (h : i < l.length) : l[i]? = some (gb l i) := by
 unfold gb; rw [List.getElem?_eq_getElem h]; rfl
theorem Lb.addr {u : World} {A : Option Addr} {l : List Bool} (h : Lb u A l) (hl : 0 < l.length) : ∃ b off, A = some ⟨b, off, none⟩ := by
 obtain ⟨b, off, e, _⟩ := h (fun h0 => by rw [h0] at hl; cases hl)
 exact ⟨b, off, e⟩
theorem Lb.read {u : World} {b off : Nat} {l : List Bool} (h : Lb u (some ⟨b, off, none⟩) l) {i : Nat} (hi : i < l.length) : u.cell? ⟨b, off + i, none⟩ = some (.bool (gb l i)) := by
 obtain ⟨b', off', e, _, hc⟩ := h (fun h0 => by rw [h0] at hi; cases hi)
 cases e
 exact hc i _ (B3W hi)
def A1R (b2 : Nat) (A : Option Addr) (m c : Nat) (l : List Bool) (W : World) : Prop := Blk W b2 127 #[.slice A m c] ∧ Lb W A l
theorem A1R.mk {b2 : Nat} {A : Option Addr} {m c : Nat} {l : List Bool} {u : World} (h1 : Blk u b2 127 #[.slice A m c]) (h2 : Lb u A l) : A1R b2 A m c l u := ⟨h1, h2⟩
theorem A1R.grow {b2 : Nat} {A : Option Addr} {m c : Nat} {l : List Bool} {u u' : World} (hg : A3 u u') (h : A1R b2 A m c l u) : A1R b2 A m c l u' := ⟨h.1.grow hg, h.2.grow hg⟩
def hv (is : List Bool) (l : List Rat) (i j : Nat) : Int := if gb is i && !gb is j then E9 (gq l i) (gq l j) + 1 else 0
def B3o (is : List Bool) (l : List Rat) (m : Nat) : Int := A39 (fun a => A39 (hv is l a) m) m
abbrev B1o : Array Value := #[.bool false, .int .u64 0, .string ⟨#[]⟩, .int .u64 0, .string ⟨#[]⟩]
abbrev Rq := Option Addr × Nat × List Rat
def Lrq (u : World) (A : Option Addr) (rs : List Rq) : Prop :=
 rs ≠ [] → ∃ b off, A = some ⟨b, off, none⟩ ∧ b < u.heap.size ∧ ∀ i r, rs[i]? = some r → u.cell? ⟨b, off + i, none⟩ = some (.slice r.1 r.2.2.length r.2.1) ∧ Lq u r.1 r.2.2
theorem Lrq.grow {u u' : World} {A : Option Addr} {rs : List Rq} (h : Lrq u A rs) (hg : A3 u u') : Lrq u' A rs := fun hn => by
 obtain ⟨b, off, e, hb, hc⟩ := h hn
 exact ⟨b, off, e, Nat.lt_of_lt_of_le hb hg.size, fun i r hi => ⟨(hg.cell (p := ⟨b, off + i, none⟩) hb).trans (hc i r hi).1, (hc i r hi).2.grow hg⟩⟩
theorem Lrq.addr {u : World} {A : Option Addr} {rs : List Rq} (h : Lrq u A rs) (hl : 0 < rs.length) : ∃ b off, A = some ⟨b, off, none⟩ := by
 obtain ⟨b, off, e, _⟩ := h (fun h0 => by rw [h0] at hl; cases hl)
 exact ⟨b, off, e⟩
theorem Lrq.read {u : World} {b off : Nat} {rs : List Rq} (h : Lrq u (some ⟨b, off, none⟩) rs) {i : Nat} {r : Rq} (hi : rs[i]? = some r) : u.cell? ⟨b, off + i, none⟩ = some (.slice r.1 r.2.2.length r.2.1) ∧ Lq u r.1 r.2.2 := by
 obtain ⟨b', off', e, _, hc⟩ := h (fun h0 => by rw [h0] at hi; simp at hi)
 cases e
 exact hc i r hi
def A1M (b3 b4 b5 b8 : Nat) (A B : Option Addr) (m c d : Nat) (l l' : List Rat) (a : Rat) (W : World) : Prop :=
 Blk W b3 35 #[.slice A m c] ∧ Blk W b4 35 #[.slice B m d] ∧ Blk W b5 49 (A0L a) ∧ Blk W b8 49 (A0L (D5 1)) ∧ Lq W A l ∧ Lq W B l'
theorem A1M.mk {b3 b4 b5 b8 : Nat} {A B : Option Addr} {m c d : Nat} {l l' : List Rat} {a : Rat} {u : World} (h1 : Blk u b3 35 #[.slice A m c]) (h2 : Blk u b4 35 #[.slice B m d]) (h3 : Blk u b5 49 (A0L a)) (h4 : Blk u b8 49 (A0L (D5 1))) (h5 : Lq u A l) (h6 : Lq u B l') : A1M b3 b4 b5 b8 A B m c d l l' a u := ⟨h1, h2, h3, h4, h5, h6⟩
theorem A1M.grow {b3 b4 b5 b8 : Nat} {A B : Option Addr} {m c d : Nat} {l l' : List Rat} {a : Rat} {u u' : World} (hg : A3 u u') (h : A1M b3 b4 b5 b8 A B m c d l l' a u) : A1M b3 b4 b5 b8 A B m c d l l' a u' :=
 ⟨h.1.grow hg, h.2.1.grow hg, h.2.2.1.grow hg, h.2.2.2.1.grow hg, h.2.2.2.2.1.grow hg, h.2.2.2.2.2.grow hg⟩
end Go.Proofs.YtjmopgepnndckaaGreatDoor
