/-
  Contracts and laws: HandB Mean ScoreD RowB RefQ ScoreE ScoreH SheetA ScoreF ScoreG.
-/
import Derived.Test.YtimjnkfcnpfoeaaGreatDoorC39
import Derived.Test.YtimjnkfcnpfoeaaGreatDoorC42
set_option linter.unusedSimpArgs false
set_option linter.unusedVariables false
namespace Go.Proofs.YtimjnkfcnpfoeaaGreatDoor
open Go.RowKit
end Go.Proofs.YtimjnkfcnpfoeaaGreatDoor
namespace Go.Proofs.YtimjnkfcnpfoeaaGreatDoor
open Go.RowKit
/-- these fractions lie from the address on -/
def Lq (u : World) (A : Option Addr) (l : List Rat) : Prop :=
 l ≠ [] → ∃ b off, A = some ⟨b, off, none⟩ ∧ b < u.heap.size ∧ ∀ i q, l[i]? = some q → ∀ j v, (qL q)[j]? = some v → u.cell? ⟨b, off + i * 5 + j, none⟩ = some v
theorem Lq.nil (u : World) (A : Option Addr) : Lq u A [] := fun h => absurd rfl h
theorem Lq.grow {u u' : World} {A : Option Addr} {l : List Rat} (h : Lq u A l) (hg : Grow u u') : Lq u' A l := fun hn => by
 obtain ⟨b, off, e, hb, hc⟩ := h hn
 exact ⟨b, off, e, Nat.lt_of_lt_of_le hb hg.size, fun i x hi j v hj => (hg.cell (p := ⟨b, off + i * 5 + j, none⟩) hb).trans (hc i x hi j v hj)⟩
def gq (l : List Rat) (i : Nat) : Rat := (l[i]?).getD 0
theorem gq_eq {l : List Rat} {i : Nat} (h : i < l.length) : l[i]? = some (gq l i) := by
 unfold gq; rw [List.getElem?_eq_getElem h]; rfl
/-- the five cells of a fraction -/
def Cq (u : World) (b o : Nat) (q : Rat) : Prop := u.cell? ⟨b, o, none⟩ = some (.bool (intNeg q.num)) ∧ u.cell? ⟨b, o + 1, none⟩ = some (.int .u64 (natLo q.num.natAbs)) ∧ u.cell? ⟨b, o + 2, none⟩ = some (.string (natMo q.num.natAbs)) ∧
 u.cell? ⟨b, o + 3, none⟩ = some (.int .u64 (natLo (keptDen q.den))) ∧ u.cell? ⟨b, o + 4, none⟩ = some (.string (natMo (keptDen q.den)))
theorem Lq.at {u : World} {A : Option Addr} {l : List Rat} (h : Lq u A l) (hne : l ≠ []) : ∃ b off, A = some ⟨b, off, none⟩ ∧ b < u.heap.size ∧ ∀ i, i < l.length → Cq u b (off + i * 5) (gq l i) := by
 obtain ⟨b, off, e, hb, hc⟩ := h hne
 exact ⟨b, off, e, hb, fun i hi => ⟨hc i _ (gq_eq hi) 0 _ rfl, hc i _ (gq_eq hi) 1 _ rfl, hc i _ (gq_eq hi) 2 _ rfl, hc i _ (gq_eq hi) 3 _ rfl, hc i _ (gq_eq hi) 4 _ rfl⟩⟩
/-- a slice that is read at an index -/
theorem Lq.read {u : World} {b off : Nat} {l : List Rat} (h : Lq u (some ⟨b, off, none⟩) l) {i : Nat} (hi : i < l.length) : Cq u b (off + i * 5) (gq l i) := by
 obtain ⟨b', off', e, _, hc⟩ := h.at (fun h0 => by rw [h0] at hi; cases hi)
 cases e
 exact hc i hi
theorem Lq.addr {u : World} {A : Option Addr} {l : List Rat} (h : Lq u A l) (hl : 0 < l.length) : ∃ b off, A = some ⟨b, off, none⟩ := by
 obtain ⟨b, off, e, _⟩ := h (fun h0 => by rw [h0] at hl; cases hl)
 exact ⟨b, off, e⟩
theorem qs_zero : qs 0 = 1 := by show max (bl 0) (bl 1) = 1; rw [bl_zero, bl_eq_one.2 rfl]; rfl
theorem qint_sz (n : Nat) (h : n ≤ 1099511627776) : qs (qint (n : Nat)) ≤ 41 := by
 refine qs_int (n : Int) 41 ?_ (by omega)
 rw [Int.natAbs_natCast]
 omega
--! score_square = score_square _ SIDE _ (HT.grow hG)
set_option maxHeartbeats 400000 in
set_option maxRecDepth 100000 in
theorem score_square (q : Rat) (h : qs q + qs q ≤ BIG) (w : World) (HT : Tab w) : Calls Tryz.prog 88 #[qV q] w fun e w' => e = .returned (qV (qmul q q)) ∧ Grow w w' := by
 go_enter Tryz.func88, Tryz.ntmps88
 refine en2 ?_
 intro u hG b2 b1 hB hF
 refine wp_seq (rsC allocs [0, 0, 1] hB hG fun K L hN hL => ?_)
 refine gs ?_
 refine gmd (C := fun v ⟨hgu, hB, hG, _⟩ => frac_Mul _ _ _ (by assumption) (HT.grow hG)) ?_
 refine geC hL ?_
 clear hB hG hL L
 rintro u ⟨-, hB, hG, -⟩
 refine gtT ?_
 clear hN K
 refine st hB hF hG 1 0 [_, _, _, _, _] ?_
 clear hB hG
 intro u hB hG
 refine rt Tryz.results88 ?_
 exact ⟨rfl, hG⟩
end Go.Proofs.YtimjnkfcnpfoeaaGreatDoor
namespace Go.Proofs.YtimjnkfcnpfoeaaGreatDoor
open Go.RowKit
theorem pairedB_yes {m : Nat} (h : 0 < m) : pairedB m m = true := by unfold pairedB; simp [h]
/-- what the closures of Squares and Sizes read -/
def TwoLq (b2 b3 : Nat) (A B : Option Addr) (m c d : Nat) (l l' : List Rat) (W : World) : Prop :=
 Blk W b2 67 #[.slice A m c] ∧ Blk W b3 67 #[.slice B m d] ∧ Lq W A l ∧ Lq W B l'
theorem TwoLq.mk {b2 b3 : Nat} {A B : Option Addr} {m c d : Nat} {l l' : List Rat} {u : World} (h1 : Blk u b2 67 #[.slice A m c]) (h2 : Blk u b3 67 #[.slice B m d]) (h3 : Lq u A l) (h4 : Lq u B l') : TwoLq b2 b3 A B m c d l l' u := ⟨h1, h2, h3, h4⟩
theorem TwoLq.grow {b2 b3 : Nat} {A B : Option Addr} {m c d : Nat} {l l' : List Rat} {u u' : World} (hg : Grow u u') (h : TwoLq b2 b3 A B m c d l l' u) : TwoLq b2 b3 A B m c d l l' u' := ⟨h.1.grow hg, h.2.1.grow hg, h.2.2.1.grow hg, h.2.2.2.grow hg⟩
theorem TwoLq.cells {b2 b3 ba oa bb ob : Nat} {m c d : Nat} {l l' : List Rat} {W : World} (h : TwoLq b2 b3 (some ⟨ba, oa, none⟩) (some ⟨bb, ob, none⟩) m c d l l' W) {i : Nat} (h1 : i < l.length) (h2 : i < l'.length) :
  (W.cell? ⟨b2, 0, none⟩ = some (.slice (some ⟨ba, oa, none⟩) m c) ∧ W.cell? ⟨b3, 0, none⟩ = some (.slice (some ⟨bb, ob, none⟩) m d)) ∧ Cq W ba (oa + i * 5) (gq l i) ∧ Cq W bb (ob + i * 5) (gq l' i) :=
 ⟨⟨h.1.cell 0, h.2.1.cell 0⟩, h.2.2.1.read h1, h.2.2.2.read h2⟩
end Go.Proofs.YtimjnkfcnpfoeaaGreatDoor
namespace Go.Proofs.YtimjnkfcnpfoeaaGreatDoor
open Go.RowKit
theorem Rz.a {u : World} {p : Az} {q : Rat} (h : Rz u p q) : Rn u p.1 q.num.natAbs := h.1
theorem rz_mk {u : World} {p : Az} {q : Rat} (h1 : Rn u p.1 q.num.natAbs) (h2 : Rn u p.2 q.den) : Rz u p q := ⟨h1, h2⟩
theorem Rz.b {u : World} {p : Az} {q : Rat} (h : Rz u p q) : Rn u p.2 q.den := h.2
theorem Rz.put {u u' : World} {p : Az} {q : Rat} (h : Rz u p q) {bl : List (Nat × TypeId × Array Value)} (hB : Bx u bl) (k : Nat) {b : Nat} {t : TypeId} {cs : Array Value} (hk : bl[k]? = some (b, t, cs)) (ht : t ≠ 157) (i : Nat) (vs : List Value) (hu : putAll u b i vs = u') : Rz u' p q := ⟨h.1.put hB k hk ht i vs hu, h.2.put hB k hk ht i vs hu⟩
theorem Rz.own {u w' : World} {B : Nat} {e : TypeId} {size n : Nat} {v : Value} {xs : List Value} {o : Obj} {p : Az} {q : Rat} (hl : Rz u p q) (h : u.ownsRow B e size v n xs) (ht : e ≠ 157) (hg : (u.alloc o).grownBy w' v.ownBlock) : Rz w' p q := ⟨hl.1.own h ht hg, hl.2.own h ht hg⟩
def zL (p : Az) (q : Rat) : List Value := [.bool (intNeg q.num), .slice p.1.1 (ln q.num.natAbs) p.1.2, .slice p.2.1 (ln q.den) p.2.2]
/-- the three cells of a fraction of the document's -/
def Cz (u : World) (b i : Nat) (p : Az) (q : Rat) : Prop :=
 u.cell? ⟨b, i, none⟩ = some (.bool (intNeg q.num)) ∧ u.cell? ⟨b, i + 1, none⟩ = some (.slice p.1.1 (ln q.num.natAbs) p.1.2) ∧ u.cell? ⟨b, i + 2, none⟩ = some (.slice p.2.1 (ln q.den) p.2.2)
/-- fractions of the document's that lie from the address on -/
def Lz (u : World) (A : Option Addr) (l : List Rat) : Prop :=
 l ≠ [] → ∃ b off, A = some ⟨b, off, none⟩ ∧ b < u.heap.size ∧ ∀ i, i < l.length → ∃ p : Az, Rz u p (gq l i) ∧ Cz u b (off + i * 3) p (gq l i)
theorem Cz.grow {u u' : World} {b i : Nat} {p : Az} {q : Rat} (h : Cz u b i p q) (hb : b < u.heap.size) (hg : Grow u u') : Cz u' b i p q :=
 ⟨(hg.cell (p := ⟨b, i, none⟩) hb).trans h.1, (hg.cell (p := ⟨b, i + 1, none⟩) hb).trans h.2.1, (hg.cell (p := ⟨b, i + 2, none⟩) hb).trans h.2.2⟩
theorem Lz.grow {u u' : World} {A : Option Addr} {l : List Rat} (h : Lz u A l) (hg : Grow u u') : Lz u' A l := fun hn => by
 obtain ⟨b, off, e, hb, hc⟩ := h hn
 refine ⟨b, off, e, Nat.lt_of_lt_of_le hb hg.size, fun i hi => ?_⟩
 obtain ⟨p, h1, h2⟩ := hc i hi
 exact ⟨p, h1.grow hg, h2.grow hb hg⟩
theorem Lz.nil (u : World) (A : Option Addr) : Lz u A [] := fun h => absurd rfl h
theorem Lz.addr {u : World} {A : Option Addr} {l : List Rat} (h : Lz u A l) (hl : 0 < l.length) : ∃ b off, A = some ⟨b, off, none⟩ := by
 obtain ⟨b, off, e, _⟩ := h (fun h0 => by rw [h0] at hl; cases hl)
 exact ⟨b, off, e⟩
theorem Lz.read {u : World} {b off : Nat} {l : List Rat} (h : Lz u (some ⟨b, off, none⟩) l) {i : Nat} (hi : i < l.length) : ∃ p : Az, ∀ W, Grow u W → Rz W p (gq l i) ∧ Cz W b (off + i * 3) p (gq l i) := by
 obtain ⟨b', off', e, hb, hc⟩ := h (fun h0 => by rw [h0] at hi; cases hi)
 cases e
 obtain ⟨p, h1, h2⟩ := hc i hi
 exact ⟨p, fun W hg => ⟨h1.grow hg, h2.grow hb hg⟩⟩
abbrev Zr := Az × Rat
def AllZ (u : World) (ps : List Zr) : Prop := ∀ r ∈ ps, Rz u r.1 r.2
theorem AllZ.nil (u : World) : AllZ u [] := fun _ h => by cases h
theorem AllZ.grow {u u' : World} {ps : List Zr} (h : AllZ u ps) (hg : Grow u u') : AllZ u' ps := fun r hr => (h r hr).grow hg
theorem AllZ.put {u u' : World} {ps : List Zr} (h : AllZ u ps) {bl : List (Nat × TypeId × Array Value)} (hB : Bx u bl) (k : Nat) {b : Nat} {t : TypeId} {cs : Array Value} (hk : bl[k]? = some (b, t, cs)) (ht : t ≠ 157) (i : Nat) (vs : List Value) (hu : putAll u b i vs = u') : AllZ u' ps := fun r hr => (h r hr).put hB k hk ht i vs hu
theorem AllZ.own {u w' : World} {B : Nat} {e : TypeId} {size n : Nat} {v : Value} {xs : List Value} {o : Obj} {ps : List Zr} (hl : AllZ u ps) (h : u.ownsRow B e size v n xs) (ht : e ≠ 157) (hg : (u.alloc o).grownBy w' v.ownBlock) : AllZ w' ps := fun r hr => (hl r hr).own h ht hg
theorem AllZ.snoc {u : World} {ps : List Zr} (h : AllZ u ps) {p : Az} {q : Rat} (h1 : Rn u p.1 q.num.natAbs) (h2 : Rn u p.2 q.den) : AllZ u (ps ++ [(p, q)]) := fun r hr => by
 rcases List.mem_append.1 hr with hr | hr
 ·exact h r hr
 ·have : r = (p, q) := by simpa using hr
  subst this
  exact ⟨h1, h2⟩
--! hand_Pick = hand_PickG _ _ SIDE SIDE _
theorem hand_PickG (n m : Int) (hm : 0 < m) (hm2 : m ≤ 9223372036854775807) (w : World) : Calls Tryz.prog 10 #[.int .i64 n, .int .i64 m] w fun e w' => e = .returned (.int .i64 (pick n m)) ∧ Grow w w' :=
 (hand_Pick n m hm hm2 w).mono fun e w' ⟨h, hw⟩ => ⟨h, hw ▸ Grow.refl _⟩
end Go.Proofs.YtimjnkfcnpfoeaaGreatDoor
namespace Go.Proofs.YtimjnkfcnpfoeaaGreatDoor
open Go.RowKit
abbrev zNone : Array Value := #[.bool false, .slice none 0 0, .slice none 0 0]
end Go.Proofs.YtimjnkfcnpfoeaaGreatDoor
namespace Go.Proofs.YtimjnkfcnpfoeaaGreatDoor
open Go.RowKit
abbrev qCells (q : Rat) : Array Value := #[.bool (intNeg q.num), .int .u64 (natLo q.num.natAbs), .string (natMo q.num.natAbs), .int .u64 (natLo (keptDen q.den)), .string (natMo (keptDen q.den))]
/-- what the closure of Told reads -/
def OneLq (b2 b8 : Nat) (A : Option Addr) (m c : Nat) (l : List Rat) (q : Rat) (W : World) : Prop :=
 Blk W b2 67 #[.slice A m c] ∧ Blk W b8 32 (qCells q) ∧ Lq W A l
theorem OneLq.mk {b2 b8 : Nat} {A : Option Addr} {m c : Nat} {l : List Rat} {q : Rat} {u : World} (h1 : Blk u b2 67 #[.slice A m c]) (h2 : Blk u b8 32 (qCells q)) (h3 : Lq u A l) : OneLq b2 b8 A m c l q u := ⟨h1, h2, h3⟩
theorem OneLq.grow {b2 b8 : Nat} {A : Option Addr} {m c : Nat} {l : List Rat} {q : Rat} {u u' : World} (hg : Grow u u') (h : OneLq b2 b8 A m c l q u) : OneLq b2 b8 A m c l q u' := ⟨h.1.grow hg, h.2.1.grow hg, h.2.2.grow hg⟩
end Go.Proofs.YtimjnkfcnpfoeaaGreatDoor
namespace Go.Proofs.YtimjnkfcnpfoeaaGreatDoor
open Go.RowKit
/-- what the closure of Tilt reads -/
def FourLq (b3 b4 b5 b8 : Nat) (A B : Option Addr) (m c d : Nat) (l l' : List Rat) (a : Rat) (W : World) : Prop :=
 Blk W b3 67 #[.slice A m c] ∧ Blk W b4 67 #[.slice B m d] ∧ Blk W b5 32 (qCells a) ∧ Blk W b8 32 (qCells (qint 1)) ∧ Lq W A l ∧ Lq W B l'
theorem FourLq.mk {b3 b4 b5 b8 : Nat} {A B : Option Addr} {m c d : Nat} {l l' : List Rat} {a : Rat} {u : World} (h1 : Blk u b3 67 #[.slice A m c]) (h2 : Blk u b4 67 #[.slice B m d]) (h3 : Blk u b5 32 (qCells a)) (h4 : Blk u b8 32 (qCells (qint 1))) (h5 : Lq u A l) (h6 : Lq u B l') : FourLq b3 b4 b5 b8 A B m c d l l' a u := ⟨h1, h2, h3, h4, h5, h6⟩
theorem FourLq.grow {b3 b4 b5 b8 : Nat} {A B : Option Addr} {m c d : Nat} {l l' : List Rat} {a : Rat} {u u' : World} (hg : Grow u u') (h : FourLq b3 b4 b5 b8 A B m c d l l' a u) : FourLq b3 b4 b5 b8 A B m c d l l' a u' :=
 ⟨h.1.grow hg, h.2.1.grow hg, h.2.2.1.grow hg, h.2.2.2.1.grow hg, h.2.2.2.2.1.grow hg, h.2.2.2.2.2.grow hg⟩
end Go.Proofs.YtimjnkfcnpfoeaaGreatDoor
namespace Go.Proofs.YtimjnkfcnpfoeaaGreatDoor
open Go.RowKit
/-- a fraction of the document's and an error -/
def RetE (q : Rat) (k : Int) (w : World) : Ending → World → Prop := RetY (fun p : Az => .tuple #[rzV p q, .int .i64 k]) (fun p W => Rz W p q) w
/-- fractions of the document's that lie beside the boxes bs -/
def LzX (u : World) (bs : List Nat) (A : Option Addr) (l : List Rat) : Prop := Lz u A l ∧ (∀ b off, A = some ⟨b, off, none⟩ → b ∉ bs) ∧ 0 < l.length
theorem LzX.a {u : World} {bs : List Nat} {A : Option Addr} {l : List Rat} (h : LzX u bs A l) : Lz u A l := h.1
theorem LzX.grow {u u' : World} {bs : List Nat} {A : Option Addr} {l : List Rat} (h : LzX u bs A l) (hg : Grow u u') : LzX u' bs A l := ⟨h.1.grow hg, h.2⟩
theorem Cz.far {u : World} {b i : Nat} {p : Az} {q : Rat} (h : Cz u b i p q) {a : Addr} (ha : b ≠ a.block) (v : Value) : Cz (u.setCell a v) b i p q := by
 have key : ∀ j, (u.setCell a v).cell? ⟨b, j, none⟩ = u.cell? ⟨b, j, none⟩ := fun j => World.cell?_of_block (Below.heap_setCell u a v b ha)
 exact ⟨(key _).trans h.1, (key _).trans h.2.1, (key _).trans h.2.2⟩
theorem LzX.put {u u' : World} {bs : List Nat} {A : Option Addr} {l : List Rat} (h : LzX u bs A l) {bl : List (Nat × TypeId × Array Value)} (hB : Bx u bl) (k : Nat) {b : Nat} {t : TypeId} {cs : Array Value} (hk : bl[k]? = some (b, t, cs)) (ht : b ∈ bs ∧ t ≠ 157) (i : Nat) (vs : List Value) (hu : putAll u b i vs = u') : LzX u' bs A l := by
 refine ⟨fun hn => ?_, h.2⟩
 obtain ⟨ba, oa, e, hb, hc⟩ := h.1 hn
 have hne : ba ≠ b := fun e' => h.2.1 ba oa e (e' ▸ ht.1)
 have hsz : ∀ (vs : List Value) (i : Nat) (u : World), (putAll u b i vs).heap.size = u.heap.size := by
  intro vs
  induction vs with
  | nil => exact fun _ _ => rfl
  | cons v vs ih => exact fun i u => (ih (i + 1) (u.setCell ⟨b, i, none⟩ v)).trans (by simp [World.setCell])
 have hcz : ∀ (vs : List Value) (i : Nat) (u : World) (j : Nat) (p : Az) (q : Rat), Cz u ba j p q → Cz (putAll u b i vs) ba j p q := by
  intro vs
  induction vs with
  | nil => exact fun _ _ _ _ _ h => h
  | cons v vs ih => exact fun i u j p q h => ih (i + 1) (u.setCell ⟨b, i, none⟩ v) j p q (h.far (a := ⟨b, i, none⟩) hne v)
 refine ⟨ba, oa, e, by rw [← hu, hsz]; exact hb, fun j hj => ?_⟩
 obtain ⟨p, h1, h2⟩ := hc j hj
 exact ⟨p, h1.put hB k hk ht.2 i vs hu, by rw [← hu]; exact hcz vs i u _ p _ h2⟩
theorem LzX.lt {u : World} {bs : List Nat} {A : Option Addr} {l : List Rat} (h : LzX u bs A l) : ∀ b off, A = some ⟨b, off, none⟩ → b < u.heap.size := fun b off e => by
 obtain ⟨b', off', e', hb, _⟩ := h.1 (fun h0 => by have := h.2.2; rw [h0] at this; cases this)
 rw [e] at e'
 cases e'
 exact hb
theorem LzX.more {v : World} {n b : Nat} {bs : List Nat} {A : Option Addr} {l : List Rat} (h : LzX v bs A l) (hlt : ∀ b off, A = some ⟨b, off, none⟩ → b < n) (hb : n ≤ b) : LzX v (b :: bs) A l :=
 ⟨h.1, fun b' off e hm => by
  rcases List.mem_cons.1 hm with rfl | hm
  ·have := hlt b' off e; omega
  ·exact h.2.1 b' off e hm, h.2.2⟩
theorem LzX.addr {u : World} {bs : List Nat} {A : Option Addr} {l : List Rat} (h : LzX u bs A l) : ∃ b off, A = some ⟨b, off, none⟩ := h.1.addr h.2.2
end Go.Proofs.YtimjnkfcnpfoeaaGreatDoor
namespace Go.Proofs.YtimjnkfcnpfoeaaGreatDoor
open Go.RowKit
/-- these truth values lie from the address on -/
def Lb (u : World) (A : Option Addr) (l : List Bool) : Prop :=
 l ≠ [] → ∃ b off, A = some ⟨b, off, none⟩ ∧ b < u.heap.size ∧ ∀ i x, l[i]? = some x → u.cell? ⟨b, off + i, none⟩ = some (.bool x)
theorem Lb.nil (u : World) (A : Option Addr) : Lb u A [] := fun h => absurd rfl h
theorem Lb.grow {u u' : World} {A : Option Addr} {l : List Bool} (h : Lb u A l) (hg : Grow u u') : Lb u' A l := fun hn => by
 obtain ⟨b, off, e, hb, hc⟩ := h hn
 exact ⟨b, off, e, Nat.lt_of_lt_of_le hb hg.size, fun i x hi => (hg.cell (p := ⟨b, off + i, none⟩) hb).trans (hc i x hi)⟩
def gb (l : List Bool) (i : Nat) : Bool := (l[i]?).getD false
theorem gb_eq {l : List Bool} {i : Nat} (h : i < l.length) : l[i]? = some (gb l i) := by
 unfold gb; rw [List.getElem?_eq_getElem h]; rfl
theorem Lb.addr {u : World} {A : Option Addr} {l : List Bool} (h : Lb u A l) (hl : 0 < l.length) : ∃ b off, A = some ⟨b, off, none⟩ := by
 obtain ⟨b, off, e, _⟩ := h (fun h0 => by rw [h0] at hl; cases hl)
 exact ⟨b, off, e⟩
theorem Lb.read {u : World} {b off : Nat} {l : List Bool} (h : Lb u (some ⟨b, off, none⟩) l) {i : Nat} (hi : i < l.length) : u.cell? ⟨b, off + i, none⟩ = some (.bool (gb l i)) := by
 obtain ⟨b', off', e, _, hc⟩ := h (fun h0 => by rw [h0] at hi; cases hi)
 cases e
 exact hc i _ (gb_eq hi)
def OneLb (b2 : Nat) (A : Option Addr) (m c : Nat) (l : List Bool) (W : World) : Prop := Blk W b2 79 #[.slice A m c] ∧ Lb W A l
theorem OneLb.mk {b2 : Nat} {A : Option Addr} {m c : Nat} {l : List Bool} {u : World} (h1 : Blk u b2 79 #[.slice A m c]) (h2 : Lb u A l) : OneLb b2 A m c l u := ⟨h1, h2⟩
theorem OneLb.grow {b2 : Nat} {A : Option Addr} {m c : Nat} {l : List Bool} {u u' : World} (hg : Grow u u') (h : OneLb b2 A m c l u) : OneLb b2 A m c l u' := ⟨h.1.grow hg, h.2.grow hg⟩
/-- what one pair adds -/
def hv (is : List Bool) (l : List Rat) (i j : Nat) : Int := if gb is i && !gb is j then cmpQ (gq l i) (gq l j) + 1 else 0
def halves (is : List Bool) (l : List Rat) (m : Nat) : Int := sumTo (fun a => sumTo (hv is l a) m) m
end Go.Proofs.YtimjnkfcnpfoeaaGreatDoor
namespace Go.Proofs.YtimjnkfcnpfoeaaGreatDoor
open Go.RowKit
set_option maxHeartbeats 2000000 in
set_option maxRecDepth 100000 in
theorem score_Table_arg (A B : Option Addr) (m c d k : Nat) (l l' : List Int) (hl : l.length = m) (hl' : l'.length = m) (hm0 : 0 < m) (hm : m ≤ 1099511627776) (hk1 : 1 ≤ k) (hk2 : k ≤ 12)
  (R : Nat) (hR : R < m) (hr : ∀ i, i < R → (0 ≤ gi l i ∧ gi l i < k) ∧ 0 ≤ gi l' i ∧ gi l' i < k) (hbad : gi l R < 0 ∨ gi l' R < 0 ∨ (k : Int) ≤ gi l R ∨ (k : Int) ≤ gi l' R) (w : World) (h1 : Li w A l) (h2 : Li w B l') :
  Calls Tryz.prog 14 #[.slice A m c, .slice B m d, .int .i64 k] w fun e w' => e = .returned (.tuple #[.slice none 0 0, .int .i64 1]) ∧ Grow w w' := by
 have hp : ∀ W, Calls Tryz.prog 57 #[.slice A m c, .slice B m d] W fun e w' => e = .returned (.bool true) ∧ Grow W w' := fun W => by
  have := score_paired_ii A B m m c d W
  rw [show pairedB m m = true by unfold pairedB; simp [hm0]] at this
  exact this
 have Hp := Lib.hid hp
 have H1 := Lib.hid h1
 have H2 := Lib.hid h2
 have Hr := Lib.hid hr
 have Hl := Lib.hid hl
 have Hl' := Lib.hid hl'
 have hmk1 := make_Sint k (by omega) (k : Int) rfl
 have hmk2 := make_int k (by omega) (k : Int) rfl
 clear hp h1 h2 hr hl hl'
 go_enter Tryz.func14, Tryz.ntmps14
 go_wp2_with (go_at_call 57; ((with_reducible refine (Hp.out _).mono ?_); rintro e w1 ⟨rfl, hg1⟩))
 clear hmk1
 obtain ⟨B0, hB0⟩ : ∃ b, b = w1.heap.size := ⟨_, rfl⟩
 rw [← hB0]
 have hw1 := hg1.size
 have hst : Made B0 k 0 (w1.alloc (.cells (cellsS (List.replicate k (.slice none 0 0))) 22)) := ⟨by rw [alloc_size, hB0], by rw [hB0]; unfold outTo; exact Blk.new w1 22 _, fun j hj => by omega⟩
 have Hst := Lib.hid hst
 have hB : w.heap.size ≤ B0 := by rw [hB0]; exact hw1
 clear hst hB0
 go_loopw [27] (fun s wr => ∃ i : Nat, i ≤ k ∧ s = .int .i64 i ∧ Made B0 k i wr ∧ Grow w wr) (fun s _ => k - (intOf s).toNat)
 case atStart => exact ⟨0, Nat.zero_le _, rfl, Hst.out, hg1.trans (Grow.alloc _ _)⟩
 case round =>
  obtain ⟨i, hi, rfl, hM, hG⟩ := hrel
  have HM := Lib.hid hM
  clear hM
  rcases Nat.lt_or_ge i k with hlt | hge
  ·have hc := HM.out.2.1.cell i
   have hf := HM.out.2.1.frozen i
   have hz := HM.out.1
   rw [cellsS_get, outTo_get B0 k hlt] at hc
   have hBl : B0 < wr.heap.size := by omega
   clear hz
   go_wp2_with fail
   go_roundw
   case rel => exact ⟨i + 1, by omega, by go_num, HM.out.next hlt, (hG.setCell (p := ⟨B0, i, none⟩) hB _).trans (Grow.alloc _ _)⟩
   case measure => simp [intOf]; omega
  ·obtain rfl : i = k := by omega
   have hT : Tabd B0 i l l' 0 wr := ⟨HM.out.2.1, fun j hj => by rw [tabRow_zero]; exact HM.out.2.2 j hj⟩
   have HT := Lib.hid hT
   clear hT
   go_wp2_with fail
   obtain ⟨wo, rfl⟩ : ∃ wo : World, wo = wr := ⟨_, rfl⟩
   go_loopw [38] (fun s wr => ∃ r : Nat, r ≤ R ∧ s = .int .i64 r ∧ Tabd B0 i l l' r wr ∧ Grow w wr) (fun s _ => m - (intOf s).toNat)
   case atStart => exact ⟨0, Nat.zero_le _, rfl, HT.out, hG⟩
   case round =>
    obtain ⟨r, hr, rfl, hT, hG⟩ := hrel
    have HT := Lib.hid hT
    clear hT
    rcases Nat.lt_or_ge r R with hlt | hge
    ·obtain ⟨⟨a1, a2⟩, a3, a4⟩ := Hr.out r hlt
     obtain ⟨b1, o1, rfl, hc1⟩ := (H1.out.grow hG).cell (i := r) (by rw [Hl.out]; omega)
     obtain ⟨b2, o2, rfl, hc2⟩ := (H2.out.grow hG).cell (i := r) (by rw [Hl'.out]; omega)
     obtain ⟨p, hp⟩ : ∃ p : Nat, gi l r = (p : Int) := ⟨(gi l r).toNat, by omega⟩
     obtain ⟨q, hq⟩ : ∃ q : Nat, gi l' r = (q : Int) := ⟨(gi l' r).toNat, by omega⟩
     rw [hp] at hc1 a1 a2
     rw [hq] at hc2 a3 a4
     have hc3 := HT.out.1.cell p
     rw [cellsS_get, outTo_full B0 i (by omega)] at hc3
     have hc4 := (HT.out.2 p (by omega)).cell q
     rw [cellsI_get, tabRow_get l l' r i p (by omega)] at hc4
     have hf4 := (HT.out.2 p (by omega)).frozen q
     simp only [Option.map_some, rowPtr] at hc3 hc4
     have hb := tabAt_le l l' r p q
     have hnx := HT.out.next hp hq (by omega)
     obtain ⟨v, hv⟩ : ∃ v, v = tabAt l l' r p q := ⟨_, rfl⟩
     rw [← hv] at hc4 hb hnx
     have Hnx := Lib.hid hnx
     have Hp := Lib.hid hp
     have Hq := Lib.hid hq
     clear hp hq hnx hv a1 a3
     have hpi : (p : Int) < (i : Int) := by omega
     have hqi : (q : Int) < (i : Int) := by omega
     have hmin : ¬ (min (p : Int) (q : Int) < 0) := by omega
     have hmax : ¬ ((i : Int) ≤ max (p : Int) (q : Int)) := by omega
     go_wp2_with fail
     go_roundw
     case rel => exact ⟨r + 1, by omega, by go_num, Hnx.out, hG.setCell (p := ⟨B0 + 1 + p, q, none⟩) (by show _ ≤ B0 + 1 + p; omega) _⟩
     case measure => simp [intOf]; omega
    ·obtain rfl : r = R := by omega
     obtain ⟨b1, o1, rfl, hc1⟩ := (H1.out.grow hG).cell (i := r) (by rw [Hl.out]; exact hR)
     obtain ⟨b2, o2, rfl, hc2⟩ := (H2.out.grow hG).cell (i := r) (by rw [Hl'.out]; exact hR)
     obtain ⟨p, hp⟩ : ∃ p, p = gi l r := ⟨_, rfl⟩
     obtain ⟨q, hq⟩ : ∃ q, q = gi l' r := ⟨_, rfl⟩
     rw [← hp] at hc1 hbad
     rw [← hq] at hc2 hbad
     clear hp hq
     by_cases hneg : min p q < 0
     ·clear hbad
      go_wp2_with fail
      go_ret2
      exact ⟨rfl, hG⟩
     ·have hmax : (i : Int) ≤ max p q := by omega
      clear hbad
      go_wp2_with fail
      go_ret2
      exact ⟨rfl, hG⟩
set_option maxHeartbeats 1000000 in
set_option maxRecDepth 100000 in
/-- a row of another length than the number of rows -/
theorem score_Rates_shape (A : Option Addr) (rs : List Rw) (k c : Nat) (hk : rs.length = k) (R : Nat) (hR : R < k) (hr : ∀ i r, i < R → rs[i]? = some r → r.2.2.length = k) (r0 : Rw) (hr0 : rs[R]? = some r0) (hbad : r0.2.2.length ≠ k) (hm : k ≤ 1099511627776) (w : World) (h : Lrows w A rs) :
  Calls Tryz.prog 20 #[.slice A k c] w fun e w' => e = .returned (.tuple #[.slice none 0 0, .int .i64 5]) ∧ Grow w w' := by
 obtain ⟨b, off, rfl, hb, hc⟩ := h (fun h0 => by rw [h0] at hk; simp at hk; omega)
 have hk0 : ((k : Int) == 0) = false := by simp; omega
 have Hc := Lib.hid hc
 have Hr := Lib.hid hr
 have Hk := Lib.hid hk
 have Hr0 := Lib.hid hr0
 obtain ⟨n0, hn0⟩ : ∃ n, n = r0.2.2.length := ⟨_, rfl⟩
 rw [← hn0] at hbad
 have Hn0 := Lib.hid hn0
 clear h hc hr hk hr0 hn0
 go_enter Tryz.func20, Tryz.ntmps20
 go_wp2_with fail
 go_loopw [22] (fun z wr => ∃ i : Nat, i ≤ R ∧ z = .int .i64 i ∧ wr = w) (fun z _ => k - (intOf z).toNat)
 case atStart => exact ⟨0, Nat.zero_le _, rfl, rfl⟩
 case round =>
  obtain ⟨i, hi, rfl, rfl⟩ := hrel
  have hik : i < k := by omega
  have hdk : decide ((i : Int) < (k : Int)) = true := by simp; omega
  rcases Nat.lt_or_ge i R with hlt | hge
  ·have hil : i < rs.length := by rw [Hk.out]; omega
   obtain ⟨r, hri⟩ : ∃ r, rs[i]? = some r := ⟨_, List.getElem?_eq_getElem hil⟩
   have hcell := (Hc.out i r hri).1
   rw [Hr.out i r hlt hri] at hcell
   have hne : ((k : Int) != (k : Int)) = false := by simp
   clear hri hil
   go_wp2_with fail
   go_roundw
   case rel => exact ⟨i + 1, by omega, by go_num, by first | rfl | trivial⟩
   case measure => simp [intOf]; omega
  ·obtain rfl : i = R := by omega
   have hcell := (Hc.out i r0 Hr0.out).1
   rw [← Hn0.out] at hcell
   have hne : ((n0 : Int) != (k : Int)) = true := by simp; omega
   go_wp2_with fail
   go_ret2
   exact ⟨rfl, Grow.refl _⟩
theorem score_Rates_none (A : Option Addr) (c : Nat) (w : World) : Calls Tryz.prog 20 #[.slice A 0 c] w fun e w' => e = .returned (.tuple #[.slice none 0 0, .int .i64 5]) ∧ Grow w w' := by
 go_enter Tryz.func20, Tryz.ntmps20
 go_wp2_with fail
 go_ret2
 exact ⟨rfl, Grow.refl _⟩
abbrev Rq := Option Addr × Nat × List Rat
/-- slices of fractions that lie from the address on -/
def Lrq (u : World) (A : Option Addr) (rs : List Rq) : Prop :=
 rs ≠ [] → ∃ b off, A = some ⟨b, off, none⟩ ∧ b < u.heap.size ∧ ∀ i r, rs[i]? = some r → u.cell? ⟨b, off + i, none⟩ = some (.slice r.1 r.2.2.length r.2.1) ∧ Lq u r.1 r.2.2
theorem Lrq.grow {u u' : World} {A : Option Addr} {rs : List Rq} (h : Lrq u A rs) (hg : Grow u u') : Lrq u' A rs := fun hn => by
 obtain ⟨b, off, e, hb, hc⟩ := h hn
 exact ⟨b, off, e, Nat.lt_of_lt_of_le hb hg.size, fun i r hi => ⟨(hg.cell (p := ⟨b, off + i, none⟩) hb).trans (hc i r hi).1, (hc i r hi).2.grow hg⟩⟩
theorem Lrq.addr {u : World} {A : Option Addr} {rs : List Rq} (h : Lrq u A rs) (hl : 0 < rs.length) : ∃ b off, A = some ⟨b, off, none⟩ := by
 obtain ⟨b, off, e, _⟩ := h (fun h0 => by rw [h0] at hl; cases hl)
 exact ⟨b, off, e⟩
theorem Lrq.read {u : World} {b off : Nat} {rs : List Rq} (h : Lrq u (some ⟨b, off, none⟩) rs) {i : Nat} {r : Rq} (hi : rs[i]? = some r) : u.cell? ⟨b, off + i, none⟩ = some (.slice r.1 r.2.2.length r.2.1) ∧ Lq u r.1 r.2.2 := by
 obtain ⟨b', off', e, _, hc⟩ := h (fun h0 => by rw [h0] at hi; simp at hi)
 cases e
 exact hc i r hi
end Go.Proofs.YtimjnkfcnpfoeaaGreatDoor
