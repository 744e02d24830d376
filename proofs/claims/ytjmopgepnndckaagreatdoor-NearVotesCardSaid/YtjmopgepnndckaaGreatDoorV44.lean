/-
  Contracts and laws: ScoreE RefQ ScoreH SheetA ClassA.
-/
import Derived.Test.YtjmopgepnndckaaGreatDoorV41
set_option linter.unusedSimpArgs false
set_option linter.unusedVariables false
namespace Go.Proofs.YtjmopgepnndckaaGreatDoor
open Go.RowKit
abbrev qCells (q : Rat) : Array Value := #[.bool (intNeg q.num), .int .u64 (natLo q.num.natAbs), .string (natMo q.num.natAbs), .int .u64 (natLo (keptDen q.den)), .string (natMo (keptDen q.den))]
/-- what the closure of Told reads -/
def OneLq (b2 b8 : Nat) (A : Option Addr) (m c : Nat) (l : List Rat) (q : Rat) (W : World) : Prop :=
 Blk W b2 35 #[.slice A m c] ∧ Blk W b8 49 (qCells q) ∧ Lq W A l
theorem OneLq.mk {b2 b8 : Nat} {A : Option Addr} {m c : Nat} {l : List Rat} {q : Rat} {u : World} (h1 : Blk u b2 35 #[.slice A m c]) (h2 : Blk u b8 49 (qCells q)) (h3 : Lq u A l) : OneLq b2 b8 A m c l q u := ⟨h1, h2, h3⟩
theorem OneLq.grow {b2 b8 : Nat} {A : Option Addr} {m c : Nat} {l : List Rat} {q : Rat} {u u' : World} (hg : Grow u u') (h : OneLq b2 b8 A m c l q u) : OneLq b2 b8 A m c l q u' := ⟨h.1.grow hg, h.2.1.grow hg, h.2.2.grow hg⟩
/-- a mean's size -/
theorem mean_size {f : Nat → Rat} {m s : Nat} (hm : m ≤ 1099511627776) (h : ∀ i, i < m → qs (f i) ≤ s) : qs (qdiv (qsum f m) (qint m)) ≤ m * (s + 1) + 42 := by
 have h1 := qsum_size f s m h m (Nat.le_refl _)
 have h2 := qs_div (qsum f m) (qint m)
 have h3 := qint_sz m hm
 unfold qdiv
 omega
end Go.Proofs.YtjmopgepnndckaaGreatDoor
namespace Go.Proofs.YtjmopgepnndckaaGreatDoor
open Go.RowKit
theorem qint_zero : qint 0 = 0 := rfl
abbrev zCellsR (p : Az) (q : Rat) : Array Value := #[.bool (intNeg q.num), .slice p.1.1 (ln q.num.natAbs) p.1.2, .slice p.2.1 (ln q.den) p.2.2]
abbrev zNone : Array Value := #[.bool false, .slice none 0 0, .slice none 0 0]
set_option maxHeartbeats 2000000 in
set_option maxRecDepth 100000 in
theorem ref1_Total (A : Option Addr) (l : List Rat) (c n : Nat) (hn : n = l.length) (hm : n ≤ 1099511627776) (s M : Nat) (hs : ∀ x ∈ l, qs x ≤ s) (hM : ∀ j, j ≤ n → qs (qsum (gq l) j) ≤ M) (hB : M + s + 100 ≤ BIG) (w : World) (h : Lz w A l) :
  Calls Tryz.prog 97 #[.slice A n c] w (Ret (ratR (qsum (gq l) n)) w) := by
 have H := Lib.hid h
 have Hs := Lib.hid hs
 have HM := Lib.hid hM
 have Hn := Lib.hid hn
 clear h hs hM hn
 go_enter Tryz.func97, Tryz.ntmps97
 refine en1 ?_
 intro u hG b2 hB hF
 refine wp_seq (rsC allocs2 [1, 2] hB hG fun K L hN hL => ?_)
 refine grd (ratR (qint 0)) (fun (x5 : Ax × Ax) => ?_) (C := fun v _ => ref1_Of 0 (by omega) (by omega) _)
 refine gaa (newObj_RQ _ _ _ _ _) fun b3 hb3 hn3 => ?_
 replace hF := hF.n1 [] hB hG hb3 hn3
 refine geC hL ?_
 clear hB hG hL L
 rintro u ⟨⟨⟨-, hB, hG, -⟩, hx5⟩, h3⟩
 replace hB := hB.cons' h3
 clear h3
 obtain ⟨hx5a, hx5b⟩ : Rn u x5.1 _ ∧ Rn u x5.2 _ := hx5
 clear hb3 hn3
 refine gtT ?_
 clear hN K
 refine sv hB hF hG 0 0 [_, _, _] ?_
 intro u hu hBG
 replace hx5a := hx5a.put hB 0 rfl (by first | decide | simp) _ _ hu
 replace hx5b := hx5b.put hB 0 rfl (by first | decide | simp) _ _ hu
 clear hB hG hu
 obtain ⟨hB, hG⟩ := hBG
 refine wp_seq ?_
 refine r0T ?_
 refine wp_block ?_
 go_loopw [4] (fun s0 wr => ∃ (j : Nat) (S : Rat) (p : Az), j ≤ n ∧ s0 = .int .i64 j ∧ (S = qsum (gq l) j ∧ Rz wr p S) ∧ Bx wr [(b3, 57, zCellsR p S), (b2, 57, zNone)] ∧ Grow w wr) (fun s0 _ => n - (intOf s0).toNat)
 case atStart => exact ⟨0, qint 0, x5, Nat.zero_le _, rfl, ⟨qint_zero, ⟨hx5a, hx5b⟩⟩, hB, hG⟩
 case round =>
  clear hB hG
  obtain ⟨j, S, p, hj, rfl, hrel0, hB, hG⟩ := hrel
  obtain ⟨u, rfl⟩ : ∃ x, x = wr := ⟨_, rfl⟩
  have H0 := Lib.hid hrel0
  clear hrel0
  rcases Nat.lt_or_ge j n with hlt0 | hge0
  ·have hdec : decide ((j : Int) < (n : Int)) = true := by simp; omega
   have hjl : j < l.length := by rw [← Hn.out]; exact hlt0
   have z1 := HM.out j (by omega)
   have z2 := Hs.out _ (gq_mem hjl)
   have hnx : qsum (gq l) (j + 1) = qadd (qsum (gq l) j) (gq l j) := rfl
   rw [← H0.out.1] at z1 hnx
   obtain ⟨ba, oa, rfl⟩ := H.out.addr (by omega)
   obtain ⟨r, hrd⟩ := H.out.read hjl
   obtain ⟨X, hX⟩ : ∃ F, F = gq l j := ⟨_, rfl⟩
   rw [← hX] at z2 hnx
   simp only [← hX] at hrd
   have hS := H0.out.2
   have Hrd := Lib.hid hrd
   have Hnx := Lib.hid hnx
   clear hrd hnx hX hjl H0
   refine wp_seq ?_
   refine r0T ?_
   refine wp_cond_true (rfl) ?_
   refine wp_skip ?_
   refine then_norm ?_
   refine wp_seq ?_
   refine wp_block ?_
   refine rdC allocs2 [] [(0, 0), (0, 1), (0, 2), (0, 3), (0, 4), (1, 5)] hB hG fun K L hN hL => ?_
   repeat first | refine gya ?_ | refine gyr ?_ | refine gna ?_ | refine gyb (by (rintro v ⟨hgu, hB, hG, -⟩ N hN; have r := hB.r; simp only [BxR] at r; obtain ⟨-, c1, c2, c3⟩ := Hrd.out v hG; go_simp; exact hN)) ?_
   refine grd (ratR (qadd S X)) (fun (x17 : Ax × Ax) => ?_) (C := by (rintro v ⟨hgu, hB, hG, -⟩; exact ref1_Add p.1 p.2 r.1 r.2 S X _ (hS.grow hgu).a (hS.grow hgu).b (Hrd.out _ hG).1.a (Hrd.out _ hG).1.b (by omega)))
   refine geC hL ?_
   clear hB hG hL L
   rintro u ⟨⟨hgu, hB, hG, -⟩, hx17⟩
   replace hS := hS.grow hgu
   obtain ⟨hx17a, hx17b⟩ : Rn u x17.1 _ ∧ Rn u x17.2 _ := hx17
   clear hgu
   refine gt ?_
   clear hN K
   refine sv hB hF hG 0 0 [_, _, _] ?_
   intro u hu hBG
   replace hS := hS.put hB 0 rfl (by first | decide | simp) _ _ hu
   replace hx17a := hx17a.put hB 0 rfl (by first | decide | simp) _ _ hu
   replace hx17b := hx17b.put hB 0 rfl (by first | decide | simp) _ _ hu
   clear hB hG hu
   obtain ⟨hB, hG⟩ := hBG
   refine blk_norm ?_
   refine then_norm ?_
   refine r0E ?_
   refine then_norm ?_
   go_roundw
   case rel => exact ⟨j + 1, qadd S X, x17, by omega, by go_num, ⟨Hnx.out.symm, ⟨hx17a, hx17b⟩⟩, hB, hG⟩
   case measure => simp [intOf]; try omega
  ·obtain rfl : n = j := by omega
   have hdec : decide ((n : Int) < (n : Int)) = false := by simp
   have hS := H0.out.2
   have HS0 := Lib.hid H0.out.1
   clear H0
   refine wp_seq ?_
   refine r0T ?_
   refine wp_cond_false (rfl) ?_
   refine wp_exit ?_
   refine then_exit ?_
   refine then_exit ?_
   refine blk_exit ?_
   refine then_norm ?_
   refine r0T ?_
   refine sv hB hF hG 1 0 [_, _, _] ?_
   intro u hu hBG
   replace hS := hS.put hB 1 rfl (by first | decide | simp) _ _ hu
   clear hB hG hu
   obtain ⟨hB, hG⟩ := hBG
   refine rt Tryz.results97 ?_
   exact rz_ret HS0.out hS.a hS.b hG
theorem qint_nz {n : Nat} (h : 0 < n) : qint (n : Nat) ≠ 0 := fun h0 => by
 have h1 := qint_num (n : Int)
 rw [h0] at h1
 have : (0 : Rat).num = 0 := rfl
 omega
theorem qsum_sz {l : List Rat} {s n : Nat} (hs : ∀ x ∈ l, qs x ≤ s) (hn : n = l.length) : ∀ j, j ≤ n → qs (qsum (gq l) j) ≤ n * (s + 1) + 1 := fun j hj =>
 Nat.le_trans (qsum_size (gq l) s n (fun i hi => hs _ (gq_mem (by omega))) j hj) (Nat.add_le_add_right (Nat.mul_le_mul_right _ hj) 1)
set_option maxHeartbeats 1000000 in
set_option maxRecDepth 100000 in
theorem ref1_Mean (A : Option Addr) (l : List Rat) (c n : Nat) (hn : n = l.length) (hn0 : 0 < n) (hm : n ≤ 1099511627776) (s : Nat) (hs : ∀ x ∈ l, qs x ≤ s) (hB : n * (s + 1) + s + 200 ≤ BIG) (w : World) (h : Lz w A l) :
  Calls Tryz.prog 57 #[.slice A n c] w (Ret (ratR (qMean l n)) w) := by
 have hsz := qsum_sz hs hn
 have htot := fun W (hg : Grow w W) => ref1_Total A l c n hn hm s (n * (s + 1) + 1) hs hsz (by omega) W (h.grow hg)
 have z1 := hsz n (Nat.le_refl _)
 have z2 := qint_sz n hm
 have z3 := qint_nz hn0
 have hq : qMean l n = qdiv (qsum (gq l) n) (qint n) := rfl
 rw [hq]
 generalize qsum (gq l) n = S at *
 have Htot := Lib.hid htot
 clear htot hsz hs h hn hq
 go_enter Tryz.func57, Tryz.ntmps57
 refine en1 ?_
 intro u hG b2 hB hF
 refine wp_seq (rsC allocs [0, 1, 0, 0, 1, 1] hB hG fun K L hN hL => ?_)
 refine gs ?_
 refine grd (ratR S) (fun (x4 : Ax × Ax) => ?_) (C := by (rintro v ⟨hgu, hB, hG, -⟩; exact Htot.out _ hG))
 refine gs ?_
 refine grd (ratR (qint n)) (fun (x7 : Ax × Ax) => ?_) (C := by (rintro v ⟨⟨hgu, hB, hG, -⟩, hx4⟩; obtain ⟨hx4a, hx4b⟩ : Rn v x4.1 _ ∧ Rn v x4.2 _ := hx4; exact ref1_Of n (by omega) (by omega) _))
 refine grd (ratR (qdiv S (qint n))) (fun (x8 : Ax × Ax) => ?_) (C := by (rintro v ⟨⟨⟨hgu, hB, hG, -⟩, hx4⟩, hx7⟩; obtain ⟨hx4a, hx4b⟩ : Rn v x4.1 _ ∧ Rn v x4.2 _ := hx4; obtain ⟨hx7a, hx7b⟩ : Rn v x7.1 _ ∧ Rn v x7.2 _ := hx7; exact ref1_Div x4.1 x4.2 x7.1 x7.2 S (qint n) _ hx4a hx4b hx7a hx7b (by omega) z3))
 refine geC hL ?_
 clear hB hG hL L
 rintro u ⟨⟨⟨⟨-, hB, hG, -⟩, hx4⟩, hx7⟩, hx8⟩
 obtain ⟨hx4a, hx4b⟩ : Rn u x4.1 _ ∧ Rn u x4.2 _ := hx4
 obtain ⟨hx7a, hx7b⟩ : Rn u x7.1 _ ∧ Rn u x7.2 _ := hx7
 obtain ⟨hx8a, hx8b⟩ : Rn u x8.1 _ ∧ Rn u x8.2 _ := hx8
 refine gtT ?_
 clear hN K
 refine sv hB hF hG 0 0 [_, _, _] ?_
 intro u hu hBG
 replace hx4a := hx4a.put hB 0 rfl (by first | decide | simp) _ _ hu
 replace hx4b := hx4b.put hB 0 rfl (by first | decide | simp) _ _ hu
 replace hx7a := hx7a.put hB 0 rfl (by first | decide | simp) _ _ hu
 replace hx7b := hx7b.put hB 0 rfl (by first | decide | simp) _ _ hu
 replace hx8a := hx8a.put hB 0 rfl (by first | decide | simp) _ _ hu
 replace hx8b := hx8b.put hB 0 rfl (by first | decide | simp) _ _ hu
 clear hB hG hu
 obtain ⟨hB, hG⟩ := hBG
 refine rt Tryz.results57 ?_
 exact ⟨x8, rfl, ⟨hx8a, hx8b⟩, hG⟩
end Go.Proofs.YtjmopgepnndckaaGreatDoor
namespace Go.Proofs.YtjmopgepnndckaaGreatDoor
open Go.RowKit
/-- what the closure of Tilt reads -/
def FourLq (b3 b4 b5 b8 : Nat) (A B : Option Addr) (m c d : Nat) (l l' : List Rat) (a : Rat) (W : World) : Prop :=
 Blk W b3 35 #[.slice A m c] ∧ Blk W b4 35 #[.slice B m d] ∧ Blk W b5 49 (qCells a) ∧ Blk W b8 49 (qCells (qint 1)) ∧ Lq W A l ∧ Lq W B l'
theorem FourLq.mk {b3 b4 b5 b8 : Nat} {A B : Option Addr} {m c d : Nat} {l l' : List Rat} {a : Rat} {u : World} (h1 : Blk u b3 35 #[.slice A m c]) (h2 : Blk u b4 35 #[.slice B m d]) (h3 : Blk u b5 49 (qCells a)) (h4 : Blk u b8 49 (qCells (qint 1))) (h5 : Lq u A l) (h6 : Lq u B l') : FourLq b3 b4 b5 b8 A B m c d l l' a u := ⟨h1, h2, h3, h4, h5, h6⟩
theorem FourLq.grow {b3 b4 b5 b8 : Nat} {A B : Option Addr} {m c d : Nat} {l l' : List Rat} {a : Rat} {u u' : World} (hg : Grow u u') (h : FourLq b3 b4 b5 b8 A B m c d l l' a u) : FourLq b3 b4 b5 b8 A B m c d l l' a u' :=
 ⟨h.1.grow hg, h.2.1.grow hg, h.2.2.1.grow hg, h.2.2.2.1.grow hg, h.2.2.2.2.1.grow hg, h.2.2.2.2.2.grow hg⟩
end Go.Proofs.YtjmopgepnndckaaGreatDoor
namespace Go.Proofs.YtjmopgepnndckaaGreatDoor
open Go.RowKit
/-- fractions of the document's that lie beside the boxes bs -/
def LzX (u : World) (bs : List Nat) (A : Option Addr) (l : List Rat) : Prop := Lz u A l ∧ (∀ b off, A = some ⟨b, off, none⟩ → b ∉ bs) ∧ 0 < l.length
theorem LzX.a {u : World} {bs : List Nat} {A : Option Addr} {l : List Rat} (h : LzX u bs A l) : Lz u A l := h.1
theorem LzX.grow {u u' : World} {bs : List Nat} {A : Option Addr} {l : List Rat} (h : LzX u bs A l) (hg : Grow u u') : LzX u' bs A l := ⟨h.1.grow hg, h.2⟩
theorem Cz.far {u : World} {b i : Nat} {p : Az} {q : Rat} (h : Cz u b i p q) {a : Addr} (ha : b ≠ a.block) (v : Value) : Cz (u.setCell a v) b i p q := by
 have key : ∀ j, (u.setCell a v).cell? ⟨b, j, none⟩ = u.cell? ⟨b, j, none⟩ := fun j => World.cell?_of_block (Below.heap_setCell u a v b ha)
 exact ⟨(key _).trans h.1, (key _).trans h.2.1, (key _).trans h.2.2⟩
theorem LzX.put {u u' : World} {bs : List Nat} {A : Option Addr} {l : List Rat} (h : LzX u bs A l) {bl : List (Nat × TypeId × Array Value)} (hB : Bx u bl) (k : Nat) {b : Nat} {t : TypeId} {cs : Array Value} (hk : bl[k]? = some (b, t, cs)) (ht : b ∈ bs ∧ t ≠ 162) (i : Nat) (vs : List Value) (hu : putAll u b i vs = u') : LzX u' bs A l := by
 refine ⟨fun hn => ?_, h.2⟩
 obtain ⟨ba, oa, e, hb, hc⟩ := h.1 hn
 have hne : ba ≠ b := fun e' => h.2.1 ba oa e (e' ▸ ht.1)
 have hsz : ∀ (vs : List Value) (i : Nat) (u : World), (putAll u b i vs).heap.size = u.heap.size := by
  intro vs
  induction vs with
  | nil => exact fun _ _ => rfl
  | cons v vs ih => exact fun i u => (ih (i + 1) (u.setCell ⟨b, i, none⟩ v)).trans (by simp [World.setCell])
 have hcz : ∀ (vs : List Value) (i : Nat) (u : World) (j : Nat) (p : Az) (q : Rat), Cz u ba j p q → Cz (putAll u b i vs) ba j p q := by
  intro vs
  induction vs with
  | nil => exact fun _ _ _ _ _ h => h
  | cons v vs ih => exact fun i u j p q h => ih (i + 1) (u.setCell ⟨b, i, none⟩ v) j p q (h.far (a := ⟨b, i, none⟩) hne v)
 refine ⟨ba, oa, e, by rw [← hu, hsz]; exact hb, fun j hj => ?_⟩
 obtain ⟨p, h1, h2⟩ := hc j hj
 exact ⟨p, h1.put hB k hk ht.2 i vs hu, by rw [← hu]; exact hcz vs i u _ p _ h2⟩
theorem LzX.lt {u : World} {bs : List Nat} {A : Option Addr} {l : List Rat} (h : LzX u bs A l) : ∀ b off, A = some ⟨b, off, none⟩ → b < u.heap.size := fun b off e => by
 obtain ⟨b', off', e', hb, _⟩ := h.1 (fun h0 => by have := h.2.2; rw [h0] at this; cases this)
 rw [e] at e'
 cases e'
 exact hb
theorem LzX.more {v : World} {n b : Nat} {bs : List Nat} {A : Option Addr} {l : List Rat} (h : LzX v bs A l) (hlt : ∀ b off, A = some ⟨b, off, none⟩ → b < n) (hb : n ≤ b) : LzX v (b :: bs) A l :=
 ⟨h.1, fun b' off e hm => by
  rcases List.mem_cons.1 hm with rfl | hm
  ·have := hlt b' off e; omega
  ·exact h.2.1 b' off e hm, h.2.2⟩
theorem LzX.addr {u : World} {bs : List Nat} {A : Option Addr} {l : List Rat} (h : LzX u bs A l) : ∃ b off, A = some ⟨b, off, none⟩ := h.1.addr h.2.2
end Go.Proofs.YtjmopgepnndckaaGreatDoor
namespace Go.Proofs.YtjmopgepnndckaaGreatDoor
open Go.RowKit
theorem Li.at {u : World} {A : Option Addr} {l : List Int} {i : Nat} (h : Li u A l) (hi : i < l.length) : ∃ b off, A = some ⟨b, off, none⟩ ∧ ∀ W, Grow u W → W.cell? ⟨b, off + i, none⟩ = some (.int .i64 (gi l i)) := by
 obtain ⟨b, off, e, -⟩ := h.cell hi
 refine ⟨b, off, e, fun W hg => ?_⟩
 obtain ⟨b', o', e', hc⟩ := (h.grow hg).cell hi
 rw [e] at e'
 cases e'
 exact hc
theorem bs_int (y : Int) (w : World) : (Instr.buildSlice 22 1 #[(0, .int .i64 y)]).run Tryz.prog w = .ok (.slice (some ⟨w.heap.size, 0, none⟩) 1 1) (w.alloc (.cells #[.int .i64 y] 3)) := by
 go_simp
theorem ei_int : EI 22 3 1 8 := ei_of (by kernel_rfl) (by kernel_rfl) (by omega)
end Go.Proofs.YtjmopgepnndckaaGreatDoor
