/-
  Contracts and laws: ScoreD.
-/
import Derived.Test.YtimjnkfcnpfoeaaGreatDoorL42
set_option linter.unusedSimpArgs false
set_option linter.unusedVariables false
namespace Go.Proofs.YtimjnkfcnpfoeaaGreatDoor
open Go.RowKit
set_option maxHeartbeats 400000 in
theorem score_paired_qq (A B : Option Addr) (m n c d : Nat) (w : World) : Calls Tryz.prog 85 #[.slice A m c, .slice B n d] w fun e w' => e = .returned (.bool (pairedB m n)) ∧ Grow w w' := by
 by_cases h : m = n
 ·subst h
  by_cases h0 : 0 < m
  ·have e : pairedB m m = true := by unfold pairedB; simp [h0]
   rw [e]
   clear e
   go_enter Tryz.func85, Tryz.ntmps85
   go_wp2_with fail
   go_ret
   exact ⟨rfl, Grow.refl _⟩
  ·have e : pairedB m m = false := by unfold pairedB; simp; omega
   rw [e]
   clear e
   go_enter Tryz.func85, Tryz.ntmps85
   go_wp2_with fail
   go_ret
   exact ⟨rfl, Grow.refl _⟩
 ·have e : pairedB m n = false := by unfold pairedB; simp [h]
  have hb : ((m : Int) == (n : Int)) = false := by simp; omega
  rw [e]
  clear e
  go_enter Tryz.func85, Tryz.ntmps85
  go_wp2_with fail
  go_ret
  exact ⟨rfl, Grow.refl _⟩
theorem pairedB_yes {m : Nat} (h : 0 < m) : pairedB m m = true := by unfold pairedB; simp [h]
/-- what the closures of Squares and Sizes read -/
def TwoLq (b2 b3 : Nat) (A B : Option Addr) (m c d : Nat) (l l' : List Rat) (W : World) : Prop :=
 Blk W b2 67 #[.slice A m c] ∧ Blk W b3 67 #[.slice B m d] ∧ Lq W A l ∧ Lq W B l'
theorem TwoLq.mk {b2 b3 : Nat} {A B : Option Addr} {m c d : Nat} {l l' : List Rat} {u : World} (h1 : Blk u b2 67 #[.slice A m c]) (h2 : Blk u b3 67 #[.slice B m d]) (h3 : Lq u A l) (h4 : Lq u B l') : TwoLq b2 b3 A B m c d l l' u := ⟨h1, h2, h3, h4⟩
theorem TwoLq.grow {b2 b3 : Nat} {A B : Option Addr} {m c d : Nat} {l l' : List Rat} {u u' : World} (hg : Grow u u') (h : TwoLq b2 b3 A B m c d l l' u) : TwoLq b2 b3 A B m c d l l' u' := ⟨h.1.grow hg, h.2.1.grow hg, h.2.2.1.grow hg, h.2.2.2.grow hg⟩
theorem TwoLq.cells {b2 b3 ba oa bb ob : Nat} {m c d : Nat} {l l' : List Rat} {W : World} (h : TwoLq b2 b3 (some ⟨ba, oa, none⟩) (some ⟨bb, ob, none⟩) m c d l l' W) {i : Nat} (h1 : i < l.length) (h2 : i < l'.length) :
  (W.cell? ⟨b2, 0, none⟩ = some (.slice (some ⟨ba, oa, none⟩) m c) ∧ W.cell? ⟨b3, 0, none⟩ = some (.slice (some ⟨bb, ob, none⟩) m d)) ∧ Cq W ba (oa + i * 5) (gq l i) ∧ Cq W bb (ob + i * 5) (gq l' i) :=
 ⟨⟨h.1.cell 0, h.2.1.cell 0⟩, h.2.2.1.read h1, h.2.2.2.read h2⟩
def sqd (x y : Rat) : Rat := qmul (qsub x y) (qsub x y)
def absd (x y : Rat) : Rat := qabs (qsub x y)
theorem qs_qabs (a : Rat) : qs (qabs a) = qs a := by
 unfold qs qabs
 rw [abs_num, abs_den, sgn_abs]
theorem qs_sqd (x y : Rat) (s : Nat) (h1 : qs x ≤ s) (h2 : qs y ≤ s) : qs (sqd x y) ≤ 4 * s + 2 := by
 have h3 : qs (qsub x y) ≤ 2 * s + 1 := by have := qs_sub x y; unfold qsub; omega
 have h4 : qs (qmul (qsub x y) (qsub x y)) ≤ qs (qsub x y) + qs (qsub x y) := qs_mul _ _
 unfold sqd
 omega
theorem qs_absd (x y : Rat) (s : Nat) (h1 : qs x ≤ s) (h2 : qs y ≤ s) : qs (absd x y) ≤ 2 * s + 1 := by
 have h3 : qs (qsub x y) ≤ 2 * s + 1 := by have := qs_sub x y; unfold qsub; omega
 unfold absd
 rw [qs_qabs]
 exact h3
set_option maxHeartbeats 400000 in
set_option maxRecDepth 100000 in
theorem score_Squares_c1 (b2 b3 ba oa bb ob : Nat) (m c d : Nat) (l l' : List Rat) (hl : l.length = m) (hl' : l'.length = m) (s : Nat) (hs : ∀ x ∈ l, qs x ≤ s) (hs' : ∀ x ∈ l', qs x ≤ s) (hB : 4 * s + 10 ≤ BIG) (i : Nat) (hi : i < m) (w : World) (h : TwoLq b2 b3 (some ⟨ba, oa, none⟩) (some ⟨bb, ob, none⟩) m c d l l' w) (HT : Tab w) :
  Calls Tryz.prog 87 #[.int .i64 (i : Nat), .pointer (some ⟨b2, 0, none⟩), .pointer (some ⟨b3, 0, none⟩)] w fun e w' => e = .returned (qV (sqd (gq l i) (gq l' i))) ∧ Grow w w' := by
 have hc : ∀ W, Grow w W → (W.cell? ⟨b2, 0, none⟩ = some (.slice (some ⟨ba, oa, none⟩) m c) ∧ W.cell? ⟨b3, 0, none⟩ = some (.slice (some ⟨bb, ob, none⟩) m d)) ∧ Cq W ba (oa + i * 5) (gq l i) ∧ Cq W bb (ob + i * 5) (gq l' i) := fun W hg => (h.grow hg).cells (by omega) (by omega)
 have z1 := hs _ (gq_mem (l := l) (i := i) (by omega))
 have z2 := hs' _ (gq_mem (l := l') (i := i) (by omega))
 have z3 : qs (qsub (gq l i) (gq l' i)) ≤ 2 * s + 1 := by have := qs_sub (gq l i) (gq l' i); unfold qsub; omega
 generalize gq l i = X at *
 generalize gq l' i = Y at *
 have hBl := BIG_le
 have z4 : bl (qsub X Y).num.natAbs ≤ 1099511627776 := by have := qs_num (qsub X Y); omega
 have Hc := Lib.hid hc
 clear hc h hs hs' hl hl'
 show Calls Tryz.prog 87 #[.int .i64 (i : Nat), .pointer (some ⟨b2, 0, none⟩), .pointer (some ⟨b3, 0, none⟩)] w fun e w' => e = .returned (qV (qmul (qsub X Y) (qsub X Y))) ∧ Grow w w'
 go_enter Tryz.func87, Tryz.ntmps87
 refine en1 ?_
 intro u hG b4 hB hF
 refine wp_seq (rdC allocs [] [(0, 0), (0, 1), (0, 2), (0, 3), (0, 4), (0, 5), (0, 6), (0, 7), (1, 8), (1, 9)] hB hG fun K L hN hL => ?_)
 repeat first | refine gya ?_ | refine gyr ?_ | refine gna ?_ | refine gyb (by (rintro v ⟨hgu, hB, hG, -⟩ N hN; have r := hB.r; simp only [BxR] at r; obtain ⟨⟨p1, p2⟩, ⟨q1, q2, q3, q4, q5⟩, ⟨y1, y2, y3, y4, y5⟩⟩ := Hc.out v hG; go_simp; exact hN)) ?_
 refine gmd (C := fun v ⟨hgu, hB, hG, _⟩ => frac_Sub _ _ _ (by omega) (HT.grow hG)) ?_
 refine gmd (C := fun v ⟨hgu, hB, hG, _⟩ => score_square _ (by omega) _ (HT.grow hG)) ?_
 refine geC hL ?_
 clear hB hG hL L
 rintro u ⟨-, hB, hG, -⟩
 refine gtT ?_
 clear hN K
 refine st hB hF hG 0 0 [_, _, _, _, _] ?_
 clear hB hG
 intro u hB hG
 refine rt Tryz.results87 ?_
 exact ⟨rfl, hG⟩
theorem cf_Squares (args : Array Value) (W : World) : Sem.run Tryz.prog (callFunc 87 args) W = .ok (.enter 87 args) W := by kernel_rfl
def qSquares (l l' : List Rat) (m : Nat) : Rat := qdiv (qsum (fun i => sqd (gq l i) (gq l' i)) m) (qint m)
theorem score_mean_Squares (b2 b3 ba oa bb ob : Nat) (m c d : Nat) (l l' : List Rat) (hl : l.length = m) (hl' : l'.length = m) (hm : m ≤ 1099511627776) (s : Nat) (hs : ∀ x ∈ l, qs x ≤ s) (hs' : ∀ x ∈ l', qs x ≤ s) (hB : m * (4 * s + 3) + 4 * s + 200 ≤ BIG) (w : World) (h : TwoLq b2 b3 (some ⟨ba, oa, none⟩) (some ⟨bb, ob, none⟩) m c d l l' w) (HT : Tab w) :
  Calls Tryz.prog 86 #[.int .i64 m, .func (.func 87) #[] #[.pointer (some ⟨b2, 0, none⟩), .pointer (some ⟨b3, 0, none⟩)]] w fun e w' => e = .returned (qV (qSquares l l' m)) ∧ Grow w w' := by
 have hz : ∀ i, i < m → qs (sqd (gq l i) (gq l' i)) ≤ 4 * s + 2 := fun i hi => Nat.le_trans (qs_sqd _ _ s (hs _ (gq_mem (by omega))) (hs' _ (gq_mem (by omega)))) (by omega)
 refine score_mean m hm 87 cf_Squares _ (fun i => sqd (gq l i) (gq l' i)) (TwoLq b2 b3 (some ⟨ba, oa, none⟩) (some ⟨bb, ob, none⟩) m c d l l') (fun _ _ hg h => h.grow hg) (m * (4 * s + 3) + 1) (4 * s + 2) (fun j hj => ?_) hz (by omega) w h HT
  (fun i hi W hW hTW => score_Squares_c1 b2 b3 ba oa bb ob m c d l l' hl hl' s hs hs' (by omega) i hi W hW hTW)
 exact Nat.le_trans (qsum_size _ (4 * s + 2) m hz j hj) (Nat.add_le_add_right (Nat.mul_le_mul_right _ hj) 1)
set_option maxHeartbeats 1000000 in
set_option maxRecDepth 100000 in
theorem score_Squares_ok (A B : Option Addr) (m c d : Nat) (l l' : List Rat) (hl : l.length = m) (hl' : l'.length = m) (hm0 : 0 < m) (hm : m ≤ 1099511627776) (s : Nat) (hs : ∀ x ∈ l, qs x ≤ s) (hs' : ∀ x ∈ l', qs x ≤ s) (hB : m * (4 * s + 3) + 4 * s + 200 ≤ BIG) (w : World) (h1 : Lq w A l) (h2 : Lq w B l') (HT : Tab w) :
  Calls Tryz.prog 32 #[.slice A m c, .slice B m d] w fun e w' => e = .returned (.tuple #[qV (qSquares l l' m), .int .i64 0]) ∧ Grow w w' := by
 obtain ⟨ba, oa, rfl⟩ := h1.addr (by omega)
 obtain ⟨bb, ob, rfl⟩ := h2.addr (by omega)
 have hp : ∀ W, Calls Tryz.prog 85 #[.slice (some ⟨ba, oa, none⟩) m c, .slice (some ⟨bb, ob, none⟩) m d] W fun e w' => e = .returned (.bool true) ∧ Grow W w' := fun W => by
  have := score_paired_qq (some ⟨ba, oa, none⟩) (some ⟨bb, ob, none⟩) m m c d W
  rw [pairedB_yes hm0] at this
  exact this
 have hme := fun b2 b3 W => score_mean_Squares b2 b3 ba oa bb ob m c d l l' hl hl' hm s hs hs' hB W
 obtain ⟨S, hS⟩ : ∃ S, S = qSquares l l' m := ⟨_, rfl⟩
 rw [← hS]
 rw [← hS] at hme
 have Hp := Lib.hid hp
 have Hme := Lib.hid hme
 have H1 := Lib.hid h1
 have H2 := Lib.hid h2
 clear hp hme h1 h2 hl hl' hS hs hs' hB
 go_enter Tryz.func32, Tryz.ntmps32
 refine en3 ?_
 intro u hG b4 b3 b2 hB hF
 refine wp_seq ?_
 refine wp_seq (rsE allocs [0, 0, 1, 0] hB hG fun L hL => ?_)
 refine gs ?_
 refine gmw (C := fun v => Hp.out _) ?_
 refine gs ?_
 refine geT hL ?_
 clear hB hG hL L
 rintro u ⟨-, hB, hG, -⟩
 refine wp_cond_false (rfl) ?_
 refine wp_skip ?_
 refine then_norm ?_
 refine wp_seq (rsC allocs [0, 0, 0, 1] hB hG fun K L hN hL => ?_)
 refine gs ?_
 refine gmd (C := fun v ⟨hgu, hB, hG, _⟩ => Hme.out b2 b3 _ (TwoLq.mk hB.head hB.tail.head (H1.out.grow hG) (H2.out.grow hG)) (HT.grow hG)) ?_
 refine geC hL ?_
 clear hB hG hL L
 rintro u ⟨-, hB, hG, -⟩
 refine gtT ?_
 clear hN K
 refine st hB hF hG 2 0 [_, _, _, _, _] ?_
 clear hB hG
 intro u hB hG
 refine rt Tryz.results32 ?_
 exact ⟨rfl, hG⟩
set_option maxHeartbeats 400000 in
set_option maxRecDepth 100000 in
theorem score_Sizes_c1 (b2 b3 ba oa bb ob : Nat) (m c d : Nat) (l l' : List Rat) (hl : l.length = m) (hl' : l'.length = m) (s : Nat) (hs : ∀ x ∈ l, qs x ≤ s) (hs' : ∀ x ∈ l', qs x ≤ s) (hB : 4 * s + 10 ≤ BIG) (i : Nat) (hi : i < m) (w : World) (h : TwoLq b2 b3 (some ⟨ba, oa, none⟩) (some ⟨bb, ob, none⟩) m c d l l' w) (HT : Tab w) :
  Calls Tryz.prog 91 #[.int .i64 (i : Nat), .pointer (some ⟨b2, 0, none⟩), .pointer (some ⟨b3, 0, none⟩)] w fun e w' => e = .returned (qV (absd (gq l i) (gq l' i))) ∧ Grow w w' := by
 have hc : ∀ W, Grow w W → (W.cell? ⟨b2, 0, none⟩ = some (.slice (some ⟨ba, oa, none⟩) m c) ∧ W.cell? ⟨b3, 0, none⟩ = some (.slice (some ⟨bb, ob, none⟩) m d)) ∧ Cq W ba (oa + i * 5) (gq l i) ∧ Cq W bb (ob + i * 5) (gq l' i) := fun W hg => (h.grow hg).cells (by omega) (by omega)
 have z1 := hs _ (gq_mem (l := l) (i := i) (by omega))
 have z2 := hs' _ (gq_mem (l := l') (i := i) (by omega))
 have z3 : qs (qsub (gq l i) (gq l' i)) ≤ 2 * s + 1 := by have := qs_sub (gq l i) (gq l' i); unfold qsub; omega
 generalize gq l i = X at *
 generalize gq l' i = Y at *
 have hBl := BIG_le
 have z4 : bl (qsub X Y).num.natAbs ≤ 1099511627776 := by have := qs_num (qsub X Y); omega
 have Hc := Lib.hid hc
 clear hc h hs hs' hl hl'
 show Calls Tryz.prog 91 #[.int .i64 (i : Nat), .pointer (some ⟨b2, 0, none⟩), .pointer (some ⟨b3, 0, none⟩)] w fun e w' => e = .returned (qV (qabs (qsub X Y))) ∧ Grow w w'
 go_enter Tryz.func91, Tryz.ntmps91
 refine en1 ?_
 intro u hG b4 hB hF
 refine wp_seq (rdC allocs [] [(0, 0), (0, 1), (0, 2), (0, 3), (0, 4), (0, 5), (0, 6), (0, 7), (1, 8), (1, 9)] hB hG fun K L hN hL => ?_)
 repeat first | refine gya ?_ | refine gyr ?_ | refine gna ?_ | refine gyb (by (rintro v ⟨hgu, hB, hG, -⟩ N hN; have r := hB.r; simp only [BxR] at r; obtain ⟨⟨p1, p2⟩, ⟨q1, q2, q3, q4, q5⟩, ⟨y1, y2, y3, y4, y5⟩⟩ := Hc.out v hG; go_simp; exact hN)) ?_
 refine gmd (C := fun v ⟨hgu, hB, hG, _⟩ => frac_Sub _ _ _ (by omega) (HT.grow hG)) ?_
 refine gmw (C := fun v => frac_Abs _ (by omega) _) ?_
 refine geC hL ?_
 clear hB hG hL L
 rintro u ⟨-, hB, hG, -⟩
 refine gtT ?_
 clear hN K
 refine st hB hF hG 0 0 [_, _, _, _, _] ?_
 clear hB hG
 intro u hB hG
 refine rt Tryz.results91 ?_
 exact ⟨rfl, hG⟩
theorem cf_Sizes (args : Array Value) (W : World) : Sem.run Tryz.prog (callFunc 91 args) W = .ok (.enter 91 args) W := by kernel_rfl
def qSizes (l l' : List Rat) (m : Nat) : Rat := qdiv (qsum (fun i => absd (gq l i) (gq l' i)) m) (qint m)
theorem score_mean_Sizes (b2 b3 ba oa bb ob : Nat) (m c d : Nat) (l l' : List Rat) (hl : l.length = m) (hl' : l'.length = m) (hm : m ≤ 1099511627776) (s : Nat) (hs : ∀ x ∈ l, qs x ≤ s) (hs' : ∀ x ∈ l', qs x ≤ s) (hB : m * (4 * s + 3) + 4 * s + 200 ≤ BIG) (w : World) (h : TwoLq b2 b3 (some ⟨ba, oa, none⟩) (some ⟨bb, ob, none⟩) m c d l l' w) (HT : Tab w) :
  Calls Tryz.prog 86 #[.int .i64 m, .func (.func 91) #[] #[.pointer (some ⟨b2, 0, none⟩), .pointer (some ⟨b3, 0, none⟩)]] w fun e w' => e = .returned (qV (qSizes l l' m)) ∧ Grow w w' := by
 have hz : ∀ i, i < m → qs (absd (gq l i) (gq l' i)) ≤ 4 * s + 2 := fun i hi => Nat.le_trans (qs_absd _ _ s (hs _ (gq_mem (by omega))) (hs' _ (gq_mem (by omega)))) (by omega)
 refine score_mean m hm 91 cf_Sizes _ (fun i => absd (gq l i) (gq l' i)) (TwoLq b2 b3 (some ⟨ba, oa, none⟩) (some ⟨bb, ob, none⟩) m c d l l') (fun _ _ hg h => h.grow hg) (m * (4 * s + 3) + 1) (4 * s + 2) (fun j hj => ?_) hz (by omega) w h HT
  (fun i hi W hW hTW => score_Sizes_c1 b2 b3 ba oa bb ob m c d l l' hl hl' s hs hs' (by omega) i hi W hW hTW)
 exact Nat.le_trans (qsum_size _ (4 * s + 2) m hz j hj) (Nat.add_le_add_right (Nat.mul_le_mul_right _ hj) 1)
set_option maxHeartbeats 1000000 in
set_option maxRecDepth 100000 in
theorem score_Sizes_ok (A B : Option Addr) (m c d : Nat) (l l' : List Rat) (hl : l.length = m) (hl' : l'.length = m) (hm0 : 0 < m) (hm : m ≤ 1099511627776) (s : Nat) (hs : ∀ x ∈ l, qs x ≤ s) (hs' : ∀ x ∈ l', qs x ≤ s) (hB : m * (4 * s + 3) + 4 * s + 200 ≤ BIG) (w : World) (h1 : Lq w A l) (h2 : Lq w B l') (HT : Tab w) :
  Calls Tryz.prog 34 #[.slice A m c, .slice B m d] w fun e w' => e = .returned (.tuple #[qV (qSizes l l' m), .int .i64 0]) ∧ Grow w w' := by
 obtain ⟨ba, oa, rfl⟩ := h1.addr (by omega)
 obtain ⟨bb, ob, rfl⟩ := h2.addr (by omega)
 have hp : ∀ W, Calls Tryz.prog 85 #[.slice (some ⟨ba, oa, none⟩) m c, .slice (some ⟨bb, ob, none⟩) m d] W fun e w' => e = .returned (.bool true) ∧ Grow W w' := fun W => by
  have := score_paired_qq (some ⟨ba, oa, none⟩) (some ⟨bb, ob, none⟩) m m c d W
  rw [pairedB_yes hm0] at this
  exact this
 have hme := fun b2 b3 W => score_mean_Sizes b2 b3 ba oa bb ob m c d l l' hl hl' hm s hs hs' hB W
 obtain ⟨S, hS⟩ : ∃ S, S = qSizes l l' m := ⟨_, rfl⟩
 rw [← hS]
 rw [← hS] at hme
 have Hp := Lib.hid hp
 have Hme := Lib.hid hme
 have H1 := Lib.hid h1
 have H2 := Lib.hid h2
 clear hp hme h1 h2 hl hl' hS hs hs' hB
 go_enter Tryz.func34, Tryz.ntmps34
 refine en3 ?_
 intro u hG b4 b3 b2 hB hF
 refine wp_seq ?_
 refine wp_seq (rsE allocs [0, 0, 1, 0] hB hG fun L hL => ?_)
 refine gs ?_
 refine gmw (C := fun v => Hp.out _) ?_
 refine gs ?_
 refine geT hL ?_
 clear hB hG hL L
 rintro u ⟨-, hB, hG, -⟩
 refine wp_cond_false (rfl) ?_
 refine wp_skip ?_
 refine then_norm ?_
 refine wp_seq (rsC allocs [0, 0, 0, 1] hB hG fun K L hN hL => ?_)
 refine gs ?_
 refine gmd (C := fun v ⟨hgu, hB, hG, _⟩ => Hme.out b2 b3 _ (TwoLq.mk hB.head hB.tail.head (H1.out.grow hG) (H2.out.grow hG)) (HT.grow hG)) ?_
 refine geC hL ?_
 clear hB hG hL L
 rintro u ⟨-, hB, hG, -⟩
 refine gtT ?_
 clear hN K
 refine st hB hF hG 2 0 [_, _, _, _, _] ?_
 clear hB hG
 intro u hB hG
 refine rt Tryz.results34 ?_
 exact ⟨rfl, hG⟩
set_option maxHeartbeats 1000000 in
set_option maxRecDepth 100000 in
theorem frac_Sum (A : Option Addr) (l : List Rat) (c n : Nat) (hn : n = l.length) (hm : n ≤ 1099511627776) (s M : Nat) (hs : ∀ x ∈ l, qs x ≤ s) (hM : ∀ j, j ≤ n → qs (qsum (gq l) j) ≤ M) (hB : M + s + 100 ≤ BIG) (w : World) (h : Lq w A l) (HT : Tab w) :
  Calls Tryz.prog 111 #[.slice A n c] w fun e w' => e = .returned (qV (qsum (gq l) n)) ∧ Grow w w' := by
 have H := Lib.hid h
 have Hs := Lib.hid hs
 have HM := Lib.hid hM
 have Hn := Lib.hid hn
 clear h hs hM hn
 go_enter Tryz.func111, Tryz.ntmps111
 refine en1 ?_
 intro u hG b2 hB hF
 refine wp_seq (rsE allocs [2] hB hG fun L hL => ?_)
 refine gaa (newObj_Q _ _ _ _ _) fun b3 hb3 hn3 => ?_
 replace hF := hF.n1 [] hB hG hb3 hn3
 refine geT hL ?_
 clear hB hG hL L
 rintro u ⟨⟨-, hB, hG, -⟩, h3⟩
 replace hB := hB.cons' h3
 clear h3
 clear hb3 hn3
 refine wp_seq ?_
 refine r0T ?_
 refine wp_block ?_
 go_loopw [8] (fun s0 wr => ∃ (j : Nat) (S : Rat), j ≤ n ∧ s0 = .int .i64 j ∧ (S = qsum (gq l) j) ∧ Bx wr [(b3, 32, #[.bool (intNeg S.num), .int .u64 (natLo S.num.natAbs), .string (natMo S.num.natAbs), .int .u64 (natLo (keptDen S.den)), .string (natMo (keptDen S.den))]), (b2, 32, #[.bool false, .int .u64 0, .string ⟨#[]⟩, .int .u64 0, .string ⟨#[]⟩])] ∧ Grow w wr) (fun s0 _ => n - (intOf s0).toNat)
 case atStart => exact ⟨0, 0, Nat.zero_le _, rfl, rfl, hB, hG⟩
 case round =>
  clear hB hG
  obtain ⟨j, S, hj, rfl, hrel0, hB, hG⟩ := hrel
  obtain ⟨u, rfl⟩ : ∃ x, x = wr := ⟨_, rfl⟩
  have H0 := Lib.hid hrel0
  clear hrel0
  rcases Nat.lt_or_ge j n with hlt0 | hge0
  ·have hdec : decide ((j : Int) < (n : Int)) = true := by simp; omega
   have hjl : j < l.length := by rw [← Hn.out]; exact hlt0
   have z1 := HM.out j (by omega)
   have z2 := Hs.out _ (gq_mem hjl)
   have hnx : qsum (gq l) (j + 1) = qadd (qsum (gq l) j) (gq l j) := rfl
   rw [← H0.out] at z1 hnx
   obtain ⟨ba, oa, rfl⟩ := H.out.addr (by omega)
   have hcl : ∀ W, Grow w W → Cq W ba (oa + j * 5) (gq l j) := fun W hg => (H.out.grow hg).read hjl
   obtain ⟨F, hFj⟩ : ∃ F, F = gq l j := ⟨_, rfl⟩
   rw [← hFj] at z2 hnx
   simp only [← hFj] at hcl
   have Hcl := Lib.hid hcl
   have Hnx := Lib.hid hnx
   clear hcl hnx hFj hjl
   refine r0T ?_
   refine wp_seq ?_
   refine wp_cond_true (rfl) ?_
   refine wp_skip ?_
   refine then_norm ?_
   refine wp_seq ?_
   refine wp_block ?_
   refine wp_seq (rsC allocs [0, 0, 2] hB hG fun K L hN hL => ?_)
   repeat first | refine gya ?_ | refine gyr ?_ | refine gna ?_ | refine gyb (by (rintro v ⟨hgu, hB, hG, -⟩ N hN; have r := hB.r; simp only [BxR] at r; obtain ⟨q1, q2, q3, q4, q5⟩ := Hcl.out v hG; go_simp; exact hN)) ?_
   refine gaa (newObj_Q _ _ _ _ _) fun b5 hb5 hn5 => ?_
   replace hF := hF.n1 [] hB hG hb5 hn5
   refine geC hL ?_
   clear hB hG hL L
   rintro u ⟨⟨-, hB, hG, -⟩, h5⟩
   replace hB := hB.cons' h5
   clear h5
   clear hb5 hn5
   refine gtT ?_
   clear hN K
   refine st hB hF hG 0 0 [_, _, _, _, _] ?_
   clear hB hG
   intro u hB hG
   refine rsC allocs [0, 0, 1] hB hG fun K L hN hL => ?_
   repeat first | refine gya ?_ | refine gyr ?_ | refine gna ?_ | refine gyb (by (rintro v ⟨hgu, hB, hG, -⟩ N hN; have r := hB.r; simp only [BxR] at r; obtain ⟨q1, q2, q3, q4, q5⟩ := Hcl.out v hG; go_simp; exact hN)) ?_
   refine gmd (C := fun v ⟨hgu, hB, hG, _⟩ => frac_Add _ _ _ (by omega) (HT.grow hG)) ?_
   refine geC hL ?_
   clear hB hG hL L
   rintro u ⟨-, hB, hG, -⟩
   refine gt ?_
   clear hN K
   refine st hB hF hG 1 0 [_, _, _, _, _] ?_
   clear hB hG
   intro u hB hG
   refine blk_norm ?_
   refine then_norm ?_
   refine r0E ?_
   refine then_norm ?_
   go_roundw
   case rel => exact ⟨j + 1, qadd S F, by omega, by go_num, Hnx.out.symm, hB.tail, hG⟩
   case measure => simp [intOf]; omega
  ·obtain rfl : n = j := by omega
   have hdec : decide ((n : Int) < (n : Int)) = false := by simp
   skip
   refine r0T ?_
   refine wp_seq ?_
   refine wp_cond_false (rfl) ?_
   refine wp_exit ?_
   refine then_exit ?_
   refine then_exit ?_
   refine blk_exit ?_
   refine then_norm ?_
   refine r0T ?_
   refine st hB hF hG 1 0 [_, _, _, _, _] ?_
   clear hB hG
   intro u hB hG
   refine rt Tryz.results111 ?_
   exact ⟨ret_qV (by rw [H0.out]), hG⟩
def qMean (l : List Rat) (n : Nat) : Rat := qdiv (qsum (gq l) n) (qint n)
set_option maxHeartbeats 1000000 in
set_option maxRecDepth 100000 in
theorem frac_Mean (A : Option Addr) (l : List Rat) (c n : Nat) (hn : n = l.length) (hn0 : 0 < n) (hm : n ≤ 1099511627776) (s : Nat) (hs : ∀ x ∈ l, qs x ≤ s) (hB : n * (s + 1) + s + 200 ≤ BIG) (w : World) (h : Lq w A l) (HT : Tab w) :
  Calls Tryz.prog 49 #[.slice A n c] w fun e w' => e = .returned (.tuple #[qV (qMean l n), .bool true]) ∧ Grow w w' := by
 have hsz := qsum_size (gq l) s n (fun i hi => hs _ (gq_mem (by omega)))
 have hsz2 : ∀ j, j ≤ n → qs (qsum (gq l) j) ≤ n * (s + 1) + 1 := fun j hj => Nat.le_trans (hsz j hj) (Nat.add_le_add_right (Nat.mul_le_mul_right _ hj) 1)
 have hsum : ∀ W, Grow w W → Calls Tryz.prog 111 #[.slice A n c] W fun e w' => e = .returned (qV (qsum (gq l) n)) ∧ Grow W w' := fun W hg => frac_Sum A l c n hn hm s (n * (s + 1) + 1) hs hsz2 (by omega) W (h.grow hg) (HT.grow hg)
 have z1 := hsz2 n (Nat.le_refl _)
 have z2 := qint_sz n hm
 have hnz : nzq (qint (n : Nat)) = true := decide_eq_true (fun h0 => by
  have h1 := qint_num (n : Int)
  rw [h0] at h1
  have : (0 : Rat).num = 0 := rfl
  omega)
 obtain ⟨S, hS⟩ : ∃ S, S = qsum (gq l) n := ⟨_, rfl⟩
 have hqm : qMean l n = qdiv S (qint n) := by rw [hS]; rfl
 rw [← hS] at hsum z1
 rw [hqm, ← hnz]
 have Hsum := Lib.hid hsum
 clear hsum hsz hsz2 hS hqm hs h hn hnz
 go_enter Tryz.func49, Tryz.ntmps49
 refine en1 ?_
 intro u hG b2 hB hF
 refine wp_seq (rsC allocs [0, 1, 0, 0, 1, 1, 0, 0] hB hG fun K L hN hL => ?_)
 refine gs ?_
 refine gmd (C := fun v ⟨hgu, hB, hG, _⟩ => Hsum.out _ hG) ?_
 refine gs ?_
 refine gmw (C := fun v => frac_Of _ (by omega) (by omega) _) ?_
 refine gmd (C := fun v ⟨hgu, hB, hG, _⟩ => frac_Div _ _ _ (by omega) (HT.grow hG)) ?_
 refine gs ?_
 refine geC hL ?_
 clear hB hG hL L
 rintro u ⟨-, hB, hG, -⟩
 refine gtT ?_
 clear hN K
 refine st hB hF hG 0 0 [_, _, _, _, _] ?_
 clear hB hG
 intro u hB hG
 refine rt Tryz.results49 ?_
 exact ⟨rfl, hG⟩
end Go.Proofs.YtimjnkfcnpfoeaaGreatDoor
