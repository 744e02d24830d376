/-
  Contracts and laws: ScoreE.
-/
import Derived.Test.YtimjnkfcnpfoeaaGreatDoorL43
set_option linter.unusedSimpArgs false
set_option linter.unusedVariables false
namespace Go.Proofs.YtimjnkfcnpfoeaaGreatDoor
open Go.RowKit
abbrev qCells (q : Rat) : Array Value := #[.bool (intNeg q.num), .int .u64 (natLo q.num.natAbs), .string (natMo q.num.natAbs), .int .u64 (natLo (keptDen q.den)), .string (natMo (keptDen q.den))]
/-- what the closure of Told reads -/
def OneLq (b2 b8 : Nat) (A : Option Addr) (m c : Nat) (l : List Rat) (q : Rat) (W : World) : Prop :=
 Blk W b2 67 #[.slice A m c] ∧ Blk W b8 32 (qCells q) ∧ Lq W A l
theorem OneLq.mk {b2 b8 : Nat} {A : Option Addr} {m c : Nat} {l : List Rat} {q : Rat} {u : World} (h1 : Blk u b2 67 #[.slice A m c]) (h2 : Blk u b8 32 (qCells q)) (h3 : Lq u A l) : OneLq b2 b8 A m c l q u := ⟨h1, h2, h3⟩
theorem OneLq.grow {b2 b8 : Nat} {A : Option Addr} {m c : Nat} {l : List Rat} {q : Rat} {u u' : World} (hg : Grow u u') (h : OneLq b2 b8 A m c l q u) : OneLq b2 b8 A m c l q u' := ⟨h.1.grow hg, h.2.1.grow hg, h.2.2.grow hg⟩
theorem blk_cq {W : World} {b : Nat} {q : Rat} (h : Blk W b 32 (qCells q)) : Cq W b 0 q := ⟨h.cell 0, h.cell 1, h.cell 2, h.cell 3, h.cell 4⟩
set_option maxHeartbeats 400000 in
set_option maxRecDepth 100000 in
theorem score_Told_c1 (b2 b8 ba oa : Nat) (m c : Nat) (l : List Rat) (Y : Rat) (hl : l.length = m) (s : Nat) (hs : ∀ x ∈ l, qs x ≤ s) (z2 : qs Y ≤ s) (hB : 4 * s + 10 ≤ BIG) (i : Nat) (hi : i < m) (w : World) (h : OneLq b2 b8 (some ⟨ba, oa, none⟩) m c l Y w) (HT : Tab w) :
  Calls Tryz.prog 94 #[.int .i64 (i : Nat), .pointer (some ⟨b2, 0, none⟩), .pointer (some ⟨b8, 0, none⟩)] w fun e w' => e = .returned (qV (sqd (gq l i) Y)) ∧ Grow w w' := by
 have hc : ∀ W, Grow w W → W.cell? ⟨b2, 0, none⟩ = some (.slice (some ⟨ba, oa, none⟩) m c) ∧ Cq W ba (oa + i * 5) (gq l i) ∧ Cq W b8 0 Y := fun W hg => ⟨(h.grow hg).1.cell 0, (h.grow hg).2.2.read (by omega), blk_cq (h.grow hg).2.1⟩
 have z1 := hs _ (gq_mem (l := l) (i := i) (by omega))
 have z3 : qs (qsub (gq l i) Y) ≤ 2 * s + 1 := by have := qs_sub (gq l i) Y; unfold qsub; omega
 generalize gq l i = X at *
 have Hc := Lib.hid hc
 clear hc h hs hl
 show Calls Tryz.prog 94 #[.int .i64 (i : Nat), .pointer (some ⟨b2, 0, none⟩), .pointer (some ⟨b8, 0, none⟩)] w fun e w' => e = .returned (qV (qmul (qsub X Y) (qsub X Y))) ∧ Grow w w'
 go_enter Tryz.func94, Tryz.ntmps94
 refine en1 ?_
 intro u hG b4 hB hF
 refine wp_seq (rdC allocs [] [(0, 0), (0, 1), (0, 2), (0, 3), (0, 4), (1, 5), (1, 6)] hB hG fun K L hN hL => ?_)
 repeat first | refine gya ?_ | refine gyr ?_ | refine gna ?_ | refine gyb (by (rintro v ⟨hgu, hB, hG, -⟩ N hN; have r := hB.r; simp only [BxR] at r; obtain ⟨p1, ⟨q1, q2, q3, q4, q5⟩, ⟨y1, y2, y3, y4, y5⟩⟩ := Hc.out v hG; go_simp; exact hN)) ?_
 refine gmd (C := fun v ⟨hgu, hB, hG, _⟩ => frac_Sub _ _ _ (by omega) (HT.grow hG)) ?_
 refine gmd (C := fun v ⟨hgu, hB, hG, _⟩ => score_square _ (by omega) _ (HT.grow hG)) ?_
 refine geC hL ?_
 clear hB hG hL L
 rintro u ⟨-, hB, hG, -⟩
 refine gtT ?_
 clear hN K
 refine st hB hF hG 0 0 [_, _, _, _, _] ?_
 clear hB hG
 intro u hB hG
 refine rt Tryz.results94 ?_
 exact ⟨rfl, hG⟩
theorem cf_Told (args : Array Value) (W : World) : Sem.run Tryz.prog (callFunc 94 args) W = .ok (.enter 94 args) W := by kernel_rfl
def qOff (l : List Rat) (Y : Rat) (m : Nat) : Rat := qdiv (qsum (fun i => sqd (gq l i) Y) m) (qint m)
theorem score_mean_Told (b2 b8 ba oa : Nat) (m c : Nat) (l : List Rat) (Y : Rat) (hl : l.length = m) (hm : m ≤ 1099511627776) (s : Nat) (hs : ∀ x ∈ l, qs x ≤ s) (hY : qs Y ≤ s) (hB : m * (4 * s + 3) + 4 * s + 200 ≤ BIG) (w : World) (h : OneLq b2 b8 (some ⟨ba, oa, none⟩) m c l Y w) (HT : Tab w) :
  Calls Tryz.prog 86 #[.int .i64 m, .func (.func 94) #[] #[.pointer (some ⟨b2, 0, none⟩), .pointer (some ⟨b8, 0, none⟩)]] w fun e w' => e = .returned (qV (qOff l Y m)) ∧ Grow w w' := by
 have hz : ∀ i, i < m → qs (sqd (gq l i) Y) ≤ 4 * s + 2 := fun i hi => qs_sqd _ _ s (hs _ (gq_mem (by omega))) hY
 refine score_mean m hm 94 cf_Told _ (fun i => sqd (gq l i) Y) (OneLq b2 b8 (some ⟨ba, oa, none⟩) m c l Y) (fun _ _ hg h => h.grow hg) (m * (4 * s + 3) + 1) (4 * s + 2) (fun j hj => ?_) hz (by omega) w h HT
  (fun i hi W hW hTW => score_Told_c1 b2 b8 ba oa m c l Y hl s hs hY (by omega) i hi W hW hTW)
 exact Nat.le_trans (qsum_size _ (4 * s + 2) m hz j hj) (Nat.add_le_add_right (Nat.mul_le_mul_right _ hj) 1)
/-- a mean's size -/
theorem mean_size {f : Nat → Rat} {m s : Nat} (hm : m ≤ 1099511627776) (h : ∀ i, i < m → qs (f i) ≤ s) : qs (qdiv (qsum f m) (qint m)) ≤ m * (s + 1) + 42 := by
 have h1 := qsum_size f s m h m (Nat.le_refl _)
 have h2 := qs_div (qsum f m) (qint m)
 have h3 := qint_sz m hm
 unfold qdiv
 omega
def toldQ (l l' : List Rat) (m : Nat) : Rat := qsub (qint 1) (qdiv (qSquares l l' m) (qOff l (qMean l m) m))
set_option maxHeartbeats 2000000 in
set_option maxRecDepth 100000 in
theorem score_Told_ok (A B : Option Addr) (m c d : Nat) (l l' : List Rat) (hl : l.length = m) (hl' : l'.length = m) (hm0 : 0 < m) (hm : m ≤ 1099511627776) (s S : Nat) (hs : ∀ x ∈ l, qs x ≤ s) (hs' : ∀ x ∈ l', qs x ≤ s) (hS1 : s ≤ S) (hS2 : m * (s + 1) + 50 ≤ S) (hB : 4 * (m * (4 * S + 3)) + 100 * S + 1000 ≤ BIG)
  (w : World) (h1 : Lq w A l) (h2 : Lq w B l') (HT : Tab w) :
  Calls Tryz.prog 36 #[.slice A m c, .slice B m d] w fun e w' => e = .returned (if qOff l (qMean l m) m = 0 then .tuple #[qV 0, .int .i64 6] else .tuple #[qV (toldQ l l' m), .int .i64 0]) ∧ Grow w w' := by
 obtain ⟨ba, oa, rfl⟩ := h1.addr (by omega)
 have hsS : ∀ x ∈ l, qs x ≤ S := fun x hx => Nat.le_trans (hs x hx) hS1
 have hsS' : ∀ x ∈ l', qs x ≤ S := fun x hx => Nat.le_trans (hs' x hx) hS1
 have hsq : ∀ W, Grow w W → Calls Tryz.prog 32 #[.slice (some ⟨ba, oa, none⟩) m c, .slice B m d] W fun e w' => e = .returned (.tuple #[qV (qSquares l l' m), .int .i64 0]) ∧ Grow W w' := fun W hg =>
  score_Squares_ok _ B m c d l l' hl hl' hm0 hm S hsS hsS' (by omega) W (h1.grow hg) (h2.grow hg) (HT.grow hg)
 have hmean : ∀ W, Grow w W → Calls Tryz.prog 49 #[.slice (some ⟨ba, oa, none⟩) m c] W fun e w' => e = .returned (.tuple #[qV (qMean l m), .bool true]) ∧ Grow W w' := fun W hg =>
  frac_Mean _ l c m hl.symm hm0 hm s hs (by omega) W (h1.grow hg) (HT.grow hg)
 have z1 : qs (qMean l m) ≤ S := Nat.le_trans (mean_size hm (fun i hi => hs _ (gq_mem (l := l) (by omega)))) (by omega)
 have hoff := fun b2 b8 W => score_mean_Told b2 b8 ba oa m c l (qMean l m) hl hm S hsS z1 (by omega) W
 have z2 : qs (qSquares l l' m) ≤ m * (4 * S + 3) + 42 := mean_size hm (fun i hi => qs_sqd _ _ S (hsS _ (gq_mem (by omega))) (hsS' _ (gq_mem (by omega))))
 have z3 : qs (qOff l (qMean l m) m) ≤ m * (4 * S + 3) + 42 := mean_size hm (fun i hi => qs_sqd _ _ S (hsS _ (gq_mem (by omega))) z1)
 have ht : toldQ l l' m = qsub (qint 1) (qdiv (qSquares l l' m) (qOff l (qMean l m) m)) := rfl
 generalize qMean l m = mid at *
 generalize qSquares l l' m = miss at *
 generalize qOff l mid m = off at *
 rw [ht]
 have z4 : qs (qdiv miss off) ≤ 2 * (m * (4 * S + 3)) + 84 := by have := qs_div miss off; unfold qdiv; omega
 have z5 : qs (qint 1) ≤ 41 := qint_sz 1 (by omega)
 have hdv : ∀ W, Tab W → Calls Tryz.prog 24 #[qV miss, qV off] W fun e w' => e = .returned (.tuple #[qV (qdiv miss off), .bool (nzq off)]) ∧ Grow W w' := fun W hT => frac_Div miss off W (by omega) hT
 obtain ⟨part, hpart⟩ : ∃ p, p = qdiv miss off := ⟨_, rfl⟩
 rw [← hpart] at z4 hdv
 rw [← hpart]
 have Hsq := Lib.hid hsq
 have Hmean := Lib.hid hmean
 have Hoff := Lib.hid hoff
 have H1 := Lib.hid h1
 by_cases h0 : off = 0
 ·rw [if_pos h0]
  have hz : nzq off = false := by unfold nzq; simp [h0]
  rw [hz] at hdv
  have Hdv := Lib.hid hdv
  clear hsq hmean hoff h1 h2 hs hs' hsS hsS' hl hl' ht hdv h0 hz hpart
  go_enter Tryz.func36, Tryz.ntmps36
  refine en2 ?_
  intro u hG b4 b2 hB hF
  refine wp_seq (rsC allocs [0, 0, 1, 0, 0, 0, 2] hB hG fun K L hN hL => ?_)
  refine gs ?_
  refine gmd (C := fun v ⟨hgu, hB, hG, _⟩ => Hsq.out _ hG) ?_
  refine gs ?_
  refine gaa (newObj_Q _ _ _ _ _) fun b6 hb6 hn6 => ?_
  replace hF := hF.n1 [] hB hG hb6 hn6
  refine geC hL ?_
  clear hB hG hL L
  rintro u ⟨⟨-, hB, hG, -⟩, h6⟩
  replace hB := hB.cons' h6
  clear h6
  clear hb6 hn6
  refine gtT ?_
  clear hN K
  refine st hB hF hG 0 0 [_, _, _, _, _] ?_
  clear hB hG
  intro u hB hG
  refine wp_seq ?_
  refine r0T ?_
  refine wp_cond_false (rfl) ?_
  refine wp_skip ?_
  refine then_norm ?_
  refine wp_seq (rsC allocs [0, 1, 0, 0, 0, 2] hB hG fun K L hN hL => ?_)
  refine gs ?_
  refine gmd (C := fun v ⟨hgu, hB, hG, _⟩ => Hmean.out _ hG) ?_
  refine gs ?_
  refine gaa (newObj_Q _ _ _ _ _) fun b8 hb8 hn8 => ?_
  replace hF := hF.n1 [] hB hG hb8 hn8
  refine geC hL ?_
  clear hB hG hL L
  rintro u ⟨⟨-, hB, hG, -⟩, h8⟩
  replace hB := hB.cons' h8
  clear h8
  clear hb8 hn8
  refine gtT ?_
  clear hN K
  refine st hB hF hG 0 0 [_, _, _, _, _] ?_
  clear hB hG
  intro u hB hG
  refine wp_seq (rsC allocs [0, 0, 0, 1, 2] hB hG fun K L hN hL => ?_)
  refine gs ?_
  refine gmd (C := fun v ⟨hgu, hB, hG, _⟩ => Hoff.out b2 b8 _ (OneLq.mk hB.tail.tail.head hB.head (H1.out.grow hG)) (HT.grow hG)) ?_
  refine gaa (newObj_Q _ _ _ _ _) fun b10 hb10 hn10 => ?_
  replace hF := hF.n1 [] hB hG hb10 hn10
  refine geC hL ?_
  clear hB hG hL L
  rintro u ⟨⟨-, hB, hG, -⟩, h10⟩
  replace hB := hB.cons' h10
  clear h10
  clear hb10 hn10
  refine gtT ?_
  clear hN K
  refine st hB hF hG 0 0 [_, _, _, _, _] ?_
  clear hB hG
  intro u hB hG
  refine wp_seq (rsC allocs [0, 0, 1, 0, 0, 0, 2] hB hG fun K L hN hL => ?_)
  refine gs ?_
  refine gmd (C := fun v ⟨hgu, hB, hG, _⟩ => Hdv.out _ (HT.grow hG)) ?_
  refine gs ?_
  refine gaa (newObj_Q _ _ _ _ _) fun b11 hb11 hn11 => ?_
  replace hF := hF.n1 [] hB hG hb11 hn11
  refine geC hL ?_
  clear hB hG hL L
  rintro u ⟨⟨-, hB, hG, -⟩, h11⟩
  replace hB := hB.cons' h11
  clear h11
  clear hb11 hn11
  refine gtT ?_
  clear hN K
  refine st hB hF hG 0 0 [_, _, _, _, _] ?_
  clear hB hG
  intro u hB hG
  refine wp_seq ?_
  refine r0T ?_
  refine wp_cond_true (rfl) ?_
  refine r0T ?_
  refine st hB hF hG 5 0 [_, _, _, _, _] ?_
  clear hB hG
  intro u hB hG
  refine rt Tryz.results36 ?_
  exact ⟨rfl, hG⟩
 ·rw [if_neg h0]
  have hz : nzq off = true := decide_eq_true h0
  rw [hz] at hdv
  have Hdv := Lib.hid hdv
  clear hsq hmean hoff h1 h2 hs hs' hsS hsS' hl hl' ht hdv h0 hz hpart
  go_enter Tryz.func36, Tryz.ntmps36
  refine en2 ?_
  intro u hG b4 b2 hB hF
  refine wp_seq (rsC allocs [0, 0, 1, 0, 0, 0, 2] hB hG fun K L hN hL => ?_)
  refine gs ?_
  refine gmd (C := fun v ⟨hgu, hB, hG, _⟩ => Hsq.out _ hG) ?_
  refine gs ?_
  refine gaa (newObj_Q _ _ _ _ _) fun b6 hb6 hn6 => ?_
  replace hF := hF.n1 [] hB hG hb6 hn6
  refine geC hL ?_
  clear hB hG hL L
  rintro u ⟨⟨-, hB, hG, -⟩, h6⟩
  replace hB := hB.cons' h6
  clear h6
  clear hb6 hn6
  refine gtT ?_
  clear hN K
  refine st hB hF hG 0 0 [_, _, _, _, _] ?_
  clear hB hG
  intro u hB hG
  refine wp_seq ?_
  refine r0T ?_
  refine wp_cond_false (rfl) ?_
  refine wp_skip ?_
  refine then_norm ?_
  refine wp_seq (rsC allocs [0, 1, 0, 0, 0, 2] hB hG fun K L hN hL => ?_)
  refine gs ?_
  refine gmd (C := fun v ⟨hgu, hB, hG, _⟩ => Hmean.out _ hG) ?_
  refine gs ?_
  refine gaa (newObj_Q _ _ _ _ _) fun b8 hb8 hn8 => ?_
  replace hF := hF.n1 [] hB hG hb8 hn8
  refine geC hL ?_
  clear hB hG hL L
  rintro u ⟨⟨-, hB, hG, -⟩, h8⟩
  replace hB := hB.cons' h8
  clear h8
  clear hb8 hn8
  refine gtT ?_
  clear hN K
  refine st hB hF hG 0 0 [_, _, _, _, _] ?_
  clear hB hG
  intro u hB hG
  refine wp_seq (rsC allocs [0, 0, 0, 1, 2] hB hG fun K L hN hL => ?_)
  refine gs ?_
  refine gmd (C := fun v ⟨hgu, hB, hG, _⟩ => Hoff.out b2 b8 _ (OneLq.mk hB.tail.tail.head hB.head (H1.out.grow hG)) (HT.grow hG)) ?_
  refine gaa (newObj_Q _ _ _ _ _) fun b10 hb10 hn10 => ?_
  replace hF := hF.n1 [] hB hG hb10 hn10
  refine geC hL ?_
  clear hB hG hL L
  rintro u ⟨⟨-, hB, hG, -⟩, h10⟩
  replace hB := hB.cons' h10
  clear h10
  clear hb10 hn10
  refine gtT ?_
  clear hN K
  refine st hB hF hG 0 0 [_, _, _, _, _] ?_
  clear hB hG
  intro u hB hG
  refine wp_seq (rsC allocs [0, 0, 1, 0, 0, 0, 2] hB hG fun K L hN hL => ?_)
  refine gs ?_
  refine gmd (C := fun v ⟨hgu, hB, hG, _⟩ => Hdv.out _ (HT.grow hG)) ?_
  refine gs ?_
  refine gaa (newObj_Q _ _ _ _ _) fun b11 hb11 hn11 => ?_
  replace hF := hF.n1 [] hB hG hb11 hn11
  refine geC hL ?_
  clear hB hG hL L
  rintro u ⟨⟨-, hB, hG, -⟩, h11⟩
  replace hB := hB.cons' h11
  clear h11
  clear hb11 hn11
  refine gtT ?_
  clear hN K
  refine st hB hF hG 0 0 [_, _, _, _, _] ?_
  clear hB hG
  intro u hB hG
  refine wp_seq ?_
  refine r0T ?_
  refine wp_cond_false (rfl) ?_
  refine wp_skip ?_
  refine then_norm ?_
  refine wp_seq (rdC allocs [] [(0, 1), (1, 0), (1, 2)] hB hG fun K L hN hL => ?_)
  refine gs ?_
  refine gmw (C := fun v => frac_Of _ (by omega) (by omega) _) ?_
  refine gmd (C := fun v ⟨hgu, hB, hG, _⟩ => frac_Sub _ _ _ (by omega) (HT.grow hG)) ?_
  refine geC hL ?_
  clear hB hG hL L
  rintro u ⟨-, hB, hG, -⟩
  refine gtT ?_
  clear hN K
  refine st hB hF hG 5 0 [_, _, _, _, _] ?_
  clear hB hG
  intro u hB hG
  refine rt Tryz.results36 ?_
  exact ⟨rfl, hG⟩
end Go.Proofs.YtimjnkfcnpfoeaaGreatDoor
