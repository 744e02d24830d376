/-
  Contracts and laws: ScoreH.
-/
import Derived.Test.YtimjnkfcnpfoeaaGreatDoorL46
set_option linter.unusedSimpArgs false
set_option linter.unusedVariables false
namespace Go.Proofs.YtimjnkfcnpfoeaaGreatDoor
open Go.RowKit
theorem num_neg' {q : Rat} : q.num < 0 ↔ q < 0 :=
 ⟨fun h => Rat.not_le.1 fun h0 => by have := Rat.num_nonneg.2 h0; omega, fun h => by
  rcases Int.lt_or_le q.num 0 with h1 | h1
  ·exact h1
  ·exact absurd (Rat.num_nonneg.1 h1) (Rat.not_le.2 h)⟩
/-- the tilt of one difference -/
def tiltD (a d : Rat) : Rat := if 0 ≤ d.num.sign then qmul a d else qmul (qsub a (qint 1)) d
def tiltAt (a x y : Rat) : Rat := tiltD a (qsub x y)
def qTilt (l l' : List Rat) (a : Rat) (m : Nat) : Rat := qdiv (qsum (fun i => tiltAt a (gq l i) (gq l' i)) m) (qint m)
theorem tiltD_sz (a d : Rat) (s : Nat) (h1 : qs a ≤ s) (h2 : qs d ≤ 2 * s + 1) : qs (tiltD a d) ≤ 3 * s + 50 := by
 have h3 := qs_mul a d
 have h4 := qs_sub a (qint 1)
 have h5 := qint_sz 1 (by omega)
 have h6 := qs_mul (qsub a (qint 1)) d
 unfold tiltD
 split
 ·unfold qmul; omega
 ·unfold qsub at *
  unfold qmul
  have : qs (qint ((1 : Nat) : Int)) = qs (qint 1) := rfl
  omega
theorem tiltAt_sz (a x y : Rat) (s : Nat) (h1 : qs a ≤ s) (h2 : qs x ≤ s) (h3 : qs y ≤ s) : qs (tiltAt a x y) ≤ 3 * s + 50 := by
 refine tiltD_sz a _ s h1 ?_
 have := qs_sub x y
 unfold qsub
 omega
/-- what the closure of Tilt reads -/
def FourLq (b3 b4 b5 b8 : Nat) (A B : Option Addr) (m c d : Nat) (l l' : List Rat) (a : Rat) (W : World) : Prop :=
 Blk W b3 67 #[.slice A m c] ∧ Blk W b4 67 #[.slice B m d] ∧ Blk W b5 32 (qCells a) ∧ Blk W b8 32 (qCells (qint 1)) ∧ Lq W A l ∧ Lq W B l'
theorem FourLq.mk {b3 b4 b5 b8 : Nat} {A B : Option Addr} {m c d : Nat} {l l' : List Rat} {a : Rat} {u : World} (h1 : Blk u b3 67 #[.slice A m c]) (h2 : Blk u b4 67 #[.slice B m d]) (h3 : Blk u b5 32 (qCells a)) (h4 : Blk u b8 32 (qCells (qint 1))) (h5 : Lq u A l) (h6 : Lq u B l') : FourLq b3 b4 b5 b8 A B m c d l l' a u := ⟨h1, h2, h3, h4, h5, h6⟩
theorem FourLq.grow {b3 b4 b5 b8 : Nat} {A B : Option Addr} {m c d : Nat} {l l' : List Rat} {a : Rat} {u u' : World} (hg : Grow u u') (h : FourLq b3 b4 b5 b8 A B m c d l l' a u) : FourLq b3 b4 b5 b8 A B m c d l l' a u' :=
 ⟨h.1.grow hg, h.2.1.grow hg, h.2.2.1.grow hg, h.2.2.2.1.grow hg, h.2.2.2.2.1.grow hg, h.2.2.2.2.2.grow hg⟩
set_option maxHeartbeats 1000000 in
set_option maxRecDepth 100000 in
theorem score_Tilt_c1 (b3 b4 b5 b8 ba oa bb ob : Nat) (m c d : Nat) (l l' : List Rat) (a : Rat) (hl : l.length = m) (hl' : l'.length = m) (s : Nat) (ha : qs a ≤ s) (hs : ∀ x ∈ l, qs x ≤ s) (hs' : ∀ x ∈ l', qs x ≤ s) (hB : 4 * s + 100 ≤ BIG) (i : Nat) (hi : i < m) (w : World) (h : FourLq b3 b4 b5 b8 (some ⟨ba, oa, none⟩) (some ⟨bb, ob, none⟩) m c d l l' a w) (HT : Tab w) :
  Calls Tryz.prog 98 #[.int .i64 (i : Nat), .pointer (some ⟨b3, 0, none⟩), .pointer (some ⟨b4, 0, none⟩), .pointer (some ⟨b5, 0, none⟩), .pointer (some ⟨b8, 0, none⟩)] w fun e w' => e = .returned (qV (tiltAt a (gq l i) (gq l' i))) ∧ Grow w w' := by
 have hc : ∀ W, Grow w W → (W.cell? ⟨b3, 0, none⟩ = some (.slice (some ⟨ba, oa, none⟩) m c) ∧ W.cell? ⟨b4, 0, none⟩ = some (.slice (some ⟨bb, ob, none⟩) m d)) ∧ Cq W ba (oa + i * 5) (gq l i) ∧ Cq W bb (ob + i * 5) (gq l' i) ∧ Cq W b5 0 a ∧ Cq W b8 0 (qint 1) := fun W hg =>
  ⟨⟨(h.grow hg).1.cell 0, (h.grow hg).2.1.cell 0⟩, (h.grow hg).2.2.2.2.1.read (by omega), (h.grow hg).2.2.2.2.2.read (by omega), blk_cq (h.grow hg).2.2.1, blk_cq (h.grow hg).2.2.2.1⟩
 have z1 := hs _ (gq_mem (l := l) (i := i) (by omega))
 have z2 := hs' _ (gq_mem (l := l') (i := i) (by omega))
 have z3 : qs (qsub (gq l i) (gq l' i)) ≤ 2 * s + 1 := by have := qs_sub (gq l i) (gq l' i); unfold qsub; omega
 have z5 : qs (qint 1) ≤ 41 := qint_sz 1 (by omega)
 have z6 : qs (qsub a (qint 1)) ≤ s + 42 := by have := qs_sub a (qint 1); unfold qsub; omega
 have hun : tiltAt a (gq l i) (gq l' i) = tiltD a (qsub (gq l i) (gq l' i)) := rfl
 rw [hun]
 generalize gq l i = X at *
 generalize gq l' i = Y at *
 have hBl := BIG_le
 have hsub := fun W hT => frac_Sub X Y W (by omega) hT
 obtain ⟨D, hD⟩ : ∃ D, D = qsub X Y := ⟨_, rfl⟩
 rw [← hD] at z3 hsub ⊢
 have z4 : bl D.num.natAbs ≤ 1099511627776 := by have := qs_num D; omega
 have hsn := fun W => frac_Sign D z4 W
 obtain ⟨g, hg⟩ : ∃ g, g = D.num.sign := ⟨_, rfl⟩
 rw [← hg] at hsn
 obtain ⟨A1, hA1⟩ : ∃ q, q = qsub a (qint 1) := ⟨_, rfl⟩
 have hsub1 := fun W hT => frac_Sub a (qint 1) W (by omega) hT
 rw [← hA1] at z6 hsub1
 have hT : tiltD a D = if 0 ≤ g then qmul a D else qmul A1 D := by unfold tiltD; rw [hg, hA1]
 rw [hT]
 have Hc := Lib.hid hc
 have Hsub := Lib.hid hsub
 have Hsub1 := Lib.hid hsub1
 have Hsn := Lib.hid hsn
 clear hc h hs hs' hl hl' hsub hsub1 hsn hD hg hA1 hT hun
 by_cases h0 : 0 ≤ g
 ·rw [if_pos h0]
  have hd : decide (0 ≤ g) = true := decide_eq_true h0
  clear h0
  go_enter Tryz.func98, Tryz.ntmps98
  refine en1 ?_
  intro u hG b6 hB hF
  refine wp_seq (rdC allocs [] [(0, 0), (0, 1), (0, 2), (0, 3), (0, 4), (0, 5), (0, 6), (0, 7), (1, 8), (2, 9)] hB hG fun K L hN hL => ?_)
  repeat first | refine gya ?_ | refine gyr ?_ | refine gna ?_ | refine gyb (by (rintro v ⟨hgu, hB, hG, -⟩ N hN; have r := hB.r; simp only [BxR] at r; obtain ⟨⟨p1, p2⟩, ⟨q1, q2, q3, q4, q5⟩, ⟨y1, y2, y3, y4, y5⟩, ⟨r1, r2, r3, r4, r5⟩, ⟨t1, t2, t3, t4, t5⟩⟩ := Hc.out v hG; go_simp; exact hN)) ?_
  refine gmd (C := fun v ⟨hgu, hB, hG, _⟩ => Hsub.out _ (HT.grow hG)) ?_
  refine gaa (newObj_Q _ _ _ _ _) fun b7 hb7 hn7 => ?_
  replace hF := hF.n1 [] hB hG hb7 hn7
  refine geC hL ?_
  clear hB hG hL L
  rintro u ⟨⟨-, hB, hG, -⟩, h7⟩
  replace hB := hB.cons' h7
  clear h7
  clear hb7 hn7
  refine gtT ?_
  clear hN K
  refine st hB hF hG 0 0 [_, _, _, _, _] ?_
  clear hB hG
  intro u hB hG
  refine wp_seq ?_
  refine wp_seq (rsE allocs [0, 1, 0] hB hG fun L hL => ?_)
  repeat first | refine gya ?_ | refine gyr ?_ | refine gna ?_ | refine gyb (by (rintro v ⟨hgu, hB, hG, -⟩ N hN; have r := hB.r; simp only [BxR] at r; obtain ⟨⟨p1, p2⟩, ⟨q1, q2, q3, q4, q5⟩, ⟨y1, y2, y3, y4, y5⟩, ⟨r1, r2, r3, r4, r5⟩, ⟨t1, t2, t3, t4, t5⟩⟩ := Hc.out v hG; go_simp; exact hN)) ?_
  refine gmw (C := fun v => Hsn.out _) ?_
  refine gs ?_
  refine geT hL ?_
  clear hB hG hL L
  rintro u ⟨-, hB, hG, -⟩
  refine wp_cond_true (rfl) ?_
  refine wp_seq (rsC allocs [0, 0, 1] hB hG fun K L hN hL => ?_)
  repeat first | refine gya ?_ | refine gyr ?_ | refine gna ?_ | refine gyb (by (rintro v ⟨hgu, hB, hG, -⟩ N hN; have r := hB.r; simp only [BxR] at r; obtain ⟨⟨p1, p2⟩, ⟨q1, q2, q3, q4, q5⟩, ⟨y1, y2, y3, y4, y5⟩, ⟨r1, r2, r3, r4, r5⟩, ⟨t1, t2, t3, t4, t5⟩⟩ := Hc.out v hG; go_simp; exact hN)) ?_
  refine gmd (C := fun v ⟨hgu, hB, hG, _⟩ => frac_Mul _ _ _ (by omega) (HT.grow hG)) ?_
  refine geC hL ?_
  clear hB hG hL L
  rintro u ⟨-, hB, hG, -⟩
  refine gtT ?_
  clear hN K
  refine st hB hF hG 1 0 [_, _, _, _, _] ?_
  clear hB hG
  intro u hB hG
  refine rt Tryz.results98 ?_
  exact ⟨rfl, hG⟩
 ·rw [if_neg h0]
  have hd : decide (0 ≤ g) = false := decide_eq_false h0
  clear h0
  go_enter Tryz.func98, Tryz.ntmps98
  refine en1 ?_
  intro u hG b6 hB hF
  refine wp_seq (rdC allocs [] [(0, 0), (0, 1), (0, 2), (0, 3), (0, 4), (0, 5), (0, 6), (0, 7), (1, 8), (2, 9)] hB hG fun K L hN hL => ?_)
  repeat first | refine gya ?_ | refine gyr ?_ | refine gna ?_ | refine gyb (by (rintro v ⟨hgu, hB, hG, -⟩ N hN; have r := hB.r; simp only [BxR] at r; obtain ⟨⟨p1, p2⟩, ⟨q1, q2, q3, q4, q5⟩, ⟨y1, y2, y3, y4, y5⟩, ⟨r1, r2, r3, r4, r5⟩, ⟨t1, t2, t3, t4, t5⟩⟩ := Hc.out v hG; go_simp; exact hN)) ?_
  refine gmd (C := fun v ⟨hgu, hB, hG, _⟩ => Hsub.out _ (HT.grow hG)) ?_
  refine gaa (newObj_Q _ _ _ _ _) fun b7 hb7 hn7 => ?_
  replace hF := hF.n1 [] hB hG hb7 hn7
  refine geC hL ?_
  clear hB hG hL L
  rintro u ⟨⟨-, hB, hG, -⟩, h7⟩
  replace hB := hB.cons' h7
  clear h7
  clear hb7 hn7
  refine gtT ?_
  clear hN K
  refine st hB hF hG 0 0 [_, _, _, _, _] ?_
  clear hB hG
  intro u hB hG
  refine wp_seq ?_
  refine wp_seq (rsE allocs [0, 1, 0] hB hG fun L hL => ?_)
  repeat first | refine gya ?_ | refine gyr ?_ | refine gna ?_ | refine gyb (by (rintro v ⟨hgu, hB, hG, -⟩ N hN; have r := hB.r; simp only [BxR] at r; obtain ⟨⟨p1, p2⟩, ⟨q1, q2, q3, q4, q5⟩, ⟨y1, y2, y3, y4, y5⟩, ⟨r1, r2, r3, r4, r5⟩, ⟨t1, t2, t3, t4, t5⟩⟩ := Hc.out v hG; go_simp; exact hN)) ?_
  refine gmw (C := fun v => Hsn.out _) ?_
  refine gs ?_
  refine geT hL ?_
  clear hB hG hL L
  rintro u ⟨-, hB, hG, -⟩
  refine wp_cond_false (rfl) ?_
  refine wp_skip ?_
  refine then_norm ?_
  refine wp_seq (rdC allocs [] [(0, 0), (0, 1), (0, 3), (1, 2), (1, 4)] hB hG fun K L hN hL => ?_)
  repeat first | refine gya ?_ | refine gyr ?_ | refine gna ?_ | refine gyb (by (rintro v ⟨hgu, hB, hG, -⟩ N hN; have r := hB.r; simp only [BxR] at r; obtain ⟨⟨p1, p2⟩, ⟨q1, q2, q3, q4, q5⟩, ⟨y1, y2, y3, y4, y5⟩, ⟨r1, r2, r3, r4, r5⟩, ⟨t1, t2, t3, t4, t5⟩⟩ := Hc.out v hG; go_simp; exact hN)) ?_
  refine gmd (C := fun v ⟨hgu, hB, hG, _⟩ => Hsub1.out _ (HT.grow hG)) ?_
  refine gmd (C := fun v ⟨hgu, hB, hG, _⟩ => frac_Mul _ _ _ (by omega) (HT.grow hG)) ?_
  refine geC hL ?_
  clear hB hG hL L
  rintro u ⟨-, hB, hG, -⟩
  refine gtT ?_
  clear hN K
  refine st hB hF hG 1 0 [_, _, _, _, _] ?_
  clear hB hG
  intro u hB hG
  refine rt Tryz.results98 ?_
  exact ⟨rfl, hG⟩
theorem cf_Tilt (args : Array Value) (W : World) : Sem.run Tryz.prog (callFunc 98 args) W = .ok (.enter 98 args) W := by kernel_rfl
theorem score_mean_Tilt (b3 b4 b5 b8 ba oa bb ob : Nat) (m c d : Nat) (l l' : List Rat) (a : Rat) (hl : l.length = m) (hl' : l'.length = m) (hm : m ≤ 1099511627776) (s : Nat) (ha : qs a ≤ s) (hs : ∀ x ∈ l, qs x ≤ s) (hs' : ∀ x ∈ l', qs x ≤ s) (hB : m * (3 * s + 51) + 4 * s + 300 ≤ BIG) (w : World) (h : FourLq b3 b4 b5 b8 (some ⟨ba, oa, none⟩) (some ⟨bb, ob, none⟩) m c d l l' a w) (HT : Tab w) :
  Calls Tryz.prog 86 #[.int .i64 m, .func (.func 98) #[] #[.pointer (some ⟨b3, 0, none⟩), .pointer (some ⟨b4, 0, none⟩), .pointer (some ⟨b5, 0, none⟩), .pointer (some ⟨b8, 0, none⟩)]] w fun e w' => e = .returned (qV (qTilt l l' a m)) ∧ Grow w w' := by
 have hz : ∀ i, i < m → qs (tiltAt a (gq l i) (gq l' i)) ≤ 3 * s + 50 := fun i hi => tiltAt_sz _ _ _ s ha (hs _ (gq_mem (by omega))) (hs' _ (gq_mem (by omega)))
 refine score_mean m hm 98 cf_Tilt _ (fun i => tiltAt a (gq l i) (gq l' i)) (FourLq b3 b4 b5 b8 (some ⟨ba, oa, none⟩) (some ⟨bb, ob, none⟩) m c d l l' a) (fun _ _ hg h => h.grow hg) (m * (3 * s + 51) + 1) (3 * s + 50) (fun j hj => ?_) hz (by omega) w h HT
  (fun i hi W hW hTW => score_Tilt_c1 b3 b4 b5 b8 ba oa bb ob m c d l l' a hl hl' s ha hs hs' (by omega) i hi W hW hTW)
 exact Nat.le_trans (qsum_size _ (3 * s + 50) m hz j hj) (Nat.add_le_add_right (Nat.mul_le_mul_right _ hj) 1)
set_option maxHeartbeats 2000000 in
set_option maxRecDepth 100000 in
theorem score_Tilt_ok (A B : Option Addr) (m c d : Nat) (l l' : List Rat) (a : Rat) (hl : l.length = m) (hl' : l'.length = m) (hm0 : 0 < m) (hm : m ≤ 1099511627776) (ha0 : ¬ a < 0) (ha1 : ¬ qint 1 < a) (s : Nat) (ha : qs a ≤ s) (hs : ∀ x ∈ l, qs x ≤ s) (hs' : ∀ x ∈ l', qs x ≤ s) (hB : m * (3 * s + 51) + 4 * s + 300 ≤ BIG) (w : World) (h1 : Lq w A l) (h2 : Lq w B l') (HT : Tab w) :
  Calls Tryz.prog 38 #[.slice A m c, .slice B m d, qV a] w fun e w' => e = .returned (.tuple #[qV (qTilt l l' a m), .int .i64 0]) ∧ Grow w w' := by
 obtain ⟨ba, oa, rfl⟩ := h1.addr (by omega)
 obtain ⟨bb, ob, rfl⟩ := h2.addr (by omega)
 have hp : ∀ W, Calls Tryz.prog 85 #[.slice (some ⟨ba, oa, none⟩) m c, .slice (some ⟨bb, ob, none⟩) m d] W fun e w' => e = .returned (.bool true) ∧ Grow W w' := fun W => by
  have := score_paired_qq (some ⟨ba, oa, none⟩) (some ⟨bb, ob, none⟩) m m c d W
  rw [pairedB_yes hm0] at this
  exact this
 have hme := fun b3 b4 b5 b8 W => score_mean_Tilt b3 b4 b5 b8 ba oa bb ob m c d l l' a hl hl' hm s ha hs hs' hB W
 obtain ⟨S, hS⟩ : ∃ S, S = qTilt l l' a m := ⟨_, rfl⟩
 rw [← hS]
 rw [← hS] at hme
 have hBl := BIG_le
 have z1 : bl a.num.natAbs ≤ 1099511627776 := by have := qs_num a; omega
 have z5 : qs (qint 1) ≤ 41 := qint_sz 1 (by omega)
 have hsg : decide (a.num.sign < 0) = false := by
  rw [decide_eq_false_iff_not, Int.sign_neg_iff]
  exact fun h => ha0 (num_neg'.1 h)
 obtain ⟨g, hg⟩ : ∃ g, g = a.num.sign := ⟨_, rfl⟩
 have hsn : ∀ W, Calls Tryz.prog 48 #[qV a] W fun e w' => e = .returned (.int .i64 g) ∧ Grow W w' := fun W => by
  have := frac_Sign a z1 W
  rw [← hg] at this
  exact this
 rw [← hg] at hsg
 have hcp : decide (0 < cmpQ a (qint 1)) = false := by
  unfold cmpQ
  rw [if_neg ha1]
  split <;> rfl
 obtain ⟨k, hk⟩ : ∃ k, k = cmpQ a (qint 1) := ⟨_, rfl⟩
 have hcm : ∀ W, Calls Tryz.prog 25 #[qV a, qV (qint 1)] W fun e w' => e = .returned (.int .i64 k) ∧ Grow W w' := fun W => by
  have := frac_Cmp a (qint 1) W (by omega)
  rw [← hk] at this
  exact this
 rw [← hk] at hcp
 have Hp := Lib.hid hp
 have Hme := Lib.hid hme
 have H1 := Lib.hid h1
 have H2 := Lib.hid h2
 have Hsn := Lib.hid hsn
 have Hcm := Lib.hid hcm
 clear hp hme h1 h2 hl hl' hS hs hs' hB hg hsn hk hcm ha0 ha1
 go_enter Tryz.func38, Tryz.ntmps38
 refine en4 ?_
 intro u hG b6 b5 b4 b3 hB hF
 refine wp_seq ?_
 refine wp_seq (rsE allocs [0, 0, 1, 0] hB hG fun L hL => ?_)
 refine gs ?_
 refine gmw (C := fun v => Hp.out _) ?_
 refine gs ?_
 refine geT hL ?_
 clear hB hG hL L
 rintro u ⟨-, hB, hG, -⟩
 refine wp_cond_false (rfl) ?_
 refine wp_skip ?_
 refine then_norm ?_
 refine wp_seq (rsC allocs [1, 2] hB hG fun K L hN hL => ?_)
 refine gmw (C := fun v => frac_Of _ (by omega) (by omega) _) ?_
 refine gaa (newObj_Q _ _ _ _ _) fun b8 hb8 hn8 => ?_
 replace hF := hF.n1 [] hB hG hb8 hn8
 refine geC hL ?_
 clear hB hG hL L
 rintro u ⟨⟨-, hB, hG, -⟩, h8⟩
 replace hB := hB.cons' h8
 clear h8
 clear hb8 hn8
 refine gtT ?_
 clear hN K
 refine st hB hF hG 0 0 [_, _, _, _, _] ?_
 clear hB hG
 intro u hB hG
 refine wp_seq ?_
 refine wp_seq (rsE allocs [0, 1, 0, 0, 0, 0, 1, 0, 0] hB hG fun L hL => ?_)
 refine gs ?_
 refine gmw (C := fun v => Hsn.out _) ?_
 refine gs ?_
 first | refine gmw (C := fun v => Hcm.out _) ?_ | refine gmna ?_
 refine gs ?_
 refine geT hL ?_
 clear hB hG hL L
 rintro u ⟨-, hB, hG, -⟩
 refine wp_cond_false (rfl) ?_
 refine wp_skip ?_
 refine then_norm ?_
 refine wp_seq (rsC allocs [0, 0, 0, 1] hB hG fun K L hN hL => ?_)
 refine gs ?_
 refine gmd (C := fun v ⟨hgu, hB, hG, _⟩ => Hme.out b3 b4 b5 b8 _ (FourLq.mk hB.tail.head hB.tail.tail.head hB.tail.tail.tail.head hB.head (H1.out.grow hG) (H2.out.grow hG)) (HT.grow hG)) ?_
 refine geC hL ?_
 clear hB hG hL L
 rintro u ⟨-, hB, hG, -⟩
 refine gtT ?_
 clear hN K
 refine st hB hF hG 4 0 [_, _, _, _, _] ?_
 clear hB hG
 intro u hB hG
 refine rt Tryz.results38 ?_
 exact ⟨rfl, hG⟩
end Go.Proofs.YtimjnkfcnpfoeaaGreatDoor
