/-
  Contracts and laws: Brier.
-/
import Derived.Test.YtimjnkfcnpfoeaaGreatDoorU45
set_option linter.unusedSimpArgs false
set_option linter.unusedVariables false
namespace Go.Proofs.YtimjnkfcnpfoeaaGreatDoor
open Go Go.RowKit
/-- one number of a row, 1 less where it is the class's -/
def brX (t : Int) (q : List Rat) (j : Nat) : Rat := if (j : Int) = t then qsub (gq q j) (qint 1) else gq q j
def brT (t : Int) (q : List Rat) (j : Nat) : Rat := qmul (brX t q j) (brX t q j)
def brRow (t : Int) (q : List Rat) (L : Nat) : Rat := qsum (brT t q) L
def rowAt (rs : List (List Rat)) (i : Nat) : List Rat := (rs[i]?).getD []
def brier (l : List Int) (rs : List (List Rat)) (L m : Nat) : Rat := qdiv (qsum (fun i => brRow (gi l i) (rowAt rs i) L) m) (qint m)
theorem brX_sz {t : Int} {q : List Rat} {j s : Nat} (h : qs (gq q j) ≤ s) : qs (brX t q j) ≤ s + 42 := by
 unfold brX
 have h1 := qs_sub (gq q j) (qint 1)
 have h2 : qs (qint 1) ≤ 41 := qint_sz 1 (by omega)
 split
 ·unfold qsub; omega
 ·omega
theorem brT_sz {t : Int} {q : List Rat} {j s : Nat} (h : qs (gq q j) ≤ s) : qs (brT t q j) ≤ 2 * s + 84 := by
 have h1 := brX_sz (t := t) h
 have h2 := qs_mul (brX t q j) (brX t q j)
 unfold brT qmul
 omega
theorem brRow_sz {t : Int} {q : List Rat} {L s : Nat} (hs : ∀ x ∈ q, qs x ≤ s) (hL : q.length = L) : ∀ j, j ≤ L → qs (qsum (brT t q) j) ≤ L * (2 * s + 85) + 1 := fun j hj =>
 Nat.le_trans (qsum_size (brT t q) (2 * s + 84) L (fun i hi => brT_sz (hs _ (gq_mem (by omega)))) j hj) (Nat.add_le_add_right (Nat.mul_le_mul_right _ hj) 1)
/-- what the closure of Brier reads -/
def TwoBr (b3 b2 : Nat) (A B : Option Addr) (m c d : Nat) (l : List Int) (rs : List Rq) (W : World) : Prop :=
 Blk W b3 81 #[.slice B m d] ∧ Blk W b2 22 #[.slice A m c] ∧ Li W A l ∧ Lrq W B rs
theorem TwoBr.grow {b3 b2 : Nat} {A B : Option Addr} {m c d : Nat} {l : List Int} {rs : List Rq} {u u' : World} (hg : Grow u u') (h : TwoBr b3 b2 A B m c d l rs u) : TwoBr b3 b2 A B m c d l rs u' := ⟨h.1.grow hg, h.2.1.grow hg, h.2.2.1.grow hg, h.2.2.2.grow hg⟩
theorem TwoBr.mk {b3 b2 : Nat} {A B : Option Addr} {m c d : Nat} {l : List Int} {rs : List Rq} {u : World} (h1 : Blk u b3 81 #[.slice B m d]) (h2 : Blk u b2 22 #[.slice A m c]) (h3 : Li u A l) (h4 : Lrq u B rs) : TwoBr b3 b2 A B m c d l rs u := ⟨h1, h2, h3, h4⟩
set_option maxHeartbeats 2000000 in
set_option maxRecDepth 100000 in
theorem score_Brier_c1 (b3 b2 ba oa bb ob : Nat) (m c d L : Nat) (l : List Int) (rs : List Rq) (hl : l.length = m) (hl' : rs.length = m) (hrl : ∀ r ∈ rs, r.2.2.length = L) (hL : L ≤ 1048576) (s : Nat) (hs : ∀ r ∈ rs, ∀ x ∈ r.2.2, qs x ≤ s) (hBz : L * (2 * s + 85) + 4 * s + 400 ≤ BIG) (i : Nat) (hi : i < m) (w : World) (h : TwoBr b3 b2 (some ⟨ba, oa, none⟩) (some ⟨bb, ob, none⟩) m c d l rs w) (HT : Tab w) :
  Calls Tryz.prog 106 #[.int .i64 (i : Nat), .pointer (some ⟨b3, 0, none⟩), .pointer (some ⟨b2, 0, none⟩)] w fun e w' => e = .returned (qV (brRow (gi l i) (rowAt (rs.map (·.2.2)) i) L)) ∧ Grow w w' := by
 have hil : i < rs.length := by omega
 have hro : rowAt (rs.map (·.2.2)) i = rs[i].2.2 := by unfold rowAt; rw [List.getElem?_map, List.getElem?_eq_getElem hil]; rfl
 rw [hro]
 have hL1 := hrl _ (List.getElem_mem hil)
 have hs1 := hs _ (List.getElem_mem hil)
 have hc : ∀ W, Grow w W → W.cell? ⟨b3, 0, none⟩ = some (.slice (some ⟨bb, ob, none⟩) m d) ∧ W.cell? ⟨b2, 0, none⟩ = some (.slice (some ⟨ba, oa, none⟩) m c) ∧ W.cell? ⟨ba, oa + i, none⟩ = some (.int .i64 (gi l i)) := fun W hg => by
  obtain ⟨b', o', e, h3⟩ := (h.grow hg).2.2.1.cell (i := i) (by omega)
  cases e
  exact ⟨(h.grow hg).1.cell 0, (h.grow hg).2.1.cell 0, h3⟩
 have hrw : ∀ W, Grow w W → W.cell? ⟨bb, ob + i, none⟩ = some (.slice rs[i].1 L rs[i].2.1) ∧ Lq W rs[i].1 rs[i].2.2 := fun W hg => by
  have := (h.grow hg).2.2.2.read (List.getElem?_eq_getElem hil)
  rw [hL1] at this
  exact this
 obtain ⟨r, hr⟩ : ∃ r, r = rs[i] := ⟨_, rfl⟩
 rw [← hr] at hL1 hs1 ⊢
 simp only [← hr] at hrw
 obtain ⟨rA, rc, q⟩ := r
 simp only at hL1 hs1 hrw ⊢
 obtain ⟨t, ht⟩ : ∃ t, t = gi l i := ⟨_, rfl⟩
 rw [← ht]
 simp only [← ht] at hc
 have hMq := brRow_sz (t := t) hs1 hL1
 have z5 : qs (qint 1) ≤ 41 := qint_sz 1 (by omega)
 have hr1 := fun W hg => (hrw W hg).1
 have hr2 := fun W hg => (hrw W hg).2
 have Hc := Lib.hid hc
 have Hr1 := Lib.hid hr1
 have Hr2 := Lib.hid hr2
 have HM := Lib.hid hMq
 have Hs := Lib.hid hs1
 have HL1 := Lib.hid hL1
 have hun : brRow t q L = qsum (brT t q) L := rfl
 rw [hun]
 clear hc hrw hr1 hr2 hMq hs1 hL1 h hs hrl hl hl' hr hil hro ht hun
 go_enter Tryz.func106, Tryz.ntmps106
 refine en1 ?_
 intro u hG b4 hB hF
 refine wp_seq (rsE allocs [2] hB hG fun L hL => ?_)
 refine gaa (newObj_Q _ _ _ _ _) fun b5 hb5 hn5 => ?_
 replace hF := hF.n1 [] hB hG hb5 hn5
 refine geT hL ?_
 clear hB hG hL L
 rintro u ⟨⟨-, hB, hG, -⟩, h5⟩
 replace hB := hB.cons' h5
 clear h5
 clear hb5 hn5
 refine wp_seq ?_
 refine wp_seq ?_
 obtain ⟨p1, p2, p3⟩ := Hc.out u hG; have p4 := Hr1.out u hG
 refine r0N ?_
 refine wp_block ?_
 go_loopw [13] (fun s0 wr => ∃ (j : Nat) (S : Rat), j ≤ L ∧ s0 = .int .i64 j ∧ S = qsum (brT t q) j ∧ Bx wr [(b5, 32, qCells S), (b4, 32, zCells)] ∧ Grow w wr) (fun s0 _ => L - (intOf s0).toNat)
 case atStart => exact ⟨0, 0, Nat.zero_le _, rfl, rfl, hB, hG⟩
 case round =>
  clear hB hG
  obtain ⟨j, S, hj, rfl, hS, hB, hG⟩ := hrel
  obtain ⟨u, rfl⟩ : ∃ x, x = wr := ⟨_, rfl⟩
  have z1 := HM.out j hj
  rw [← hS] at z1
  rcases Nat.lt_or_ge j L with hlt | hge
  ·have hdec : decide ((j : Int) < (L : Int)) = true := by simp; omega
   have hjq : j < q.length := by rw [HL1.out]; exact hlt
   obtain ⟨bq, oq, rfl⟩ := (Hr2.out w (Grow.refl w)).addr (by omega)
   have hrd : ∀ W, Grow w W → Cq W bq (oq + j * 5) (gq q j) := fun W hg => (Hr2.out W hg).read hjq
   have z2 := Hs.out _ (gq_mem hjq)
   have hnx : qsum (brT t q) (j + 1) = qadd (qsum (brT t q) j) (brT t q j) := rfl
   rw [← hS] at hnx
   by_cases hjt : (j : Int) = t
   ·have fb : ((j : Int) == t) = true := by simpa using hjt
    have e : brT t q j = qmul (qsub (gq q j) (qint 1)) (qsub (gq q j) (qint 1)) := by unfold brT brX; rw [if_pos hjt]
    rw [e] at hnx
    obtain ⟨X, hX⟩ : ∃ X, X = gq q j := ⟨_, rfl⟩
    simp only [← hX] at hrd
    rw [← hX] at z2 hnx
    have z3 := qs_sub X (qint 1)
    have hsb := fun W hT => frac_Sub X (qint 1) W (by omega) hT
    obtain ⟨D, hD⟩ : ∃ D, D = qsub X (qint 1) := ⟨_, rfl⟩
    rw [← hD] at hnx hsb
    have z4 : qs D ≤ s + 42 := by rw [hD]; unfold qsub; omega
    have z6 := qs_mul D D
    have hsq := fun W hT => score_square D (by omega) W hT
    have had := fun W hT => frac_Add S (qmul D D) W (by unfold qmul; omega) hT
    have Hrd := Lib.hid hrd
    have Hnx := Lib.hid hnx
    have Hsb := Lib.hid hsb
    have Hsq := Lib.hid hsq
    have Had := Lib.hid had
    clear hrd hnx hsb hsq had e hX hD hjq hS hjt z1 z2 z3 z4 z6
    refine r0T ?_
    refine wp_seq ?_
    refine wp_cond_true (rfl) ?_
    refine wp_skip ?_
    refine then_norm ?_
    refine wp_seq ?_
    refine wp_block ?_
    refine wp_seq (rsC allocs [0, 0, 0, 2, 0] hB hG fun K L hN hL => ?_)
    repeat first | refine gya ?_ | refine gyr ?_ | refine gna ?_ | refine gyb (by (rintro v ⟨hgu, hB, hG, -⟩ N hN; have r := hB.r; simp only [BxR] at r; obtain ⟨p1, p2, p3⟩ := Hc.out v hG; obtain ⟨q1, q2, q3, q4, q5⟩ := Hrd.out v hG; go_simp; exact hN)) ?_
    refine gaa (newObj_Q _ _ _ _ _) fun b7 hb7 hn7 => ?_
    refine gs ?_
    replace hF := hF.n1 [] hB hG hb7 hn7
    refine geC hL ?_
    clear hB hG hL L
    rintro u ⟨⟨-, hB, hG, -⟩, h7⟩
    replace hB := hB.cons' h7
    clear h7
    clear hb7 hn7
    refine gtT ?_
    clear hN K
    refine st hB hF hG 0 0 [_, _, _, _, _] ?_
    clear hB hG
    intro u hB hG
    refine wp_seq ?_
    refine wp_seq ?_
    obtain ⟨p1, p2, p3⟩ := Hc.out u hG
    refine r0N ?_
    refine wp_cond_true (rfl) ?_
    refine rdC allocs [] [(0, 0), (1, 1), (1, 2)] hB hG fun K L hN hL => ?_
    repeat first | refine gya ?_ | refine gyr ?_ | refine gna ?_ | refine gyb (by (rintro v ⟨hgu, hB, hG, -⟩ N hN; have r := hB.r; simp only [BxR] at r; obtain ⟨p1, p2, p3⟩ := Hc.out v hG; obtain ⟨q1, q2, q3, q4, q5⟩ := Hrd.out v hG; go_simp; exact hN)) ?_
    refine gmw (C := fun v => frac_Of 1 (by omega) (by omega) _) ?_
    refine gmd (C := fun v ⟨hgu, hB, hG, _⟩ => Hsb.out _ (HT.grow hG)) ?_
    refine geC hL ?_
    clear hB hG hL L
    rintro u ⟨-, hB, hG, -⟩
    refine gtT ?_
    clear hN K
    refine st hB hF hG 0 0 [_, _, _, _, _] ?_
    clear hB hG
    intro u hB hG
    refine rdC allocs [] [(0, 0), (0, 1), (1, 2), (1, 3)] hB hG fun K L hN hL => ?_
    repeat first | refine gya ?_ | refine gyr ?_ | refine gna ?_ | refine gyb (by (rintro v ⟨hgu, hB, hG, -⟩ N hN; have r := hB.r; simp only [BxR] at r; obtain ⟨p1, p2, p3⟩ := Hc.out v hG; obtain ⟨q1, q2, q3, q4, q5⟩ := Hrd.out v hG; go_simp; exact hN)) ?_
    refine gmd (C := fun v ⟨hgu, hB, hG, _⟩ => Hsq.out _ (HT.grow hG)) ?_
    refine gmd (C := fun v ⟨hgu, hB, hG, _⟩ => Had.out _ (HT.grow hG)) ?_
    refine geC hL ?_
    clear hB hG hL L
    rintro u ⟨-, hB, hG, -⟩
    refine gt ?_
    clear hN K
    refine st hB hF hG 1 0 [_, _, _, _, _] ?_
    clear hB hG
    intro u hB hG
    refine blk_norm ?_
    refine then_norm ?_
    refine r0E ?_
    refine then_norm ?_
    go_roundw
    case rel => exact ⟨j + 1, qadd S (qmul D D), by omega, by go_num, Hnx.out.symm, hB.tail, hG⟩
    case measure => simp [intOf]; omega
   ·have fb : ((j : Int) == t) = false := by simpa using hjt
    have e : brT t q j = qmul (gq q j) (gq q j) := by unfold brT brX; rw [if_neg hjt]
    rw [e] at hnx
    obtain ⟨X, hX⟩ : ∃ X, X = gq q j := ⟨_, rfl⟩
    simp only [← hX] at hrd
    rw [← hX] at z2 hnx
    have z6 := qs_mul X X
    have hsq := fun W hT => score_square X (by omega) W hT
    have had := fun W hT => frac_Add S (qmul X X) W (by unfold qmul; omega) hT
    have Hrd := Lib.hid hrd
    have Hnx := Lib.hid hnx
    have Hsq := Lib.hid hsq
    have Had := Lib.hid had
    clear hrd hnx hsq had e hX hjq hS hjt z1 z2 z6
    refine r0T ?_
    refine wp_seq ?_
    refine wp_cond_true (rfl) ?_
    refine wp_skip ?_
    refine then_norm ?_
    refine wp_seq ?_
    refine wp_block ?_
    refine wp_seq (rsC allocs [0, 0, 0, 2, 0] hB hG fun K L hN hL => ?_)
    repeat first | refine gya ?_ | refine gyr ?_ | refine gna ?_ | refine gyb (by (rintro v ⟨hgu, hB, hG, -⟩ N hN; have r := hB.r; simp only [BxR] at r; obtain ⟨p1, p2, p3⟩ := Hc.out v hG; obtain ⟨q1, q2, q3, q4, q5⟩ := Hrd.out v hG; go_simp; exact hN)) ?_
    refine gaa (newObj_Q _ _ _ _ _) fun b7 hb7 hn7 => ?_
    refine gs ?_
    replace hF := hF.n1 [] hB hG hb7 hn7
    refine geC hL ?_
    clear hB hG hL L
    rintro u ⟨⟨-, hB, hG, -⟩, h7⟩
    replace hB := hB.cons' h7
    clear h7
    clear hb7 hn7
    refine gtT ?_
    clear hN K
    refine st hB hF hG 0 0 [_, _, _, _, _] ?_
    clear hB hG
    intro u hB hG
    refine wp_seq ?_
    refine wp_seq ?_
    obtain ⟨p1, p2, p3⟩ := Hc.out u hG
    refine r0N ?_
    refine wp_cond_false (rfl) ?_
    refine wp_skip ?_
    refine then_norm ?_
    refine rdC allocs [] [(0, 0), (0, 1), (1, 2), (1, 3)] hB hG fun K L hN hL => ?_
    repeat first | refine gya ?_ | refine gyr ?_ | refine gna ?_ | refine gyb (by (rintro v ⟨hgu, hB, hG, -⟩ N hN; have r := hB.r; simp only [BxR] at r; obtain ⟨p1, p2, p3⟩ := Hc.out v hG; obtain ⟨q1, q2, q3, q4, q5⟩ := Hrd.out v hG; go_simp; exact hN)) ?_
    refine gmd (C := fun v ⟨hgu, hB, hG, _⟩ => Hsq.out _ (HT.grow hG)) ?_
    refine gmd (C := fun v ⟨hgu, hB, hG, _⟩ => Had.out _ (HT.grow hG)) ?_
    refine geC hL ?_
    clear hB hG hL L
    rintro u ⟨-, hB, hG, -⟩
    refine gt ?_
    clear hN K
    refine st hB hF hG 1 0 [_, _, _, _, _] ?_
    clear hB hG
    intro u hB hG
    refine blk_norm ?_
    refine then_norm ?_
    refine r0E ?_
    refine then_norm ?_
    go_roundw
    case rel => exact ⟨j + 1, qadd S (qmul X X), by omega, by go_num, Hnx.out.symm, hB.tail, hG⟩
    case measure => simp [intOf]; omega
  ·obtain rfl : L = j := by omega
   have hdec : decide ((L : Int) < (L : Int)) = false := by simp
   rw [← hS]
   clear hS
   refine r0T ?_
   refine wp_seq ?_
   refine wp_cond_false (rfl) ?_
   refine wp_exit ?_
   refine then_exit ?_
   refine then_exit ?_
   refine blk_exit ?_
   refine then_norm ?_
   refine wp_seq ?_
   skip
   refine r0N ?_
   refine st hB hF hG 1 0 [_, _, _, _, _] ?_
   clear hB hG
   intro u hB hG
   refine rt Tryz.results106 ?_
   exact ⟨rfl, hG⟩
theorem cf_Brier (args : Array Value) (W : World) : Sem.run Tryz.prog (callFunc 106 args) W = .ok (.enter 106 args) W := by kernel_rfl
theorem score_mean_Brier (b3 b2 ba oa bb ob : Nat) (m c d L : Nat) (l : List Int) (rs : List Rq) (hl : l.length = m) (hl' : rs.length = m) (hm : m ≤ 1048576) (hrl : ∀ r ∈ rs, r.2.2.length = L) (hL : L ≤ 1048576) (s : Nat) (hs : ∀ r ∈ rs, ∀ x ∈ r.2.2, qs x ≤ s) (hBz : (m + 2) * (L * (2 * s + 85) + 4 * s + 400) ≤ BIG) (w : World) (h : TwoBr b3 b2 (some ⟨ba, oa, none⟩) (some ⟨bb, ob, none⟩) m c d l rs w) (HT : Tab w) :
  Calls Tryz.prog 86 #[.int .i64 m, .func (.func 106) #[] #[.pointer (some ⟨b3, 0, none⟩), .pointer (some ⟨b2, 0, none⟩)]] w fun e w' => e = .returned (qV (brier l (rs.map (·.2.2)) L m)) ∧ Grow w w' := by
 obtain ⟨T, hT⟩ : ∃ T, T = L * (2 * s + 85) + 1 := ⟨_, rfl⟩
 have hTB : (m + 2) * (T + 4 * s + 399) ≤ BIG := by rw [hT]; exact Nat.le_trans (Nat.mul_le_mul_left _ (by omega)) hBz
 have hz : ∀ i, i < m → qs (brRow (gi l i) (rowAt (rs.map (·.2.2)) i) L) ≤ T := fun i hi => by
  have hil : i < rs.length := by omega
  have hro : rowAt (rs.map (·.2.2)) i = rs[i].2.2 := by unfold rowAt; rw [List.getElem?_map, List.getElem?_eq_getElem hil]; rfl
  rw [hro, hT]
  exact brRow_sz (hs _ (List.getElem_mem hil)) (hrl _ (List.getElem_mem hil)) L (Nat.le_refl _)
 have h1 : (m + 2) * (T + 4 * s + 399) = m * (T + 4 * s + 399) + 2 * (T + 4 * s + 399) := Nat.add_mul _ _ _
 have h2 : m * (T + 1) ≤ m * (T + 4 * s + 399) := Nat.mul_le_mul_left _ (by omega)
 refine score_mean m (by omega) 106 cf_Brier _ (fun i => brRow (gi l i) (rowAt (rs.map (·.2.2)) i) L) (TwoBr b3 b2 (some ⟨ba, oa, none⟩) (some ⟨bb, ob, none⟩) m c d l rs) (fun _ _ hg h => h.grow hg) (m * (T + 1) + 1) T (fun j hj => ?_) hz (by omega) w h HT
  (fun i hi W hW hTW => score_Brier_c1 b3 b2 ba oa bb ob m c d L l rs hl hl' hrl hL s hs (by omega) i hi W hW hTW)
 exact Nat.le_trans (qsum_size _ T m hz j hj) (Nat.add_le_add_right (Nat.mul_le_mul_right _ hj) 1)
set_option maxHeartbeats 2000000 in
set_option maxRecDepth 100000 in
theorem score_Brier_ok (A B : Option Addr) (m c d L : Nat) (l : List Int) (rs : List Rq) (hl : l.length = m) (hl' : rs.length = m) (hm0 : 0 < m) (hm : m ≤ 1048576) (hrl : ∀ r ∈ rs, r.2.2.length = L) (hL : L ≤ 1048576) (hgood : ∀ i, i < m → 0 ≤ gi l i ∧ gi l i < L) (s : Nat) (hs : ∀ r ∈ rs, ∀ x ∈ r.2.2, qs x ≤ s) (hBz : (m + 2) * (L * (2 * s + 85) + 4 * s + 400) ≤ BIG)
  (w : World) (h1 : Li w A l) (h2 : Lrq w B rs) (HT : Tab w) :
  Calls Tryz.prog 42 #[.slice A m c, .slice B m d] w fun e w' => e = .returned (.tuple #[qV (brier l (rs.map (·.2.2)) L m), .int .i64 0]) ∧ Grow w w' := by
 obtain ⟨ba, oa, rfl, -⟩ := h1.cell (i := 0) (by omega)
 obtain ⟨bb, ob, rfl⟩ := h2.addr (by omega)
 have hp : ∀ W, Calls Tryz.prog 105 #[.slice (some ⟨ba, oa, none⟩) m c, .slice (some ⟨bb, ob, none⟩) m d] W fun e w' => e = .returned (.bool true) ∧ Grow W w' := fun W => by
  have := score_paired_iq (some ⟨ba, oa, none⟩) (some ⟨bb, ob, none⟩) m m c d W
  rw [pairedB_yes (by omega)] at this
  exact this
 have hrow : ∀ i, i < m → ∃ (Ar : Option Addr) (cr : Nat), ∀ W, Grow w W → W.cell? ⟨bb, ob + i, none⟩ = some (.slice Ar L cr) := fun i hi => by
  have hil : i < rs.length := by omega
  refine ⟨rs[i].1, rs[i].2.1, fun W hg => ?_⟩
  have h3 := ((h2.grow hg).read (List.getElem?_eq_getElem hil)).1
  rw [hrl _ (List.getElem_mem hil)] at h3
  exact h3
 have hint : ∀ i, i < m → ∀ W, Grow w W → W.cell? ⟨ba, oa + i, none⟩ = some (.int .i64 (gi l i)) := fun i hi W hg => by
  obtain ⟨b', o', e, h3⟩ := (h1.grow hg).cell (i := i) (by omega)
  cases e
  exact h3
 obtain ⟨A0, c0, hrow0⟩ := hrow 0 (by omega)
 have hme := fun b3 b2 W hW hT => score_mean_Brier b3 b2 ba oa bb ob m c d L l rs hl hl' hm hrl hL s hs hBz W hW hT
 obtain ⟨V, hV⟩ : ∃ V, V = brier l (rs.map (·.2.2)) L m := ⟨_, rfl⟩
 rw [← hV]
 simp only [← hV] at hme
 have Hp := Lib.hid hp
 have Hrow := Lib.hid hrow
 have Hint := Lib.hid hint
 have Hrow0 := Lib.hid hrow0
 have Hgood := Lib.hid hgood
 have Hme := Lib.hid hme
 have H1 := Lib.hid h1
 have H2 := Lib.hid h2
 clear hp hrow hint hrow0 hgood h1 h2 hl hl' hrl hme hs hV hBz
 go_enter Tryz.func42, Tryz.ntmps42
 refine en3 ?_
 intro u hG b4 b3 b2 hB hF
 refine wp_seq ?_
 refine wp_seq (rsE allocs [0, 0, 1, 0] hB hG fun L hL => ?_)
 refine gs ?_
 refine gmw (C := fun v => Hp.out _) ?_
 refine gs ?_
 refine geT hL ?_
 clear hB hG hL L
 rintro u ⟨-, hB, hG, -⟩
 refine wp_cond_false (rfl) ?_
 refine wp_skip ?_
 refine then_norm ?_
 refine wp_seq ?_
 refine r0T ?_
 refine wp_block ?_
 go_loopw [17] (fun s0 wr => ∃ (i : Nat) , i ≤ m ∧ s0 = .int .i64 i ∧ Bx wr [(b2, 22, #[.slice (some ⟨ba, oa, none⟩) m c]), (b3, 81, #[.slice (some ⟨bb, ob, none⟩) m d]), (b4, 32, zCells)] ∧ Grow w wr) (fun s0 _ => m - (intOf s0).toNat)
 case atStart => exact ⟨0, Nat.zero_le _, rfl, hB, hG⟩
 case round =>
  clear hB hG
  obtain ⟨i, hi, rfl, hB, hG⟩ := hrel
  obtain ⟨u, rfl⟩ : ∃ x, x = wr := ⟨_, rfl⟩
  rcases Nat.lt_or_ge i m with hlt0 | hge0
  ·have hdec : decide ((i : Int) < (m : Int)) = true := by simp; omega
   obtain ⟨Ar, cr, hrw⟩ := Hrow.out i hlt0
   have Hrw := Lib.hid hrw
   have hne : ((L : Int) != (L : Int)) = false := by simp
   clear hrw
   refine r0T ?_
   refine wp_seq ?_
   refine wp_cond_true (rfl) ?_
   refine wp_skip ?_
   refine then_norm ?_
   refine wp_seq ?_
   refine wp_block ?_
   refine wp_seq ?_
   have g1 := Hrw.out u hG
   refine r0N ?_
   clear g1
   refine wp_seq ?_
   have g0 := Hrow0.out u hG
   rw [Nat.add_zero] at g0
   refine r0N ?_
   clear g0
   refine wp_cond_false (rfl) ?_
   refine wp_skip ?_
   refine blk_norm ?_
   refine then_norm ?_
   refine r0E ?_
   refine then_norm ?_
   go_roundw
   case rel => exact ⟨i + 1, by omega, by go_num, hB, hG⟩
   case measure => simp [intOf]; try omega
  ·obtain rfl : m = i := by omega
   have hdec : decide ((m : Int) < (m : Int)) = false := by simp
   skip
   refine r0T ?_
   refine wp_seq ?_
   refine wp_cond_false (rfl) ?_
   refine wp_exit ?_
   refine then_exit ?_
   refine then_exit ?_
   refine blk_exit ?_
   refine then_norm ?_
   refine wp_seq ?_
   refine r0T ?_
   refine wp_block ?_
   go_loopw [32] (fun s0 wr => ∃ (j : Nat) , j ≤ m ∧ s0 = .int .i64 j ∧ Bx wr [(b2, 22, #[.slice (some ⟨ba, oa, none⟩) m c]), (b3, 81, #[.slice (some ⟨bb, ob, none⟩) m d]), (b4, 32, zCells)] ∧ Grow w wr) (fun s0 _ => m - (intOf s0).toNat)
   case atStart => exact ⟨0, Nat.zero_le _, rfl, hB, hG⟩
   case round =>
    clear hB hG
    obtain ⟨j, hj, rfl, hB, hG⟩ := hrel
    obtain ⟨u, rfl⟩ : ∃ x, x = wr := ⟨_, rfl⟩
    rcases Nat.lt_or_ge j m with hlt1 | hge1
    ·have hdec : decide ((j : Int) < (m : Int)) = true := by simp; omega
     obtain ⟨hg1, hg2⟩ := Hgood.out j hlt1
     have hit := Hint.out j hlt1
     obtain ⟨z, hz⟩ : ∃ z, z = gi l j := ⟨_, rfl⟩
     rw [← hz] at hg1 hg2
     simp only [← hz] at hit
     have Hit := Lib.hid hit
     have c1 : decide (z < 0) = false := by simp; omega
     have c2 : decide ((L : Int) ≤ z) = false := by simp; omega
     clear hit hz
     refine r0T ?_
     refine wp_seq ?_
     refine wp_cond_true (rfl) ?_
     refine wp_skip ?_
     refine then_norm ?_
     refine wp_seq ?_
     refine wp_block ?_
     refine wp_seq ?_
     have g1 := Hit.out u hG
     refine r0N ?_
     clear g1
     refine wp_seq ?_
     have g0 := Hrow0.out u hG
     rw [Nat.add_zero] at g0
     refine r0N ?_
     clear g0
     refine wp_cond_false (rfl) ?_
     refine wp_skip ?_
     refine blk_norm ?_
     refine then_norm ?_
     refine r0E ?_
     refine then_norm ?_
     go_roundw
     case rel => exact ⟨j + 1, by omega, by go_num, hB, hG⟩
     case measure => simp [intOf]; try omega
    ·obtain rfl : m = j := by omega
     have hdec : decide ((m : Int) < (m : Int)) = false := by simp
     skip
     refine r0T ?_
     refine wp_seq ?_
     refine wp_cond_false (rfl) ?_
     refine wp_exit ?_
     refine then_exit ?_
     refine then_exit ?_
     refine blk_exit ?_
     refine then_norm ?_
     refine wp_seq (rsC allocs [0, 0, 0, 1] hB hG fun K L hN hL => ?_)
     refine gs ?_
     refine gmd (C := fun v ⟨hgu, hB, hG, _⟩ => Hme.out b3 b2 _ (TwoBr.mk hB.tail.head hB.head (Li.grow H1.out hG) (Lrq.grow H2.out hG)) (HT.grow hG)) ?_
     refine geC hL ?_
     clear hB hG hL L
     rintro u ⟨-, hB, hG, -⟩
     refine gtT ?_
     clear hN K
     refine st hB hF hG 2 0 [_, _, _, _, _] ?_
     clear hB hG
     intro u hB hG
     refine rt Tryz.results42 ?_
     exact ⟨rfl, hG⟩
set_option maxHeartbeats 1000000 in
set_option maxRecDepth 100000 in
theorem score_Brier_no (A B : Option Addr) (m n c d : Nat) (h : pairedB m n = false) (w : World) :
  Calls Tryz.prog 42 #[.slice A m c, .slice B n d] w fun e w' => e = .returned (.tuple #[qV 0, .int .i64 5]) ∧ Grow w w' := by
 have hp : ∀ W, Calls Tryz.prog 105 #[.slice A m c, .slice B n d] W fun e w' => e = .returned (.bool false) ∧ Grow W w' := fun W => by
  have := score_paired_iq A B m n c d W
  rw [h] at this
  exact this
 clear h
 go_enter Tryz.func42, Tryz.ntmps42
 refine en3 ?_
 intro u hG b4 b3 b2 hB hF
 refine wp_seq ?_
 refine wp_seq (rsE allocs [0, 0, 1, 0] hB hG fun L hL => ?_)
 refine gs ?_
 refine gmw (C := fun v => hp _) ?_
 refine gs ?_
 refine geT hL ?_
 clear hB hG hL L
 rintro u ⟨-, hB, hG, -⟩
 refine wp_cond_true (rfl) ?_
 refine r0T ?_
 refine st hB hF hG 2 0 [_, _, _, _, _] ?_
 clear hB hG
 intro u hB hG
 refine rt Tryz.results42 ?_
 exact ⟨rfl, hG⟩
set_option maxHeartbeats 2000000 in
set_option maxRecDepth 100000 in
/-- a row of another length than the first -/
theorem score_Brier_shape (A B : Option Addr) (m c d L : Nat) (rs : List Rq) (hl' : rs.length = m) (hm : m ≤ 1048576) (R : Nat) (hR0 : 0 < R) (hR : R < m) (hrl : ∀ (i : Nat) (r : Rq), i < R → rs[i]? = some r → r.2.2.length = L) (N : Nat) (hbad : ∀ r : Rq, rs[R]? = some r → r.2.2.length = N) (hN : N ≠ L)
  (w : World) (h2 : Lrq w B rs) :
  Calls Tryz.prog 42 #[.slice A m c, .slice B m d] w fun e w' => e = .returned (.tuple #[qV 0, .int .i64 5]) ∧ Grow w w' := by
 obtain ⟨bb, ob, rfl⟩ := h2.addr (by omega)
 have hp : ∀ W, Calls Tryz.prog 105 #[.slice A m c, .slice (some ⟨bb, ob, none⟩) m d] W fun e w' => e = .returned (.bool true) ∧ Grow W w' := fun W => by
  have := score_paired_iq A (some ⟨bb, ob, none⟩) m m c d W
  rw [pairedB_yes (by omega)] at this
  exact this
 have hrow : ∀ i, i < R → ∃ (Ar : Option Addr) (cr : Nat), ∀ W, Grow w W → W.cell? ⟨bb, ob + i, none⟩ = some (.slice Ar L cr) := fun i hi => by
  have hil : i < rs.length := by omega
  refine ⟨rs[i].1, rs[i].2.1, fun W hg => ?_⟩
  have h3 := ((h2.grow hg).read (List.getElem?_eq_getElem hil)).1
  rw [hrl i rs[i] hi (List.getElem?_eq_getElem hil)] at h3
  exact h3
 have hrowR : ∃ (Ar : Option Addr) (cr : Nat), ∀ W, Grow w W → W.cell? ⟨bb, ob + R, none⟩ = some (.slice Ar N cr) := by
  have hil : R < rs.length := by omega
  refine ⟨rs[R].1, rs[R].2.1, fun W hg => ?_⟩
  have h3 := ((h2.grow hg).read (List.getElem?_eq_getElem hil)).1
  rw [hbad rs[R] (List.getElem?_eq_getElem hil)] at h3
  exact h3
 obtain ⟨A0, c0, hrow0⟩ := hrow 0 hR0
 obtain ⟨AR, cR, hrowR⟩ := hrowR
 have Hp := Lib.hid hp
 have Hrow := Lib.hid hrow
 have Hrow0 := Lib.hid hrow0
 have HrowR := Lib.hid hrowR
 clear hp hrow hrow0 hrowR h2 hl' hrl hbad
 go_enter Tryz.func42, Tryz.ntmps42
 refine en3 ?_
 intro u hG b4 b3 b2 hB hF
 refine wp_seq ?_
 refine wp_seq (rsE allocs [0, 0, 1, 0] hB hG fun L hL => ?_)
 refine gs ?_
 refine gmw (C := fun v => Hp.out _) ?_
 refine gs ?_
 refine geT hL ?_
 clear hB hG hL L
 rintro u ⟨-, hB, hG, -⟩
 refine wp_cond_false (rfl) ?_
 refine wp_skip ?_
 refine then_norm ?_
 refine wp_seq ?_
 refine r0T ?_
 refine wp_block ?_
 go_loopw [17] (fun s0 wr => ∃ i : Nat, i ≤ R ∧ s0 = .int .i64 i ∧ Bx wr [(b2, 22, #[.slice A m c]), (b3, 81, #[.slice (some ⟨bb, ob, none⟩) m d]), (b4, 32, zCells)] ∧ Grow w wr) (fun s0 _ => m - (intOf s0).toNat)
 case atStart => exact ⟨0, Nat.zero_le _, rfl, hB, hG⟩
 case round =>
  clear hB hG
  obtain ⟨i, hi, rfl, hB, hG⟩ := hrel
  obtain ⟨u, rfl⟩ : ∃ x, x = wr := ⟨_, rfl⟩
  have him : i < m := by omega
  have hdi : decide ((i : Int) < (m : Int)) = true := by simp; omega
  rcases Nat.lt_or_ge i R with hlt | hge
  ·obtain ⟨Ar, cr, hrw⟩ := Hrow.out i hlt
   have Hrw := Lib.hid hrw
   have hne : ((L : Int) != (L : Int)) = false := by simp
   clear hrw
   refine r0T ?_
   refine wp_seq ?_
   refine wp_cond_true (rfl) ?_
   refine wp_skip ?_
   refine then_norm ?_
   refine wp_seq ?_
   refine wp_block ?_
   refine wp_seq ?_
   have g1 := Hrw.out u hG
   refine r0N ?_
   clear g1
   refine wp_seq ?_
   have g0 := Hrow0.out u hG
   rw [Nat.add_zero] at g0
   refine r0N ?_
   clear g0
   refine wp_cond_false (rfl) ?_
   refine wp_skip ?_
   refine blk_norm ?_
   refine then_norm ?_
   refine r0E ?_
   refine then_norm ?_
   go_roundw
   case rel => exact ⟨i + 1, by omega, by go_num, hB, hG⟩
   case measure => simp [intOf]; omega
  ·obtain rfl : R = i := by omega
   have hne : ((N : Int) != (L : Int)) = true := by simp; omega
   have Hrw := HrowR
   refine r0T ?_
   refine wp_seq ?_
   refine wp_cond_true (rfl) ?_
   refine wp_skip ?_
   refine then_norm ?_
   refine wp_seq ?_
   refine wp_block ?_
   refine wp_seq ?_
   have g1 := Hrw.out u hG
   refine r0N ?_
   clear g1
   refine wp_seq ?_
   have g0 := Hrow0.out u hG
   rw [Nat.add_zero] at g0
   refine r0N ?_
   clear g0
   refine wp_cond_true (rfl) ?_
   refine r0T ?_
   refine st hB hF hG 2 0 [_, _, _, _, _] ?_
   clear hB hG
   intro u hB hG
   refine rt Tryz.results42 ?_
   exact ⟨rfl, hG⟩
end Go.Proofs.YtimjnkfcnpfoeaaGreatDoor
