/-
  Contracts and laws: NearSm.
-/
import Derived.Test.YtjmopgepnndckaaGreatDoorS47
set_option linter.unusedSimpArgs false
set_option linter.unusedVariables false
namespace Go.Proofs.YtjmopgepnndckaaGreatDoor
open Go Go.RowKit
theorem cmpQ_zero {a b : Rat} : cmpQ a b = 0 ↔ a = b := by
 unfold cmpQ
 by_cases h1 : a < b
 ·rw [if_pos h1]
  exact ⟨fun h => absurd h (by omega), fun h => by rw [h] at h1; exact absurd h1 Rat.lt_irrefl⟩
 ·rw [if_neg h1]
  by_cases h2 : b < a
  ·rw [if_pos h2]
   exact ⟨fun h => absurd h (by omega), fun h => by rw [h] at h2; exact absurd h2 Rat.lt_irrefl⟩
  ·rw [if_neg h2]
   exact ⟨fun _ => by grind, fun _ => rfl⟩
theorem gq_all {l l' : List Rat} {L : Nat} (h1 : l.length = L) (h2 : l'.length = L) (h : ∀ j, j < L → gq l j = gq l' j) : l = l' := by
 apply List.ext_getElem (by omega)
 intro i hi hi'
 have := h i (by omega)
 unfold gq at this
 rw [List.getElem?_eq_getElem hi, List.getElem?_eq_getElem hi'] at this
 exact this
set_option maxHeartbeats 8000000 in
set_option maxRecDepth 100000 in
theorem slices_CompareQ (A B : Option Addr) (l l' : List Rat) (L c d : Nat) (hl : l.length = L) (hl' : l'.length = L) (hL : L ≤ 1000) (s : Nat) (hs : ∀ x ∈ l, qs x ≤ s) (hs' : ∀ x ∈ l', qs x ≤ s) (hBz : 2 * s + 1 ≤ BIG) (w : World) (h : Lq w A l) (h' : Lq w B l') :
  Calls Tryz.prog 109 #[.slice A L c, .slice B L d, .func (.func 45) #[] #[]] w (RetY (fun z : Int => .int .i64 z) (fun z _ => z = 0 ↔ l = l') w) := by
 have hat : ∀ i, i < L → ∃ ba oa bb ob, A = some ⟨ba, oa, none⟩ ∧ B = some ⟨bb, ob, none⟩ ∧ (∀ W, Grow w W → Cq W ba (oa + i * 5) (gq l i) ∧ Cq W bb (ob + i * 5) (gq l' i)) ∧ ∀ W, Calls Tryz.prog 45 #[qV (gq l i), qV (gq l' i)] W fun e w' => e = .returned (.int .i64 (cmpQ (gq l i) (gq l' i))) ∧ Grow W w' := fun i hi => by
  obtain ⟨ba, oa, e1⟩ := h.addr (by omega)
  obtain ⟨bb, ob, e2⟩ := h'.addr (by omega)
  subst e1 e2
  refine ⟨ba, oa, bb, ob, rfl, rfl, fun W hg => ⟨(h.grow hg).read (by omega), (h'.grow hg).read (by omega)⟩, fun W => frac_Cmp _ _ W ?_⟩
  have h1 := hs _ (gq_mem (l := l) (i := i) (by omega))
  have h2 := hs' _ (gq_mem (l := l') (i := i) (by omega))
  omega
 have hall := fun h => gq_all hl hl' h
 have hne : ∀ i, gq l i ≠ gq l' i → l ≠ l' := fun i h e => h (by rw [e])
 have Hat := Lib.hid hat
 have Hall := Lib.hid hall
 have Hne := Lib.hid hne
 clear hat hall hne h h' hs hs' hl hl' hBz
 go_enter Tryz.func109, Tryz.ntmps109
 refine en0 ?_
 intro u hG hB hF
 refine wp_seq ?_
 refine r0T ?_
 refine wp_block ?_
 clear hB hF
 go_loopw [13] (fun s0 wr => ∃ i : Nat, i ≤ L ∧ s0 = .int .i64 i ∧ (∀ j, j < i → gq l j = gq l' j) ∧ Grow w wr) (fun s0 _ => L - (intOf s0).toNat)
 case atStart => exact ⟨0, Nat.zero_le _, rfl, fun j hj => absurd hj (Nat.not_lt_zero _), hG⟩
 case round =>
  clear hG
  obtain ⟨i, hi, rfl, heq, hG⟩ := hrel
  obtain ⟨u, rfl⟩ : ∃ x, x = wr := ⟨_, rfl⟩
  have hB := Bx.nil u
  have hF := Fr.nil w
  have Heq := Lib.hid heq
  clear heq
  rcases Nat.lt_or_ge i L with hlt | hge
  ·have hdec : decide ((i : Int) < (L : Int)) = true := by simp; omega
   have hiL : (i : Int) < (L : Int) := by omega
   have hge : decide ((L : Int) ≤ (i : Int)) = false := by simp; omega
   have hgen : decide (L ≤ i) = false := by simp; omega
   obtain ⟨ba, oa, bb, ob, rfl, rfl, hrd, hcm⟩ := Hat.out i hlt
   have hz := @cmpQ_zero (gq l i) (gq l' i)
   obtain ⟨x, hx⟩ : ∃ x, x = gq l i := ⟨_, rfl⟩
   obtain ⟨y, hy⟩ : ∃ y, y = gq l' i := ⟨_, rfl⟩
   rw [← hx, ← hy] at hz
   simp only [← hx, ← hy] at hrd hcm
   obtain ⟨P, hP⟩ : ∃ P, P = cmpQ x y := ⟨_, rfl⟩
   rw [← hP] at hz
   simp only [← hP] at hcm
   have Hrd := Lib.hid hrd
   have Hcm := Lib.hid hcm
   have Hxy := Lib.hid (And.intro hx hy)
   clear hrd hcm hP hx hy
   by_cases hP0 : P = 0
   ·have fP : (P != 0) = false := by simp [hP0]
    have Hz := Lib.hid (hz.1 hP0)
    clear hP0 hz
    refine r0T ?_
    refine wp_seq ?_
    refine wp_cond_true (rfl) ?_
    refine wp_skip ?_
    refine then_norm ?_
    refine wp_seq ?_
    refine wp_block ?_
    refine wp_seq (rsC allocs [0, 0, 0, 2, 0] hB hG fun K L hN hL => ?_)
    repeat first | refine gya ?_ | refine gyr ?_ | refine gna ?_ | refine gyb (by (rintro v ⟨hgu, hB, hG, -⟩ N hN; have r := hB.r; simp only [BxR] at r; obtain ⟨⟨c1, c2, c3, c4, c5⟩, d1, d2, d3, d4, d5⟩ := Hrd.out v hG; go_simp; exact hN)) ?_
    refine gaa (newObj_Q _ _ _ _ _) fun b8 hb8 hn8 => ?_
    refine gs ?_
    replace hF := hF.n1 [] hB hG hb8 hn8
    refine geC hL ?_
    clear hB hG hL L
    rintro u ⟨⟨-, hB, hG, -⟩, h8⟩
    replace hB := hB.cons' h8
    clear h8
    clear hb8 hn8
    refine gtT ?_
    clear hN K
    refine st hB hF hG 0 0 [_, _, _, _, _] ?_
    clear hB hG
    intro u hB hG
    refine wp_seq ?_
    refine r0T ?_
    refine wp_cond_false (rfl) ?_
    refine wp_skip ?_
    refine then_norm ?_
    refine wp_seq (rsC allocs [0, 0, 0, 0, 2] hB hG fun K L hN hL => ?_)
    repeat first | refine gya ?_ | refine gyr ?_ | refine gna ?_ | refine gyb (by (rintro v ⟨hgu, hB, hG, -⟩ N hN; have r := hB.r; simp only [BxR] at r; obtain ⟨⟨c1, c2, c3, c4, c5⟩, d1, d2, d3, d4, d5⟩ := Hrd.out v hG; go_simp; exact hN)) ?_
    refine gaa (newObj_Q _ _ _ _ _) fun b9 hb9 hn9 => ?_
    replace hF := hF.n1 [] hB hG hb9 hn9
    refine geC hL ?_
    clear hB hG hL L
    rintro u ⟨⟨-, hB, hG, -⟩, h9⟩
    replace hB := hB.cons' h9
    clear h9
    clear hb9 hn9
    refine gtT ?_
    clear hN K
    refine st hB hF hG 0 0 [_, _, _, _, _] ?_
    clear hB hG
    intro u hB hG
    refine wp_seq (rsE allocs [0, 0, 0, 1, 0] hB hG fun L hL => ?_)
    repeat first | refine gya ?_ | refine gyr ?_ | refine gna ?_ | refine gyb (by (rintro v ⟨hgu, hB, hG, -⟩ N hN; have r := hB.r; simp only [BxR] at r; obtain ⟨⟨c1, c2, c3, c4, c5⟩, d1, d2, d3, d4, d5⟩ := Hrd.out v hG; go_simp; exact hN)) ?_
    refine gmw (C := fun v => Hcm.out _) ?_
    refine gs ?_
    refine geT hL ?_
    clear hB hG hL L
    rintro u ⟨-, hB, hG, -⟩
    refine r0T ?_
    refine wp_cond_false (rfl) ?_
    refine wp_skip ?_
    refine blk_norm ?_
    refine then_norm ?_
    refine r0E ?_
    refine then_norm ?_
    go_roundw
    case rel => exact ⟨i + 1, by omega, by go_num, fun j hj => by
     rcases Nat.lt_or_ge j i with h | h
     ·exact Heq.out j h
     ·obtain rfl : j = i := by omega
      rw [← Hxy.out.1, ← Hxy.out.2]
      exact Hz.out, hG⟩
    case measure => simp [intOf]; omega
   ·have fP : (P != 0) = true := by simp [hP0]
    have Hz := Lib.hid (show P ≠ 0 ∧ x ≠ y from ⟨hP0, fun e => hP0 (hz.2 e)⟩)
    clear hP0 hz
    refine r0T ?_
    refine wp_seq ?_
    refine wp_cond_true (rfl) ?_
    refine wp_skip ?_
    refine then_norm ?_
    refine wp_seq ?_
    refine wp_block ?_
    refine wp_seq (rsC allocs [0, 0, 0, 2, 0] hB hG fun K L hN hL => ?_)
    repeat first | refine gya ?_ | refine gyr ?_ | refine gna ?_ | refine gyb (by (rintro v ⟨hgu, hB, hG, -⟩ N hN; have r := hB.r; simp only [BxR] at r; obtain ⟨⟨c1, c2, c3, c4, c5⟩, d1, d2, d3, d4, d5⟩ := Hrd.out v hG; go_simp; exact hN)) ?_
    refine gaa (newObj_Q _ _ _ _ _) fun b8 hb8 hn8 => ?_
    refine gs ?_
    replace hF := hF.n1 [] hB hG hb8 hn8
    refine geC hL ?_
    clear hB hG hL L
    rintro u ⟨⟨-, hB, hG, -⟩, h8⟩
    replace hB := hB.cons' h8
    clear h8
    clear hb8 hn8
    refine gtT ?_
    clear hN K
    refine st hB hF hG 0 0 [_, _, _, _, _] ?_
    clear hB hG
    intro u hB hG
    refine wp_seq ?_
    refine r0T ?_
    refine wp_cond_false (rfl) ?_
    refine wp_skip ?_
    refine then_norm ?_
    refine wp_seq (rsC allocs [0, 0, 0, 0, 2] hB hG fun K L hN hL => ?_)
    repeat first | refine gya ?_ | refine gyr ?_ | refine gna ?_ | refine gyb (by (rintro v ⟨hgu, hB, hG, -⟩ N hN; have r := hB.r; simp only [BxR] at r; obtain ⟨⟨c1, c2, c3, c4, c5⟩, d1, d2, d3, d4, d5⟩ := Hrd.out v hG; go_simp; exact hN)) ?_
    refine gaa (newObj_Q _ _ _ _ _) fun b9 hb9 hn9 => ?_
    replace hF := hF.n1 [] hB hG hb9 hn9
    refine geC hL ?_
    clear hB hG hL L
    rintro u ⟨⟨-, hB, hG, -⟩, h9⟩
    replace hB := hB.cons' h9
    clear h9
    clear hb9 hn9
    refine gtT ?_
    clear hN K
    refine st hB hF hG 0 0 [_, _, _, _, _] ?_
    clear hB hG
    intro u hB hG
    refine wp_seq (rsE allocs [0, 0, 0, 1, 0] hB hG fun L hL => ?_)
    repeat first | refine gya ?_ | refine gyr ?_ | refine gna ?_ | refine gyb (by (rintro v ⟨hgu, hB, hG, -⟩ N hN; have r := hB.r; simp only [BxR] at r; obtain ⟨⟨c1, c2, c3, c4, c5⟩, d1, d2, d3, d4, d5⟩ := Hrd.out v hG; go_simp; exact hN)) ?_
    refine gmw (C := fun v => Hcm.out _) ?_
    refine gs ?_
    refine geT hL ?_
    clear hB hG hL L
    rintro u ⟨-, hB, hG, -⟩
    refine r0T ?_
    refine wp_cond_true (rfl) ?_
    refine r0T ?_
    refine rt Tryz.results109 ?_
    exact ⟨P, rfl, ⟨fun e => absurd e Hz.out.1, fun e => absurd e (Hne.out i (by rw [← Hxy.out.1, ← Hxy.out.2]; exact Hz.out.2))⟩, hG⟩
  ·obtain rfl : L = i := by omega
   have hdec : decide ((L : Int) < (L : Int)) = false := by simp
   refine r0T ?_
   refine wp_seq ?_
   refine wp_cond_false (rfl) ?_
   refine wp_exit ?_
   refine then_exit ?_
   refine then_exit ?_
   refine blk_exit ?_
   refine then_norm ?_
   refine wp_seq ?_
   refine r0T ?_
   refine wp_cond_false (rfl) ?_
   refine wp_skip ?_
   refine then_norm ?_
   refine r0T ?_
   refine rt Tryz.results109 ?_
   exact ⟨0, rfl, ⟨fun _ => Hall.out Heq.out, fun _ => rfl⟩, hG⟩
set_option maxHeartbeats 1000000 in
set_option maxRecDepth 100000 in
theorem frac_SameQ (A B : Option Addr) (l l' : List Rat) (L c d : Nat) (hl : l.length = L) (hl' : l'.length = L) (hL : L ≤ 1000) (s : Nat) (hs : ∀ x ∈ l, qs x ≤ s) (hs' : ∀ x ∈ l', qs x ≤ s) (hBz : 2 * s + 1 ≤ BIG) (w : World) (h : Lq w A l) (h' : Lq w B l') :
  Calls Tryz.prog 69 #[.slice A L c, .slice B L d] w fun e w' => e = .returned (.bool (decide (l = l'))) ∧ Grow w w' := by
 have hc := fun W (hg : Grow w W) => slices_CompareQ A B l l' L c d hl hl' hL s hs hs' hBz W (h.grow hg) (h'.grow hg)
 obtain ⟨E, hE⟩ : ∃ E : Prop, E = (l = l') := ⟨_, rfl⟩
 obtain ⟨b, hb⟩ : ∃ b, b = decide (l = l') := ⟨_, rfl⟩
 have hz : ∀ z : Int, (z = 0 ↔ l = l') → (z == 0) = b := fun z h => by
  rw [hb]
  by_cases h0 : z = 0
  ·simp [h0, h.1 h0]
  ·have : ¬ l = l' := fun e => h0 (h.2 e)
   simp [h0, this]
 rw [← hb]
 have Hc := Lib.hid hc
 have Hz := Lib.hid hz
 clear hc hz hb hE h h' hs hs' hl hl' hBz
 go_enter Tryz.func69, Tryz.ntmps69
 refine en0 ?_
 intro u hG hB hF
 refine wp_seq (rsE allocs [0, 0, 1, 0, 0] hB hG fun L hL => ?_)
 refine gs ?_
 refine gxd (X := Int) (fun z : Int => .int .i64 z) (fun z _ => (z == 0) = b) (fun _ _ _ _ h => h) (fun x7 => ?_) (C := by (rintro v ⟨hgu, hB, hG, -⟩; exact (Hc.out _ hG).mono (fun e w' ⟨z, g1, g2, g3⟩ => ⟨z, g1, Hz.out z g2, g3⟩)))
 refine gs ?_
 refine geT hL ?_
 clear hB hG hL L
 rintro u ⟨⟨-, hB, hG, -⟩, hx7⟩
 refine rt Tryz.results69 ?_
 exact ⟨rfl, hG⟩
set_option maxHeartbeats 8000000 in
set_option maxRecDepth 100000 in
theorem slices_EqualRows (A B : Option Addr) (rs rs' : List Rq) (n L c d : Nat) (hn : rs.length = n) (hn' : rs'.length = n) (hnn : n ≤ 300) (hrl : ∀ r ∈ rs, r.2.2.length = L) (hrl' : ∀ r ∈ rs', r.2.2.length = L) (hL : L ≤ 20) (s : Nat) (hs : ∀ r ∈ rs, ∀ x ∈ r.2.2, qs x ≤ s) (hs' : ∀ r ∈ rs', ∀ x ∈ r.2.2, qs x ≤ s) (hBz : 2 * s + 1 ≤ BIG) (w : World) (h : Lrq w A rs) (h' : Lrq w B rs') :
  Calls Tryz.prog 68 #[.slice A n c, .slice B n d, .func (.func 69) #[] #[]] w fun e w' => e = .returned (.bool (decide (rs.map (·.2.2) = rs'.map (·.2.2)))) ∧ Grow w w' := by
 have hat : ∀ i, i < n → ∃ (ba oa bb ob : Nat) (P1 P2 : Ax) (b : Bool), A = some ⟨ba, oa, none⟩ ∧ B = some ⟨bb, ob, none⟩ ∧ (∀ W, Grow w W → W.cell? ⟨ba, oa + i, none⟩ = some (.slice P1.1 L P1.2) ∧ W.cell? ⟨bb, ob + i, none⟩ = some (.slice P2.1 L P2.2)) ∧ b = decide ((rs.map (·.2.2))[i]? = (rs'.map (·.2.2))[i]?) ∧ ∀ W, Grow w W → Calls Tryz.prog 69 #[.slice P1.1 L P1.2, .slice P2.1 L P2.2] W fun e w' => e = .returned (.bool b) ∧ Grow W w' := fun i hi => by
  obtain ⟨ba, oa, e1⟩ := h.addr (by omega)
  obtain ⟨bb, ob, e2⟩ := h'.addr (by omega)
  subst e1 e2
  have hi1 : i < rs.length := by omega
  have hi2 : i < rs'.length := by omega
  have l1 := hrl _ (List.getElem_mem hi1)
  have l2 := hrl' _ (List.getElem_mem hi2)
  refine ⟨ba, oa, bb, ob, (rs[i].1, rs[i].2.1), (rs'[i].1, rs'[i].2.1), _, rfl, rfl, fun W hg => ?_, rfl, fun W hg => ?_⟩
  ·have g1 := ((h.grow hg).read (List.getElem?_eq_getElem hi1)).1
   have g2 := ((h'.grow hg).read (List.getElem?_eq_getElem hi2)).1
   rw [l1] at g1
   rw [l2] at g2
   exact ⟨g1, g2⟩
  ·have g := frac_SameQ rs[i].1 rs'[i].1 rs[i].2.2 rs'[i].2.2 L rs[i].2.1 rs'[i].2.1 l1 l2 (by omega) s (hs _ (List.getElem_mem hi1)) (hs' _ (List.getElem_mem hi2)) hBz W ((h.grow hg).read (List.getElem?_eq_getElem hi1)).2 ((h'.grow hg).read (List.getElem?_eq_getElem hi2)).2
   have e : decide ((rs.map (·.2.2))[i]? = (rs'.map (·.2.2))[i]?) = decide (rs[i].2.2 = rs'[i].2.2) := by
    rw [List.getElem?_map, List.getElem?_map, List.getElem?_eq_getElem hi1, List.getElem?_eq_getElem hi2]
    simp
   rw [e]
   exact g
 obtain ⟨X, hX⟩ : ∃ X, X = rs.map (·.2.2) := ⟨_, rfl⟩
 obtain ⟨Y, hY⟩ : ∃ Y, Y = rs'.map (·.2.2) := ⟨_, rfl⟩
 have hXl : X.length = n := by rw [hX, List.length_map, hn]
 have hYl : Y.length = n := by rw [hY, List.length_map, hn']
 rw [← hX, ← hY]
 simp only [← hX, ← hY] at hat
 have hyes : (∀ j, j < n → X[j]? = Y[j]?) → decide (X = Y) = true := fun h => decide_eq_true (List.ext_getElem? fun j => by
  rcases Nat.lt_or_ge j n with hj | hj
  ·exact h j hj
  ·rw [List.getElem?_eq_none (by omega), List.getElem?_eq_none (by omega)])
 have hno : ∀ j : Nat, X[j]? ≠ Y[j]? → decide (X = Y) = false := fun j h => decide_eq_false fun e => h (by rw [e])
 obtain ⟨R, hR⟩ : ∃ b, b = decide (X = Y) := ⟨_, rfl⟩
 rw [← hR] at hyes ⊢
 simp only [← hR] at hno
 have fnn : ((n : Int) != (n : Int)) = false := by simp
 have Hat := Lib.hid hat
 have Hyes := Lib.hid hyes
 have Hno := Lib.hid hno
 clear hat hyes hno hR hX hY hXl hYl h h' hs hs' hrl hrl' hn hn' hBz
 go_enter Tryz.func68, Tryz.ntmps68
 refine en0 ?_
 intro u hG hB hF
 refine wp_seq ?_
 refine r0T ?_
 refine wp_cond_false (rfl) ?_
 refine wp_skip ?_
 refine then_norm ?_
 refine wp_seq ?_
 refine r0T ?_
 refine wp_block ?_
 clear hB hF
 go_loopw [17] (fun s0 wr => ∃ i : Nat, i ≤ n ∧ s0 = .int .i64 i ∧ (∀ j, j < i → X[j]? = Y[j]?) ∧ Grow w wr) (fun s0 _ => n - (intOf s0).toNat)
 case atStart => exact ⟨0, Nat.zero_le _, rfl, fun j hj => absurd hj (Nat.not_lt_zero _), hG⟩
 case round =>
  clear hG
  obtain ⟨i, hi, rfl, heq, hG⟩ := hrel
  obtain ⟨u, rfl⟩ : ∃ x, x = wr := ⟨_, rfl⟩
  have hB := Bx.nil u
  have hF := Fr.nil w
  have Heq := Lib.hid heq
  clear heq
  rcases Nat.lt_or_ge i n with hlt | hge
  ·have hdec : decide ((i : Int) < (n : Int)) = true := by simp; omega
   have hin : (i : Int) < (n : Int) := by omega
   obtain ⟨ba, oa, bb, ob, P1, P2, b, rfl, rfl, hrd, hb, hsm⟩ := Hat.out i hlt
   have Hrd := Lib.hid hrd
   have Hsm := Lib.hid hsm
   clear hrd hsm
   cases b with
   | true =>
    have Hz := Lib.hid (of_decide_eq_true hb.symm)
    clear hb
    refine r0T ?_
    refine wp_seq ?_
    refine wp_cond_true (rfl) ?_
    refine wp_skip ?_
    refine then_norm ?_
    refine wp_seq ?_
    refine wp_block ?_
    refine wp_seq ?_
    obtain ⟨c1, c2⟩ := Hrd.out u hG
    refine r0N ?_
    refine wp_seq ?_
    obtain ⟨c1, c2⟩ := Hrd.out u hG
    refine r0N ?_
    refine wp_seq (rsE allocs [0, 0, 0, 1, 0] hB hG fun L hL => ?_)
    refine gs ?_
    refine gmd (C := fun v ⟨hgu, hB, hG, _⟩ => Hsm.out _ hG) ?_
    refine gs ?_
    refine geT hL ?_
    clear hB hG hL L
    rintro u ⟨-, hB, hG, -⟩
    refine wp_cond_false (rfl) ?_
    refine wp_skip ?_
    refine blk_norm ?_
    refine then_norm ?_
    refine r0E ?_
    refine then_norm ?_
    go_roundw
    case rel => exact ⟨i + 1, by omega, by go_num, fun j hj => by
     rcases Nat.lt_or_ge j i with h | h
     ·exact Heq.out j h
     ·obtain rfl : j = i := by omega
      exact Hz.out, hG⟩
    case measure => simp [intOf]; omega
   | false =>
    have Hz := Lib.hid (of_decide_eq_false hb.symm)
    clear hb
    refine r0T ?_
    refine wp_seq ?_
    refine wp_cond_true (rfl) ?_
    refine wp_skip ?_
    refine then_norm ?_
    refine wp_seq ?_
    refine wp_block ?_
    refine wp_seq ?_
    obtain ⟨c1, c2⟩ := Hrd.out u hG
    refine r0N ?_
    refine wp_seq ?_
    obtain ⟨c1, c2⟩ := Hrd.out u hG
    refine r0N ?_
    refine wp_seq (rsE allocs [0, 0, 0, 1, 0] hB hG fun L hL => ?_)
    refine gs ?_
    refine gmd (C := fun v ⟨hgu, hB, hG, _⟩ => Hsm.out _ hG) ?_
    refine gs ?_
    refine geT hL ?_
    clear hB hG hL L
    rintro u ⟨-, hB, hG, -⟩
    refine wp_cond_true (rfl) ?_
    refine r0T ?_
    refine rt Tryz.results68 ?_
    exact ⟨by rw [Hno.out i Hz.out], hG⟩
  ·obtain rfl : n = i := by omega
   have hdec : decide ((n : Int) < (n : Int)) = false := by simp
   refine r0T ?_
   refine wp_seq ?_
   refine wp_cond_false (rfl) ?_
   refine wp_exit ?_
   refine then_exit ?_
   refine then_exit ?_
   refine blk_exit ?_
   refine then_norm ?_
   refine r0T ?_
   refine rt Tryz.results68 ?_
   exact ⟨by rw [Hyes.out Heq.out], hG⟩
set_option maxHeartbeats 8000000 in
set_option maxRecDepth 100000 in
theorem slices_EqualNodes (A B : Option Addr) (ns ns' : List NdT) (n c d : Nat) (hn : ns.length = n) (hn' : ns'.length = n) (hnn : n ≤ 300) (w : World) (h : Le ndL 4 w A ns) (h' : Le ndL 4 w B ns') :
  Calls Tryz.prog 70 #[.slice A n c, .slice B n d] w fun e w' => e = .returned (.bool (decide (ns = ns'))) ∧ Grow w w' := by
 have hat : ∀ i, i < n → ∃ (ba oa bb ob : Nat) (xr xc xl xt yr yc yl yt : Int), A = some ⟨ba, oa, none⟩ ∧ B = some ⟨bb, ob, none⟩ ∧ ns[i]? = some ⟨xr, xc, xl, xt⟩ ∧ ns'[i]? = some ⟨yr, yc, yl, yt⟩ ∧ ∀ W, Grow w W → (W.cell? ⟨ba, oa + i * 4, none⟩ = some (.int .i64 xr) ∧ W.cell? ⟨ba, oa + i * 4 + 1, none⟩ = some (.int .i64 xc) ∧ W.cell? ⟨ba, oa + i * 4 + 2, none⟩ = some (.int .i64 xl) ∧ W.cell? ⟨ba, oa + i * 4 + 3, none⟩ = some (.int .i64 xt)) ∧ (W.cell? ⟨bb, ob + i * 4, none⟩ = some (.int .i64 yr) ∧ W.cell? ⟨bb, ob + i * 4 + 1, none⟩ = some (.int .i64 yc) ∧ W.cell? ⟨bb, ob + i * 4 + 2, none⟩ = some (.int .i64 yl) ∧ W.cell? ⟨bb, ob + i * 4 + 3, none⟩ = some (.int .i64 yt)) := fun i hi => by
  have hi1 : i < ns.length := by omega
  have hi2 : i < ns'.length := by omega
  obtain ⟨ba, oa, e1, r1⟩ := h.at hi1
  obtain ⟨bb, ob, e2, r2⟩ := h'.at hi2
  exact ⟨ba, oa, bb, ob, ns[i].r, ns[i].c, ns[i].l, ns[i].t, ns'[i].r, ns'[i].c, ns'[i].l, ns'[i].t, e1, e2, List.getElem?_eq_getElem hi1, List.getElem?_eq_getElem hi2, fun W hg => ⟨⟨r1 W hg 0 _ rfl, r1 W hg 1 _ rfl, r1 W hg 2 _ rfl, r1 W hg 3 _ rfl⟩, r2 W hg 0 _ rfl, r2 W hg 1 _ rfl, r2 W hg 2 _ rfl, r2 W hg 3 _ rfl⟩⟩
 have hyes : (∀ j : Nat, j < n → ns[j]? = ns'[j]?) → decide (ns = ns') = true := fun h => decide_eq_true (List.ext_getElem? fun j => by
  rcases Nat.lt_or_ge j n with hj | hj
  ·exact h j hj
  ·rw [List.getElem?_eq_none (by omega), List.getElem?_eq_none (by omega)])
 have hno : ∀ j : Nat, ns[j]? ≠ ns'[j]? → decide (ns = ns') = false := fun j h => decide_eq_false fun e => h (by rw [e])
 obtain ⟨R, hR⟩ : ∃ b, b = decide (ns = ns') := ⟨_, rfl⟩
 rw [← hR] at hyes ⊢
 simp only [← hR] at hno
 have fnn : ((n : Int) != (n : Int)) = false := by simp
 have Hat := Lib.hid hat
 have Hyes := Lib.hid hyes
 have Hno := Lib.hid hno
 clear hat hyes hno hR h h' hn hn'
 go_enter Tryz.func70, Tryz.ntmps70
 refine en0 ?_
 intro u hG hB hF
 refine wp_seq ?_
 refine r0T ?_
 refine wp_cond_false (rfl) ?_
 refine wp_skip ?_
 refine then_norm ?_
 refine wp_seq ?_
 refine r0T ?_
 refine wp_block ?_
 clear hB hF
 go_loopw [13] (fun s0 wr => ∃ i : Nat, i ≤ n ∧ s0 = .int .i64 i ∧ (∀ j : Nat, j < i → ns[j]? = ns'[j]?) ∧ Grow w wr) (fun s0 _ => n - (intOf s0).toNat)
 case atStart => exact ⟨0, Nat.zero_le _, rfl, fun j hj => absurd hj (Nat.not_lt_zero _), hG⟩
 case round =>
  clear hG
  obtain ⟨i, hi, rfl, heq, hG⟩ := hrel
  obtain ⟨u, rfl⟩ : ∃ x, x = wr := ⟨_, rfl⟩
  have hB := Bx.nil u
  have hF := Fr.nil w
  have Heq := Lib.hid heq
  clear heq
  rcases Nat.lt_or_ge i n with hlt | hge
  ·have hdec : decide ((i : Int) < (n : Int)) = true := by simp; omega
   have hin : (i : Int) < (n : Int) := by omega
   obtain ⟨ba, oa, bb, ob, xr, xc, xl, xt, yr, yc, yl, yt, rfl, rfl, h1, h2, hrd⟩ := Hat.out i hlt
   have Hrd := Lib.hid hrd
   clear hrd
   by_cases er : xr = yr
   ·have fr : (xr == yr) = true := by simp [er]
    by_cases ec : xc = yc
    ·have fc : (xc == yc) = true := by simp [ec]
     by_cases el : xl = yl
     ·have fl : (xl == yl) = true := by simp [el]
      by_cases et : xt = yt
      ·have ft : (xt == yt) = true := by simp [et]
       have Hz := Lib.hid (show ns[i]? = ns'[i]? by rw [h1, h2, er, ec, el, et])
       clear er ec el et h1 h2
       refine r0T ?_
       refine wp_seq ?_
       refine wp_cond_true (rfl) ?_
       refine wp_skip ?_
       refine then_norm ?_
       refine wp_seq ?_
       refine wp_block ?_
       refine r0T ?_
       refine wp_seq (rdC allocs [] [(0, 0), (0, 1), (0, 2), (0, 3), (0, 4), (0, 5), (0, 6), (0, 7)] hB hG fun K L hN hL => ?_)
       repeat first | refine gya ?_ | refine gyr ?_ | refine gna ?_ | refine gyb (by (rintro v ⟨hgu, hB, hG, -⟩ N hN; have r := hB.r; simp only [BxR] at r; obtain ⟨⟨c1, c2, c3, c4⟩, d1, d2, d3, d4⟩ := Hrd.out v hG; go_simp; exact hN)) ?_
       refine geC hL ?_
       clear hB hG hL L
       rintro u ⟨-, hB, hG, -⟩
       refine gtT ?_
       clear hN K
       refine wp_cond_false (rfl) ?_
       refine wp_skip ?_
       refine blk_norm ?_
       refine then_norm ?_
       refine r0E ?_
       refine then_norm ?_
       go_roundw
       case rel => exact ⟨i + 1, by omega, by go_num, fun j hj => by
        rcases Nat.lt_or_ge j i with h | h
        ·exact Heq.out j h
        ·obtain rfl : j = i := by omega
         exact Hz.out, hG⟩
       case measure => simp [intOf]; omega
      ·have ft : (xt == yt) = false := by simp [et]
       have Hz := Lib.hid (show ns[i]? ≠ ns'[i]? by rw [h1, h2]; intro h; injection h with h; injection h with g1 g2 g3 g4; exact et g4)
       clear er ec el et h1 h2
       refine r0T ?_
       refine wp_seq ?_
       refine wp_cond_true (rfl) ?_
       refine wp_skip ?_
       refine then_norm ?_
       refine wp_seq ?_
       refine wp_block ?_
       refine r0T ?_
       refine wp_seq (rdC allocs [] [(0, 0), (0, 1), (0, 2), (0, 3), (0, 4), (0, 5), (0, 6), (0, 7)] hB hG fun K L hN hL => ?_)
       repeat first | refine gya ?_ | refine gyr ?_ | refine gna ?_ | refine gyb (by (rintro v ⟨hgu, hB, hG, -⟩ N hN; have r := hB.r; simp only [BxR] at r; obtain ⟨⟨c1, c2, c3, c4⟩, d1, d2, d3, d4⟩ := Hrd.out v hG; go_simp; exact hN)) ?_
       refine geC hL ?_
       clear hB hG hL L
       rintro u ⟨-, hB, hG, -⟩
       refine gtT ?_
       clear hN K
       refine wp_cond_true (rfl) ?_
       refine r0T ?_
       refine rt Tryz.results70 ?_
       exact ⟨by rw [Hno.out i Hz.out], hG⟩
     ·have fl : (xl == yl) = false := by simp [el]
      have Hz := Lib.hid (show ns[i]? ≠ ns'[i]? by rw [h1, h2]; intro h; injection h with h; injection h with g1 g2 g3 g4; exact el g3)
      clear er ec el h1 h2
      refine r0T ?_
      refine wp_seq ?_
      refine wp_cond_true (rfl) ?_
      refine wp_skip ?_
      refine then_norm ?_
      refine wp_seq ?_
      refine wp_block ?_
      refine r0T ?_
      refine wp_seq (rdC allocs [] [(0, 0), (0, 1), (0, 2), (0, 3), (0, 4), (0, 5), (0, 6), (0, 7)] hB hG fun K L hN hL => ?_)
      repeat first | refine gya ?_ | refine gyr ?_ | refine gna ?_ | refine gyb (by (rintro v ⟨hgu, hB, hG, -⟩ N hN; have r := hB.r; simp only [BxR] at r; obtain ⟨⟨c1, c2, c3, c4⟩, d1, d2, d3, d4⟩ := Hrd.out v hG; go_simp; exact hN)) ?_
      refine geC hL ?_
      clear hB hG hL L
      rintro u ⟨-, hB, hG, -⟩
      refine gtT ?_
      clear hN K
      refine wp_cond_true (rfl) ?_
      refine r0T ?_
      refine rt Tryz.results70 ?_
      exact ⟨by rw [Hno.out i Hz.out], hG⟩
    ·have fc : (xc == yc) = false := by simp [ec]
     have Hz := Lib.hid (show ns[i]? ≠ ns'[i]? by rw [h1, h2]; intro h; injection h with h; injection h with g1 g2 g3 g4; exact ec g2)
     clear er ec h1 h2
     refine r0T ?_
     refine wp_seq ?_
     refine wp_cond_true (rfl) ?_
     refine wp_skip ?_
     refine then_norm ?_
     refine wp_seq ?_
     refine wp_block ?_
     refine r0T ?_
     refine wp_seq (rdC allocs [] [(0, 0), (0, 1), (0, 2), (0, 3), (0, 4), (0, 5), (0, 6), (0, 7)] hB hG fun K L hN hL => ?_)
     repeat first | refine gya ?_ | refine gyr ?_ | refine gna ?_ | refine gyb (by (rintro v ⟨hgu, hB, hG, -⟩ N hN; have r := hB.r; simp only [BxR] at r; obtain ⟨⟨c1, c2, c3, c4⟩, d1, d2, d3, d4⟩ := Hrd.out v hG; go_simp; exact hN)) ?_
     refine geC hL ?_
     clear hB hG hL L
     rintro u ⟨-, hB, hG, -⟩
     refine gtT ?_
     clear hN K
     refine wp_cond_true (rfl) ?_
     refine r0T ?_
     refine rt Tryz.results70 ?_
     exact ⟨by rw [Hno.out i Hz.out], hG⟩
   ·have fr : (xr == yr) = false := by simp [er]
    have Hz := Lib.hid (show ns[i]? ≠ ns'[i]? by rw [h1, h2]; intro h; injection h with h; injection h with g1 g2 g3 g4; exact er g1)
    clear er h1 h2
    refine r0T ?_
    refine wp_seq ?_
    refine wp_cond_true (rfl) ?_
    refine wp_skip ?_
    refine then_norm ?_
    refine wp_seq ?_
    refine wp_block ?_
    refine r0T ?_
    refine wp_seq (rdC allocs [] [(0, 0), (0, 1), (0, 2), (0, 3), (0, 4), (0, 5), (0, 6), (0, 7)] hB hG fun K L hN hL => ?_)
    repeat first | refine gya ?_ | refine gyr ?_ | refine gna ?_ | refine gyb (by (rintro v ⟨hgu, hB, hG, -⟩ N hN; have r := hB.r; simp only [BxR] at r; obtain ⟨⟨c1, c2, c3, c4⟩, d1, d2, d3, d4⟩ := Hrd.out v hG; go_simp; exact hN)) ?_
    refine geC hL ?_
    clear hB hG hL L
    rintro u ⟨-, hB, hG, -⟩
    refine gtT ?_
    clear hN K
    refine wp_cond_true (rfl) ?_
    refine r0T ?_
    refine rt Tryz.results70 ?_
    exact ⟨by rw [Hno.out i Hz.out], hG⟩
  ·obtain rfl : n = i := by omega
   have hdec : decide ((n : Int) < (n : Int)) = false := by simp
   refine r0T ?_
   refine wp_seq ?_
   refine wp_cond_false (rfl) ?_
   refine wp_exit ?_
   refine then_exit ?_
   refine then_exit ?_
   refine blk_exit ?_
   refine then_norm ?_
   refine r0T ?_
   refine rt Tryz.results70 ?_
   exact ⟨by rw [Hyes.out Heq.out], hG⟩
set_option maxHeartbeats 1000000 in
set_option maxRecDepth 100000 in
theorem near_Same (R1 N1 R2 N2 : Ax) (rs rs' : List Rq) (ns ns' : List NdT) (n L : Nat) (hn : rs.length = n) (hn' : rs'.length = n) (hm : ns.length = n) (hm' : ns'.length = n) (hnn : n ≤ 300) (hrl : ∀ r ∈ rs, r.2.2.length = L) (hrl' : ∀ r ∈ rs', r.2.2.length = L) (hL : L ≤ 20) (s : Nat) (hs : ∀ r ∈ rs, ∀ x ∈ r.2.2, qs x ≤ s) (hs' : ∀ r ∈ rs', ∀ x ∈ r.2.2, qs x ≤ s) (hBz : 2 * s + 1 ≤ BIG) (w : World)
  (h : Lrq w R1.1 rs) (h' : Lrq w R2.1 rs') (g : Le ndL 4 w N1.1 ns) (g' : Le ndL 4 w N2.1 ns') :
  Calls Tryz.prog 36 #[treeV R1 n N1 n, treeV R2 n N2 n] w fun e w' => e = .returned (.bool (decide (rs.map (·.2.2) = rs'.map (·.2.2)) && decide (ns = ns'))) ∧ Grow w w' := by
 have h1 := fun W (hg : Grow w W) => slices_EqualRows R1.1 R2.1 rs rs' n L R1.2 R2.2 hn hn' hnn hrl hrl' hL s hs hs' hBz W (h.grow hg) (h'.grow hg)
 have h2 := fun W (hg : Grow w W) => slices_EqualNodes N1.1 N2.1 ns ns' n N1.2 N2.2 hm hm' hnn W (g.grow hg) (g'.grow hg)
 obtain ⟨e1, he1⟩ : ∃ b, b = decide (rs.map (·.2.2) = rs'.map (·.2.2)) := ⟨_, rfl⟩
 obtain ⟨e2, he2⟩ : ∃ b, b = decide (ns = ns') := ⟨_, rfl⟩
 simp only [← he1] at h1 ⊢
 simp only [← he2] at h2 ⊢
 obtain ⟨A1, c1⟩ := R1
 obtain ⟨A2, c2⟩ := R2
 obtain ⟨A3, c3⟩ := N1
 obtain ⟨A4, c4⟩ := N2
 have H1 := Lib.hid h1
 have H2 := Lib.hid h2
 clear h1 h2 he1 he2 h h' g g' hs hs' hrl hrl' hn hn' hm hm' hBz
 go_enter Tryz.func36, Tryz.ntmps36
 refine en2 ?_
 intro u hG b3 b2 hB hF
 cases e1 with
 | false =>
  refine wp_seq (rsE allocs [0, 0, 0, 0, 1, 0, 0, 0, 0, 0, 1, 0, 0] hB hG fun L hL => ?_)
  refine gs ?_
  refine gmd (C := fun v ⟨hgu, hB, hG, _⟩ => H1.out _ hG) ?_
  refine gs ?_
  first | refine gmd (C := fun v ⟨hgu, hB, hG, _⟩ => H2.out _ hG) ?_ | refine gmna ?_
  refine gs ?_
  refine geT hL ?_
  clear hB hG hL L
  rintro u ⟨-, hB, hG, -⟩
  refine rt Tryz.results36 ?_
  exact ⟨rfl, hG⟩
 | true =>
  refine wp_seq (rsE allocs [0, 0, 0, 0, 1, 0, 0, 0, 0, 0, 1, 0, 0] hB hG fun L hL => ?_)
  refine gs ?_
  refine gmd (C := fun v ⟨hgu, hB, hG, _⟩ => H1.out _ hG) ?_
  refine gs ?_
  first | refine gmd (C := fun v ⟨hgu, hB, hG, _⟩ => H2.out _ hG) ?_ | refine gmna ?_
  refine gs ?_
  refine geT hL ?_
  clear hB hG hL L
  rintro u ⟨-, hB, hG, -⟩
  refine rt Tryz.results36 ?_
  exact ⟨rfl, hG⟩
end Go.Proofs.YtjmopgepnndckaaGreatDoor
