/-
  Contracts and laws: ScoreA.
-/
import Derived.Test.YtimjnkfcnpfoeaaGreatDoorA38
set_option linter.unusedSimpArgs false
set_option linter.unusedVariables false
namespace Go.Proofs.YtimjnkfcnpfoeaaGreatDoor
open Go.RowKit
/-- these integers lie from the address on -/
def Li (u : World) (A : Option Addr) (l : List Int) : Prop :=
 l ≠ [] → ∃ b off, A = some ⟨b, off, none⟩ ∧ b < u.heap.size ∧ ∀ i x, l[i]? = some x → u.cell? ⟨b, off + i, none⟩ = some (.int .i64 x)
theorem Li.nil (u : World) (A : Option Addr) : Li u A [] := fun h => absurd rfl h
theorem Li.grow {u u' : World} {A : Option Addr} {l : List Int} (h : Li u A l) (hg : Grow u u') : Li u' A l := fun hn => by
 obtain ⟨b, off, e, hb, hc⟩ := h hn
 exact ⟨b, off, e, Nat.lt_of_lt_of_le hb hg.size, fun i x hi => (hg.cell (p := ⟨b, off + i, none⟩) hb).trans (hc i x hi)⟩
def gi (l : List Int) (i : Nat) : Int := (l[i]?).getD 0
theorem gi_eq {l : List Int} {i : Nat} (h : i < l.length) : l[i]? = some (gi l i) := by
 unfold gi; rw [List.getElem?_eq_getElem h]; rfl
theorem Li.cell {u : World} {A : Option Addr} {l : List Int} (h : Li u A l) {i : Nat} (hi : i < l.length) : ∃ b off, A = some ⟨b, off, none⟩ ∧ u.cell? ⟨b, off + i, none⟩ = some (.int .i64 (gi l i)) := by
 obtain ⟨b, off, e, hb, hc⟩ := h (fun h0 => by rw [h0] at hi; cases hi)
 exact ⟨b, off, e, hc i _ (gi_eq hi)⟩
def pairedB (m n : Nat) : Bool := decide (m = n) && decide (0 < m)
set_option maxHeartbeats 400000 in
theorem score_paired_ii (A B : Option Addr) (m n c d : Nat) (w : World) : Calls Tryz.prog 57 #[.slice A m c, .slice B n d] w fun e w' => e = .returned (.bool (pairedB m n)) ∧ Grow w w' := by
 by_cases h : m = n
 ·subst h
  by_cases h0 : 0 < m
  ·have e : pairedB m m = true := by unfold pairedB; simp [h0]
   rw [e]
   clear e
   go_enter Tryz.func57, Tryz.ntmps57
   go_wp2_with fail
   go_ret
   exact ⟨rfl, Grow.refl _⟩
  ·have e : pairedB m m = false := by unfold pairedB; simp; omega
   rw [e]
   clear e
   go_enter Tryz.func57, Tryz.ntmps57
   go_wp2_with fail
   go_ret
   exact ⟨rfl, Grow.refl _⟩
 ·have e : pairedB m n = false := by unfold pairedB; simp [h]
  have hb : ((m : Int) == (n : Int)) = false := by simp; omega
  rw [e]
  clear e
  go_enter Tryz.func57, Tryz.ntmps57
  go_wp2_with fail
  go_ret
  exact ⟨rfl, Grow.refl _⟩
--! score_ratio = score_ratio _ _ SIDE SIDE SIDE SIDE _ (HT.grow hG)
set_option maxHeartbeats 400000 in
set_option maxRecDepth 100000 in
theorem score_ratio (n d : Int) (h0 : -9223372036854775808 ≤ n) (h1 : n ≤ 9223372036854775807) (h2 : -9223372036854775808 ≤ d) (h3 : d ≤ 9223372036854775807) (w : World) (HT : Tab w) : Calls Tryz.prog 60 #[.int .i64 n, .int .i64 d] w fun e w' => e = .returned (qV (qover n d)) ∧ Grow w w' := by
 go_enter Tryz.func60, Tryz.ntmps60
 refine en1 ?_
 intro u hG b4 hB hF
 refine wp_seq (rsC allocs [0, 0, 1, 0, 0, 0, 2] hB hG fun K L hN hL => ?_)
 refine gs ?_
 refine gmd (C := fun v ⟨hgu, hB, hG, _⟩ => frac_Over _ _ (by assumption) (by assumption) (by assumption) (by assumption) _ (HT.grow hG)) ?_
 refine gs ?_
 refine gaa (newObj_Q _ _ _ _ _) fun b5 hb5 hn5 => ?_
 replace hF := hF.n1 [] hB hG hb5 hn5
 refine geC hL ?_
 clear hB hG hL L
 rintro u ⟨⟨-, hB, hG, -⟩, h5⟩
 replace hB := hB.cons' h5
 clear h5
 clear hb5 hn5
 refine gtT ?_
 clear hN K
 refine st hB hF hG 0 0 [_, _, _, _, _] ?_
 clear hB hG
 intro u hB hG
 refine r0T ?_
 refine st hB hF hG 1 0 [_, _, _, _, _] ?_
 clear hB hG
 intro u hB hG
 refine rt Tryz.results60 ?_
 exact ⟨rfl, hG⟩
/-- how many of the first n fit -/
def cnt (t : Nat → Bool) : Nat → Nat
 | 0 => 0
 | n + 1 => cnt t n + (if t n then 1 else 0)
theorem cnt_le (t : Nat → Bool) (n : Nat) : cnt t n ≤ n := by
 induction n with
 | zero => exact Nat.le_refl _
 | succ n ih => simp only [cnt]; split <;> omega
set_option maxHeartbeats 1000000 in
set_option maxRecDepth 100000 in
theorem score_count (n : Nat) (hn : n ≤ 1099511627776) (k : FuncId) (hcf : ∀ (args : Array Value) (W : World), Sem.run Tryz.prog (callFunc k args) W = .ok (.enter k args) W) (caps : Array Value) (t : Nat → Bool) (P : World → Prop) (hPm : ∀ u u', Grow u u' → P u → P u') (w : World) (hP : P w)
  (hf : ∀ i, i < n → ∀ W, P W → Calls Tryz.prog k (#[.int .i64 (i : Nat)] ++ caps) W fun e w' => e = .returned (.bool (t i)) ∧ Grow W w') :
  Calls Tryz.prog 58 #[.int .i64 n, .func (.func k) #[] caps] w fun e w' => e = .returned (.int .i64 (cnt t n : Nat)) ∧ Grow w w' := by
 have Hf := Lib.hid hf
 have HP := Lib.hid hP
 clear hf hP
 go_enter Tryz.func58, Tryz.ntmps58
 go_wp2_with fail
 go_loopw [5, 8] (fun s i wr => ∃ j : Nat, j ≤ n ∧ i = .int .i64 j ∧ s = .int .i64 (cnt t j : Nat) ∧ Grow w wr) (fun _ i _ => n - (intOf i).toNat)
 case atStart => exact ⟨0, Nat.zero_le _, rfl, rfl, Grow.refl _⟩
 case round =>
  obtain ⟨j, hj, rfl, rfl, hG⟩ := hrel
  have hcl := cnt_le t j
  rcases Nat.lt_or_ge j n with hlt | hge
  ·have hc := Hf.out j hlt wr (hPm _ _ hG HP.out)
   have hsu : cnt t (j + 1) = cnt t j + (if t j then 1 else 0) := rfl
   have Hsu := Lib.hid hsu
   obtain ⟨s, hs⟩ : ∃ s, s = cnt t j := ⟨_, rfl⟩
   rw [← hs]
   rw [← hs] at hcl
   have Hs := Lib.hid hs
   obtain ⟨tj, htj⟩ : ∃ b, b = t j := ⟨_, rfl⟩
   rw [← htj] at hc
   have Htj := Lib.hid htj
   have Hc := Lib.hid hc
   clear hsu hs htj hc
   cases tj
   all_goals
    go_wp2_with (((with_reducible refine (Hc.out).mono ?_); rintro e w1 ⟨rfl, hg⟩))
    go_roundw
    case rel => exact ⟨j + 1, by omega, by go_num, by rw [Hsu.out, ← Htj.out, ← Hs.out]; rfl, hG.trans hg⟩
    case measure => simp [intOf]; omega
  ·obtain rfl : j = n := by omega
   go_wp2_with fail
   go_ret
   exact ⟨rfl, hG⟩
theorem cf_Right (args : Array Value) (W : World) : Sem.run Tryz.prog (callFunc 59 args) W = .ok (.enter 59 args) W := by kernel_rfl
/-- what the closure of Right reads -/
def TwoLi (b2 b3 : Nat) (A B : Option Addr) (m c d : Nat) (l l' : List Int) (W : World) : Prop :=
 Blk W b2 22 #[.slice A m c] ∧ Blk W b3 22 #[.slice B m d] ∧ Li W A l ∧ Li W B l'
theorem TwoLi.mk {b2 b3 : Nat} {A B : Option Addr} {m c d : Nat} {l l' : List Int} {u : World} (h1 : Blk u b2 22 #[.slice A m c]) (h2 : Blk u b3 22 #[.slice B m d]) (h3 : Li u A l) (h4 : Li u B l') : TwoLi b2 b3 A B m c d l l' u := ⟨h1, h2, h3, h4⟩
theorem TwoLi.grow {b2 b3 : Nat} {A B : Option Addr} {m c d : Nat} {l l' : List Int} {u u' : World} (hg : Grow u u') (h : TwoLi b2 b3 A B m c d l l' u) : TwoLi b2 b3 A B m c d l l' u' := ⟨h.1.grow hg, h.2.1.grow hg, h.2.2.1.grow hg, h.2.2.2.grow hg⟩
set_option maxHeartbeats 400000 in
set_option maxRecDepth 100000 in
theorem score_Right_c1 (b2 b3 : Nat) (A B : Option Addr) (m c d : Nat) (l l' : List Int) (hl : l.length = m) (hl' : l'.length = m) (i : Nat) (hi : i < m) (w : World) (h : TwoLi b2 b3 A B m c d l l' w) :
  Calls Tryz.prog 59 #[.int .i64 (i : Nat), .pointer (some ⟨b2, 0, none⟩), .pointer (some ⟨b3, 0, none⟩)] w fun e w' => e = .returned (.bool (gi l i == gi l' i)) ∧ Grow w w' := by
 obtain ⟨h1, h2, h3, h4⟩ := h
 have hc1 := h1.cell 0
 have hc2 := h2.cell 0
 obtain ⟨b4, o4, rfl, hc3⟩ := h3.cell (i := i) (by omega)
 obtain ⟨b5, o5, rfl, hc4⟩ := h4.cell (i := i) (by omega)
 simp only [List.getElem?_toArray, List.getElem?_cons_zero] at hc1 hc2
 clear h1 h2 h3 h4 hl hl'
 go_enter Tryz.func59, Tryz.ntmps59
 go_wp2_with fail
 go_quiet (fail)
 go_wp2_with fail
 go_ret
 exact ⟨rfl, grow_drewN _ _⟩
def hits (l l' : List Int) (m : Nat) : Nat := cnt (fun i => gi l i == gi l' i) m
theorem hits_le (l l' : List Int) (m : Nat) : hits l l' m ≤ m := cnt_le _ _
theorem score_count_R (b2 b3 : Nat) (A B : Option Addr) (m c d : Nat) (l l' : List Int) (hl : l.length = m) (hl' : l'.length = m) (hm : m ≤ 1099511627776) (w : World) (h : TwoLi b2 b3 A B m c d l l' w) :
  Calls Tryz.prog 58 #[.int .i64 m, .func (.func 59) #[] #[.pointer (some ⟨b2, 0, none⟩), .pointer (some ⟨b3, 0, none⟩)]] w fun e w' => e = .returned (.int .i64 (hits l l' m : Nat)) ∧ Grow w w' :=
 score_count m hm 59 cf_Right _ (fun i => gi l i == gi l' i) (TwoLi b2 b3 A B m c d l l') (fun _ _ hg h => h.grow hg) w h (fun i hi W h => score_Right_c1 b2 b3 A B m c d l l' hl hl' i hi W h)
set_option maxHeartbeats 1000000 in
set_option maxRecDepth 100000 in
theorem score_Right_ok (A B : Option Addr) (m c d : Nat) (l l' : List Int) (hl : l.length = m) (hl' : l'.length = m) (hm0 : 0 < m) (hm : m ≤ 1099511627776) (w : World) (h1 : Li w A l) (h2 : Li w B l') (HT : Tab w) :
  Calls Tryz.prog 12 #[.slice A m c, .slice B m d] w fun e w' => e = .returned (.tuple #[qV (qover (hits l l' m : Nat) (m : Nat)), .int .i64 0]) ∧ Grow w w' := by
 have hp : ∀ W, Calls Tryz.prog 57 #[.slice A m c, .slice B m d] W fun e w' => e = .returned (.bool true) ∧ Grow W w' := fun W => by
  have := score_paired_ii A B m m c d W
  rw [show pairedB m m = true by unfold pairedB; simp [hm0]] at this
  exact this
 have hcnt : ∀ b2 b3 W, TwoLi b2 b3 A B m c d l l' W → Calls Tryz.prog 58 #[.int .i64 m, .func (.func 59) #[] #[.pointer (some ⟨b2, 0, none⟩), .pointer (some ⟨b3, 0, none⟩)]] W fun e w' => e = .returned (.int .i64 (hits l l' m : Nat)) ∧ Grow W w' := fun b2 b3 W h => score_count_R b2 b3 A B m c d l l' hl hl' hm W h
 have hh := hits_le l l' m
 obtain ⟨s, hs⟩ : ∃ s, s = hits l l' m := ⟨_, rfl⟩
 rw [← hs] at hcnt hh
 rw [← hs]
 have Hp := Lib.hid hp
 have Hcnt := Lib.hid hcnt
 have H1 := Lib.hid h1
 have H2 := Lib.hid h2
 clear hp hcnt h1 h2 hl hl' hs
 go_enter Tryz.func12, Tryz.ntmps12
 refine en3 ?_
 intro u hG b4 b3 b2 hB hF
 refine wp_seq ?_
 refine wp_seq (rsE allocs [0, 0, 1, 0] hB hG fun L hL => ?_)
 refine gs ?_
 refine gmw (C := fun v => Hp.out _) ?_
 refine gs ?_
 refine geT hL ?_
 clear hB hG hL L
 rintro u ⟨-, hB, hG, -⟩
 refine wp_cond_false (rfl) ?_
 refine wp_skip ?_
 refine then_norm ?_
 refine wp_seq (rsE allocs [0, 0, 0, 1, 0] hB hG fun L hL => ?_)
 refine gs ?_
 refine gmd (C := fun v ⟨hgu, hB, hG, _⟩ => Hcnt.out b2 b3 _ (TwoLi.mk hB.head hB.tail.head (H1.out.grow hG) (H2.out.grow hG))) ?_
 refine gs ?_
 refine geT hL ?_
 clear hB hG hL L
 rintro u ⟨-, hB, hG, -⟩
 refine wp_seq (rsC allocs [0, 0, 0, 1] hB hG fun K L hN hL => ?_)
 refine gs ?_
 refine gmd (C := fun v ⟨hgu, hB, hG, _⟩ => score_ratio _ _ (by omega) (by omega) (by omega) (by omega) _ (HT.grow hG)) ?_
 refine geC hL ?_
 clear hB hG hL L
 rintro u ⟨-, hB, hG, -⟩
 refine gtT ?_
 clear hN K
 refine st hB hF hG 2 0 [_, _, _, _, _] ?_
 clear hB hG
 intro u hB hG
 refine rt Tryz.results12 ?_
 exact ⟨rfl, hG⟩
theorem ret_qe {p q : Rat} {k : Int} (h : p = q) : Ending.returned (.tuple #[qV p, .int .i64 k]) = .returned (.tuple #[qV q, .int .i64 k]) := by rw [h]
theorem li_new (w : World) (l : List Int) : Li (w.alloc (.cells (l.map fun x => Value.int .i64 x).toArray 3)) (some ⟨w.heap.size, 0, none⟩) l := fun _ =>
 ⟨w.heap.size, 0, rfl, by rw [alloc_size]; omega, fun i x hi => by
  rw [Nat.zero_add, Blk.cell (Blk.new w 3 _) i]
  simp [hi]⟩
theorem q23 : qs (qover 2 3) ≤ LIM := by decide
set_option maxHeartbeats 1000000 in
set_option maxRecDepth 100000 in
theorem law9_known (w : World) (HT : Tab w) : Calls Tryz.prog 16 #[] w fun e w' => e = .returned (.bool true) ∧ Grow w w' := by
 have hR : Calls Tryz.prog 12 #[.slice (some ⟨w.heap.size, 0, none⟩) 3 3, .slice (some ⟨w.heap.size + 1, 0, none⟩) 3 3] ((w.alloc (.cells #[.int .i64 0, .int .i64 1, .int .i64 1] 3)).alloc (.cells #[.int .i64 0, .int .i64 1, .int .i64 0] 3)) fun e w' => e = .returned (.tuple #[qV (qover 2 3), .int .i64 0]) ∧ Grow w w' := by
  have h1 := (li_new w [0, 1, 1]).grow (Grow.alloc _ (.cells #[.int .i64 0, .int .i64 1, .int .i64 0] 3))
  have h2 := li_new (w.alloc (.cells #[.int .i64 0, .int .i64 1, .int .i64 1] 3)) [0, 1, 0]
  rw [alloc_size] at h2
  refine (score_Right_ok _ _ 3 3 3 [0, 1, 1] [0, 1, 0] rfl rfl (by omega) (by omega) _ h1 h2 (HT.grow ((Grow.alloc _ _).trans (Grow.alloc _ _)))).mono fun e w' ⟨he, hg⟩ => ⟨he, ?_⟩
  exact (Grow.alloc _ _).trans ((Grow.alloc _ _).trans hg)
 have hI : ∀ W, Calls Tryz.prog 26 #[qV (qover 2 3), .int .i64 2, .int .i64 3] W fun e w' => e = .returned (.bool true) ∧ Grow W w' := fun W => hand_Is 2 3 (by omega) (by omega) (by omega) (by omega) (by omega) q23 W
 have HR := Lib.hid hR
 have HI := Lib.hid hI
 clear hR hI
 go_enter Tryz.func16, Tryz.ntmps16
 go_wp2_with (first
  | (go_at_call 12; ((with_reducible refine (HR.out).mono ?_); rintro e w1 ⟨rfl, hg1⟩))
  | (go_at_call 26; ((with_reducible refine (HI.out _).mono ?_); rintro e w2 ⟨rfl, hg2⟩)))
 go_ret
 exact ⟨rfl, hg1.trans ((Grow.alloc _ _).trans hg2)⟩
end Go.Proofs.YtimjnkfcnpfoeaaGreatDoor
