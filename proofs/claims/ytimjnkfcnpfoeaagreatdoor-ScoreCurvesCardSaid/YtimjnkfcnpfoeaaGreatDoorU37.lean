/-
  Contracts and laws: ScoreF.
-/
import Derived.Test.YtimjnkfcnpfoeaaGreatDoorU35
set_option linter.unusedSimpArgs false
set_option linter.unusedVariables false
namespace Go.Proofs.YtimjnkfcnpfoeaaGreatDoor
open Go.RowKit
/-- these truth values lie from the address on -/
def Lb (u : World) (A : Option Addr) (l : List Bool) : Prop :=
 l ≠ [] → ∃ b off, A = some ⟨b, off, none⟩ ∧ b < u.heap.size ∧ ∀ i x, l[i]? = some x → u.cell? ⟨b, off + i, none⟩ = some (.bool x)
theorem Lb.nil (u : World) (A : Option Addr) : Lb u A [] := fun h => absurd rfl h
theorem Lb.grow {u u' : World} {A : Option Addr} {l : List Bool} (h : Lb u A l) (hg : Grow u u') : Lb u' A l := fun hn => by
 obtain ⟨b, off, e, hb, hc⟩ := h hn
 exact ⟨b, off, e, Nat.lt_of_lt_of_le hb hg.size, fun i x hi => (hg.cell (p := ⟨b, off + i, none⟩) hb).trans (hc i x hi)⟩
def gb (l : List Bool) (i : Nat) : Bool := (l[i]?).getD false
theorem gb_eq {l : List Bool} {i : Nat} (h : i < l.length) : l[i]? = some (gb l i) := by
 unfold gb; rw [List.getElem?_eq_getElem h]; rfl
theorem Lb.addr {u : World} {A : Option Addr} {l : List Bool} (h : Lb u A l) (hl : 0 < l.length) : ∃ b off, A = some ⟨b, off, none⟩ := by
 obtain ⟨b, off, e, _⟩ := h (fun h0 => by rw [h0] at hl; cases hl)
 exact ⟨b, off, e⟩
theorem Lb.read {u : World} {b off : Nat} {l : List Bool} (h : Lb u (some ⟨b, off, none⟩) l) {i : Nat} (hi : i < l.length) : u.cell? ⟨b, off + i, none⟩ = some (.bool (gb l i)) := by
 obtain ⟨b', off', e, _, hc⟩ := h (fun h0 => by rw [h0] at hi; cases hi)
 cases e
 exact hc i _ (gb_eq hi)
def OneLb (b2 : Nat) (A : Option Addr) (m c : Nat) (l : List Bool) (W : World) : Prop := Blk W b2 79 #[.slice A m c] ∧ Lb W A l
theorem OneLb.mk {b2 : Nat} {A : Option Addr} {m c : Nat} {l : List Bool} {u : World} (h1 : Blk u b2 79 #[.slice A m c]) (h2 : Lb u A l) : OneLb b2 A m c l u := ⟨h1, h2⟩
theorem OneLb.grow {b2 : Nat} {A : Option Addr} {m c : Nat} {l : List Bool} {u u' : World} (hg : Grow u u') (h : OneLb b2 A m c l u) : OneLb b2 A m c l u' := ⟨h.1.grow hg, h.2.grow hg⟩
set_option maxHeartbeats 400000 in
theorem score_sides_c1 (b2 ba oa m c : Nat) (l : List Bool) (hl : l.length = m) (i : Nat) (hi : i < m) (w : World) (h : OneLb b2 (some ⟨ba, oa, none⟩) m c l w) :
  Calls Tryz.prog 145 #[.int .i64 (i : Nat), .pointer (some ⟨b2, 0, none⟩)] w fun e w' => e = .returned (.bool (gb l i)) ∧ Grow w w' := by
 have hc1 := h.1.cell 0
 have hc2 := h.2.read (i := i) (by omega)
 simp only [List.getElem?_toArray, List.getElem?_cons_zero] at hc1
 clear h hl
 go_enter Tryz.func145, Tryz.ntmps145
 go_wp2_with fail
 go_ret
 exact ⟨rfl, Grow.refl _⟩
theorem cf_sides (args : Array Value) (W : World) : Sem.run Tryz.prog (callFunc 145 args) W = .ok (.enter 145 args) W := by kernel_rfl
/-- how many are true -/
def yesN (l : List Bool) (m : Nat) : Nat := cnt (gb l) m
theorem yesN_le (l : List Bool) (m : Nat) : yesN l m ≤ m := cnt_le _ _
theorem score_count_S (b2 ba oa m c : Nat) (l : List Bool) (hl : l.length = m) (hm : m ≤ 1099511627776) (w : World) (h : OneLb b2 (some ⟨ba, oa, none⟩) m c l w) :
  Calls Tryz.prog 58 #[.int .i64 m, .func (.func 145) #[] #[.pointer (some ⟨b2, 0, none⟩)]] w fun e w' => e = .returned (.int .i64 (yesN l m : Nat)) ∧ Grow w w' :=
 score_count m hm 145 cf_sides _ (gb l) (OneLb b2 (some ⟨ba, oa, none⟩) m c l) (fun _ _ hg h => h.grow hg) w h (fun i hi W h => score_sides_c1 b2 ba oa m c l hl i hi W h)
def sidesV (l : List Bool) (m : Nat) : Value := if yesN l m = 0 ∨ yesN l m = m then .tuple #[.int .i64 0, .int .i64 0, .int .i64 7] else .tuple #[.int .i64 ((m - yesN l m : Nat) : Int), .int .i64 (yesN l m : Nat), .int .i64 0]
set_option maxHeartbeats 1000000 in
set_option maxRecDepth 100000 in
theorem score_sides_ok (A B : Option Addr) (m c d : Nat) (l : List Bool) (hl : l.length = m) (hm0 : 0 < m) (hm : m ≤ 1099511627776) (w : World) (h1 : Lb w A l) :
  Calls Tryz.prog 104 #[.slice A m c, .slice B m d] w fun e w' => e = .returned (sidesV l m) ∧ Grow w w' := by
 obtain ⟨ba, oa, rfl⟩ := h1.addr (by omega)
 have hp : ∀ W, Calls Tryz.prog 144 #[.slice (some ⟨ba, oa, none⟩) m c, .slice B m d] W fun e w' => e = .returned (.bool true) ∧ Grow W w' := fun W => by
  have := score_paired_bq (some ⟨ba, oa, none⟩) B m m c d W
  rw [pairedB_yes hm0] at this
  exact this
 have hcnt := fun b2 W => score_count_S b2 ba oa m c l hl hm W
 have hle := yesN_le l m
 unfold sidesV
 obtain ⟨s, hs⟩ : ∃ s, s = yesN l m := ⟨_, rfl⟩
 rw [← hs] at hle ⊢
 rw [← hs] at hcnt
 have Hp := Lib.hid hp
 have Hcnt := Lib.hid hcnt
 have H1 := Lib.hid h1
 clear hp hcnt h1 hl hs
 rcases Nat.eq_zero_or_pos s with rfl | hpos
 ·rw [if_pos (.inl rfl)]
  go_enter Tryz.func104, Tryz.ntmps104
  refine en1 ?_
  intro u hG b2 hB hF
  refine wp_seq ?_
  refine wp_seq (rsE allocs [0, 0, 1, 0] hB hG fun L hL => ?_)
  refine gs ?_
  refine gmw (C := fun v => Hp.out _) ?_
  refine gs ?_
  refine geT hL ?_
  clear hB hG hL L
  rintro u ⟨-, hB, hG, -⟩
  refine wp_cond_false (rfl) ?_
  refine wp_skip ?_
  refine then_norm ?_
  refine wp_seq (rsE allocs [0, 0, 0, 1, 0] hB hG fun L hL => ?_)
  refine gs ?_
  refine gmd (C := fun v ⟨hgu, hB, hG, _⟩ => Hcnt.out b2 _ (OneLb.mk hB.head (H1.out.grow hG))) ?_
  refine gs ?_
  refine geT hL ?_
  clear hB hG hL L
  rintro u ⟨-, hB, hG, -⟩
  refine r0T ?_
  refine wp_seq ?_
  refine r0T ?_
  refine wp_cond_true (rfl) ?_
  refine r0T ?_
  refine rt Tryz.results104 ?_
  exact ⟨rfl, hG⟩
 ·have e1 : ((s : Int) == 0) = false := by simp; omega
  by_cases hsm : s = m
  ·subst hsm
   rw [if_pos (.inr rfl)]
   have f1 : IntKind.i64.wrap ((s : Int) - (s : Int)) = 0 := by rw [Int.sub_self]; rfl
   go_enter Tryz.func104, Tryz.ntmps104
   refine en1 ?_
   intro u hG b2 hB hF
   refine wp_seq ?_
   refine wp_seq (rsE allocs [0, 0, 1, 0] hB hG fun L hL => ?_)
   refine gs ?_
   refine gmw (C := fun v => Hp.out _) ?_
   refine gs ?_
   refine geT hL ?_
   clear hB hG hL L
   rintro u ⟨-, hB, hG, -⟩
   refine wp_cond_false (rfl) ?_
   refine wp_skip ?_
   refine then_norm ?_
   refine wp_seq (rsE allocs [0, 0, 0, 1, 0] hB hG fun L hL => ?_)
   refine gs ?_
   refine gmd (C := fun v ⟨hgu, hB, hG, _⟩ => Hcnt.out b2 _ (OneLb.mk hB.head (H1.out.grow hG))) ?_
   refine gs ?_
   refine geT hL ?_
   clear hB hG hL L
   rintro u ⟨-, hB, hG, -⟩
   refine r0T ?_
   refine wp_seq ?_
   refine r0T ?_
   refine wp_cond_true (rfl) ?_
   refine r0T ?_
   refine rt Tryz.results104 ?_
   exact ⟨rfl, hG⟩
  ·rw [if_neg (by omega)]
   obtain ⟨n, hn⟩ : ∃ n, n = m - s := ⟨_, rfl⟩
   have f1 : IntKind.i64.wrap ((m : Int) - (s : Int)) = (n : Int) := by rw [show (m : Int) - (s : Int) = (n : Int) by omega]; exact IntWalk.i64_in _ (by omega)
   have f2 : (m : Int) - (s : Int) = (n : Int) := by omega
   have e2 : ((n : Int) == 0) = false := by simp; omega
   rw [← hn]
   clear hn
   go_enter Tryz.func104, Tryz.ntmps104
   refine en1 ?_
   intro u hG b2 hB hF
   refine wp_seq ?_
   refine wp_seq (rsE allocs [0, 0, 1, 0] hB hG fun L hL => ?_)
   refine gs ?_
   refine gmw (C := fun v => Hp.out _) ?_
   refine gs ?_
   refine geT hL ?_
   clear hB hG hL L
   rintro u ⟨-, hB, hG, -⟩
   refine wp_cond_false (rfl) ?_
   refine wp_skip ?_
   refine then_norm ?_
   refine wp_seq (rsE allocs [0, 0, 0, 1, 0] hB hG fun L hL => ?_)
   refine gs ?_
   refine gmd (C := fun v ⟨hgu, hB, hG, _⟩ => Hcnt.out b2 _ (OneLb.mk hB.head (H1.out.grow hG))) ?_
   refine gs ?_
   refine geT hL ?_
   clear hB hG hL L
   rintro u ⟨-, hB, hG, -⟩
   refine r0T ?_
   refine wp_seq ?_
   refine r0T ?_
   refine wp_cond_false (rfl) ?_
   refine wp_skip ?_
   refine then_norm ?_
   refine r0T ?_
   refine rt Tryz.results104 ?_
   exact ⟨rfl, hG⟩
theorem score_sides_no (A B : Option Addr) (m n c d : Nat) (h : pairedB m n = false) (w : World) :
  Calls Tryz.prog 104 #[.slice A m c, .slice B n d] w fun e w' => e = .returned (.tuple #[.int .i64 0, .int .i64 0, .int .i64 5]) ∧ Grow w w' := by
 have hp : ∀ W, Calls Tryz.prog 144 #[.slice A m c, .slice B n d] W fun e w' => e = .returned (.bool false) ∧ Grow W w' := fun W => by
  have := score_paired_bq A B m n c d W
  rw [h] at this
  exact this
 have Hp := Lib.hid hp
 clear hp h
 go_enter Tryz.func104, Tryz.ntmps104
 refine en1 ?_
 intro u hG b2 hB hF
 refine wp_seq ?_
 refine wp_seq (rsE allocs [0, 0, 1, 0] hB hG fun L hL => ?_)
 refine gs ?_
 refine gmw (C := fun v => Hp.out _) ?_
 refine gs ?_
 refine geT hL ?_
 clear hB hG hL L
 rintro u ⟨-, hB, hG, -⟩
 refine wp_cond_true (rfl) ?_
 refine r0T ?_
 refine rt Tryz.results104 ?_
 exact ⟨rfl, hG⟩
/-- what one pair adds -/
def hv (is : List Bool) (l : List Rat) (i j : Nat) : Int := if gb is i && !gb is j then cmpQ (gq l i) (gq l j) + 1 else 0
theorem cmpQ_range (a b : Rat) : -1 ≤ cmpQ a b ∧ cmpQ a b ≤ 1 := by unfold cmpQ; split <;> (try split) <;> omega
theorem hv_range (is : List Bool) (l : List Rat) (i j : Nat) : 0 ≤ hv is l i j ∧ hv is l i j ≤ 2 := by
 unfold hv
 have := cmpQ_range (gq l i) (gq l j)
 split <;> omega
theorem sumTo_range {f : Nat → Int} {c : Int} (h : ∀ i, 0 ≤ f i ∧ f i ≤ c) (n : Nat) : 0 ≤ sumTo f n ∧ sumTo f n ≤ n * c := by
 induction n with
 | zero => simp [sumTo]
 | succ n ih =>
  have := h n
  simp only [sumTo]
  rw [show ((n + 1 : Nat) : Int) * c = n * c + c by push_cast; grind]
  omega
def halves (is : List Bool) (l : List Rat) (m : Nat) : Int := sumTo (fun a => sumTo (hv is l a) m) m
theorem halves_range (is : List Bool) (l : List Rat) (m i : Nat) (hi : i ≤ m) (hm : m ≤ 1048576) : 0 ≤ sumTo (fun a => sumTo (hv is l a) m) i ∧ sumTo (fun a => sumTo (hv is l a) m) i ≤ 2199023255552 := by
 have h1 := fun a => sumTo_range (hv_range is l a) m
 have h2 := sumTo_range (f := fun a => sumTo (hv is l a) m) (c := 2097152) (fun a => ⟨(h1 a).1, by have := (h1 a).2; omega⟩) i
 omega
theorem qint_i64 {z : Int} (h0 : -9223372036854775808 ≤ z) (h1 : z ≤ 9223372036854775807) : qs (qint z) ≤ 64 := by
 refine qs_int z 64 ?_ (by omega)
 omega
def areaQ (is : List Bool) (l : List Rat) (m : Nat) : Rat := qdiv (qint (halves is l m)) (qadd (qmul (qint ((m - yesN is m : Nat) : Int)) (qint (yesN is m : Nat))) (qmul (qint ((m - yesN is m : Nat) : Int)) (qint (yesN is m : Nat))))
abbrev zCells : Array Value := #[.bool false, .int .u64 0, .string ⟨#[]⟩, .int .u64 0, .string ⟨#[]⟩]
set_option maxHeartbeats 2000000 in
set_option maxRecDepth 100000 in
theorem score_Area_ok (A B : Option Addr) (m c d : Nat) (is : List Bool) (l : List Rat) (hl : is.length = m) (hl' : l.length = m) (hy : 0 < yesN is m) (hn : yesN is m < m) (hm : m ≤ 1048576) (s : Nat) (hs : ∀ x ∈ l, qs x ≤ s) (hB : 2 * s + 1000 ≤ BIG) (w : World) (h1 : Lb w A is) (h2 : Lq w B l) (HT : Tab w) :
  Calls Tryz.prog 41 #[.slice A m c, .slice B m d] w fun e w' => e = .returned (.tuple #[qV (areaQ is l m), .int .i64 0]) ∧ Grow w w' := by
 obtain ⟨ba, oa, rfl⟩ := h1.addr (by omega)
 obtain ⟨bb, ob, rfl⟩ := h2.addr (by omega)
 have hsd : ∀ W, Grow w W → Calls Tryz.prog 104 #[.slice (some ⟨ba, oa, none⟩) m c, .slice (some ⟨bb, ob, none⟩) m d] W fun e w' => e = .returned (.tuple #[.int .i64 ((m - yesN is m : Nat) : Int), .int .i64 (yesN is m : Nat), .int .i64 0]) ∧ Grow W w' := fun W hg => by
  have := score_sides_ok (some ⟨ba, oa, none⟩) (some ⟨bb, ob, none⟩) m c d is hl (by omega) (by omega) W (h1.grow hg)
  unfold sidesV at this
  rw [if_neg (by omega)] at this
  exact this
 have hle := yesN_le is m
 have hrd : ∀ i, i < m → ∀ W, Grow w W → W.cell? ⟨ba, oa + i, none⟩ = some (.bool (gb is i)) ∧ Cq W bb (ob + i * 5) (gq l i) := fun i hi W hg => ⟨(h1.grow hg).read (by omega), (h2.grow hg).read (by omega)⟩
 have hqz : ∀ i, i < m → qs (gq l i) ≤ s := fun i hi => hs _ (gq_mem (by omega))
 have hhr := fun i hi => halves_range is l m i hi hm
 obtain ⟨yes, hyes⟩ : ∃ s, s = yesN is m := ⟨_, rfl⟩
 obtain ⟨no, hno⟩ : ∃ s, s = m - yesN is m := ⟨_, rfl⟩
 have har : areaQ is l m = qdiv (qint (halves is l m)) (qadd (qmul (qint no) (qint yes)) (qmul (qint no) (qint yes))) := by rw [hyes, hno]; rfl
 rw [← hyes] at hy hn hle
 rw [← hyes] at hsd
 rw [hyes, ← hno, ← hyes] at hsd
 have hno1 : no ≤ m := by omega
 have y1 : qs (qint (no : Nat)) ≤ 64 := qint_i64 (by omega) (by omega)
 have y2 : qs (qint (yes : Nat)) ≤ 64 := qint_i64 (by omega) (by omega)
 have y3 : qs (qmul (qint (no : Nat)) (qint (yes : Nat))) ≤ 128 := by have : qs (qmul (qint (no : Nat)) (qint (yes : Nat))) ≤ _ := qs_mul _ _; omega
 have y4 : qs (qadd (qmul (qint (no : Nat)) (qint (yes : Nat))) (qmul (qint (no : Nat)) (qint (yes : Nat)))) ≤ 257 := by have : qs (qadd (qmul (qint (no : Nat)) (qint (yes : Nat))) (qmul (qint (no : Nat)) (qint (yes : Nat)))) ≤ _ := qs_add _ _; omega
 have Hsd := Lib.hid hsd
 have Hrd := Lib.hid hrd
 have Hqz := Lib.hid hqz
 have Hhr := Lib.hid hhr
 have Har := Lib.hid har
 clear hsd hrd hqz hhr har h1 h2 hl hl' hs hyes hno
 go_enter Tryz.func41, Tryz.ntmps41
 refine en1 ?_
 intro u hG b4 hB hF
 refine wp_seq (rsE allocs [0, 0, 1, 0, 0, 0, 0, 0, 0, 0] hB hG fun L hL => ?_)
 refine gs ?_
 refine gmd (C := fun v ⟨hgu, hB, hG, _⟩ => Hsd.out _ hG) ?_
 refine gs ?_
 refine geT hL ?_
 clear hB hG hL L
 rintro u ⟨-, hB, hG, -⟩
 refine wp_seq ?_
 refine r0T ?_
 refine wp_cond_false (rfl) ?_
 refine wp_skip ?_
 refine then_norm ?_
 refine r0T ?_
 refine wp_seq ?_
 refine r0T ?_
 refine wp_block ?_
 go_loopw [30, 9] (fun s0 s1 wr => ∃ (i : Nat) (H : Int), i ≤ m ∧ s0 = .int .i64 i ∧ s1 = .int .i64 H ∧ (H = sumTo (fun a => sumTo (hv is l a) m) i) ∧ Bx wr [(b4, 32, zCells)] ∧ Grow w wr) (fun s0 _ _ => m - (intOf s0).toNat)
 case atStart => exact ⟨0, 0, Nat.zero_le _, rfl, rfl, rfl, hB, hG⟩
 case round =>
  clear hB hG
  obtain ⟨i, H, hi, rfl, rfl, hrel0, hB, hG⟩ := hrel
  obtain ⟨u, rfl⟩ : ∃ x, x = wr := ⟨_, rfl⟩
  have H0 := Lib.hid hrel0
  clear hrel0
  rcases Nat.lt_or_ge i m with hlt0 | hge0
  ·have hdec : decide ((i : Int) < (m : Int)) = true := by simp; omega
   have hri := Hrd.out i hlt0
   have hHr := Hhr.out (i + 1) (by omega)
   have hH1 : sumTo (fun a => sumTo (hv is l a) m) (i + 1) = H + sumTo (hv is l i) m := by rw [H0.out]; rfl
   rw [hH1] at hHr
   have hH0 := (Hhr.out i (by omega)).1
   rw [← H0.out] at hH0
   have hvj : ∀ j, hv is l i j = if gb is i && !gb is j then cmpQ (gq l i) (gq l j) + 1 else 0 := fun _ => rfl
   have zi := Hqz.out i hlt0
   obtain ⟨x, hx⟩ : ∃ x, x = gb is i := ⟨_, rfl⟩
   obtain ⟨X, hX⟩ : ∃ X, X = gq l i := ⟨_, rfl⟩
   simp only [← hx, ← hX] at hri hvj
   rw [← hX] at zi
   have Hri := Lib.hid hri
   have Hvj := Lib.hid hvj
   have HH1 := Lib.hid hH1
   have HHr := Lib.hid hHr
   clear hri hvj hH1 hx hX hHr
   refine r0T ?_
   refine wp_seq ?_
   refine wp_cond_true (rfl) ?_
   refine wp_skip ?_
   refine then_norm ?_
   refine wp_seq ?_
   refine wp_block ?_
   refine wp_seq ?_
   obtain ⟨p1, q1, q2, q3, q4, q5⟩ := Hri.out u hG
   refine r0N ?_
   refine r0T ?_
   refine wp_block ?_
   go_loopw [37, 9] (fun s0 s1 wr => ∃ (j : Nat) (G : Int), j ≤ m ∧ s0 = .int .i64 j ∧ s1 = .int .i64 G ∧ G = H + sumTo (hv is l i) j ∧ Bx wr [(b4, 32, zCells)] ∧ Grow w wr) (fun s0 _ _ => m - (intOf s0).toNat)
   case atStart => exact ⟨0, H, Nat.zero_le _, rfl, rfl, by simp [sumTo], hB, hG⟩
   case round =>
    clear hB hG
    obtain ⟨j, G, hj, rfl, rfl, hGe, hB, hG⟩ := hrel
    obtain ⟨u, rfl⟩ : ∃ x, x = wr := ⟨_, rfl⟩
    have hGr := sumTo_range (hv_range is l i) j
    have hG1 : 0 ≤ G ∧ G ≤ H + 2097152 := by rw [hGe]; omega
    have hH2 : H ≤ 2199023255552 := by have := HHr.out; have := (sumTo_range (hv_range is l i) m).1; omega
    have HGe := Lib.hid hGe
    obtain ⟨hG1, hG2⟩ := hG1
    clear hGe hGr
    rcases Nat.lt_or_ge j m with hlt1 | hge1
    ·have hdj : decide ((j : Int) < (m : Int)) = true := by simp; omega
     have hrj := Hrd.out j hlt1
     have hvv := Hvj.out j
     have zj := Hqz.out j hlt1
     have hcr := cmpQ_range X (gq l j)
     have hsu : sumTo (hv is l i) (j + 1) = sumTo (hv is l i) j + hv is l i j := rfl
     obtain ⟨y, hy⟩ : ∃ x, x = gb is j := ⟨_, rfl⟩
     obtain ⟨Y, hY⟩ : ∃ X, X = gq l j := ⟨_, rfl⟩
     simp only [← hy, ← hY] at hrj
     rw [← hy, ← hY] at hvv
     rw [← hY] at zj hcr
     have hcmp : ∀ W, Calls Tryz.prog 25 #[qV X, qV Y] W fun e w' => e = .returned (.int .i64 (cmpQ X Y)) ∧ Grow W w' := fun W => frac_Cmp X Y W (by omega)
     obtain ⟨cv, hcv⟩ : ∃ cv, cv = cmpQ X Y := ⟨_, rfl⟩
     rw [← hcv] at hvv hcr hcmp
     have Hcmp := Lib.hid hcmp
     have Hrj := Lib.hid hrj
     have Hvv := Lib.hid hvv
     have Hsu := Lib.hid hsu
     obtain ⟨hc1, hc2⟩ := hcr
     clear hrj hvv hsu hy hY hcmp hcv
     have w1 : IntKind.i64.wrap (cv + 1) = cv + 1 := IntWalk.i64_in _ (by omega)
     have w2 : IntKind.i64.wrap (G + (cv + 1)) = G + (cv + 1) := IntWalk.i64_in _ (by omega)
     cases x
     ·skip
      refine r0T ?_
      refine wp_seq ?_
      refine wp_cond_true (rfl) ?_
      refine wp_skip ?_
      refine then_norm ?_
      refine wp_seq ?_
      refine wp_block ?_
      refine wp_seq ?_
      obtain ⟨p1, q1, q2, q3, q4, q5⟩ := Hrj.out u hG
      refine r0N ?_
      refine r0T ?_
      refine wp_cond_false (rfl) ?_
      refine wp_skip ?_
      refine blk_norm ?_
      refine then_norm ?_
      refine r0E ?_
      refine then_norm ?_
      go_roundw
      case rel => exact ⟨j + 1, G, by omega, by go_num, rfl, by rw [Hsu.out, Hvv.out, HGe.out]; simp, hB, hG⟩
      case measure => simp [intOf]; omega
     ·cases y
      ·skip
       refine r0T ?_
       refine wp_seq ?_
       refine wp_cond_true (rfl) ?_
       refine wp_skip ?_
       refine then_norm ?_
       refine wp_seq ?_
       refine wp_block ?_
       refine wp_seq ?_
       obtain ⟨p1, q1, q2, q3, q4, q5⟩ := Hrj.out u hG
       refine r0N ?_
       refine r0T ?_
       refine wp_cond_true (rfl) ?_
       refine rdC allocs [] [(0, 0), (0, 1), (0, 2), (0, 3), (0, 4), (0, 5), (0, 6), (0, 7), (0, 8), (1, 9), (0, 10), (0, 11)] hB hG fun K L hN hL => ?_
       repeat first | refine gya ?_ | refine gyr ?_ | refine gna ?_ | refine gyb (by (rintro v ⟨hgu, hB, hG, -⟩ N hN; have r := hB.r; simp only [BxR] at r; obtain ⟨p1, q1, q2, q3, q4, q5⟩ := Hrj.out v hG; obtain ⟨p2, y1, y2, y3, y4, y5⟩ := Hri.out v hG; go_simp; exact hN)) ?_
       refine gmw (C := fun v => Hcmp.out _) ?_
       refine gs ?_
       refine geC hL ?_
       clear hB hG hL L
       rintro u ⟨-, hB, hG, -⟩
       refine gt ?_
       clear hN K
       refine blk_norm ?_
       refine then_norm ?_
       refine r0E ?_
       refine then_norm ?_
       go_roundw
       case rel => exact ⟨j + 1, G + (cv + 1), by omega, by go_num, by go_num, by rw [Hsu.out, Hvv.out, HGe.out]; simp; omega, hB, hG⟩
       case measure => simp [intOf]; omega
      ·skip
       refine r0T ?_
       refine wp_seq ?_
       refine wp_cond_true (rfl) ?_
       refine wp_skip ?_
       refine then_norm ?_
       refine wp_seq ?_
       refine wp_block ?_
       refine wp_seq ?_
       obtain ⟨p1, q1, q2, q3, q4, q5⟩ := Hrj.out u hG
       refine r0N ?_
       refine r0T ?_
       refine wp_cond_false (rfl) ?_
       refine wp_skip ?_
       refine blk_norm ?_
       refine then_norm ?_
       refine r0E ?_
       refine then_norm ?_
       go_roundw
       case rel => exact ⟨j + 1, G, by omega, by go_num, rfl, by rw [Hsu.out, Hvv.out, HGe.out]; simp, hB, hG⟩
       case measure => simp [intOf]; omega
    ·obtain rfl : m = j := by omega
     have hdj : decide ((m : Int) < (m : Int)) = false := by simp
     refine r0T ?_
     refine wp_seq ?_
     refine wp_cond_false (rfl) ?_
     refine wp_exit ?_
     refine then_exit ?_
     refine then_exit ?_
     refine blk_exit ?_
     refine blk_norm ?_
     refine then_norm ?_
     refine r0E ?_
     refine then_norm ?_
     go_roundw
     case rel => exact ⟨i + 1, G, by omega, by go_num, rfl, by rw [HH1.out, HGe.out], hB, hG⟩
     case measure => simp [intOf]; try omega
  ·obtain rfl : m = i := by omega
   have hdec : decide ((m : Int) < (m : Int)) = false := by simp
   have hHr := Hhr.out m (Nat.le_refl _)
   rw [← H0.out] at hHr
   obtain ⟨hHa, hHb⟩ := hHr
   have y5 : qs (qint H) ≤ 64 := qint_i64 (by omega) (by omega)
   refine r0T ?_
   refine wp_seq ?_
   refine wp_cond_false (rfl) ?_
   refine wp_exit ?_
   refine then_exit ?_
   refine then_exit ?_
   refine blk_exit ?_
   refine then_norm ?_
   refine wp_seq (rsC allocs [0, 1, 0, 1, 1, 2] hB hG fun K L hN hL => ?_)
   refine gs ?_
   refine gmw (C := fun v => frac_Of _ (by omega) (by omega) _) ?_
   refine gs ?_
   refine gmw (C := fun v => frac_Of _ (by omega) (by omega) _) ?_
   refine gmd (C := fun v ⟨hgu, hB, hG, _⟩ => frac_Mul _ _ _ (by omega) (HT.grow hG)) ?_
   refine gaa (newObj_Q _ _ _ _ _) fun b14 hb14 hn14 => ?_
   replace hF := hF.n1 [] hB hG hb14 hn14
   refine geC hL ?_
   clear hB hG hL L
   rintro u ⟨⟨-, hB, hG, -⟩, h14⟩
   replace hB := hB.cons' h14
   clear h14
   clear hb14 hn14
   refine gtT ?_
   clear hN K
   refine st hB hF hG 0 0 [_, _, _, _, _] ?_
   clear hB hG
   intro u hB hG
   refine wp_seq (rdC allocs [8] [(0, 0), (0, 2), (0, 3), (1, 1), (1, 4), (1, 5), (0, 6), (0, 7), (0, 8), (2, 9)] hB hG fun K L hN hL => ?_)
   refine gs ?_
   refine gmw (C := fun v => frac_Of _ (by omega) (by omega) _) ?_
   refine gmd (C := fun v ⟨hgu, hB, hG, _⟩ => frac_Add _ _ _ (by omega) (HT.grow hG)) ?_
   refine gmd (C := fun v ⟨hgu, hB, hG, _⟩ => frac_Div _ _ _ (by omega) (HT.grow hG)) ?_
   refine gs ?_
   refine gaa (newObj_Q _ _ _ _ _) fun b15 hb15 hn15 => ?_
   replace hF := hF.n1 [] hB hG hb15 hn15
   refine geC hL ?_
   clear hB hG hL L
   rintro u ⟨⟨-, hB, hG, -⟩, h15⟩
   replace hB := hB.cons' h15
   clear h15
   clear hb15 hn15
   refine gtT ?_
   clear hN K
   refine st hB hF hG 0 0 [_, _, _, _, _] ?_
   clear hB hG
   intro u hB hG
   refine r0T ?_
   refine st hB hF hG 2 0 [_, _, _, _, _] ?_
   clear hB hG
   intro u hB hG
   refine rt Tryz.results41 ?_
   exact ⟨ret_qe (by rw [Har.out, H0.out]; rfl), hG⟩
set_option maxHeartbeats 2000000 in
set_option maxRecDepth 100000 in
theorem score_Area_err (A B : Option Addr) (m n c d : Nat) (k : Int) (hk : (k != 0) = true) (w : World) (h : ∀ W, Grow w W → Calls Tryz.prog 104 #[.slice A m c, .slice B n d] W fun e w' => e = .returned (.tuple #[.int .i64 0, .int .i64 0, .int .i64 k]) ∧ Grow W w') :
  Calls Tryz.prog 41 #[.slice A m c, .slice B n d] w fun e w' => e = .returned (.tuple #[qV 0, .int .i64 k]) ∧ Grow w w' := by
 have H := Lib.hid h
 clear h
 go_enter Tryz.func41, Tryz.ntmps41
 refine en1 ?_
 intro u hG b4 hB hF
 refine wp_seq (rsE allocs [0, 0, 1, 0, 0, 0, 0, 0, 0, 0] hB hG fun L hL => ?_)
 refine gs ?_
 refine gmd (C := fun v ⟨hgu, hB, hG, _⟩ => H.out _ hG) ?_
 refine gs ?_
 refine geT hL ?_
 clear hB hG hL L
 rintro u ⟨-, hB, hG, -⟩
 refine wp_seq ?_
 refine r0T ?_
 refine wp_cond_true (rfl) ?_
 refine r0T ?_
 refine st hB hF hG 0 0 [_, _, _, _, _] ?_
 clear hB hG
 intro u hB hG
 refine rt Tryz.results41 ?_
 exact ⟨rfl, hG⟩
end Go.Proofs.YtimjnkfcnpfoeaaGreatDoor
