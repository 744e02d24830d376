/- Contracts and laws. -/
import Derived.Test.YtgpglgbcobeogaaGreatDoorA16
set_option linter.unusedSimpArgs false
set_option linter.unusedVariables false
set_option maxHeartbeats 1000000
set_option maxRecDepth 100000
namespace Go.Proofs.YtgpglgbcobeogaaGreatDoor
open Go.RowKit
def P9 (z : Int) : Int:=-z
def S9 (a b : Int) : Int:=a + b
def H7 (a b : Int) : Int:=a * b
def ztd (a : Int) (b : Nat) : Int:=a.tdiv b
def ztm (a : Int) (b : Nat) : Int:=a * b
def sgn (neg : Bool) (a : Nat) : Int:=if neg then -(a : Int) else a
theorem O2 (neg : Bool) (a : Nat) : (sgn neg a).natAbs = a:=by unfold sgn;split <;> omega
theorem A0H (a : Nat) : sgn false a = a:=rfl
theorem B4F (a : Nat) : sgn true a = -(a : Int):=rfl
theorem A66 (neg : Bool) (a : Nat) : E4 (sgn neg a) = (neg && decide (a ≠ 0)):=by
 unfold E4 sgn
 cases neg
 ·simp
 ·rw [Bool.eq_iff_iff];simp;omega
theorem A6W (neg : Bool) (a : Nat) : E9 (sgn neg a) = .agg #[.bool (neg && decide (a ≠ 0)),.int .u64 (B7 a),.string (B5 a)]:=by
 unfold E9;rw [A66,O2]
theorem A07 (z : Int) : sgn (E4 z) z.natAbs = z:=by
 unfold sgn E4
 split
 ·rename_i h;have := of_decide_eq_true h;omega
 ·rename_i h;have : ¬ z < 0:=fun h'=>h (decide_eq_true h');omega
theorem A8m (a : Nat) (w : World) : Calls Tryz.prog 66 #[.bool false,B4 a] w fun e w'=>e = .returned (E9 (sgn false a)) ∧ A4 w w':=by
 rw [A6W,Bool.false_and]
 go_enter Tryz.func66,Tryz.ntmps66
 refine en2 ?_
 intro u hG b4 b3 hB hF
 refine wp_seq (rdC A8 [] [(0,0),(0,1),(0,2),(0,6),(1,3),(0,4),(0,5),(0,7)] hB hG fun K L hN hL=>?_)
 refine gs ?_
 first | refine gmw (C:=fun v=>N9 _ (by assumption) _) ?_ | refine H3 ?_
 refine gs ?_
 refine geC hL ?_
 clear hB hG hL L
 rintro u ⟨-,hB,hG,-⟩
 refine gtT ?_
 clear hN K
 refine st hB hF hG 1 0 [_,_,_] ?_
 clear hB hG
 intro u hB hG
 refine rt Tryz.results66 ?_
 exact ⟨rfl,hG⟩
theorem B26 (a : Nat) (ha : bl a ≤ 1099511627776) (w : World) : Calls Tryz.prog 66 #[.bool true,B4 a] w fun e w'=>e = .returned (E9 (sgn true a)) ∧ A4 w w':=by
 rw [A6W,Bool.true_and]
 have hd : decide (a ≠ 0) = decide (0 < bl a):=by
  have := @Q8 a
  rw [decide_eq_decide];exact this.symm
 rw [hd]
 clear hd
 go_enter Tryz.func66,Tryz.ntmps66
 refine en2 ?_
 intro u hG b4 b3 hB hF
 refine wp_seq (rdC A8 [] [(0,0),(0,1),(0,2),(0,6),(1,3),(0,4),(0,5),(0,7)] hB hG fun K L hN hL=>?_)
 refine gs ?_
 first | refine gmw (C:=fun v=>N9 _ (by assumption) _) ?_ | refine H3 ?_
 refine gs ?_
 refine geC hL ?_
 clear hB hG hL L
 rintro u ⟨-,hB,hG,-⟩
 refine gtT ?_
 clear hN K
 refine st hB hF hG 1 0 [_,_,_] ?_
 clear hB hG
 intro u hB hG
 refine rt Tryz.results66 ?_
 exact ⟨rfl,hG⟩
theorem P4 (neg : Bool) (a : Nat) (ha : bl a ≤ 1099511627776) (w : World) : Calls Tryz.prog 66 #[.bool neg,B4 a] w fun e w'=>e = .returned (E9 (sgn neg a)) ∧ A4 w w':=by
 cases neg
 ·exact A8m a w
 ·exact B26 a ha w
theorem A1z (z : Int) (w : World) : Calls Tryz.prog 124 #[E9 z] w fun e w'=>e = .returned (B4 z.natAbs) ∧ A4 w w':=by
 go_enter Tryz.func124,Tryz.ntmps124
 refine en2 ?_
 intro u hG b2 b1 hB hF
 refine r0T ?_
 refine st hB hF hG 1 0 [_,_] ?_
 clear hB hG
 intro u hB hG
 refine rt Tryz.results124 ?_
 exact ⟨rfl,hG⟩
theorem A1E {x y : Int} (h : x = y) : Ending.returned (E9 x) = .returned (E9 y):=by rw [h]
theorem A9m (n : Int) (h0 : n < 0) (h1 : -9223372036854775808 ≤ n) (w : World) : Calls Tryz.prog 114 #[.int .i64 n] w fun e w'=>e = .returned (E9 n) ∧ A4 w w':=by
 have hw1 : IntKind.u64.wrap n = n + 18446744073709551616:=by
  simp [IntKind.wrap,IntKind.signed,IntKind.bits];omega
 have hw2 : IntKind.u64.wrap (-(n + 18446744073709551616)) = (n.natAbs : Nat):=by
  simp [IntKind.wrap,IntKind.signed,IntKind.bits];omega
 have hlt : n.natAbs < W64:=by unfold W64;omega
 have hd : decide (n < 0) = true:=by simpa using h0
 have hn : E4 n = true:=by unfold E4;exact hd
 go_enter Tryz.func114,Tryz.ntmps114
 refine en1 ?_
 intro u hG b2 hB hF
 refine wp_seq ?_
 refine r0T ?_
 refine wp_cond_true (rfl) ?_
 refine wp_seq (rsC A8 [0,0,0,1,0] hB hG fun K L hN hL=>?_)
 refine gs ?_
 refine gmw (C:=fun v=>A2C _ (by assumption) _) ?_
 refine gs ?_
 refine geC hL ?_
 clear hB hG hL L
 rintro u ⟨-,hB,hG,-⟩
 refine gtT ?_
 clear hN K
 refine st hB hF hG 0 0 [_,_,_] ?_
 clear hB hG
 intro u hB hG
 refine rt Tryz.results114 ?_
 exact ⟨by rw [E9,hn],hG⟩
theorem B2z (n : Int) (h0 : 0 ≤ n) (h1 : n ≤ 9223372036854775807) (w : World) : Calls Tryz.prog 114 #[.int .i64 n] w fun e w'=>e = .returned (E9 n) ∧ A4 w w':=by
 have hw1 : IntKind.u64.wrap n = (n.natAbs : Nat):=by
  simp [IntKind.wrap,IntKind.signed,IntKind.bits];omega
 have hlt : n.natAbs < W64:=by unfold W64;omega
 have hd : decide (n < 0) = false:=by simpa using h0
 have hn : E4 n = false:=by unfold E4;exact hd
 go_enter Tryz.func114,Tryz.ntmps114
 refine en1 ?_
 intro u hG b2 hB hF
 refine wp_seq ?_
 refine r0T ?_
 refine wp_cond_false (rfl) ?_
 refine wp_skip ?_
 refine A6 ?_
 refine wp_seq (rsC A8 [0,0,1,0] hB hG fun K L hN hL=>?_)
 refine gs ?_
 refine gmw (C:=fun v=>A2C _ (by assumption) _) ?_
 refine gs ?_
 refine geC hL ?_
 clear hB hG hL L
 rintro u ⟨-,hB,hG,-⟩
 refine gtT ?_
 clear hN K
 refine st hB hF hG 0 0 [_,_,_] ?_
 clear hB hG
 intro u hB hG
 refine rt Tryz.results114 ?_
 exact ⟨by rw [E9,hn],hG⟩
theorem B0G (n : Int) (h0 : -9223372036854775808 ≤ n) (h1 : n ≤ 9223372036854775807) (w : World) : Calls Tryz.prog 114 #[.int .i64 n] w fun e w'=>e = .returned (E9 n) ∧ A4 w w':=by
 by_cases h : n < 0
 ·exact A9m n h h0 w
 ·exact B2z n (by omega) h1 w
theorem A2c (z : Int) (ha : bl z.natAbs ≤ 1099511627776) (w : World) : Calls Tryz.prog 99 #[E9 z] w fun e w'=>e = .returned (.int .i64 z.sign) ∧ A4 w w':=by
 go_enter Tryz.func99,Tryz.ntmps99
 refine en1 ?_
 intro u hG b1 hB hF
 refine wp_seq ?_
 refine wp_block ?_
 refine r0T ?_
 refine wp_cond_split rfl ?_ ?_
 ·intro ht
  have ht3:=ht
  refine r0T ?_
  refine rt Tryz.results99 ?_
  have h : z < 0:=of_decide_eq_true ht
  exact ⟨J9 (Int.sign_eq_neg_one_of_neg h).symm,hG⟩
 ·intro ht
  have ht3:=ht
  refine wp_seq (rsE A8 [0,0,1,0,0] hB hG fun L hL=>?_)
  refine gs ?_
  refine gmw (C:=fun v=>N9 _ (by assumption) _) ?_
  refine gs ?_
  refine geT hL ?_
  clear hB hG hL L
  rintro u ⟨-,hB,hG,-⟩
  refine wp_cond_split rfl ?_ ?_
  ·intro ht
   have ht6:=ht
   refine r0T ?_
   refine rt Tryz.results99 ?_
   have h : ¬ z < 0:=of_decide_eq_false ht3
   have h2 : 0 < bl z.natAbs:=by simpa using ht
   have h3:=Q8.1 h2
   exact ⟨J9 (Int.sign_eq_one_of_pos (by omega)).symm,hG⟩
  ·intro ht
   have ht6:=ht
   refine wp_skip ?_
   refine D4 ?_
   refine A6 ?_
   refine r0T ?_
   refine rt Tryz.results99 ?_
   have h : ¬ z < 0:=of_decide_eq_false ht3
   have h2 : ¬ 0 < bl z.natAbs:=by simpa using ht
   have h3 : z = 0:=by have := @Q8 z.natAbs;omega
   exact ⟨J9 (by rw [h3];rfl),hG⟩
theorem A56 (z : Int) : sgn (!E4 z) z.natAbs = -z:=by
 unfold sgn E4
 by_cases h : z < 0 <;> simp [h] <;> omega
theorem A5r (z : Int) (ha : bl z.natAbs ≤ 1099511627776) (w : World) : Calls Tryz.prog 129 #[E9 z] w fun e w'=>e = .returned (E9 (P9 z)) ∧ A4 w w':=by
 go_enter Tryz.func129,Tryz.ntmps129
 refine en2 ?_
 intro u hG b2 b1 hB hF
 refine wp_seq (rsC A8 [0,0,0,0,0,1] hB hG fun K L hN hL=>?_)
 refine gs ?_
 refine gmw (C:=fun v=>P4 _ _ (by assumption) _) ?_
 refine geC hL ?_
 clear hB hG hL L
 rintro u ⟨-,hB,hG,-⟩
 refine gtT ?_
 clear hN K
 refine st hB hF hG 1 0 [_,_,_] ?_
 clear hB hG
 intro u hB hG
 refine rt Tryz.results129 ?_
 exact ⟨A1E (A56 z),hG⟩
theorem A8K (a b : Int) : sgn (E4 a != E4 b) (a.natAbs * b.natAbs) = a * b:=by
 have h1:=A07 a
 have h2:=A07 b
 revert h1 h2
 generalize E4 a = p
 generalize E4 b = q
 generalize a.natAbs = x
 generalize b.natAbs = y
 rintro rfl rfl
 cases p <;> cases q <;> simp [sgn,Int.neg_mul,Int.mul_neg]
theorem A32 (a b : Int) (hab : bl a.natAbs + bl b.natAbs ≤ 1099511627776) (w : World) : Calls Tryz.prog 82 #[E9 a,E9 b] w fun e w'=>e = .returned (E9 (H7 a b)) ∧ A4 w w':=by
 have h1 : bl a.natAbs ≤ 1099511627776:=by omega
 have h2 : bl b.natAbs ≤ 1099511627776:=by omega
 have h3 : bl (a.natAbs * b.natAbs) ≤ 1099511627776:=Nat.le_trans (N4 _ _) hab
 go_enter Tryz.func82,Tryz.ntmps82
 refine en3 ?_
 intro u hG b4 b3 b2 hB hF
 refine wp_seq (rdC A8 [] [(0,0),(0,1),(0,2),(0,3),(0,4),(0,5),(0,6),(0,7),(0,8),(1,9),(1,10)] hB hG fun K L hN hL=>?_)
 refine gs ?_
 refine gmw (C:=fun v=>A4u _ _ (by assumption) (by assumption) _) ?_
 refine gmw (C:=fun v=>P4 _ _ (by assumption) _) ?_
 refine geC hL ?_
 clear hB hG hL L
 rintro u ⟨-,hB,hG,-⟩
 refine gtT ?_
 clear hN K
 refine st hB hF hG 2 0 [_,_,_] ?_
 clear hB hG
 intro u hB hG
 refine rt Tryz.results82 ?_
 exact ⟨A1E (A8K a b),hG⟩
def N0 (a b : Int) : Int:=if a < b then -1 else if b < a then 1 else 0
theorem B1j {a b : Int} (ha : a < 0) (hb : b < 0) : F5 b.natAbs a.natAbs = N0 a b:=by
 unfold F5 N0;split <;> split <;> first | rfl | omega | skip
 all_goals split <;> (try split) <;> omega
theorem B0T {a b : Int} (ha : ¬ a < 0) (hb : ¬ b < 0) : F5 a.natAbs b.natAbs = N0 a b:=by
 unfold F5 N0;split <;> split <;> first | rfl | omega | skip
 all_goals split <;> (try split) <;> omega
theorem A9W (a b : Int) (hb : bl b.natAbs ≤ 1099511627776) (n1 : a < 0) (w : World) : Calls Tryz.prog 89 #[E9 a,E9 b] w fun e w'=>e = .returned (.int .i64 (N0 a b)) ∧ A4 w w':=by
 have g1 : E4 a = true:=decide_eq_true n1
 go_enter Tryz.func89,Tryz.ntmps89
 refine en2 ?_
 intro u hG b3 b2 hB hF
 refine wp_seq ?_
 refine wp_block ?_
 refine r0T ?_
 refine wp_cond_split rfl ?_ ?_
 ·intro ht
  have ht5:=ht
  refine wp_seq (rsE A8 [0,0,0,0,1,0] hB hG fun L hL=>?_)
  refine gs ?_
  refine gmw (C:=fun v=>W4 _ _ (by assumption) _) ?_
  refine gs ?_
  refine geT hL ?_
  clear hB hG hL L
  rintro u ⟨-,hB,hG,-⟩
  refine rt Tryz.results89 ?_
  exact ⟨J9 (B1j n1 (of_decide_eq_true ht)),hG⟩
 ·intro ht
  have ht5:=ht
  refine r0T ?_
  refine wp_cond_true (rfl) ?_
  refine r0T ?_
  refine rt Tryz.results89 ?_
  have n2 : ¬ b < 0:=of_decide_eq_false ht5
  exact ⟨J9 (by unfold N0;rw [if_pos (by omega)]),hG⟩
theorem B1f (a b : Int) (ha : bl a.natAbs ≤ 1099511627776) (n1 : ¬ a < 0) (w : World) : Calls Tryz.prog 89 #[E9 a,E9 b] w fun e w'=>e = .returned (.int .i64 (N0 a b)) ∧ A4 w w':=by
 have g1 : E4 a = false:=decide_eq_false n1
 replace n1:=Int.not_lt.1 n1
 go_enter Tryz.func89,Tryz.ntmps89
 refine en2 ?_
 intro u hG b3 b2 hB hF
 refine wp_seq ?_
 refine wp_block ?_
 refine r0T ?_
 refine wp_cond_false (rfl) ?_
 refine r0T ?_
 refine wp_cond_false (rfl) ?_
 refine r0T ?_
 refine wp_cond_split rfl ?_ ?_
 ·intro ht
  have ht20:=ht
  refine r0T ?_
  refine rt Tryz.results89 ?_
  have n2 : b < 0:=of_decide_eq_true ht
  exact ⟨J9 (by unfold N0;rw [if_neg (by omega),if_pos (by omega)]),hG⟩
 ·intro ht
  have ht20:=ht
  refine wp_skip ?_
  refine D4 ?_
  refine A6 ?_
  refine wp_seq (rsE A8 [0,0,0,0,1,0] hB hG fun L hL=>?_)
  refine gs ?_
  refine gmw (C:=fun v=>W4 _ _ (by assumption) _) ?_
  refine gs ?_
  refine geT hL ?_
  clear hB hG hL L
  rintro u ⟨-,hB,hG,-⟩
  refine rt Tryz.results89 ?_
  exact ⟨J9 (B0T (by omega) (of_decide_eq_false ht20)),hG⟩
theorem A2g (a b : Int) (ha : bl a.natAbs ≤ 1099511627776) (hb : bl b.natAbs ≤ 1099511627776) (w : World) : Calls Tryz.prog 89 #[E9 a,E9 b] w fun e w'=>e = .returned (.int .i64 (N0 a b)) ∧ A4 w w':=by
 by_cases h : a < 0
 ·exact A9W a b hb h w
 ·exact B1f a b ha h w
theorem A7e (a b : Nat) (ha : bl a ≤ 1099511627776) (w : World) : Calls Tryz.prog 185 #[B4 a,B4 b] w fun e w'=>e = .returned (.tuple #[B4 (a - b),.bool (decide (b ≤ a))]) ∧ A4 w w':=by
 by_cases h : b ≤ a
 ·rw [decide_eq_true h];exact B2D a b ha h w
 ·rw [decide_eq_false h,Nat.sub_eq_zero_of_le (by omega)];exact B2s a b ha (by omega) w
theorem A7i {a b : Int} (h : E4 a = E4 b) : sgn (E4 a) (a.natAbs + b.natAbs) = a + b:=by
 have h1:=A07 a
 have h2:=A07 b
 rw [← h] at h2
 revert h1 h2
 clear h
 generalize E4 a = p
 generalize a.natAbs = x
 generalize b.natAbs = y
 rintro rfl rfl
 cases p <;> simp [sgn] <;> omega
theorem A31 {a b : Int} (h : ¬ E4 a = E4 b) (hle : b.natAbs ≤ a.natAbs) : sgn (E4 a) (a.natAbs - b.natAbs) = a + b:=by
 have h1:=A07 a
 have h2:=A07 b
 revert h1 h2 h hle
 generalize E4 a = p
 generalize E4 b = q
 generalize a.natAbs = x
 generalize b.natAbs = y
 intro h hle
 rintro rfl rfl
 revert h
 cases p <;> cases q <;> simp [sgn] <;> omega
theorem A7C {a b : Int} (h : ¬ E4 a = E4 b) (hle : ¬ b.natAbs ≤ a.natAbs) : sgn (E4 b) (b.natAbs - a.natAbs) = a + b:=by
 rw [A31 (a:=b) (b:=a) (fun e=>h e.symm) (by omega),Int.add_comm]
theorem A6x (a b : Int) (ha : bl a.natAbs < 1099511627776) (hb : bl b.natAbs < 1099511627776) (w : World) : Calls Tryz.prog 149 #[E9 a,E9 b] w fun e w'=>e = .returned (E9 (S9 a b)) ∧ A4 w w':=by
 have h1 : bl a.natAbs ≤ 1099511627776:=by omega
 have h2 : bl b.natAbs ≤ 1099511627776:=by omega
 have h3 : bl (a.natAbs + b.natAbs) ≤ 1099511627776:=Nat.le_trans (A5C _ _) (by omega)
 have h4 : bl (a.natAbs - b.natAbs) ≤ 1099511627776:=Nat.le_trans (A5q _ _) h1
 have h5 : bl (b.natAbs - a.natAbs) ≤ 1099511627776:=Nat.le_trans (A5q _ _) h2
 go_enter Tryz.func149,Tryz.ntmps149
 refine en3 ?_
 intro u hG b4 b3 b2 hB hF
 refine wp_seq ?_
 refine r0T ?_
 refine wp_cond_split rfl ?_ ?_
 ·intro ht
  have ht13:=ht
  refine wp_seq (rdC A8 [] [(0,0),(0,1),(0,2),(0,3),(0,4),(0,5),(1,6),(1,7)] hB hG fun K L hN hL=>?_)
  refine gs ?_
  refine gmw (C:=fun v=>A94 _ _ (by assumption) (by assumption) _) ?_
  refine gmw (C:=fun v=>P4 _ _ (by assumption) _) ?_
  refine geC hL ?_
  clear hB hG hL L
  rintro u ⟨-,hB,hG,-⟩
  refine gtT ?_
  clear hN K
  refine st hB hF hG 2 0 [_,_,_] ?_
  clear hB hG
  intro u hB hG
  refine rt Tryz.results149 ?_
  exact ⟨A1E (A7i (by simpa using ht)),hG⟩
 ·intro ht
  have ht13:=ht
  refine wp_skip ?_
  refine A6 ?_
  refine wp_seq ?_
  refine wp_seq (rsC A8 [0,0,0,0,1,0,0,0,2] hB hG fun K L hN hL=>?_)
  refine gs ?_
  refine gmw (C:=fun v=>A7e _ _ (by assumption) _) ?_
  refine gs ?_
  refine gaa (J8 _ _ _ _ _) fun b5 hb5 hn5=>?_
  replace hF:=hF.n1 [] hB hG hb5 hn5
  refine geC hL ?_
  clear hB hG hL L
  rintro u ⟨⟨-,hB,hG,-⟩,h5⟩
  replace hB:=hB.cons' h5
  clear h5
  clear hb5 hn5
  refine gtT ?_
  clear hN K
  refine st hB hF hG 0 0 [_,_] ?_
  clear hB hG
  intro u hB hG
  refine r0T ?_
  refine wp_cond_split rfl ?_ ?_
  ·intro ht
   have ht30:=ht
   refine wp_seq (rsC A8 [0,0,0,1] hB hG fun K L hN hL=>?_)
   refine gs ?_
   refine gmw (C:=fun v=>P4 _ _ (by assumption) _) ?_
   refine geC hL ?_
   clear hB hG hL L
   rintro u ⟨-,hB,hG,-⟩
   refine gtT ?_
   clear hN K
   refine st hB hF hG 3 0 [_,_,_] ?_
   clear hB hG
   intro u hB hG
   refine rt Tryz.results149 ?_
   exact ⟨A1E (A31 (by simpa using ht13) (by simpa using ht)),hG⟩
  ·intro ht
   have ht30:=ht
   refine wp_skip ?_
   refine A6 ?_
   refine wp_seq (rsC A8 [0,0,0,0,1,0,0,0,2] hB hG fun K L hN hL=>?_)
   refine gs ?_
   refine gmw (C:=fun v=>A7e _ _ (by assumption) _) ?_
   refine gs ?_
   refine gaa (J8 _ _ _ _ _) fun b7 hb7 hn7=>?_
   replace hF:=hF.n1 [] hB hG hb7 hn7
   refine geC hL ?_
   clear hB hG hL L
   rintro u ⟨⟨-,hB,hG,-⟩,h7⟩
   replace hB:=hB.cons' h7
   clear h7
   clear hb7 hn7
   refine gtT ?_
   clear hN K
   refine st hB hF hG 0 0 [_,_] ?_
   clear hB hG
   intro u hB hG
   refine wp_seq (rsC A8 [0,0,0,1] hB hG fun K L hN hL=>?_)
   refine gs ?_
   refine gmw (C:=fun v=>P4 _ _ (by assumption) _) ?_
   refine geC hL ?_
   clear hB hG hL L
   rintro u ⟨-,hB,hG,-⟩
   refine gtT ?_
   clear hN K
   refine st hB hF hG 4 0 [_,_,_] ?_
   clear hB hG
   intro u hB hG
   refine rt Tryz.results149 ?_
   exact ⟨A1E (A7C (by simpa using ht13) (by simpa using ht)),hG⟩
end Go.Proofs.YtgpglgbcobeogaaGreatDoor
