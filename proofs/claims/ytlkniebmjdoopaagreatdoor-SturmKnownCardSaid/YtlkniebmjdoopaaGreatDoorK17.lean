/- Contracts and laws. -/
import Derived.Test.YtlkniebmjdoopaaGreatDoorK16
set_option linter.unusedSimpArgs false
set_option linter.unusedVariables false
set_option maxHeartbeats 1000000
set_option maxRecDepth 100000
namespace Go.Proofs.YtlkniebmjdoopaaGreatDoor
open Go.RowKit
def V5 (z : Int) : Int:=-z
def A1t (a b : Int) : Int:=a + b
def A5O (a b : Int) : Int:=a * b
def ztd (a : Int) (b : Nat) : Int:=a.tdiv b
def ztm (a : Int) (b : Nat) : Int:=a * b
def sgn (neg : Bool) (a : Nat) : Int:=if neg then -(a : Int) else a
theorem A0k (neg : Bool) (a : Nat) : (sgn neg a).natAbs = a:=by unfold sgn;split <;> omega
theorem A6p (a : Nat) : sgn false a = a:=rfl
theorem B2q (a : Nat) : sgn true a = -(a : Int):=rfl
theorem A8H (neg : Bool) (a : Nat) : D1 (sgn neg a) = (neg && decide (a ≠ 0)):=by
 unfold D1 sgn
 cases neg
 ·simp
 ·rw [Bool.eq_iff_iff];simp;omega
theorem A8F (neg : Bool) (a : Nat) : D4 (sgn neg a) = .agg #[.bool (neg && decide (a ≠ 0)),.int .u64 (B3 a),.string (B1 a)]:=by
 unfold D4;rw [A8H,A0k]
theorem A0S (z : Int) : sgn (D1 z) z.natAbs = z:=by
 unfold sgn D1
 split
 ·rename_i h;have := of_decide_eq_true h;omega
 ·rename_i h;have : ¬ z < 0:=fun h'=>h (decide_eq_true h');omega
theorem B3s (a : Nat) (w : World) : Calls Tryz.prog 60 #[.bool false,A6 a] w fun e w'=>e = .returned (D4 (sgn false a)) ∧ A3 w w':=by
 rw [A8F,Bool.false_and]
 go_enter Tryz.func60,Tryz.ntmps60
 refine en2 ?_
 intro u hG b4 b3 hB hF
 refine wp_seq (rdC A5 [] [(0,0),(0,1),(0,2),(0,6),(1,3),(0,4),(0,5),(0,7)] hB hG fun K L hN hL=>?_)
 refine gs ?_
 first | refine gmw (C:=fun v=>M1 _ (by assumption) _) ?_ | refine G7 ?_
 refine gs ?_
 refine geC hL ?_
 clear hB hG hL L
 rintro u ⟨-,hB,hG,-⟩
 refine gtT ?_
 clear hN K
 refine st hB hF hG 1 0 [_,_,_] ?_
 clear hB hG
 intro u hB hG
 refine rt Tryz.results60 ?_
 exact ⟨rfl,hG⟩
theorem B6r (a : Nat) (ha : bl a ≤ 1099511627776) (w : World) : Calls Tryz.prog 60 #[.bool true,A6 a] w fun e w'=>e = .returned (D4 (sgn true a)) ∧ A3 w w':=by
 rw [A8F,Bool.true_and]
 have hd : decide (a ≠ 0) = decide (0 < bl a):=by
  have := @P6 a
  rw [decide_eq_decide];exact this.symm
 rw [hd]
 clear hd
 go_enter Tryz.func60,Tryz.ntmps60
 refine en2 ?_
 intro u hG b4 b3 hB hF
 refine wp_seq (rdC A5 [] [(0,0),(0,1),(0,2),(0,6),(1,3),(0,4),(0,5),(0,7)] hB hG fun K L hN hL=>?_)
 refine gs ?_
 first | refine gmw (C:=fun v=>M1 _ (by assumption) _) ?_ | refine G7 ?_
 refine gs ?_
 refine geC hL ?_
 clear hB hG hL L
 rintro u ⟨-,hB,hG,-⟩
 refine gtT ?_
 clear hN K
 refine st hB hF hG 1 0 [_,_,_] ?_
 clear hB hG
 intro u hB hG
 refine rt Tryz.results60 ?_
 exact ⟨rfl,hG⟩
theorem N9 (neg : Bool) (a : Nat) (ha : bl a ≤ 1099511627776) (w : World) : Calls Tryz.prog 60 #[.bool neg,A6 a] w fun e w'=>e = .returned (D4 (sgn neg a)) ∧ A3 w w':=by
 cases neg
 ·exact B3s a w
 ·exact B6r a ha w
theorem A1f (z : Int) (w : World) : Calls Tryz.prog 115 #[D4 z] w fun e w'=>e = .returned (A6 z.natAbs) ∧ A3 w w':=by
 go_enter Tryz.func115,Tryz.ntmps115
 refine en2 ?_
 intro u hG b2 b1 hB hF
 refine r0T ?_
 refine st hB hF hG 1 0 [_,_] ?_
 clear hB hG
 intro u hB hG
 refine rt Tryz.results115 ?_
 exact ⟨rfl,hG⟩
theorem A1G {x y : Int} (h : x = y) : Ending.returned (D4 x) = .returned (D4 y):=by rw [h]
theorem B3e (n : Int) (h0 : n < 0) (h1 : -9223372036854775808 ≤ n) (w : World) : Calls Tryz.prog 66 #[.int .i64 n] w fun e w'=>e = .returned (D4 n) ∧ A3 w w':=by
 have hw1 : IntKind.u64.wrap n = n + 18446744073709551616:=by
  simp [IntKind.wrap,IntKind.signed,IntKind.bits];omega
 have hw2 : IntKind.u64.wrap (-(n + 18446744073709551616)) = (n.natAbs : Nat):=by
  simp [IntKind.wrap,IntKind.signed,IntKind.bits];omega
 have hlt : n.natAbs < W64:=by unfold W64;omega
 have hd : decide (n < 0) = true:=by simpa using h0
 have hn : D1 n = true:=by unfold D1;exact hd
 go_enter Tryz.func66,Tryz.ntmps66
 refine en1 ?_
 intro u hG b2 hB hF
 refine wp_seq ?_
 refine r0T ?_
 refine wp_cond_true (rfl) ?_
 refine wp_seq (rsC A5 [0,0,0,1,0] hB hG fun K L hN hL=>?_)
 refine gs ?_
 refine gmw (C:=fun v=>A2Z _ (by assumption) _) ?_
 refine gs ?_
 refine geC hL ?_
 clear hB hG hL L
 rintro u ⟨-,hB,hG,-⟩
 refine gtT ?_
 clear hN K
 refine st hB hF hG 0 0 [_,_,_] ?_
 clear hB hG
 intro u hB hG
 refine rt Tryz.results66 ?_
 exact ⟨by rw [D4,hn],hG⟩
theorem B0f (n : Int) (h0 : 0 ≤ n) (h1 : n ≤ 9223372036854775807) (w : World) : Calls Tryz.prog 66 #[.int .i64 n] w fun e w'=>e = .returned (D4 n) ∧ A3 w w':=by
 have hw1 : IntKind.u64.wrap n = (n.natAbs : Nat):=by
  simp [IntKind.wrap,IntKind.signed,IntKind.bits];omega
 have hlt : n.natAbs < W64:=by unfold W64;omega
 have hd : decide (n < 0) = false:=by simpa using h0
 have hn : D1 n = false:=by unfold D1;exact hd
 go_enter Tryz.func66,Tryz.ntmps66
 refine en1 ?_
 intro u hG b2 hB hF
 refine wp_seq ?_
 refine r0T ?_
 refine wp_cond_false (rfl) ?_
 refine wp_skip ?_
 refine A4 ?_
 refine wp_seq (rsC A5 [0,0,1,0] hB hG fun K L hN hL=>?_)
 refine gs ?_
 refine gmw (C:=fun v=>A2Z _ (by assumption) _) ?_
 refine gs ?_
 refine geC hL ?_
 clear hB hG hL L
 rintro u ⟨-,hB,hG,-⟩
 refine gtT ?_
 clear hN K
 refine st hB hF hG 0 0 [_,_,_] ?_
 clear hB hG
 intro u hB hG
 refine rt Tryz.results66 ?_
 exact ⟨by rw [D4,hn],hG⟩
theorem B46 (n : Int) (h0 : -9223372036854775808 ≤ n) (h1 : n ≤ 9223372036854775807) (w : World) : Calls Tryz.prog 66 #[.int .i64 n] w fun e w'=>e = .returned (D4 n) ∧ A3 w w':=by
 by_cases h : n < 0
 ·exact B3e n h h0 w
 ·exact B0f n (by omega) h1 w
theorem A16 (z : Int) (ha : bl z.natAbs ≤ 1099511627776) (w : World) : Calls Tryz.prog 70 #[D4 z] w fun e w'=>e = .returned (.int .i64 z.sign) ∧ A3 w w':=by
 go_enter Tryz.func70,Tryz.ntmps70
 refine en1 ?_
 intro u hG b1 hB hF
 refine wp_seq ?_
 refine wp_block ?_
 refine r0T ?_
 refine wp_cond_split rfl ?_ ?_
 ·intro ht
  have ht3:=ht
  refine r0T ?_
  refine rt Tryz.results70 ?_
  have h : z < 0:=of_decide_eq_true ht
  exact ⟨I5 (Int.sign_eq_neg_one_of_neg h).symm,hG⟩
 ·intro ht
  have ht3:=ht
  refine wp_seq (rsE A5 [0,0,1,0,0] hB hG fun L hL=>?_)
  refine gs ?_
  refine gmw (C:=fun v=>M1 _ (by assumption) _) ?_
  refine gs ?_
  refine geT hL ?_
  clear hB hG hL L
  rintro u ⟨-,hB,hG,-⟩
  refine wp_cond_split rfl ?_ ?_
  ·intro ht
   have ht6:=ht
   refine r0T ?_
   refine rt Tryz.results70 ?_
   have h : ¬ z < 0:=of_decide_eq_false ht3
   have h2 : 0 < bl z.natAbs:=by simpa using ht
   have h3:=P6.1 h2
   exact ⟨I5 (Int.sign_eq_one_of_pos (by omega)).symm,hG⟩
  ·intro ht
   have ht6:=ht
   refine wp_skip ?_
   refine F0 ?_
   refine A4 ?_
   refine r0T ?_
   refine rt Tryz.results70 ?_
   have h : ¬ z < 0:=of_decide_eq_false ht3
   have h2 : ¬ 0 < bl z.natAbs:=by simpa using ht
   have h3 : z = 0:=by have := @P6 z.natAbs;omega
   exact ⟨I5 (by rw [h3];rfl),hG⟩
theorem A9p (z : Int) : sgn (!D1 z) z.natAbs = -z:=by
 unfold sgn D1
 by_cases h : z < 0 <;> simp [h] <;> omega
theorem A8z (z : Int) (ha : bl z.natAbs ≤ 1099511627776) (w : World) : Calls Tryz.prog 56 #[D4 z] w fun e w'=>e = .returned (D4 (V5 z)) ∧ A3 w w':=by
 go_enter Tryz.func56,Tryz.ntmps56
 refine en2 ?_
 intro u hG b2 b1 hB hF
 refine wp_seq (rsC A5 [0,0,0,0,0,1] hB hG fun K L hN hL=>?_)
 refine gs ?_
 refine gmw (C:=fun v=>N9 _ _ (by assumption) _) ?_
 refine geC hL ?_
 clear hB hG hL L
 rintro u ⟨-,hB,hG,-⟩
 refine gtT ?_
 clear hN K
 refine st hB hF hG 1 0 [_,_,_] ?_
 clear hB hG
 intro u hB hG
 refine rt Tryz.results56 ?_
 exact ⟨A1G (A9p z),hG⟩
theorem B2c (a b : Int) : sgn (D1 a != D1 b) (a.natAbs * b.natAbs) = a * b:=by
 have h1:=A0S a
 have h2:=A0S b
 revert h1 h2
 generalize D1 a = p
 generalize D1 b = q
 generalize a.natAbs = x
 generalize b.natAbs = y
 rintro rfl rfl
 cases p <;> cases q <;> simp [sgn,Int.neg_mul,Int.mul_neg]
theorem A6U (a b : Int) (hab : bl a.natAbs + bl b.natAbs ≤ 1099511627776) (w : World) : Calls Tryz.prog 58 #[D4 a,D4 b] w fun e w'=>e = .returned (D4 (A5O a b)) ∧ A3 w w':=by
 have h1 : bl a.natAbs ≤ 1099511627776:=by omega
 have h2 : bl b.natAbs ≤ 1099511627776:=by omega
 have h3 : bl (a.natAbs * b.natAbs) ≤ 1099511627776:=Nat.le_trans (P5 _ _) hab
 go_enter Tryz.func58,Tryz.ntmps58
 refine en3 ?_
 intro u hG b4 b3 b2 hB hF
 refine wp_seq (rdC A5 [] [(0,0),(0,1),(0,2),(0,3),(0,4),(0,5),(0,6),(0,7),(0,8),(1,9),(1,10)] hB hG fun K L hN hL=>?_)
 refine gs ?_
 refine gmw (C:=fun v=>A4m _ _ (by assumption) (by assumption) _) ?_
 refine gmw (C:=fun v=>N9 _ _ (by assumption) _) ?_
 refine geC hL ?_
 clear hB hG hL L
 rintro u ⟨-,hB,hG,-⟩
 refine gtT ?_
 clear hN K
 refine st hB hF hG 2 0 [_,_,_] ?_
 clear hB hG
 intro u hB hG
 refine rt Tryz.results58 ?_
 exact ⟨A1G (B2c a b),hG⟩
def P7 (a b : Int) : Int:=if a < b then -1 else if b < a then 1 else 0
theorem B2N {a b : Int} (ha : a < 0) (hb : b < 0) : E6 b.natAbs a.natAbs = P7 a b:=by
 unfold E6 P7;split <;> split <;> first | rfl | omega | skip
 all_goals split <;> (try split) <;> omega
theorem B5O {a b : Int} (ha : ¬ a < 0) (hb : ¬ b < 0) : E6 a.natAbs b.natAbs = P7 a b:=by
 unfold E6 P7;split <;> split <;> first | rfl | omega | skip
 all_goals split <;> (try split) <;> omega
theorem B4a (a b : Int) (hb : bl b.natAbs ≤ 1099511627776) (n1 : a < 0) (w : World) : Calls Tryz.prog 67 #[D4 a,D4 b] w fun e w'=>e = .returned (.int .i64 (P7 a b)) ∧ A3 w w':=by
 have g1 : D1 a = true:=decide_eq_true n1
 go_enter Tryz.func67,Tryz.ntmps67
 refine en2 ?_
 intro u hG b3 b2 hB hF
 refine wp_seq ?_
 refine wp_block ?_
 refine r0T ?_
 refine wp_cond_split rfl ?_ ?_
 ·intro ht
  have ht5:=ht
  refine wp_seq (rsE A5 [0,0,0,0,1,0] hB hG fun L hL=>?_)
  refine gs ?_
  refine gmw (C:=fun v=>T7 _ _ (by assumption) _) ?_
  refine gs ?_
  refine geT hL ?_
  clear hB hG hL L
  rintro u ⟨-,hB,hG,-⟩
  refine rt Tryz.results67 ?_
  exact ⟨I5 (B2N n1 (of_decide_eq_true ht)),hG⟩
 ·intro ht
  have ht5:=ht
  refine r0T ?_
  refine wp_cond_true (rfl) ?_
  refine r0T ?_
  refine rt Tryz.results67 ?_
  have n2 : ¬ b < 0:=of_decide_eq_false ht5
  exact ⟨I5 (by unfold P7;rw [if_pos (by omega)]),hG⟩
theorem B0s (a b : Int) (ha : bl a.natAbs ≤ 1099511627776) (n1 : ¬ a < 0) (w : World) : Calls Tryz.prog 67 #[D4 a,D4 b] w fun e w'=>e = .returned (.int .i64 (P7 a b)) ∧ A3 w w':=by
 have g1 : D1 a = false:=decide_eq_false n1
 replace n1:=Int.not_lt.1 n1
 go_enter Tryz.func67,Tryz.ntmps67
 refine en2 ?_
 intro u hG b3 b2 hB hF
 refine wp_seq ?_
 refine wp_block ?_
 refine r0T ?_
 refine wp_cond_false (rfl) ?_
 refine r0T ?_
 refine wp_cond_false (rfl) ?_
 refine r0T ?_
 refine wp_cond_split rfl ?_ ?_
 ·intro ht
  have ht20:=ht
  refine r0T ?_
  refine rt Tryz.results67 ?_
  have n2 : b < 0:=of_decide_eq_true ht
  exact ⟨I5 (by unfold P7;rw [if_neg (by omega),if_pos (by omega)]),hG⟩
 ·intro ht
  have ht20:=ht
  refine wp_skip ?_
  refine F0 ?_
  refine A4 ?_
  refine wp_seq (rsE A5 [0,0,0,0,1,0] hB hG fun L hL=>?_)
  refine gs ?_
  refine gmw (C:=fun v=>T7 _ _ (by assumption) _) ?_
  refine gs ?_
  refine geT hL ?_
  clear hB hG hL L
  rintro u ⟨-,hB,hG,-⟩
  refine rt Tryz.results67 ?_
  exact ⟨I5 (B5O (by omega) (of_decide_eq_false ht20)),hG⟩
theorem A28 (a b : Int) (ha : bl a.natAbs ≤ 1099511627776) (hb : bl b.natAbs ≤ 1099511627776) (w : World) : Calls Tryz.prog 67 #[D4 a,D4 b] w fun e w'=>e = .returned (.int .i64 (P7 a b)) ∧ A3 w w':=by
 by_cases h : a < 0
 ·exact B4a a b hb h w
 ·exact B0s a b ha h w
theorem A9W (a b : Nat) (ha : bl a ≤ 1099511627776) (w : World) : Calls Tryz.prog 152 #[A6 a,A6 b] w fun e w'=>e = .returned (.tuple #[A6 (a - b),.bool (decide (b ≤ a))]) ∧ A3 w w':=by
 by_cases h : b ≤ a
 ·rw [decide_eq_true h];exact B1U a b ha h w
 ·rw [decide_eq_false h,Nat.sub_eq_zero_of_le (by omega)];exact B2X a b ha (by omega) w
theorem B6K {a b : Int} (h : D1 a = D1 b) : sgn (D1 a) (a.natAbs + b.natAbs) = a + b:=by
 have h1:=A0S a
 have h2:=A0S b
 rw [← h] at h2
 revert h1 h2
 clear h
 generalize D1 a = p
 generalize a.natAbs = x
 generalize b.natAbs = y
 rintro rfl rfl
 cases p <;> simp [sgn] <;> omega
theorem A8t {a b : Int} (h : ¬ D1 a = D1 b) (hle : b.natAbs ≤ a.natAbs) : sgn (D1 a) (a.natAbs - b.natAbs) = a + b:=by
 have h1:=A0S a
 have h2:=A0S b
 revert h1 h2 h hle
 generalize D1 a = p
 generalize D1 b = q
 generalize a.natAbs = x
 generalize b.natAbs = y
 intro h hle
 rintro rfl rfl
 revert h
 cases p <;> cases q <;> simp [sgn] <;> omega
theorem B35 {a b : Int} (h : ¬ D1 a = D1 b) (hle : ¬ b.natAbs ≤ a.natAbs) : sgn (D1 b) (b.natAbs - a.natAbs) = a + b:=by
 rw [A8t (a:=b) (b:=a) (fun e=>h e.symm) (by omega),Int.add_comm]
theorem B0F (a b : Int) (ha : bl a.natAbs < 1099511627776) (hb : bl b.natAbs < 1099511627776) (w : World) : Calls Tryz.prog 116 #[D4 a,D4 b] w fun e w'=>e = .returned (D4 (A1t a b)) ∧ A3 w w':=by
 have h1 : bl a.natAbs ≤ 1099511627776:=by omega
 have h2 : bl b.natAbs ≤ 1099511627776:=by omega
 have h3 : bl (a.natAbs + b.natAbs) ≤ 1099511627776:=Nat.le_trans (A67 _ _) (by omega)
 have h4 : bl (a.natAbs - b.natAbs) ≤ 1099511627776:=Nat.le_trans (A8f _ _) h1
 have h5 : bl (b.natAbs - a.natAbs) ≤ 1099511627776:=Nat.le_trans (A8f _ _) h2
 go_enter Tryz.func116,Tryz.ntmps116
 refine en3 ?_
 intro u hG b4 b3 b2 hB hF
 refine wp_seq ?_
 refine r0T ?_
 refine wp_cond_split rfl ?_ ?_
 ·intro ht
  have ht13:=ht
  refine wp_seq (rdC A5 [] [(0,0),(0,1),(0,2),(0,3),(0,4),(0,5),(1,6),(1,7)] hB hG fun K L hN hL=>?_)
  refine gs ?_
  refine gmw (C:=fun v=>B0S _ _ (by assumption) (by assumption) _) ?_
  refine gmw (C:=fun v=>N9 _ _ (by assumption) _) ?_
  refine geC hL ?_
  clear hB hG hL L
  rintro u ⟨-,hB,hG,-⟩
  refine gtT ?_
  clear hN K
  refine st hB hF hG 2 0 [_,_,_] ?_
  clear hB hG
  intro u hB hG
  refine rt Tryz.results116 ?_
  exact ⟨A1G (B6K (by simpa using ht)),hG⟩
 ·intro ht
  have ht13:=ht
  refine wp_skip ?_
  refine A4 ?_
  refine wp_seq ?_
  refine wp_seq (rsC A5 [0,0,0,0,1,0,0,0,2] hB hG fun K L hN hL=>?_)
  refine gs ?_
  refine gmw (C:=fun v=>A9W _ _ (by assumption) _) ?_
  refine gs ?_
  refine gaa (I8 _ _ _ _ _) fun b5 hb5 hn5=>?_
  replace hF:=hF.n1 [] hB hG hb5 hn5
  refine geC hL ?_
  clear hB hG hL L
  rintro u ⟨⟨-,hB,hG,-⟩,h5⟩
  replace hB:=hB.cons' h5
  clear h5
  clear hb5 hn5
  refine gtT ?_
  clear hN K
  refine st hB hF hG 0 0 [_,_] ?_
  clear hB hG
  intro u hB hG
  refine r0T ?_
  refine wp_cond_split rfl ?_ ?_
  ·intro ht
   have ht30:=ht
   refine wp_seq (rsC A5 [0,0,0,1] hB hG fun K L hN hL=>?_)
   refine gs ?_
   refine gmw (C:=fun v=>N9 _ _ (by assumption) _) ?_
   refine geC hL ?_
   clear hB hG hL L
   rintro u ⟨-,hB,hG,-⟩
   refine gtT ?_
   clear hN K
   refine st hB hF hG 3 0 [_,_,_] ?_
   clear hB hG
   intro u hB hG
   refine rt Tryz.results116 ?_
   exact ⟨A1G (A8t (by simpa using ht13) (by simpa using ht)),hG⟩
  ·intro ht
   have ht30:=ht
   refine wp_skip ?_
   refine A4 ?_
   refine wp_seq (rsC A5 [0,0,0,0,1,0,0,0,2] hB hG fun K L hN hL=>?_)
   refine gs ?_
   refine gmw (C:=fun v=>A9W _ _ (by assumption) _) ?_
   refine gs ?_
   refine gaa (I8 _ _ _ _ _) fun b7 hb7 hn7=>?_
   replace hF:=hF.n1 [] hB hG hb7 hn7
   refine geC hL ?_
   clear hB hG hL L
   rintro u ⟨⟨-,hB,hG,-⟩,h7⟩
   replace hB:=hB.cons' h7
   clear h7
   clear hb7 hn7
   refine gtT ?_
   clear hN K
   refine st hB hF hG 0 0 [_,_] ?_
   clear hB hG
   intro u hB hG
   refine wp_seq (rsC A5 [0,0,0,1] hB hG fun K L hN hL=>?_)
   refine gs ?_
   refine gmw (C:=fun v=>N9 _ _ (by assumption) _) ?_
   refine geC hL ?_
   clear hB hG hL L
   rintro u ⟨-,hB,hG,-⟩
   refine gtT ?_
   clear hN K
   refine st hB hF hG 4 0 [_,_,_] ?_
   clear hB hG
   intro u hB hG
   refine rt Tryz.results116 ?_
   exact ⟨A1G (B35 (by simpa using ht13) (by simpa using ht)),hG⟩
end Go.Proofs.YtlkniebmjdoopaaGreatDoor
