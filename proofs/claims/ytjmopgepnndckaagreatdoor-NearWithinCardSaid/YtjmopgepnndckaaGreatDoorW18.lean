/- Contracts and laws. -/
import Derived.Test.YtjmopgepnndckaaGreatDoorW17
set_option linter.unusedSimpArgs false
set_option linter.unusedVariables false
set_option maxHeartbeats 1000000
set_option maxRecDepth 100000
namespace Go.Proofs.YtjmopgepnndckaaGreatDoor
open Go.RowKit
def N3 (z : Int) : Int:=-z
def Q0 (a b : Int) : Int:=a + b
def J4 (a b : Int) : Int:=a * b
def ztd (a : Int) (b : Nat) : Int:=a.tdiv b
def ztm (a : Int) (b : Nat) : Int:=a * b
def sgn (neg : Bool) (a : Nat) : Int:=if neg then -(a : Int) else a
theorem P4 (neg : Bool) (a : Nat) : (sgn neg a).natAbs = a:=by unfold sgn;split <;> omega
theorem A1T (a : Nat) : sgn false a = a:=rfl
theorem B2L (a : Nat) : sgn true a = -(a : Int):=rfl
theorem A6o (neg : Bool) (a : Nat) : B7 (sgn neg a) = (neg && decide (a ≠ 0)):=by
 unfold B7 sgn
 cases neg
 ·simp
 ·rw [Bool.eq_iff_iff];simp;omega
theorem A8V (neg : Bool) (a : Nat) : C8 (sgn neg a) = .agg #[.bool (neg && decide (a ≠ 0)),.int .u64 (A9 a),.string (A8 a)]:=by
 unfold C8;rw [A6o,P4]
theorem A0H (z : Int) : sgn (B7 z) z.natAbs = z:=by
 unfold sgn B7
 split
 ·rename_i h;have := of_decide_eq_true h;omega
 ·rename_i h;have : ¬ z < 0:=fun h'=>h (decide_eq_true h');omega
theorem B0e (a : Nat) (w : World) : Calls Tryz.prog 79 #[.bool false,A7 a] w fun e w'=>e = .returned (C8 (sgn false a)) ∧ A3 w w':=by
 rw [A8V,Bool.false_and]
 go_enter Tryz.func79,Tryz.ntmps79
 refine en2 ?_
 intro u hG b4 b3 hB hF
 refine wp_seq (rdC A5 [] [(0,0),(0,1),(0,2),(0,6),(1,3),(0,4),(0,5),(0,7)] hB hG fun K L hN hL=>?_)
 refine gs ?_
 first | refine gmw (C:=fun v=>L8 _ (by assumption) _) ?_ | refine E4 ?_
 refine gs ?_
 refine geC hL ?_
 clear hB hG hL L
 rintro u ⟨-,hB,hG,-⟩
 refine gtT ?_
 clear hN K
 refine st hB hF hG 1 0 [_,_,_] ?_
 clear hB hG
 intro u hB hG
 refine rt Tryz.results79 ?_
 exact ⟨rfl,hG⟩
theorem B4i (a : Nat) (ha : bl a ≤ 1099511627776) (w : World) : Calls Tryz.prog 79 #[.bool true,A7 a] w fun e w'=>e = .returned (C8 (sgn true a)) ∧ A3 w w':=by
 rw [A8V,Bool.true_and]
 have hd : decide (a ≠ 0) = decide (0 < bl a):=by
  have := @P3 a
  rw [decide_eq_decide];exact this.symm
 rw [hd]
 clear hd
 go_enter Tryz.func79,Tryz.ntmps79
 refine en2 ?_
 intro u hG b4 b3 hB hF
 refine wp_seq (rdC A5 [] [(0,0),(0,1),(0,2),(0,6),(1,3),(0,4),(0,5),(0,7)] hB hG fun K L hN hL=>?_)
 refine gs ?_
 first | refine gmw (C:=fun v=>L8 _ (by assumption) _) ?_ | refine E4 ?_
 refine gs ?_
 refine geC hL ?_
 clear hB hG hL L
 rintro u ⟨-,hB,hG,-⟩
 refine gtT ?_
 clear hN K
 refine st hB hF hG 1 0 [_,_,_] ?_
 clear hB hG
 intro u hB hG
 refine rt Tryz.results79 ?_
 exact ⟨rfl,hG⟩
theorem O2 (neg : Bool) (a : Nat) (ha : bl a ≤ 1099511627776) (w : World) : Calls Tryz.prog 79 #[.bool neg,A7 a] w fun e w'=>e = .returned (C8 (sgn neg a)) ∧ A3 w w':=by
 cases neg
 ·exact B0e a w
 ·exact B4i a ha w
theorem A2Y (z : Int) (w : World) : Calls Tryz.prog 118 #[C8 z] w fun e w'=>e = .returned (A7 z.natAbs) ∧ A3 w w':=by
 go_enter Tryz.func118,Tryz.ntmps118
 refine en2 ?_
 intro u hG b2 b1 hB hF
 refine r0T ?_
 refine st hB hF hG 1 0 [_,_] ?_
 clear hB hG
 intro u hB hG
 refine rt Tryz.results118 ?_
 exact ⟨rfl,hG⟩
theorem A0c {x y : Int} (h : x = y) : Ending.returned (C8 x) = .returned (C8 y):=by rw [h]
theorem B4o (n : Int) (h0 : n < 0) (h1 : -9223372036854775808 ≤ n) (w : World) : Calls Tryz.prog 67 #[.int .i64 n] w fun e w'=>e = .returned (C8 n) ∧ A3 w w':=by
 have hw1 : IntKind.u64.wrap n = n + 18446744073709551616:=by
  simp [IntKind.wrap,IntKind.signed,IntKind.bits];omega
 have hw2 : IntKind.u64.wrap (-(n + 18446744073709551616)) = (n.natAbs : Nat):=by
  simp [IntKind.wrap,IntKind.signed,IntKind.bits];omega
 have hlt : n.natAbs < W64:=by unfold W64;omega
 have hd : decide (n < 0) = true:=by simpa using h0
 have hn : B7 n = true:=by unfold B7;exact hd
 go_enter Tryz.func67,Tryz.ntmps67
 refine en1 ?_
 intro u hG b2 hB hF
 refine wp_seq ?_
 refine r0T ?_
 refine wp_cond_true (rfl) ?_
 refine wp_seq (rsC A5 [0,0,0,1,0] hB hG fun K L hN hL=>?_)
 refine gs ?_
 refine gmw (C:=fun v=>A10 _ (by assumption) _) ?_
 refine gs ?_
 refine geC hL ?_
 clear hB hG hL L
 rintro u ⟨-,hB,hG,-⟩
 refine gtT ?_
 clear hN K
 refine st hB hF hG 0 0 [_,_,_] ?_
 clear hB hG
 intro u hB hG
 refine rt Tryz.results67 ?_
 exact ⟨by rw [C8,hn],hG⟩
theorem B0p (n : Int) (h0 : 0 ≤ n) (h1 : n ≤ 9223372036854775807) (w : World) : Calls Tryz.prog 67 #[.int .i64 n] w fun e w'=>e = .returned (C8 n) ∧ A3 w w':=by
 have hw1 : IntKind.u64.wrap n = (n.natAbs : Nat):=by
  simp [IntKind.wrap,IntKind.signed,IntKind.bits];omega
 have hlt : n.natAbs < W64:=by unfold W64;omega
 have hd : decide (n < 0) = false:=by simpa using h0
 have hn : B7 n = false:=by unfold B7;exact hd
 go_enter Tryz.func67,Tryz.ntmps67
 refine en1 ?_
 intro u hG b2 hB hF
 refine wp_seq ?_
 refine r0T ?_
 refine wp_cond_false (rfl) ?_
 refine wp_skip ?_
 refine A4 ?_
 refine wp_seq (rsC A5 [0,0,1,0] hB hG fun K L hN hL=>?_)
 refine gs ?_
 refine gmw (C:=fun v=>A10 _ (by assumption) _) ?_
 refine gs ?_
 refine geC hL ?_
 clear hB hG hL L
 rintro u ⟨-,hB,hG,-⟩
 refine gtT ?_
 clear hN K
 refine st hB hF hG 0 0 [_,_,_] ?_
 clear hB hG
 intro u hB hG
 refine rt Tryz.results67 ?_
 exact ⟨by rw [C8,hn],hG⟩
theorem B0t (n : Int) (h0 : -9223372036854775808 ≤ n) (h1 : n ≤ 9223372036854775807) (w : World) : Calls Tryz.prog 67 #[.int .i64 n] w fun e w'=>e = .returned (C8 n) ∧ A3 w w':=by
 by_cases h : n < 0
 ·exact B4o n h h0 w
 ·exact B0p n (by omega) h1 w
theorem A1g (z : Int) (ha : bl z.natAbs ≤ 1099511627776) (w : World) : Calls Tryz.prog 115 #[C8 z] w fun e w'=>e = .returned (.int .i64 z.sign) ∧ A3 w w':=by
 go_enter Tryz.func115,Tryz.ntmps115
 refine en1 ?_
 intro u hG b1 hB hF
 refine wp_seq ?_
 refine wp_block ?_
 refine r0T ?_
 refine wp_cond_split rfl ?_ ?_
 ·intro ht
  have ht3:=ht
  refine r0T ?_
  refine rt Tryz.results115 ?_
  have h : z < 0:=of_decide_eq_true ht
  exact ⟨I7 (Int.sign_eq_neg_one_of_neg h).symm,hG⟩
 ·intro ht
  have ht3:=ht
  refine wp_seq (rsE A5 [0,0,1,0,0] hB hG fun L hL=>?_)
  refine gs ?_
  refine gmw (C:=fun v=>L8 _ (by assumption) _) ?_
  refine gs ?_
  refine geT hL ?_
  clear hB hG hL L
  rintro u ⟨-,hB,hG,-⟩
  refine wp_cond_split rfl ?_ ?_
  ·intro ht
   have ht6:=ht
   refine r0T ?_
   refine rt Tryz.results115 ?_
   have h : ¬ z < 0:=of_decide_eq_false ht3
   have h2 : 0 < bl z.natAbs:=by simpa using ht
   have h3:=P3.1 h2
   exact ⟨I7 (Int.sign_eq_one_of_pos (by omega)).symm,hG⟩
  ·intro ht
   have ht6:=ht
   refine wp_skip ?_
   refine D4 ?_
   refine A4 ?_
   refine r0T ?_
   refine rt Tryz.results115 ?_
   have h : ¬ z < 0:=of_decide_eq_false ht3
   have h2 : ¬ 0 < bl z.natAbs:=by simpa using ht
   have h3 : z = 0:=by have := @P3 z.natAbs;omega
   exact ⟨I7 (by rw [h3];rfl),hG⟩
theorem A6n (z : Int) : sgn (!B7 z) z.natAbs = -z:=by
 unfold sgn B7
 by_cases h : z < 0 <;> simp [h] <;> omega
theorem A6k (z : Int) (ha : bl z.natAbs ≤ 1099511627776) (w : World) : Calls Tryz.prog 116 #[C8 z] w fun e w'=>e = .returned (C8 (N3 z)) ∧ A3 w w':=by
 go_enter Tryz.func116,Tryz.ntmps116
 refine en2 ?_
 intro u hG b2 b1 hB hF
 refine wp_seq (rsC A5 [0,0,0,0,0,1] hB hG fun K L hN hL=>?_)
 refine gs ?_
 refine gmw (C:=fun v=>O2 _ _ (by assumption) _) ?_
 refine geC hL ?_
 clear hB hG hL L
 rintro u ⟨-,hB,hG,-⟩
 refine gtT ?_
 clear hN K
 refine st hB hF hG 1 0 [_,_,_] ?_
 clear hB hG
 intro u hB hG
 refine rt Tryz.results116 ?_
 exact ⟨A0c (A6n z),hG⟩
theorem A58 (a b : Int) : sgn (B7 a != B7 b) (a.natAbs * b.natAbs) = a * b:=by
 have h1:=A0H a
 have h2:=A0H b
 revert h1 h2
 generalize B7 a = p
 generalize B7 b = q
 generalize a.natAbs = x
 generalize b.natAbs = y
 rintro rfl rfl
 cases p <;> cases q <;> simp [sgn,Int.neg_mul,Int.mul_neg]
theorem A5X (a b : Int) (hab : bl a.natAbs + bl b.natAbs ≤ 1099511627776) (w : World) : Calls Tryz.prog 124 #[C8 a,C8 b] w fun e w'=>e = .returned (C8 (J4 a b)) ∧ A3 w w':=by
 have h1 : bl a.natAbs ≤ 1099511627776:=by omega
 have h2 : bl b.natAbs ≤ 1099511627776:=by omega
 have h3 : bl (a.natAbs * b.natAbs) ≤ 1099511627776:=Nat.le_trans (M0 _ _) hab
 go_enter Tryz.func124,Tryz.ntmps124
 refine en3 ?_
 intro u hG b4 b3 b2 hB hF
 refine wp_seq (rdC A5 [] [(0,0),(0,1),(0,2),(0,3),(0,4),(0,5),(0,6),(0,7),(0,8),(1,9),(1,10)] hB hG fun K L hN hL=>?_)
 refine gs ?_
 refine gmw (C:=fun v=>A44 _ _ (by assumption) (by assumption) _) ?_
 refine gmw (C:=fun v=>O2 _ _ (by assumption) _) ?_
 refine geC hL ?_
 clear hB hG hL L
 rintro u ⟨-,hB,hG,-⟩
 refine gtT ?_
 clear hN K
 refine st hB hF hG 2 0 [_,_,_] ?_
 clear hB hG
 intro u hB hG
 refine rt Tryz.results124 ?_
 exact ⟨A0c (A58 a b),hG⟩
def K8 (a b : Int) : Int:=if a < b then -1 else if b < a then 1 else 0
theorem B40 {a b : Int} (ha : a < 0) (hb : b < 0) : E1 b.natAbs a.natAbs = K8 a b:=by
 unfold E1 K8;split <;> split <;> first | rfl | omega | skip
 all_goals split <;> (try split) <;> omega
theorem B4u {a b : Int} (ha : ¬ a < 0) (hb : ¬ b < 0) : E1 a.natAbs b.natAbs = K8 a b:=by
 unfold E1 K8;split <;> split <;> first | rfl | omega | skip
 all_goals split <;> (try split) <;> omega
theorem B4c (a b : Int) (hb : bl b.natAbs ≤ 1099511627776) (n1 : a < 0) (w : World) : Calls Tryz.prog 84 #[C8 a,C8 b] w fun e w'=>e = .returned (.int .i64 (K8 a b)) ∧ A3 w w':=by
 have g1 : B7 a = true:=decide_eq_true n1
 go_enter Tryz.func84,Tryz.ntmps84
 refine en2 ?_
 intro u hG b3 b2 hB hF
 refine wp_seq ?_
 refine wp_block ?_
 refine r0T ?_
 refine wp_cond_split rfl ?_ ?_
 ·intro ht
  have ht5:=ht
  refine wp_seq (rsE A5 [0,0,0,0,1,0] hB hG fun L hL=>?_)
  refine gs ?_
  refine gmw (C:=fun v=>S5 _ _ (by assumption) _) ?_
  refine gs ?_
  refine geT hL ?_
  clear hB hG hL L
  rintro u ⟨-,hB,hG,-⟩
  refine rt Tryz.results84 ?_
  exact ⟨I7 (B40 n1 (of_decide_eq_true ht)),hG⟩
 ·intro ht
  have ht5:=ht
  refine r0T ?_
  refine wp_cond_true (rfl) ?_
  refine r0T ?_
  refine rt Tryz.results84 ?_
  have n2 : ¬ b < 0:=of_decide_eq_false ht5
  exact ⟨I7 (by unfold K8;rw [if_pos (by omega)]),hG⟩
theorem B2a (a b : Int) (ha : bl a.natAbs ≤ 1099511627776) (n1 : ¬ a < 0) (w : World) : Calls Tryz.prog 84 #[C8 a,C8 b] w fun e w'=>e = .returned (.int .i64 (K8 a b)) ∧ A3 w w':=by
 have g1 : B7 a = false:=decide_eq_false n1
 replace n1:=Int.not_lt.1 n1
 go_enter Tryz.func84,Tryz.ntmps84
 refine en2 ?_
 intro u hG b3 b2 hB hF
 refine wp_seq ?_
 refine wp_block ?_
 refine r0T ?_
 refine wp_cond_false (rfl) ?_
 refine r0T ?_
 refine wp_cond_false (rfl) ?_
 refine r0T ?_
 refine wp_cond_split rfl ?_ ?_
 ·intro ht
  have ht20:=ht
  refine r0T ?_
  refine rt Tryz.results84 ?_
  have n2 : b < 0:=of_decide_eq_true ht
  exact ⟨I7 (by unfold K8;rw [if_neg (by omega),if_pos (by omega)]),hG⟩
 ·intro ht
  have ht20:=ht
  refine wp_skip ?_
  refine D4 ?_
  refine A4 ?_
  refine wp_seq (rsE A5 [0,0,0,0,1,0] hB hG fun L hL=>?_)
  refine gs ?_
  refine gmw (C:=fun v=>S5 _ _ (by assumption) _) ?_
  refine gs ?_
  refine geT hL ?_
  clear hB hG hL L
  rintro u ⟨-,hB,hG,-⟩
  refine rt Tryz.results84 ?_
  exact ⟨I7 (B4u (by omega) (of_decide_eq_false ht20)),hG⟩
theorem A2P (a b : Int) (ha : bl a.natAbs ≤ 1099511627776) (hb : bl b.natAbs ≤ 1099511627776) (w : World) : Calls Tryz.prog 84 #[C8 a,C8 b] w fun e w'=>e = .returned (.int .i64 (K8 a b)) ∧ A3 w w':=by
 by_cases h : a < 0
 ·exact B4c a b hb h w
 ·exact B2a a b ha h w
theorem A80 (a b : Nat) (ha : bl a ≤ 1099511627776) (w : World) : Calls Tryz.prog 189 #[A7 a,A7 b] w fun e w'=>e = .returned (.tuple #[A7 (a - b),.bool (decide (b ≤ a))]) ∧ A3 w w':=by
 by_cases h : b ≤ a
 ·rw [decide_eq_true h];exact A88 a b ha h w
 ·rw [decide_eq_false h,Nat.sub_eq_zero_of_le (by omega)];exact A9c a b ha (by omega) w
theorem A8u {a b : Int} (h : B7 a = B7 b) : sgn (B7 a) (a.natAbs + b.natAbs) = a + b:=by
 have h1:=A0H a
 have h2:=A0H b
 rw [← h] at h2
 revert h1 h2
 clear h
 generalize B7 a = p
 generalize a.natAbs = x
 generalize b.natAbs = y
 rintro rfl rfl
 cases p <;> simp [sgn] <;> omega
theorem A3t {a b : Int} (h : ¬ B7 a = B7 b) (hle : b.natAbs ≤ a.natAbs) : sgn (B7 a) (a.natAbs - b.natAbs) = a + b:=by
 have h1:=A0H a
 have h2:=A0H b
 revert h1 h2 h hle
 generalize B7 a = p
 generalize B7 b = q
 generalize a.natAbs = x
 generalize b.natAbs = y
 intro h hle
 rintro rfl rfl
 revert h
 cases p <;> cases q <;> simp [sgn] <;> omega
theorem A6P {a b : Int} (h : ¬ B7 a = B7 b) (hle : ¬ b.natAbs ≤ a.natAbs) : sgn (B7 b) (b.natAbs - a.natAbs) = a + b:=by
 rw [A3t (a:=b) (b:=a) (fun e=>h e.symm) (by omega),Int.add_comm]
theorem A7J (a b : Int) (ha : bl a.natAbs < 1099511627776) (hb : bl b.natAbs < 1099511627776) (w : World) : Calls Tryz.prog 158 #[C8 a,C8 b] w fun e w'=>e = .returned (C8 (Q0 a b)) ∧ A3 w w':=by
 have h1 : bl a.natAbs ≤ 1099511627776:=by omega
 have h2 : bl b.natAbs ≤ 1099511627776:=by omega
 have h3 : bl (a.natAbs + b.natAbs) ≤ 1099511627776:=Nat.le_trans (A4a _ _) (by omega)
 have h4 : bl (a.natAbs - b.natAbs) ≤ 1099511627776:=Nat.le_trans (A7b _ _) h1
 have h5 : bl (b.natAbs - a.natAbs) ≤ 1099511627776:=Nat.le_trans (A7b _ _) h2
 go_enter Tryz.func158,Tryz.ntmps158
 refine en3 ?_
 intro u hG b4 b3 b2 hB hF
 refine wp_seq ?_
 refine r0T ?_
 refine wp_cond_split rfl ?_ ?_
 ·intro ht
  have ht13:=ht
  refine wp_seq (rdC A5 [] [(0,0),(0,1),(0,2),(0,3),(0,4),(0,5),(1,6),(1,7)] hB hG fun K L hN hL=>?_)
  refine gs ?_
  refine gmw (C:=fun v=>B4s _ _ (by assumption) (by assumption) _) ?_
  refine gmw (C:=fun v=>O2 _ _ (by assumption) _) ?_
  refine geC hL ?_
  clear hB hG hL L
  rintro u ⟨-,hB,hG,-⟩
  refine gtT ?_
  clear hN K
  refine st hB hF hG 2 0 [_,_,_] ?_
  clear hB hG
  intro u hB hG
  refine rt Tryz.results158 ?_
  exact ⟨A0c (A8u (by simpa using ht)),hG⟩
 ·intro ht
  have ht13:=ht
  refine wp_skip ?_
  refine A4 ?_
  refine wp_seq ?_
  refine wp_seq (rsC A5 [0,0,0,0,1,0,0,0,2] hB hG fun K L hN hL=>?_)
  refine gs ?_
  refine gmw (C:=fun v=>A80 _ _ (by assumption) _) ?_
  refine gs ?_
  refine gaa (I3 _ _ _ _ _) fun b5 hb5 hn5=>?_
  replace hF:=hF.n1 [] hB hG hb5 hn5
  refine geC hL ?_
  clear hB hG hL L
  rintro u ⟨⟨-,hB,hG,-⟩,h5⟩
  replace hB:=hB.cons' h5
  clear h5
  clear hb5 hn5
  refine gtT ?_
  clear hN K
  refine st hB hF hG 0 0 [_,_] ?_
  clear hB hG
  intro u hB hG
  refine r0T ?_
  refine wp_cond_split rfl ?_ ?_
  ·intro ht
   have ht30:=ht
   refine wp_seq (rsC A5 [0,0,0,1] hB hG fun K L hN hL=>?_)
   refine gs ?_
   refine gmw (C:=fun v=>O2 _ _ (by assumption) _) ?_
   refine geC hL ?_
   clear hB hG hL L
   rintro u ⟨-,hB,hG,-⟩
   refine gtT ?_
   clear hN K
   refine st hB hF hG 3 0 [_,_,_] ?_
   clear hB hG
   intro u hB hG
   refine rt Tryz.results158 ?_
   exact ⟨A0c (A3t (by simpa using ht13) (by simpa using ht)),hG⟩
  ·intro ht
   have ht30:=ht
   refine wp_skip ?_
   refine A4 ?_
   refine wp_seq (rsC A5 [0,0,0,0,1,0,0,0,2] hB hG fun K L hN hL=>?_)
   refine gs ?_
   refine gmw (C:=fun v=>A80 _ _ (by assumption) _) ?_
   refine gs ?_
   refine gaa (I3 _ _ _ _ _) fun b7 hb7 hn7=>?_
   replace hF:=hF.n1 [] hB hG hb7 hn7
   refine geC hL ?_
   clear hB hG hL L
   rintro u ⟨⟨-,hB,hG,-⟩,h7⟩
   replace hB:=hB.cons' h7
   clear h7
   clear hb7 hn7
   refine gtT ?_
   clear hN K
   refine st hB hF hG 0 0 [_,_] ?_
   clear hB hG
   intro u hB hG
   refine wp_seq (rsC A5 [0,0,0,1] hB hG fun K L hN hL=>?_)
   refine gs ?_
   refine gmw (C:=fun v=>O2 _ _ (by assumption) _) ?_
   refine geC hL ?_
   clear hB hG hL L
   rintro u ⟨-,hB,hG,-⟩
   refine gtT ?_
   clear hN K
   refine st hB hF hG 4 0 [_,_,_] ?_
   clear hB hG
   intro u hB hG
   refine rt Tryz.results158 ?_
   exact ⟨A0c (A6P (by simpa using ht13) (by simpa using ht)),hG⟩
end Go.Proofs.YtjmopgepnndckaaGreatDoor
