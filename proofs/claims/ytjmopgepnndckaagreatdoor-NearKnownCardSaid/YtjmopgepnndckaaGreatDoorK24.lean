/- Contracts and laws. -/
import Derived.Test.YtjmopgepnndckaaGreatDoorK23
set_option linter.unusedSimpArgs false
set_option linter.unusedVariables false
set_option maxHeartbeats 2000000
set_option maxRecDepth 100000
namespace Go.Proofs.YtjmopgepnndckaaGreatDoor
open Go.RowKit
def J5 (a b : Rat) : Rat:=a + b
def I3 (a b : Rat) : Rat:=a - b
def F4 (a b : Rat) : Rat:=a * b
def Z3 (a b : Rat) : Rat:=a / b
def A0d (a : Rat) : Rat:=-a
def B3 (n : Int) : Rat:=(n : Rat)
def nz (d : Int) : Bool:=decide (d ≠ 0)
def nzq (q : Rat) : Bool:=decide (q ≠ 0)
def D3 (n d : Int) : Rat:=Rat.divInt n d
theorem A5m (n : Int) : (B3 n).num = n:=Rat.num_intCast n
theorem B2u (n : Int) : (B3 n).den = 1:=Rat.den_intCast n
theorem Q3 (n : Int) (h0 : -9223372036854775808 ≤ n) (h1 : n ≤ 9223372036854775807) (w : World) : Calls Tryz.prog 35 #[.int .i64 n] w fun e w'=>e = .returned (qV (B3 n)) ∧ A3 w w':=by
 go_enter Tryz.func35,Tryz.ntmps35
 refine en1 ?_
 intro u hG b2 hB hF
 refine wp_seq (rsC A6 [0,1,0] hB hG fun K L hN hL=>?_)
 refine gs ?_
 refine gmw (C:=fun v=>B3C _ (by assumption) (by assumption) _) ?_
 refine gs ?_
 refine geC hL ?_
 clear hB hG hL L
 rintro u ⟨-,hB,hG,-⟩
 refine gtT ?_
 clear hN K
 refine st hB hF hG 0 0 [_,_,_,_,_] ?_
 clear hB hG
 intro u hB hG
 refine rt Tryz.results35 ?_
 exact ⟨A0N (d:=1) (A5m n) (B2u n),hG⟩
theorem A4V (n d : Int) (h : ¬ d < 0) : D3 n d = mkRat n d.natAbs:=by
 obtain ⟨m,rfl⟩ : ∃ m : Nat,d = (m : Int):=⟨d.natAbs,by omega⟩
 unfold D3
 rw [Rat.divInt_ofNat,Int.natAbs_natCast]
theorem A3C (n d : Int) (h : d < 0) : D3 n d = mkRat (S6 n) d.natAbs:=by
 obtain ⟨m,rfl⟩ : ∃ m : Nat,d = -(m : Int):=⟨d.natAbs,by omega⟩
 unfold D3 S6
 rw [Rat.divInt_neg',Rat.divInt_ofNat,Int.natAbs_neg,Int.natAbs_natCast]
theorem B3I (z : Int) : bl (S6 z).natAbs = bl z.natAbs:=by unfold S6;rw [Int.natAbs_neg]
theorem A1y {p q : Rat} {a b : Bool} (h : p = q) (h' : a = b) : Ending.returned (.tuple #[qV p,.bool a]) = .returned (.tuple #[qV q,.bool b]):=by rw [h,h']
theorem B4W (n d : Int) (hn : bl n.natAbs ≤ BIG) (hd : bl d.natAbs ≤ BIG) (w : World) (HT : Tab w) : Calls Tryz.prog 77 #[C3 n,C3 d] w fun e w'=>e = .returned (.tuple #[qV (D3 n d),.bool (nz d)]) ∧ A3 w w':=by
 have hn':=K3 hn
 have hd':=K3 hd
 have hz : bl (S6 n).natAbs ≤ BIG:=by rw [B3I];exact hn
 go_enter Tryz.func77,Tryz.ntmps77
 refine en3 ?_
 intro u hG b4 b3 b2 hB hF
 refine wp_seq ?_
 refine wp_seq (rsE A6 [0,1,0] hB hG fun L hL=>?_)
 refine gs ?_
 refine gmw (C:=fun v=>A1e _ (by assumption) _) ?_
 refine gs ?_
 refine geT hL ?_
 clear hB hG hL L
 rintro u ⟨-,hB,hG,-⟩
 refine wp_cond_split rfl ?_ ?_
 ·intro ht
  have ht8:=ht
  refine r0T ?_
  refine st hB hF hG 2 0 [_,_,_,_,_] ?_
  clear hB hG
  intro u hB hG
  refine rt Tryz.results77 ?_
  have e : d = 0:=by simpa using ht
  subst e
  exact ⟨A1y (p:=0) (by unfold D3;rw [Rat.divInt_zero]) rfl,hG⟩
 ·intro ht
  have ht8:=ht
  have hd0 : d.natAbs ≠ 0:=fun e=>by
   have : d = 0:=by omega
   rw [this] at ht
   simp at ht
  refine wp_skip ?_
  refine A4 ?_
  refine wp_seq ?_
  refine wp_seq (rsE A6 [0,1,0] hB hG fun L hL=>?_)
  refine gs ?_
  refine gmw (C:=fun v=>A1e _ (by assumption) _) ?_
  refine gs ?_
  refine geT hL ?_
  clear hB hG hL L
  rintro u ⟨-,hB,hG,-⟩
  refine wp_cond_split rfl ?_ ?_
  ·intro ht
   have ht12:=ht
   refine rsC A6 [0,1] hB hG fun K L hN hL=>?_
   refine gs ?_
   refine gmw (C:=fun v=>A6s _ (by assumption) _) ?_
   refine geC hL ?_
   clear hB hG hL L
   rintro u ⟨-,hB,hG,-⟩
   refine gtT ?_
   clear hN K
   refine st hB hF hG 0 0 [_,_,_] ?_
   clear hB hG
   intro u hB hG
   refine wp_seq (rdC A6 [] [(0,0),(0,1),(1,2),(1,3)] hB hG fun K L hN hL=>?_)
   refine gs ?_
   refine gmw (C:=fun v=>A1R _ _) ?_
   refine gmd (C:=fun v ⟨hgu,hB,hG,_⟩=>A7N _ _ (by assumption) (by assumption) (by assumption) _ (HT.grow hG)) ?_
   refine geC hL ?_
   clear hB hG hL L
   rintro u ⟨-,hB,hG,-⟩
   refine gtT ?_
   clear hN K
   refine st hB hF hG 2 0 [_,_,_,_,_] ?_
   clear hB hG
   intro u hB hG
   refine rt Tryz.results77 ?_
   have e : d < 0:=by simpa using ht
   exact ⟨A1y (A3C n d e).symm (decide_eq_true (by omega)).symm,hG⟩
  ·intro ht
   have ht12:=ht
   refine wp_skip ?_
   refine A4 ?_
   refine wp_seq (rdC A6 [] [(0,0),(0,1),(1,2),(1,3)] hB hG fun K L hN hL=>?_)
   refine gs ?_
   refine gmw (C:=fun v=>A1R _ _) ?_
   refine gmd (C:=fun v ⟨hgu,hB,hG,_⟩=>A7N _ _ (by assumption) (by assumption) (by assumption) _ (HT.grow hG)) ?_
   refine geC hL ?_
   clear hB hG hL L
   rintro u ⟨-,hB,hG,-⟩
   refine gtT ?_
   clear hN K
   refine st hB hF hG 2 0 [_,_,_,_,_] ?_
   clear hB hG
   intro u hB hG
   refine rt Tryz.results77 ?_
   have e : ¬ d < 0:=by simpa using ht
   exact ⟨A1y (A4V n d e).symm (decide_eq_true (by omega)).symm,hG⟩
theorem A6V {n : Int} (h0 : -9223372036854775808 ≤ n) (h1 : n ≤ 9223372036854775807) : bl n.natAbs ≤ BIG:=by
 refine Nat.le_trans (K4.2 ?_) A2z
 have : (2 : Nat) ^ 64 = 18446744073709551616:=rfl
 omega
theorem A9S (q : Rat) (h : bl q.num.natAbs ≤ 1099511627776) (w : World) : Calls Tryz.prog 148 #[qV q] w fun e w'=>e = .returned (qV (A0d q)) ∧ A3 w w':=by
 go_enter Tryz.func148,Tryz.ntmps148
 refine en2 ?_
 intro u hG b2 b1 hB hF
 refine wp_seq (rdC A6 [] [(0,0),(0,1),(0,3),(0,4),(1,2),(0,5)] hB hG fun K L hN hL=>?_)
 refine gs ?_
 refine gmw (C:=fun v=>A6s _ (by assumption) _) ?_
 refine gs ?_
 refine geC hL ?_
 clear hB hG hL L
 rintro u ⟨-,hB,hG,-⟩
 refine gtT ?_
 clear hN K
 refine st hB hF hG 1 0 [_,_,_,_,_] ?_
 clear hB hG
 intro u hB hG
 refine rt Tryz.results148 ?_
 exact ⟨A0N (Rat.neg_num q) (Rat.neg_den q),hG⟩
theorem R6 (q : Rat) (h : bl q.den ≤ 1099511627776) (h1 : q.den = 1) (w : World) : Calls Tryz.prog 83 #[qV q] w fun e w'=>e = .returned (.bool true) ∧ A3 w w':=by
 have := A3X q h w
 rw [decide_eq_true h1] at this
 exact this
theorem R8 (q : Rat) (h : bl q.den ≤ 1099511627776) (h1 : ¬ q.den = 1) (w : World) : Calls Tryz.prog 83 #[qV q] w fun e w'=>e = .returned (.bool false) ∧ A3 w w':=by
 have := A3X q h w
 rw [decide_eq_false h1] at this
 exact this
section
variable (a b : Rat) (w : World)
theorem A9n (h : qs a + qs b + 1 ≤ BIG) (ha1 : a.den = 1) (hb1 : b.den = 1) : Calls Tryz.prog 45 #[qV a,qV b] w fun e w'=>e = .returned (.int .i64 (E2 a b)) ∧ A3 w w':=by
 have hB40:=N8
 have h1 : bl a.num.natAbs ≤ 1099511627776:=by have := F5 a;omega
 have h2 : bl b.num.natAbs ≤ 1099511627776:=by have := F5 b;omega
 have h3 : bl a.den ≤ 1099511627776:=by have := E6 a;omega
 have h4 : bl b.den ≤ 1099511627776:=by have := E6 b;omega
 have Ha1:=Lib.hid ha1
 have Hb1:=Lib.hid hb1
 clear ha1 hb1
 go_enter Tryz.func45,Tryz.ntmps45
 refine en2 ?_
 intro u hG b3 b2 hB hF
 refine wp_seq ?_
 refine wp_seq (rdC A6 [] [(0,0),(1,1),(0,2),(0,3),(1,4),(0,5),(0,6),(0,7),(0,9),(1,8),(1,10),(0,11)] hB hG fun K L hN hL=>?_)
 refine gs ?_
 refine gmw (C:=fun v=>R6 a h3 Ha1.out _) ?_
 refine gs ?_
 first | refine gmw (C:=fun v=>R6 b h4 Hb1.out _) ?_ | refine E8 ?_
 refine gs ?_
 first | refine gmw (C:=fun v=>T7 _ (by assumption) _) ?_ | refine E8 ?_
 first | refine gmw (C:=fun v=>T7 _ (by assumption) _) ?_ | refine E8 ?_
 refine gs ?_
 refine geC hL ?_
 clear hB hG hL L
 rintro u ⟨-,hB,hG,-⟩
 refine gtT ?_
 clear hN K
 refine wp_cond_true (rfl) ?_
 refine wp_seq (rsE A6 [0,0,0,0,1,0] hB hG fun L hL=>?_)
 refine gs ?_
 refine gmw (C:=fun v=>A1f _ _ (by assumption) (by assumption) _) ?_
 refine gs ?_
 refine geT hL ?_
 clear hB hG hL L
 rintro u ⟨-,hB,hG,-⟩
 refine rt Tryz.results45 ?_
 exact ⟨G9 (B1F Ha1.out Hb1.out).symm,hG⟩
theorem B1D (h : qs a + qs b + 1 ≤ BIG) (ha1 : a.den = 1) (hb1 : ¬ b.den = 1) : Calls Tryz.prog 45 #[qV a,qV b] w fun e w'=>e = .returned (.int .i64 (E2 a b)) ∧ A3 w w':=by
 have hB40:=N8
 have h1 : bl a.num.natAbs ≤ 1099511627776:=by have := F5 a;omega
 have h2 : bl b.num.natAbs ≤ 1099511627776:=by have := F5 b;omega
 have h3 : bl a.den ≤ 1099511627776:=by have := E6 a;omega
 have h4 : bl b.den ≤ 1099511627776:=by have := E6 b;omega
 have h5 : bl a.num.natAbs + bl b.den ≤ 1099511627776:=by have := F5 a;have := E6 b;omega
 have h6 : bl b.num.natAbs + bl a.den ≤ 1099511627776:=by have := F5 b;have := E6 a;omega
 have h7 : bl (ztm a.num b.den).natAbs ≤ 1099511627776:=by unfold ztm;rw [Int.natAbs_mul];exact Nat.le_trans (M6 _ _) h5
 have h8 : bl (ztm b.num a.den).natAbs ≤ 1099511627776:=by unfold ztm;rw [Int.natAbs_mul];exact Nat.le_trans (M6 _ _) h6
 have Ha1:=Lib.hid ha1
 have Hb1:=Lib.hid hb1
 clear ha1 hb1
 go_enter Tryz.func45,Tryz.ntmps45
 refine en2 ?_
 intro u hG b3 b2 hB hF
 refine wp_seq ?_
 refine wp_seq (rdC A6 [] [(0,0),(1,1),(0,2),(0,3),(1,4),(0,5),(0,6),(0,7),(0,9),(1,8),(1,10),(0,11)] hB hG fun K L hN hL=>?_)
 refine gs ?_
 refine gmw (C:=fun v=>R6 a h3 Ha1.out _) ?_
 refine gs ?_
 first | refine gmw (C:=fun v=>R8 b h4 Hb1.out _) ?_ | refine E8 ?_
 refine gs ?_
 first | refine gmw (C:=fun v=>T7 _ (by assumption) _) ?_ | refine E8 ?_
 first | refine gmw (C:=fun v=>T7 _ (by assumption) _) ?_ | refine E8 ?_
 refine gs ?_
 refine geC hL ?_
 clear hB hG hL L
 rintro u ⟨-,hB,hG,-⟩
 refine gtT ?_
 clear hN K
 refine wp_cond_split rfl ?_ ?_
 ·intro ht
  have ht17:=ht
  refine wp_seq (rsE A6 [0,0,0,0,1,0] hB hG fun L hL=>?_)
  refine gs ?_
  refine gmw (C:=fun v=>A1f _ _ (by assumption) (by assumption) _) ?_
  refine gs ?_
  refine geT hL ?_
  clear hB hG hL L
  rintro u ⟨-,hB,hG,-⟩
  refine rt Tryz.results45 ?_
  exact ⟨G9 (A4s (by simpa using ht)).symm,hG⟩
 ·intro ht
  have ht17:=ht
  refine wp_skip ?_
  refine A4 ?_
  refine wp_seq (rdC A6 [] [(0,0),(0,1),(0,2),(0,5),(0,6),(0,7),(1,3),(1,4),(1,8),(1,9),(1,10)] hB hG fun K L hN hL=>?_)
  refine gs ?_
  refine gmw (C:=fun v=>N7 _ (by assumption) _) ?_
  refine gmw (C:=fun v=>A0c _ _ (by assumption) _) ?_
  refine gmw (C:=fun v=>N7 _ (by assumption) _) ?_
  refine gmw (C:=fun v=>A0c _ _ (by assumption) _) ?_
  refine gmw (C:=fun v=>A1f _ _ (by assumption) (by assumption) _) ?_
  refine geC hL ?_
  clear hB hG hL L
  rintro u ⟨-,hB,hG,-⟩
  refine gtT ?_
  clear hN K
  refine rt Tryz.results45 ?_
  exact ⟨G9 (A2E a b).symm,hG⟩
theorem A74 (h : qs a + qs b + 1 ≤ BIG) (ha1 : ¬ a.den = 1) : Calls Tryz.prog 45 #[qV a,qV b] w fun e w'=>e = .returned (.int .i64 (E2 a b)) ∧ A3 w w':=by
 have hB40:=N8
 have h1 : bl a.num.natAbs ≤ 1099511627776:=by have := F5 a;omega
 have h2 : bl b.num.natAbs ≤ 1099511627776:=by have := F5 b;omega
 have h3 : bl a.den ≤ 1099511627776:=by have := E6 a;omega
 have h4 : bl b.den ≤ 1099511627776:=by have := E6 b;omega
 have h5 : bl a.num.natAbs + bl b.den ≤ 1099511627776:=by have := F5 a;have := E6 b;omega
 have h6 : bl b.num.natAbs + bl a.den ≤ 1099511627776:=by have := F5 b;have := E6 a;omega
 have h7 : bl (ztm a.num b.den).natAbs ≤ 1099511627776:=by unfold ztm;rw [Int.natAbs_mul];exact Nat.le_trans (M6 _ _) h5
 have h8 : bl (ztm b.num a.den).natAbs ≤ 1099511627776:=by unfold ztm;rw [Int.natAbs_mul];exact Nat.le_trans (M6 _ _) h6
 have Ha1:=Lib.hid ha1
 clear ha1
 go_enter Tryz.func45,Tryz.ntmps45
 refine en2 ?_
 intro u hG b3 b2 hB hF
 refine wp_seq ?_
 refine wp_seq (rdC A6 [] [(0,0),(1,1),(0,2),(0,3),(1,4),(0,5),(0,6),(0,7),(0,9),(1,8),(1,10),(0,11)] hB hG fun K L hN hL=>?_)
 refine gs ?_
 refine gmw (C:=fun v=>R8 a h3 Ha1.out _) ?_
 refine gs ?_
 first | refine gmw (C:=fun v=>R8 a h3 Ha1.out _) ?_ | refine E8 ?_
 refine gs ?_
 first | refine gmw (C:=fun v=>T7 _ (by assumption) _) ?_ | refine E8 ?_
 first | refine gmw (C:=fun v=>T7 _ (by assumption) _) ?_ | refine E8 ?_
 refine gs ?_
 refine geC hL ?_
 clear hB hG hL L
 rintro u ⟨-,hB,hG,-⟩
 refine gtT ?_
 clear hN K
 refine wp_cond_split rfl ?_ ?_
 ·intro ht
  have ht17:=ht
  refine wp_seq (rsE A6 [0,0,0,0,1,0] hB hG fun L hL=>?_)
  refine gs ?_
  refine gmw (C:=fun v=>A1f _ _ (by assumption) (by assumption) _) ?_
  refine gs ?_
  refine geT hL ?_
  clear hB hG hL L
  rintro u ⟨-,hB,hG,-⟩
  refine rt Tryz.results45 ?_
  exact ⟨G9 (A4s (by simpa using ht)).symm,hG⟩
 ·intro ht
  have ht17:=ht
  refine wp_skip ?_
  refine A4 ?_
  refine wp_seq (rdC A6 [] [(0,0),(0,1),(0,2),(0,5),(0,6),(0,7),(1,3),(1,4),(1,8),(1,9),(1,10)] hB hG fun K L hN hL=>?_)
  refine gs ?_
  refine gmw (C:=fun v=>N7 _ (by assumption) _) ?_
  refine gmw (C:=fun v=>A0c _ _ (by assumption) _) ?_
  refine gmw (C:=fun v=>N7 _ (by assumption) _) ?_
  refine gmw (C:=fun v=>A0c _ _ (by assumption) _) ?_
  refine gmw (C:=fun v=>A1f _ _ (by assumption) (by assumption) _) ?_
  refine geC hL ?_
  clear hB hG hL L
  rintro u ⟨-,hB,hG,-⟩
  refine gtT ?_
  clear hN K
  refine rt Tryz.results45 ?_
  exact ⟨G9 (A2E a b).symm,hG⟩
theorem A06 (h : qs a + qs b + 1 ≤ BIG) : Calls Tryz.prog 45 #[qV a,qV b] w fun e w'=>e = .returned (.int .i64 (E2 a b)) ∧ A3 w w':=by
 by_cases ha1 : a.den = 1
 ·by_cases hb1 : b.den = 1
  ·exact A9n a b w h ha1 hb1
  ·exact B1D a b w h ha1 hb1
 ·exact A74 a b w h ha1
theorem A2f (q : Rat) (h : q.den = 1) : q = (q.num : Rat):=Rat.ext (Rat.num_intCast _).symm (by rw [h];exact (Rat.den_intCast _).symm)
theorem A8i (h : qs a + qs b + 1 ≤ BIG) (ha1 : a.den = 1) (hb1 : b.den = 1) : Calls Tryz.prog 122 #[qV a,qV b] w fun e w'=>e = .returned (qV (J5 a b)) ∧ A3 w w':=by
 have hB40:=N8
 have h1 : bl a.num.natAbs < 1099511627776:=by have := F5 a;omega
 have h2 : bl b.num.natAbs < 1099511627776:=by have := F5 b;have := A8X a;omega
 have h3 : bl a.den ≤ 1099511627776:=by have := E6 a;omega
 have h4 : bl b.den ≤ 1099511627776:=by have := E6 b;omega
 have e : J5 a b = ((a.num + b.num : Int) : Rat):=by
  unfold J5
  rw [Rat.intCast_add,← A2f a ha1,← A2f b hb1]
 have e1 : (J5 a b).num = A0w a.num b.num:=by rw [e,Rat.num_intCast];rfl
 have e2 : (J5 a b).den = 1:=by rw [e,Rat.den_intCast]
 have He:=Lib.hid (And.intro e1 e2)
 clear e e1 e2
 have Ha1:=Lib.hid ha1
 have Hb1:=Lib.hid hb1
 clear ha1 hb1
 go_enter Tryz.func122,Tryz.ntmps122
 refine en3 ?_
 intro u hG b4 b3 b2 hB hF
 refine wp_seq ?_
 refine wp_seq (rsE A6 [0,1,0,0,1,0] hB hG fun L hL=>?_)
 refine gs ?_
 refine gmw (C:=fun v=>R6 a h3 Ha1.out _) ?_
 refine gs ?_
 first | refine gmw (C:=fun v=>R6 b h4 Hb1.out _) ?_ | refine E8 ?_
 refine gs ?_
 refine geT hL ?_
 clear hB hG hL L
 rintro u ⟨-,hB,hG,-⟩
 refine wp_cond_true (rfl) ?_
 refine wp_seq (rsC A6 [0,0,0,0,1,0] hB hG fun K L hN hL=>?_)
 refine gs ?_
 refine gmw (C:=fun v=>A6x _ _ (by assumption) (by assumption) _) ?_
 refine gs ?_
 refine geC hL ?_
 clear hB hG hL L
 rintro u ⟨-,hB,hG,-⟩
 refine gtT ?_
 clear hN K
 refine st hB hF hG 2 0 [_,_,_,_,_] ?_
 clear hB hG
 intro u hB hG
 refine rt Tryz.results122 ?_
 exact ⟨A0N He.out.1 He.out.2,hG⟩
theorem B2J (h : qs a + qs b + 1 ≤ BIG) : bl (Nat.gcd a.den b.den) ≤ BIG ∧ Nat.gcd a.den b.den ≠ 0 ∧ bl a.den ≤ BIG ∧ bl b.den ≤ BIG ∧ bl a.num.natAbs + bl (b.den / Nat.gcd a.den b.den) ≤ 1099511627776 ∧ bl b.num.natAbs + bl (a.den / Nat.gcd a.den b.den) ≤ 1099511627776 ∧
  bl (ztm a.num (b.den / Nat.gcd a.den b.den)).natAbs < 1099511627776 ∧ bl (ztm b.num (a.den / Nat.gcd a.den b.den)).natAbs < 1099511627776 ∧ bl (A0w (ztm a.num (b.den / Nat.gcd a.den b.den)) (ztm b.num (a.den / Nat.gcd a.den b.den))).natAbs ≤ BIG ∧
  bl (Nat.gcd (A0w (ztm a.num (b.den / Nat.gcd a.den b.den)) (ztm b.num (a.den / Nat.gcd a.den b.den))).natAbs (Nat.gcd a.den b.den)) ≤ BIG ∧ Nat.gcd (A0w (ztm a.num (b.den / Nat.gcd a.den b.den)) (ztm b.num (a.den / Nat.gcd a.den b.den))).natAbs (Nat.gcd a.den b.den) ≠ 0:=by
 have hB40:=N8
 have s1:=F5 a
 have s2:=E6 a
 have s3:=F5 b
 have s4:=E6 b
 have s5:=I4 b.den (Nat.gcd a.den b.den)
 have s6:=I4 a.den (Nat.gcd a.den b.den)
 have g0 : Nat.gcd a.den b.den ≠ 0:=fun e=>a.den_nz (Nat.eq_zero_of_gcd_eq_zero_left e)
 have g1:=B1S a.den b.den a.den_nz
 have up : bl (R7 a b).natAbs ≤ qs a + qs b + 1:=A6P a b
 have m1 : bl (ztm a.num (b.den / Nat.gcd a.den b.den)).natAbs ≤ bl a.num.natAbs + bl (b.den / Nat.gcd a.den b.den):=by unfold ztm;rw [Int.natAbs_mul];exact M6 _ _
 have m2 : bl (ztm b.num (a.den / Nat.gcd a.den b.den)).natAbs ≤ bl b.num.natAbs + bl (a.den / Nat.gcd a.den b.den):=by unfold ztm;rw [Int.natAbs_mul];exact M6 _ _
 refine ⟨by omega,g0,by omega,by omega,by omega,by omega,by omega,by omega,Nat.le_trans up h,Nat.le_trans (A2X _ _ g0) (by omega),fun e=>g0 (Nat.eq_zero_of_gcd_eq_zero_right e)⟩
end
end Go.Proofs.YtjmopgepnndckaaGreatDoor
