/- Contracts and laws. -/
import Derived.Test.YtlkniebmjdoopaaGreatDoorK20
set_option linter.unusedSimpArgs false
set_option linter.unusedVariables false
set_option maxHeartbeats 2000000
set_option maxRecDepth 100000
namespace Go.Proofs.YtlkniebmjdoopaaGreatDoor
open Go.RowKit
def M4 (a b : Rat) : Rat:=a + b
def A0e (a b : Rat) : Rat:=a - b
def H9 (a b : Rat) : Rat:=a * b
def J5 (a b : Rat) : Rat:=a / b
def A1d (a : Rat) : Rat:=-a
def H6 (a : Rat) : Rat:=a.abs
def A8 (n : Int) : Rat:=(n : Rat)
def nz (d : Int) : Bool:=decide (d ≠ 0)
def nzq (q : Rat) : Bool:=decide (q ≠ 0)
def B5 (n d : Int) : Rat:=Rat.divInt n d
theorem A6E (n : Int) : (A8 n).num = n:=Rat.num_intCast n
theorem A4x (n : Int) : (A8 n).den = 1:=Rat.den_intCast n
theorem O7 (n : Int) (h0 : -9223372036854775808 ≤ n) (h1 : n ≤ 9223372036854775807) (w : World) : Calls Tryz.prog 17 #[.int .i64 n] w fun e w'=>e = .returned (qV (A8 n)) ∧ A3 w w':=by
 go_enter Tryz.func17,Tryz.ntmps17
 refine en1 ?_
 intro u hG b2 hB hF
 refine wp_seq (rsC A5 [0,1,0] hB hG fun K L hN hL=>?_)
 refine gs ?_
 refine gmw (C:=fun v=>B46 _ (by assumption) (by assumption) _) ?_
 refine gs ?_
 refine geC hL ?_
 clear hB hG hL L
 rintro u ⟨-,hB,hG,-⟩
 refine gtT ?_
 clear hN K
 refine st hB hF hG 0 0 [_,_,_,_,_] ?_
 clear hB hG
 intro u hB hG
 refine rt Tryz.results17 ?_
 exact ⟨A0W (d:=1) (A6E n) (A4x n),hG⟩
theorem A6K (n d : Int) (h : ¬ d < 0) : B5 n d = mkRat n d.natAbs:=by
 obtain ⟨m,rfl⟩ : ∃ m : Nat,d = (m : Int):=⟨d.natAbs,by omega⟩
 unfold B5
 rw [Rat.divInt_ofNat,Int.natAbs_natCast]
theorem A5m (n d : Int) (h : d < 0) : B5 n d = mkRat (V5 n) d.natAbs:=by
 obtain ⟨m,rfl⟩ : ∃ m : Nat,d = -(m : Int):=⟨d.natAbs,by omega⟩
 unfold B5 V5
 rw [Rat.divInt_neg',Rat.divInt_ofNat,Int.natAbs_neg,Int.natAbs_natCast]
theorem B1G (z : Int) : bl (V5 z).natAbs = bl z.natAbs:=by unfold V5;rw [Int.natAbs_neg]
theorem A3F {p q : Rat} {a b : Bool} (h : p = q) (h' : a = b) : Ending.returned (.tuple #[qV p,.bool a]) = .returned (.tuple #[qV q,.bool b]):=by rw [h,h']
theorem B4D (n d : Int) (hn : bl n.natAbs ≤ BIG) (hd : bl d.natAbs ≤ BIG) (w : World) (HT : Tab w) : Calls Tryz.prog 99 #[D4 n,D4 d] w fun e w'=>e = .returned (.tuple #[qV (B5 n d),.bool (nz d)]) ∧ A3 w w':=by
 have hn':=M7 hn
 have hd':=M7 hd
 have hz : bl (V5 n).natAbs ≤ BIG:=by rw [B1G];exact hn
 go_enter Tryz.func99,Tryz.ntmps99
 refine en3 ?_
 intro u hG b4 b3 b2 hB hF
 refine wp_seq ?_
 refine wp_seq (rsE A5 [0,1,0] hB hG fun L hL=>?_)
 refine gs ?_
 refine gmw (C:=fun v=>A16 _ (by assumption) _) ?_
 refine gs ?_
 refine geT hL ?_
 clear hB hG hL L
 rintro u ⟨-,hB,hG,-⟩
 refine wp_cond_split rfl ?_ ?_
 ·intro ht
  have ht8:=ht
  refine r0T ?_
  refine st hB hF hG 2 0 [_,_,_,_,_] ?_
  clear hB hG
  intro u hB hG
  refine rt Tryz.results99 ?_
  have e : d = 0:=by simpa using ht
  subst e
  exact ⟨A3F (p:=0) (by unfold B5;rw [Rat.divInt_zero]) rfl,hG⟩
 ·intro ht
  have ht8:=ht
  have hd0 : d.natAbs ≠ 0:=fun e=>by
   have : d = 0:=by omega
   rw [this] at ht
   simp at ht
  refine wp_skip ?_
  refine A4 ?_
  refine wp_seq ?_
  refine wp_seq (rsE A5 [0,1,0] hB hG fun L hL=>?_)
  refine gs ?_
  refine gmw (C:=fun v=>A16 _ (by assumption) _) ?_
  refine gs ?_
  refine geT hL ?_
  clear hB hG hL L
  rintro u ⟨-,hB,hG,-⟩
  refine wp_cond_split rfl ?_ ?_
  ·intro ht
   have ht12:=ht
   refine rsC A5 [0,1] hB hG fun K L hN hL=>?_
   refine gs ?_
   refine gmw (C:=fun v=>A8z _ (by assumption) _) ?_
   refine geC hL ?_
   clear hB hG hL L
   rintro u ⟨-,hB,hG,-⟩
   refine gtT ?_
   clear hN K
   refine st hB hF hG 0 0 [_,_,_] ?_
   clear hB hG
   intro u hB hG
   refine wp_seq (rdC A5 [] [(0,0),(0,1),(1,2),(1,3)] hB hG fun K L hN hL=>?_)
   refine gs ?_
   refine gmw (C:=fun v=>A1f _ _) ?_
   refine gmd (C:=fun v ⟨hgu,hB,hG,_⟩=>A7l _ _ (by assumption) (by assumption) (by assumption) _ (HT.grow hG)) ?_
   refine geC hL ?_
   clear hB hG hL L
   rintro u ⟨-,hB,hG,-⟩
   refine gtT ?_
   clear hN K
   refine st hB hF hG 2 0 [_,_,_,_,_] ?_
   clear hB hG
   intro u hB hG
   refine rt Tryz.results99 ?_
   have e : d < 0:=by simpa using ht
   exact ⟨A3F (A5m n d e).symm (decide_eq_true (by omega)).symm,hG⟩
  ·intro ht
   have ht12:=ht
   refine wp_skip ?_
   refine A4 ?_
   refine wp_seq (rdC A5 [] [(0,0),(0,1),(1,2),(1,3)] hB hG fun K L hN hL=>?_)
   refine gs ?_
   refine gmw (C:=fun v=>A1f _ _) ?_
   refine gmd (C:=fun v ⟨hgu,hB,hG,_⟩=>A7l _ _ (by assumption) (by assumption) (by assumption) _ (HT.grow hG)) ?_
   refine geC hL ?_
   clear hB hG hL L
   rintro u ⟨-,hB,hG,-⟩
   refine gtT ?_
   clear hN K
   refine st hB hF hG 2 0 [_,_,_,_,_] ?_
   clear hB hG
   intro u hB hG
   refine rt Tryz.results99 ?_
   have e : ¬ d < 0:=by simpa using ht
   exact ⟨A3F (A6K n d e).symm (decide_eq_true (by omega)).symm,hG⟩
theorem A6j {n : Int} (h0 : -9223372036854775808 ≤ n) (h1 : n ≤ 9223372036854775807) : bl n.natAbs ≤ BIG:=by
 refine Nat.le_trans (J9.2 ?_) A45
 have : (2 : Nat) ^ 64 = 18446744073709551616:=rfl
 omega
theorem A95 (q : Rat) (h : bl q.num.natAbs ≤ 1099511627776) (w : World) : Calls Tryz.prog 15 #[qV q] w fun e w'=>e = .returned (qV (A1d q)) ∧ A3 w w':=by
 go_enter Tryz.func15,Tryz.ntmps15
 refine en2 ?_
 intro u hG b2 b1 hB hF
 refine wp_seq (rdC A5 [] [(0,0),(0,1),(0,3),(0,4),(1,2),(0,5)] hB hG fun K L hN hL=>?_)
 refine gs ?_
 refine gmw (C:=fun v=>A8z _ (by assumption) _) ?_
 refine gs ?_
 refine geC hL ?_
 clear hB hG hL L
 rintro u ⟨-,hB,hG,-⟩
 refine gtT ?_
 clear hN K
 refine st hB hF hG 1 0 [_,_,_,_,_] ?_
 clear hB hG
 intro u hB hG
 refine rt Tryz.results15 ?_
 exact ⟨A0W (Rat.neg_num q) (Rat.neg_den q),hG⟩
theorem A73 (q : Rat) : q.abs.num = sgn false q.num.natAbs:=by
 rw [A6p]
 by_cases h : 0 ≤ q
 ·rw [Rat.abs_of_nonneg h]
  have := Rat.num_nonneg.2 h
  omega
 ·have h' : q ≤ 0:=by rcases Rat.le_total (a:=0) (b:=q) with h1 | h1;exact absurd h1 h;exact h1
  rw [Rat.abs_of_nonpos h',Rat.neg_num]
  have : ¬ 0 ≤ q.num:=fun h2=>h (Rat.num_nonneg.1 h2)
  omega
theorem A6u (q : Rat) : q.abs.den = q.den:=by
 by_cases h : 0 ≤ q
 ·rw [Rat.abs_of_nonneg h]
 ·have h' : q ≤ 0:=by rcases Rat.le_total (a:=0) (b:=q) with h1 | h1;exact absurd h1 h;exact h1
  rw [Rat.abs_of_nonpos h',Rat.neg_den]
theorem A8g (q : Rat) (h : bl q.num.natAbs ≤ 1099511627776) (w : World) : Calls Tryz.prog 53 #[qV q] w fun e w'=>e = .returned (qV (H6 q)) ∧ A3 w w':=by
 go_enter Tryz.func53,Tryz.ntmps53
 refine en2 ?_
 intro u hG b2 b1 hB hF
 refine wp_seq (rdC A5 [] [(0,0),(0,1),(0,4),(0,5),(1,2),(1,3),(0,6)] hB hG fun K L hN hL=>?_)
 refine gs ?_
 refine gmw (C:=fun v=>A1f _ _) ?_
 refine gmw (C:=fun v=>N9 _ _ (by assumption) _) ?_
 refine gs ?_
 refine geC hL ?_
 clear hB hG hL L
 rintro u ⟨-,hB,hG,-⟩
 refine gtT ?_
 clear hN K
 refine st hB hF hG 1 0 [_,_,_,_,_] ?_
 clear hB hG
 intro u hB hG
 refine rt Tryz.results53 ?_
 exact ⟨A0W (A73 q) (A6u q),hG⟩
theorem T9 (q : Rat) (h : bl q.den ≤ 1099511627776) (h1 : q.den = 1) (w : World) : Calls Tryz.prog 57 #[qV q] w fun e w'=>e = .returned (.bool true) ∧ A3 w w':=by
 have := A5p q h w
 rw [decide_eq_true h1] at this
 exact this
theorem V9 (q : Rat) (h : bl q.den ≤ 1099511627776) (h1 : ¬ q.den = 1) (w : World) : Calls Tryz.prog 57 #[qV q] w fun e w'=>e = .returned (.bool false) ∧ A3 w w':=by
 have := A5p q h w
 rw [decide_eq_false h1] at this
 exact this
section
variable (a b : Rat) (w : World)
theorem B0d (h : qs a + qs b + 1 ≤ BIG) (ha1 : a.den = 1) (hb1 : b.den = 1) : Calls Tryz.prog 18 #[qV a,qV b] w fun e w'=>e = .returned (.int .i64 (K6 a b)) ∧ A3 w w':=by
 have hB40:=K9
 have h1 : bl a.num.natAbs ≤ 1099511627776:=by have := F8 a;omega
 have h2 : bl b.num.natAbs ≤ 1099511627776:=by have := F8 b;omega
 have h3 : bl a.den ≤ 1099511627776:=by have := F6 a;omega
 have h4 : bl b.den ≤ 1099511627776:=by have := F6 b;omega
 have Ha1:=Lib.hid ha1
 have Hb1:=Lib.hid hb1
 clear ha1 hb1
 go_enter Tryz.func18,Tryz.ntmps18
 refine en2 ?_
 intro u hG b3 b2 hB hF
 refine wp_seq ?_
 refine wp_seq (rdC A5 [] [(0,0),(1,1),(0,2),(0,3),(1,4),(0,5),(0,6),(0,7),(0,9),(1,8),(1,10),(0,11)] hB hG fun K L hN hL=>?_)
 refine gs ?_
 refine gmw (C:=fun v=>T9 a h3 Ha1.out _) ?_
 refine gs ?_
 first | refine gmw (C:=fun v=>T9 b h4 Hb1.out _) ?_ | refine G7 ?_
 refine gs ?_
 first | refine gmw (C:=fun v=>Q7 _ (by assumption) _) ?_ | refine G7 ?_
 first | refine gmw (C:=fun v=>Q7 _ (by assumption) _) ?_ | refine G7 ?_
 refine gs ?_
 refine geC hL ?_
 clear hB hG hL L
 rintro u ⟨-,hB,hG,-⟩
 refine gtT ?_
 clear hN K
 refine wp_cond_true (rfl) ?_
 refine wp_seq (rsE A5 [0,0,0,0,1,0] hB hG fun L hL=>?_)
 refine gs ?_
 refine gmw (C:=fun v=>A28 _ _ (by assumption) (by assumption) _) ?_
 refine gs ?_
 refine geT hL ?_
 clear hB hG hL L
 rintro u ⟨-,hB,hG,-⟩
 refine rt Tryz.results18 ?_
 exact ⟨I5 (B4H Ha1.out Hb1.out).symm,hG⟩
theorem B5v (h : qs a + qs b + 1 ≤ BIG) (ha1 : a.den = 1) (hb1 : ¬ b.den = 1) : Calls Tryz.prog 18 #[qV a,qV b] w fun e w'=>e = .returned (.int .i64 (K6 a b)) ∧ A3 w w':=by
 have hB40:=K9
 have h1 : bl a.num.natAbs ≤ 1099511627776:=by have := F8 a;omega
 have h2 : bl b.num.natAbs ≤ 1099511627776:=by have := F8 b;omega
 have h3 : bl a.den ≤ 1099511627776:=by have := F6 a;omega
 have h4 : bl b.den ≤ 1099511627776:=by have := F6 b;omega
 have h5 : bl a.num.natAbs + bl b.den ≤ 1099511627776:=by have := F8 a;have := F6 b;omega
 have h6 : bl b.num.natAbs + bl a.den ≤ 1099511627776:=by have := F8 b;have := F6 a;omega
 have h7 : bl (ztm a.num b.den).natAbs ≤ 1099511627776:=by unfold ztm;rw [Int.natAbs_mul];exact Nat.le_trans (P5 _ _) h5
 have h8 : bl (ztm b.num a.den).natAbs ≤ 1099511627776:=by unfold ztm;rw [Int.natAbs_mul];exact Nat.le_trans (P5 _ _) h6
 have Ha1:=Lib.hid ha1
 have Hb1:=Lib.hid hb1
 clear ha1 hb1
 go_enter Tryz.func18,Tryz.ntmps18
 refine en2 ?_
 intro u hG b3 b2 hB hF
 refine wp_seq ?_
 refine wp_seq (rdC A5 [] [(0,0),(1,1),(0,2),(0,3),(1,4),(0,5),(0,6),(0,7),(0,9),(1,8),(1,10),(0,11)] hB hG fun K L hN hL=>?_)
 refine gs ?_
 refine gmw (C:=fun v=>T9 a h3 Ha1.out _) ?_
 refine gs ?_
 first | refine gmw (C:=fun v=>V9 b h4 Hb1.out _) ?_ | refine G7 ?_
 refine gs ?_
 first | refine gmw (C:=fun v=>Q7 _ (by assumption) _) ?_ | refine G7 ?_
 first | refine gmw (C:=fun v=>Q7 _ (by assumption) _) ?_ | refine G7 ?_
 refine gs ?_
 refine geC hL ?_
 clear hB hG hL L
 rintro u ⟨-,hB,hG,-⟩
 refine gtT ?_
 clear hN K
 refine wp_cond_split rfl ?_ ?_
 ·intro ht
  have ht17:=ht
  refine wp_seq (rsE A5 [0,0,0,0,1,0] hB hG fun L hL=>?_)
  refine gs ?_
  refine gmw (C:=fun v=>A28 _ _ (by assumption) (by assumption) _) ?_
  refine gs ?_
  refine geT hL ?_
  clear hB hG hL L
  rintro u ⟨-,hB,hG,-⟩
  refine rt Tryz.results18 ?_
  exact ⟨I5 (A64 (by simpa using ht)).symm,hG⟩
 ·intro ht
  have ht17:=ht
  refine wp_skip ?_
  refine A4 ?_
  refine wp_seq (rdC A5 [] [(0,0),(0,1),(0,2),(0,5),(0,6),(0,7),(1,3),(1,4),(1,8),(1,9),(1,10)] hB hG fun K L hN hL=>?_)
  refine gs ?_
  refine gmw (C:=fun v=>Q4 _ (by assumption) _) ?_
  refine gmw (C:=fun v=>A1b _ _ (by assumption) _) ?_
  refine gmw (C:=fun v=>Q4 _ (by assumption) _) ?_
  refine gmw (C:=fun v=>A1b _ _ (by assumption) _) ?_
  refine gmw (C:=fun v=>A28 _ _ (by assumption) (by assumption) _) ?_
  refine geC hL ?_
  clear hB hG hL L
  rintro u ⟨-,hB,hG,-⟩
  refine gtT ?_
  clear hN K
  refine rt Tryz.results18 ?_
  exact ⟨I5 (A4G a b).symm,hG⟩
theorem B25 (h : qs a + qs b + 1 ≤ BIG) (ha1 : ¬ a.den = 1) : Calls Tryz.prog 18 #[qV a,qV b] w fun e w'=>e = .returned (.int .i64 (K6 a b)) ∧ A3 w w':=by
 have hB40:=K9
 have h1 : bl a.num.natAbs ≤ 1099511627776:=by have := F8 a;omega
 have h2 : bl b.num.natAbs ≤ 1099511627776:=by have := F8 b;omega
 have h3 : bl a.den ≤ 1099511627776:=by have := F6 a;omega
 have h4 : bl b.den ≤ 1099511627776:=by have := F6 b;omega
 have h5 : bl a.num.natAbs + bl b.den ≤ 1099511627776:=by have := F8 a;have := F6 b;omega
 have h6 : bl b.num.natAbs + bl a.den ≤ 1099511627776:=by have := F8 b;have := F6 a;omega
 have h7 : bl (ztm a.num b.den).natAbs ≤ 1099511627776:=by unfold ztm;rw [Int.natAbs_mul];exact Nat.le_trans (P5 _ _) h5
 have h8 : bl (ztm b.num a.den).natAbs ≤ 1099511627776:=by unfold ztm;rw [Int.natAbs_mul];exact Nat.le_trans (P5 _ _) h6
 have Ha1:=Lib.hid ha1
 clear ha1
 go_enter Tryz.func18,Tryz.ntmps18
 refine en2 ?_
 intro u hG b3 b2 hB hF
 refine wp_seq ?_
 refine wp_seq (rdC A5 [] [(0,0),(1,1),(0,2),(0,3),(1,4),(0,5),(0,6),(0,7),(0,9),(1,8),(1,10),(0,11)] hB hG fun K L hN hL=>?_)
 refine gs ?_
 refine gmw (C:=fun v=>V9 a h3 Ha1.out _) ?_
 refine gs ?_
 first | refine gmw (C:=fun v=>V9 a h3 Ha1.out _) ?_ | refine G7 ?_
 refine gs ?_
 first | refine gmw (C:=fun v=>Q7 _ (by assumption) _) ?_ | refine G7 ?_
 first | refine gmw (C:=fun v=>Q7 _ (by assumption) _) ?_ | refine G7 ?_
 refine gs ?_
 refine geC hL ?_
 clear hB hG hL L
 rintro u ⟨-,hB,hG,-⟩
 refine gtT ?_
 clear hN K
 refine wp_cond_split rfl ?_ ?_
 ·intro ht
  have ht17:=ht
  refine wp_seq (rsE A5 [0,0,0,0,1,0] hB hG fun L hL=>?_)
  refine gs ?_
  refine gmw (C:=fun v=>A28 _ _ (by assumption) (by assumption) _) ?_
  refine gs ?_
  refine geT hL ?_
  clear hB hG hL L
  rintro u ⟨-,hB,hG,-⟩
  refine rt Tryz.results18 ?_
  exact ⟨I5 (A64 (by simpa using ht)).symm,hG⟩
 ·intro ht
  have ht17:=ht
  refine wp_skip ?_
  refine A4 ?_
  refine wp_seq (rdC A5 [] [(0,0),(0,1),(0,2),(0,5),(0,6),(0,7),(1,3),(1,4),(1,8),(1,9),(1,10)] hB hG fun K L hN hL=>?_)
  refine gs ?_
  refine gmw (C:=fun v=>Q4 _ (by assumption) _) ?_
  refine gmw (C:=fun v=>A1b _ _ (by assumption) _) ?_
  refine gmw (C:=fun v=>Q4 _ (by assumption) _) ?_
  refine gmw (C:=fun v=>A1b _ _ (by assumption) _) ?_
  refine gmw (C:=fun v=>A28 _ _ (by assumption) (by assumption) _) ?_
  refine geC hL ?_
  clear hB hG hL L
  rintro u ⟨-,hB,hG,-⟩
  refine gtT ?_
  clear hN K
  refine rt Tryz.results18 ?_
  exact ⟨I5 (A4G a b).symm,hG⟩
theorem A2S (h : qs a + qs b + 1 ≤ BIG) : Calls Tryz.prog 18 #[qV a,qV b] w fun e w'=>e = .returned (.int .i64 (K6 a b)) ∧ A3 w w':=by
 by_cases ha1 : a.den = 1
 ·by_cases hb1 : b.den = 1
  ·exact B0d a b w h ha1 hb1
  ·exact B5v a b w h ha1 hb1
 ·exact B25 a b w h ha1
theorem A37 (q : Rat) (h : q.den = 1) : q = (q.num : Rat):=Rat.ext (Rat.num_intCast _).symm (by rw [h];exact (Rat.den_intCast _).symm)
theorem B0U (h : qs a + qs b + 1 ≤ BIG) (ha1 : a.den = 1) (hb1 : b.den = 1) : Calls Tryz.prog 54 #[qV a,qV b] w fun e w'=>e = .returned (qV (M4 a b)) ∧ A3 w w':=by
 have hB40:=K9
 have h1 : bl a.num.natAbs < 1099511627776:=by have := F8 a;omega
 have h2 : bl b.num.natAbs < 1099511627776:=by have := F8 b;have := B4m a;omega
 have h3 : bl a.den ≤ 1099511627776:=by have := F6 a;omega
 have h4 : bl b.den ≤ 1099511627776:=by have := F6 b;omega
 have e : M4 a b = ((a.num + b.num : Int) : Rat):=by
  unfold M4
  rw [Rat.intCast_add,← A37 a ha1,← A37 b hb1]
 have e1 : (M4 a b).num = A1t a.num b.num:=by rw [e,Rat.num_intCast];rfl
 have e2 : (M4 a b).den = 1:=by rw [e,Rat.den_intCast]
 have He:=Lib.hid (And.intro e1 e2)
 clear e e1 e2
 have Ha1:=Lib.hid ha1
 have Hb1:=Lib.hid hb1
 clear ha1 hb1
 go_enter Tryz.func54,Tryz.ntmps54
 refine en3 ?_
 intro u hG b4 b3 b2 hB hF
 refine wp_seq ?_
 refine wp_seq (rsE A5 [0,1,0,0,1,0] hB hG fun L hL=>?_)
 refine gs ?_
 refine gmw (C:=fun v=>T9 a h3 Ha1.out _) ?_
 refine gs ?_
 first | refine gmw (C:=fun v=>T9 b h4 Hb1.out _) ?_ | refine G7 ?_
 refine gs ?_
 refine geT hL ?_
 clear hB hG hL L
 rintro u ⟨-,hB,hG,-⟩
 refine wp_cond_true (rfl) ?_
 refine wp_seq (rsC A5 [0,0,0,0,1,0] hB hG fun K L hN hL=>?_)
 refine gs ?_
 refine gmw (C:=fun v=>B0F _ _ (by assumption) (by assumption) _) ?_
 refine gs ?_
 refine geC hL ?_
 clear hB hG hL L
 rintro u ⟨-,hB,hG,-⟩
 refine gtT ?_
 clear hN K
 refine st hB hF hG 2 0 [_,_,_,_,_] ?_
 clear hB hG
 intro u hB hG
 refine rt Tryz.results54 ?_
 exact ⟨A0W He.out.1 He.out.2,hG⟩
theorem B26 (h : qs a + qs b + 1 ≤ BIG) : bl (Nat.gcd a.den b.den) ≤ BIG ∧ Nat.gcd a.den b.den ≠ 0 ∧ bl a.den ≤ BIG ∧ bl b.den ≤ BIG ∧ bl a.num.natAbs + bl (b.den / Nat.gcd a.den b.den) ≤ 1099511627776 ∧ bl b.num.natAbs + bl (a.den / Nat.gcd a.den b.den) ≤ 1099511627776 ∧
  bl (ztm a.num (b.den / Nat.gcd a.den b.den)).natAbs < 1099511627776 ∧ bl (ztm b.num (a.den / Nat.gcd a.den b.den)).natAbs < 1099511627776 ∧ bl (A1t (ztm a.num (b.den / Nat.gcd a.den b.den)) (ztm b.num (a.den / Nat.gcd a.den b.den))).natAbs ≤ BIG ∧
  bl (Nat.gcd (A1t (ztm a.num (b.den / Nat.gcd a.den b.den)) (ztm b.num (a.den / Nat.gcd a.den b.den))).natAbs (Nat.gcd a.den b.den)) ≤ BIG ∧ Nat.gcd (A1t (ztm a.num (b.den / Nat.gcd a.den b.den)) (ztm b.num (a.den / Nat.gcd a.den b.den))).natAbs (Nat.gcd a.den b.den) ≠ 0:=by
 have hB40:=K9
 have s1:=F8 a
 have s2:=F6 a
 have s3:=F8 b
 have s4:=F6 b
 have s5:=M6 b.den (Nat.gcd a.den b.den)
 have s6:=M6 a.den (Nat.gcd a.den b.den)
 have g0 : Nat.gcd a.den b.den ≠ 0:=fun e=>a.den_nz (Nat.eq_zero_of_gcd_eq_zero_left e)
 have g1:=B55 a.den b.den a.den_nz
 have up : bl (U4 a b).natAbs ≤ qs a + qs b + 1:=A9L a b
 have m1 : bl (ztm a.num (b.den / Nat.gcd a.den b.den)).natAbs ≤ bl a.num.natAbs + bl (b.den / Nat.gcd a.den b.den):=by unfold ztm;rw [Int.natAbs_mul];exact P5 _ _
 have m2 : bl (ztm b.num (a.den / Nat.gcd a.den b.den)).natAbs ≤ bl b.num.natAbs + bl (a.den / Nat.gcd a.den b.den):=by unfold ztm;rw [Int.natAbs_mul];exact P5 _ _
 refine ⟨by omega,g0,by omega,by omega,by omega,by omega,by omega,by omega,Nat.le_trans up h,Nat.le_trans (A3G _ _ g0) (by omega),fun e=>g0 (Nat.eq_zero_of_gcd_eq_zero_right e)⟩
end
end Go.Proofs.YtlkniebmjdoopaaGreatDoor
