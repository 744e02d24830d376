/- Contracts and laws. -/
import Derived.Test.YtgpglgbcobeogaaGreatDoorU20
set_option linter.unusedSimpArgs false
set_option linter.unusedVariables false
set_option maxHeartbeats 2000000
set_option maxRecDepth 100000
namespace Go.Proofs.YtgpglgbcobeogaaGreatDoor
open Go.RowKit
def G8 (a b : Rat) : Rat:=a + b
def G9 (a b : Rat) : Rat:=a - b
def C2 (a b : Rat) : Rat:=a * b
def W8 (a b : Rat) : Rat:=a / b
def Y5 (a : Rat) : Rat:=-a
def M3 (a : Rat) : Rat:=a.abs
def C1 (n : Int) : Rat:=(n : Rat)
def nz (d : Int) : Bool:=decide (d ≠ 0)
def nzq (q : Rat) : Bool:=decide (q ≠ 0)
def F9 (n d : Int) : Rat:=Rat.divInt n d
theorem A5e (n : Int) : (C1 n).num = n:=Rat.num_intCast n
theorem A5O (n : Int) : (C1 n).den = 1:=Rat.den_intCast n
theorem A0P (n : Int) (h0 : -9223372036854775808 ≤ n) (h1 : n ≤ 9223372036854775807) (w : World) : Calls Tryz.prog 48 #[.int .i64 n] w fun e w'=>e = .returned (qV (C1 n)) ∧ A4 w w':=by
 go_enter Tryz.func48,Tryz.ntmps48
 refine en1 ?_
 intro u hG b2 hB hF
 refine wp_seq (rsC A8 [0,1,0] hB hG fun K L hN hL=>?_)
 refine gs ?_
 refine gmw (C:=fun v=>B4x _ (by assumption) (by assumption) _) ?_
 refine gs ?_
 refine geC hL ?_
 clear hB hG hL L
 rintro u ⟨-,hB,hG,-⟩
 refine gtT ?_
 clear hN K
 refine st hB hF hG 0 0 [_,_,_,_,_] ?_
 clear hB hG
 intro u hB hG
 refine rt Tryz.results48 ?_
 exact ⟨A03 (d:=1) (A5e n) (A5O n),hG⟩
theorem A4R (n d : Int) (h : ¬ d < 0) : F9 n d = mkRat n d.natAbs:=by
 obtain ⟨m,rfl⟩ : ∃ m : Nat,d = (m : Int):=⟨d.natAbs,by omega⟩
 unfold F9
 rw [Rat.divInt_ofNat,Int.natAbs_natCast]
theorem A5g (n d : Int) (h : d < 0) : F9 n d = mkRat (A0L n) d.natAbs:=by
 obtain ⟨m,rfl⟩ : ∃ m : Nat,d = -(m : Int):=⟨d.natAbs,by omega⟩
 unfold F9 A0L
 rw [Rat.divInt_neg',Rat.divInt_ofNat,Int.natAbs_neg,Int.natAbs_natCast]
theorem A95 (z : Int) : bl (A0L z).natAbs = bl z.natAbs:=by unfold A0L;rw [Int.natAbs_neg]
theorem A4F {p q : Rat} {a b : Bool} (h : p = q) (h' : a = b) : Ending.returned (.tuple #[qV p,.bool a]) = .returned (.tuple #[qV q,.bool b]):=by rw [h,h']
theorem B1I (n d : Int) (hn : bl n.natAbs ≤ BIG) (hd : bl d.natAbs ≤ BIG) (w : World) (HT : Tab w) : Calls Tryz.prog 64 #[D8 n,D8 d] w fun e w'=>e = .returned (.tuple #[qV (F9 n d),.bool (nz d)]) ∧ A4 w w':=by
 have hn':=O2 hn
 have hd':=O2 hd
 have hz : bl (A0L n).natAbs ≤ BIG:=by rw [A95];exact hn
 go_enter Tryz.func64,Tryz.ntmps64
 refine en3 ?_
 intro u hG b4 b3 b2 hB hF
 refine wp_seq ?_
 refine wp_seq (rsE A8 [0,1,0] hB hG fun L hL=>?_)
 refine gs ?_
 refine gmw (C:=fun v=>A2k _ (by assumption) _) ?_
 refine gs ?_
 refine geT hL ?_
 clear hB hG hL L
 rintro u ⟨-,hB,hG,-⟩
 refine wp_cond_split rfl ?_ ?_
 ·intro ht
  have ht8:=ht
  refine r0T ?_
  refine st hB hF hG 2 0 [_,_,_,_,_] ?_
  clear hB hG
  intro u hB hG
  refine rt Tryz.results64 ?_
  have e : d = 0:=by simpa using ht
  subst e
  exact ⟨A4F (p:=0) (by unfold F9;rw [Rat.divInt_zero]) rfl,hG⟩
 ·intro ht
  have ht8:=ht
  have hd0 : d.natAbs ≠ 0:=fun e=>by
   have : d = 0:=by omega
   rw [this] at ht
   simp at ht
  refine wp_skip ?_
  refine A6 ?_
  refine wp_seq ?_
  refine wp_seq (rsE A8 [0,1,0] hB hG fun L hL=>?_)
  refine gs ?_
  refine gmw (C:=fun v=>A2k _ (by assumption) _) ?_
  refine gs ?_
  refine geT hL ?_
  clear hB hG hL L
  rintro u ⟨-,hB,hG,-⟩
  refine wp_cond_split rfl ?_ ?_
  ·intro ht
   have ht12:=ht
   refine rsC A8 [0,1] hB hG fun K L hN hL=>?_
   refine gs ?_
   refine gmw (C:=fun v=>A6Q _ (by assumption) _) ?_
   refine geC hL ?_
   clear hB hG hL L
   rintro u ⟨-,hB,hG,-⟩
   refine gtT ?_
   clear hN K
   refine st hB hF hG 0 0 [_,_,_] ?_
   clear hB hG
   intro u hB hG
   refine wp_seq (rdC A8 [] [(0,0),(0,1),(1,2),(1,3)] hB hG fun K L hN hL=>?_)
   refine gs ?_
   refine gmw (C:=fun v=>A14 _ _) ?_
   refine gmd (C:=fun v ⟨hgu,hB,hG,_⟩=>A8U _ _ (by assumption) (by assumption) (by assumption) _ (HT.grow hG)) ?_
   refine geC hL ?_
   clear hB hG hL L
   rintro u ⟨-,hB,hG,-⟩
   refine gtT ?_
   clear hN K
   refine st hB hF hG 2 0 [_,_,_,_,_] ?_
   clear hB hG
   intro u hB hG
   refine rt Tryz.results64 ?_
   have e : d < 0:=by simpa using ht
   exact ⟨A4F (A5g n d e).symm (decide_eq_true (by omega)).symm,hG⟩
  ·intro ht
   have ht12:=ht
   refine wp_skip ?_
   refine A6 ?_
   refine wp_seq (rdC A8 [] [(0,0),(0,1),(1,2),(1,3)] hB hG fun K L hN hL=>?_)
   refine gs ?_
   refine gmw (C:=fun v=>A14 _ _) ?_
   refine gmd (C:=fun v ⟨hgu,hB,hG,_⟩=>A8U _ _ (by assumption) (by assumption) (by assumption) _ (HT.grow hG)) ?_
   refine geC hL ?_
   clear hB hG hL L
   rintro u ⟨-,hB,hG,-⟩
   refine gtT ?_
   clear hN K
   refine st hB hF hG 2 0 [_,_,_,_,_] ?_
   clear hB hG
   intro u hB hG
   refine rt Tryz.results64 ?_
   have e : ¬ d < 0:=by simpa using ht
   exact ⟨A4F (A4R n d e).symm (decide_eq_true (by omega)).symm,hG⟩
theorem A50 {n : Int} (h0 : -9223372036854775808 ≤ n) (h1 : n ≤ 9223372036854775807) : bl n.natAbs ≤ BIG:=by
 refine Nat.le_trans (O3.2 ?_) A4o
 have : (2 : Nat) ^ 64 = 18446744073709551616:=rfl
 omega
theorem A8L (q : Rat) (h : bl q.num.natAbs ≤ 1099511627776) (w : World) : Calls Tryz.prog 97 #[qV q] w fun e w'=>e = .returned (qV (Y5 q)) ∧ A4 w w':=by
 go_enter Tryz.func97,Tryz.ntmps97
 refine en2 ?_
 intro u hG b2 b1 hB hF
 refine wp_seq (rdC A8 [] [(0,0),(0,1),(0,3),(0,4),(1,2),(0,5)] hB hG fun K L hN hL=>?_)
 refine gs ?_
 refine gmw (C:=fun v=>A6Q _ (by assumption) _) ?_
 refine gs ?_
 refine geC hL ?_
 clear hB hG hL L
 rintro u ⟨-,hB,hG,-⟩
 refine gtT ?_
 clear hN K
 refine st hB hF hG 1 0 [_,_,_,_,_] ?_
 clear hB hG
 intro u hB hG
 refine rt Tryz.results97 ?_
 exact ⟨A03 (Rat.neg_num q) (Rat.neg_den q),hG⟩
theorem A5K (q : Rat) : q.abs.num = sgn false q.num.natAbs:=by
 rw [A3o]
 by_cases h : 0 ≤ q
 ·rw [Rat.abs_of_nonneg h]
  have := Rat.num_nonneg.2 h
  omega
 ·have h' : q ≤ 0:=by rcases Rat.le_total (a:=0) (b:=q) with h1 | h1;exact absurd h1 h;exact h1
  rw [Rat.abs_of_nonpos h',Rat.neg_num]
  have : ¬ 0 ≤ q.num:=fun h2=>h (Rat.num_nonneg.1 h2)
  omega
theorem A4q (q : Rat) : q.abs.den = q.den:=by
 by_cases h : 0 ≤ q
 ·rw [Rat.abs_of_nonneg h]
 ·have h' : q ≤ 0:=by rcases Rat.le_total (a:=0) (b:=q) with h1 | h1;exact absurd h1 h;exact h1
  rw [Rat.abs_of_nonpos h',Rat.neg_den]
theorem B1U (q : Rat) (h : bl q.num.natAbs ≤ 1099511627776) (w : World) : Calls Tryz.prog 54 #[qV q] w fun e w'=>e = .returned (qV (M3 q)) ∧ A4 w w':=by
 go_enter Tryz.func54,Tryz.ntmps54
 refine en2 ?_
 intro u hG b2 b1 hB hF
 refine wp_seq (rdC A8 [] [(0,0),(0,1),(0,4),(0,5),(1,2),(1,3),(0,6)] hB hG fun K L hN hL=>?_)
 refine gs ?_
 refine gmw (C:=fun v=>A14 _ _) ?_
 refine gmw (C:=fun v=>O6 _ _ (by assumption) _) ?_
 refine gs ?_
 refine geC hL ?_
 clear hB hG hL L
 rintro u ⟨-,hB,hG,-⟩
 refine gtT ?_
 clear hN K
 refine st hB hF hG 1 0 [_,_,_,_,_] ?_
 clear hB hG
 intro u hB hG
 refine rt Tryz.results54 ?_
 exact ⟨A03 (A5K q) (A4q q),hG⟩
theorem Z8 (q : Rat) (h : bl q.den ≤ 1099511627776) (h1 : q.den = 1) (w : World) : Calls Tryz.prog 81 #[qV q] w fun e w'=>e = .returned (.bool true) ∧ A4 w w':=by
 have := A5u q h w
 rw [decide_eq_true h1] at this
 exact this
theorem A0B (q : Rat) (h : bl q.den ≤ 1099511627776) (h1 : ¬ q.den = 1) (w : World) : Calls Tryz.prog 81 #[qV q] w fun e w'=>e = .returned (.bool false) ∧ A4 w w':=by
 have := A5u q h w
 rw [decide_eq_false h1] at this
 exact this
section
variable (a b : Rat) (w : World)
theorem B1l (h : qs a + qs b + 1 ≤ BIG) (ha1 : a.den = 1) (hb1 : b.den = 1) : Calls Tryz.prog 30 #[qV a,qV b] w fun e w'=>e = .returned (.int .i64 (R8 a b)) ∧ A4 w w':=by
 have hB40:=I9
 have h1 : bl a.num.natAbs ≤ 1099511627776:=by have := G4 a;omega
 have h2 : bl b.num.natAbs ≤ 1099511627776:=by have := G4 b;omega
 have h3 : bl a.den ≤ 1099511627776:=by have := G6 a;omega
 have h4 : bl b.den ≤ 1099511627776:=by have := G6 b;omega
 have Ha1:=Lib.hid ha1
 have Hb1:=Lib.hid hb1
 clear ha1 hb1
 go_enter Tryz.func30,Tryz.ntmps30
 refine en2 ?_
 intro u hG b3 b2 hB hF
 refine wp_seq ?_
 refine wp_seq (rdC A8 [] [(0,0),(1,1),(0,2),(0,3),(1,4),(0,5),(0,6),(0,7),(0,9),(1,8),(1,10),(0,11)] hB hG fun K L hN hL=>?_)
 refine gs ?_
 refine gmw (C:=fun v=>Z8 a h3 Ha1.out _) ?_
 refine gs ?_
 first | refine gmw (C:=fun v=>Z8 b h4 Hb1.out _) ?_ | refine O1 ?_
 refine gs ?_
 first | refine gmw (C:=fun v=>Q8 _ (by assumption) _) ?_ | refine O1 ?_
 first | refine gmw (C:=fun v=>Q8 _ (by assumption) _) ?_ | refine O1 ?_
 refine gs ?_
 refine geC hL ?_
 clear hB hG hL L
 rintro u ⟨-,hB,hG,-⟩
 refine gtT ?_
 clear hN K
 refine wp_cond_true (rfl) ?_
 refine wp_seq (rsE A8 [0,0,0,0,1,0] hB hG fun L hL=>?_)
 refine gs ?_
 refine gmw (C:=fun v=>A2l _ _ (by assumption) (by assumption) _) ?_
 refine gs ?_
 refine geT hL ?_
 clear hB hG hL L
 rintro u ⟨-,hB,hG,-⟩
 refine rt Tryz.results30 ?_
 exact ⟨J7 (B1m Ha1.out Hb1.out).symm,hG⟩
theorem B3F (h : qs a + qs b + 1 ≤ BIG) (ha1 : a.den = 1) (hb1 : ¬ b.den = 1) : Calls Tryz.prog 30 #[qV a,qV b] w fun e w'=>e = .returned (.int .i64 (R8 a b)) ∧ A4 w w':=by
 have hB40:=I9
 have h1 : bl a.num.natAbs ≤ 1099511627776:=by have := G4 a;omega
 have h2 : bl b.num.natAbs ≤ 1099511627776:=by have := G4 b;omega
 have h3 : bl a.den ≤ 1099511627776:=by have := G6 a;omega
 have h4 : bl b.den ≤ 1099511627776:=by have := G6 b;omega
 have h5 : bl a.num.natAbs + bl b.den ≤ 1099511627776:=by have := G4 a;have := G6 b;omega
 have h6 : bl b.num.natAbs + bl a.den ≤ 1099511627776:=by have := G4 b;have := G6 a;omega
 have h7 : bl (ztm a.num b.den).natAbs ≤ 1099511627776:=by unfold ztm;rw [Int.natAbs_mul];exact Nat.le_trans (N6 _ _) h5
 have h8 : bl (ztm b.num a.den).natAbs ≤ 1099511627776:=by unfold ztm;rw [Int.natAbs_mul];exact Nat.le_trans (N6 _ _) h6
 have Ha1:=Lib.hid ha1
 have Hb1:=Lib.hid hb1
 clear ha1 hb1
 go_enter Tryz.func30,Tryz.ntmps30
 refine en2 ?_
 intro u hG b3 b2 hB hF
 refine wp_seq ?_
 refine wp_seq (rdC A8 [] [(0,0),(1,1),(0,2),(0,3),(1,4),(0,5),(0,6),(0,7),(0,9),(1,8),(1,10),(0,11)] hB hG fun K L hN hL=>?_)
 refine gs ?_
 refine gmw (C:=fun v=>Z8 a h3 Ha1.out _) ?_
 refine gs ?_
 first | refine gmw (C:=fun v=>A0B b h4 Hb1.out _) ?_ | refine O1 ?_
 refine gs ?_
 first | refine gmw (C:=fun v=>Q8 _ (by assumption) _) ?_ | refine O1 ?_
 first | refine gmw (C:=fun v=>Q8 _ (by assumption) _) ?_ | refine O1 ?_
 refine gs ?_
 refine geC hL ?_
 clear hB hG hL L
 rintro u ⟨-,hB,hG,-⟩
 refine gtT ?_
 clear hN K
 refine wp_cond_split rfl ?_ ?_
 ·intro ht
  have ht17:=ht
  refine wp_seq (rsE A8 [0,0,0,0,1,0] hB hG fun L hL=>?_)
  refine gs ?_
  refine gmw (C:=fun v=>A2l _ _ (by assumption) (by assumption) _) ?_
  refine gs ?_
  refine geT hL ?_
  clear hB hG hL L
  rintro u ⟨-,hB,hG,-⟩
  refine rt Tryz.results30 ?_
  exact ⟨J7 (A7m (by simpa using ht)).symm,hG⟩
 ·intro ht
  have ht17:=ht
  refine wp_skip ?_
  refine A6 ?_
  refine wp_seq (rdC A8 [] [(0,0),(0,1),(0,2),(0,5),(0,6),(0,7),(1,3),(1,4),(1,8),(1,9),(1,10)] hB hG fun K L hN hL=>?_)
  refine gs ?_
  refine gmw (C:=fun v=>R4 _ (by assumption) _) ?_
  refine gmw (C:=fun v=>A1o _ _ (by assumption) _) ?_
  refine gmw (C:=fun v=>R4 _ (by assumption) _) ?_
  refine gmw (C:=fun v=>A1o _ _ (by assumption) _) ?_
  refine gmw (C:=fun v=>A2l _ _ (by assumption) (by assumption) _) ?_
  refine geC hL ?_
  clear hB hG hL L
  rintro u ⟨-,hB,hG,-⟩
  refine gtT ?_
  clear hN K
  refine rt Tryz.results30 ?_
  exact ⟨J7 (A37 a b).symm,hG⟩
theorem B0q (h : qs a + qs b + 1 ≤ BIG) (ha1 : ¬ a.den = 1) : Calls Tryz.prog 30 #[qV a,qV b] w fun e w'=>e = .returned (.int .i64 (R8 a b)) ∧ A4 w w':=by
 have hB40:=I9
 have h1 : bl a.num.natAbs ≤ 1099511627776:=by have := G4 a;omega
 have h2 : bl b.num.natAbs ≤ 1099511627776:=by have := G4 b;omega
 have h3 : bl a.den ≤ 1099511627776:=by have := G6 a;omega
 have h4 : bl b.den ≤ 1099511627776:=by have := G6 b;omega
 have h5 : bl a.num.natAbs + bl b.den ≤ 1099511627776:=by have := G4 a;have := G6 b;omega
 have h6 : bl b.num.natAbs + bl a.den ≤ 1099511627776:=by have := G4 b;have := G6 a;omega
 have h7 : bl (ztm a.num b.den).natAbs ≤ 1099511627776:=by unfold ztm;rw [Int.natAbs_mul];exact Nat.le_trans (N6 _ _) h5
 have h8 : bl (ztm b.num a.den).natAbs ≤ 1099511627776:=by unfold ztm;rw [Int.natAbs_mul];exact Nat.le_trans (N6 _ _) h6
 have Ha1:=Lib.hid ha1
 clear ha1
 go_enter Tryz.func30,Tryz.ntmps30
 refine en2 ?_
 intro u hG b3 b2 hB hF
 refine wp_seq ?_
 refine wp_seq (rdC A8 [] [(0,0),(1,1),(0,2),(0,3),(1,4),(0,5),(0,6),(0,7),(0,9),(1,8),(1,10),(0,11)] hB hG fun K L hN hL=>?_)
 refine gs ?_
 refine gmw (C:=fun v=>A0B a h3 Ha1.out _) ?_
 refine gs ?_
 first | refine gmw (C:=fun v=>A0B a h3 Ha1.out _) ?_ | refine O1 ?_
 refine gs ?_
 first | refine gmw (C:=fun v=>Q8 _ (by assumption) _) ?_ | refine O1 ?_
 first | refine gmw (C:=fun v=>Q8 _ (by assumption) _) ?_ | refine O1 ?_
 refine gs ?_
 refine geC hL ?_
 clear hB hG hL L
 rintro u ⟨-,hB,hG,-⟩
 refine gtT ?_
 clear hN K
 refine wp_cond_split rfl ?_ ?_
 ·intro ht
  have ht17:=ht
  refine wp_seq (rsE A8 [0,0,0,0,1,0] hB hG fun L hL=>?_)
  refine gs ?_
  refine gmw (C:=fun v=>A2l _ _ (by assumption) (by assumption) _) ?_
  refine gs ?_
  refine geT hL ?_
  clear hB hG hL L
  rintro u ⟨-,hB,hG,-⟩
  refine rt Tryz.results30 ?_
  exact ⟨J7 (A7m (by simpa using ht)).symm,hG⟩
 ·intro ht
  have ht17:=ht
  refine wp_skip ?_
  refine A6 ?_
  refine wp_seq (rdC A8 [] [(0,0),(0,1),(0,2),(0,5),(0,6),(0,7),(1,3),(1,4),(1,8),(1,9),(1,10)] hB hG fun K L hN hL=>?_)
  refine gs ?_
  refine gmw (C:=fun v=>R4 _ (by assumption) _) ?_
  refine gmw (C:=fun v=>A1o _ _ (by assumption) _) ?_
  refine gmw (C:=fun v=>R4 _ (by assumption) _) ?_
  refine gmw (C:=fun v=>A1o _ _ (by assumption) _) ?_
  refine gmw (C:=fun v=>A2l _ _ (by assumption) (by assumption) _) ?_
  refine geC hL ?_
  clear hB hG hL L
  rintro u ⟨-,hB,hG,-⟩
  refine gtT ?_
  clear hN K
  refine rt Tryz.results30 ?_
  exact ⟨J7 (A37 a b).symm,hG⟩
theorem A8u (h : qs a + qs b + 1 ≤ BIG) : Calls Tryz.prog 30 #[qV a,qV b] w fun e w'=>e = .returned (.int .i64 (R8 a b)) ∧ A4 w w':=by
 by_cases ha1 : a.den = 1
 ·by_cases hb1 : b.den = 1
  ·exact B1l a b w h ha1 hb1
  ·exact B3F a b w h ha1 hb1
 ·exact B0q a b w h ha1
theorem A3J (q : Rat) (h : q.den = 1) : q = (q.num : Rat):=Rat.ext (Rat.num_intCast _).symm (by rw [h];exact (Rat.den_intCast _).symm)
theorem B18 (h : qs a + qs b + 1 ≤ BIG) (ha1 : a.den = 1) (hb1 : b.den = 1) : Calls Tryz.prog 95 #[qV a,qV b] w fun e w'=>e = .returned (qV (G8 a b)) ∧ A4 w w':=by
 have hB40:=I9
 have h1 : bl a.num.natAbs < 1099511627776:=by have := G4 a;omega
 have h2 : bl b.num.natAbs < 1099511627776:=by have := G4 b;have := B5F a;omega
 have h3 : bl a.den ≤ 1099511627776:=by have := G6 a;omega
 have h4 : bl b.den ≤ 1099511627776:=by have := G6 b;omega
 have e : G8 a b = ((a.num + b.num : Int) : Rat):=by
  unfold G8
  rw [Rat.intCast_add,← A3J a ha1,← A3J b hb1]
 have e1 : (G8 a b).num = A2C a.num b.num:=by rw [e,Rat.num_intCast];rfl
 have e2 : (G8 a b).den = 1:=by rw [e,Rat.den_intCast]
 have He:=Lib.hid (And.intro e1 e2)
 clear e e1 e2
 have Ha1:=Lib.hid ha1
 have Hb1:=Lib.hid hb1
 clear ha1 hb1
 go_enter Tryz.func95,Tryz.ntmps95
 refine en3 ?_
 intro u hG b4 b3 b2 hB hF
 refine wp_seq ?_
 refine wp_seq (rsE A8 [0,1,0,0,1,0] hB hG fun L hL=>?_)
 refine gs ?_
 refine gmw (C:=fun v=>Z8 a h3 Ha1.out _) ?_
 refine gs ?_
 first | refine gmw (C:=fun v=>Z8 b h4 Hb1.out _) ?_ | refine O1 ?_
 refine gs ?_
 refine geT hL ?_
 clear hB hG hL L
 rintro u ⟨-,hB,hG,-⟩
 refine wp_cond_true (rfl) ?_
 refine wp_seq (rsC A8 [0,0,0,0,1,0] hB hG fun K L hN hL=>?_)
 refine gs ?_
 refine gmw (C:=fun v=>A7K _ _ (by assumption) (by assumption) _) ?_
 refine gs ?_
 refine geC hL ?_
 clear hB hG hL L
 rintro u ⟨-,hB,hG,-⟩
 refine gtT ?_
 clear hN K
 refine st hB hF hG 2 0 [_,_,_,_,_] ?_
 clear hB hG
 intro u hB hG
 refine rt Tryz.results95 ?_
 exact ⟨A03 He.out.1 He.out.2,hG⟩
theorem B0g (h : qs a + qs b + 1 ≤ BIG) : bl (Nat.gcd a.den b.den) ≤ BIG ∧ Nat.gcd a.den b.den ≠ 0 ∧ bl a.den ≤ BIG ∧ bl b.den ≤ BIG ∧ bl a.num.natAbs + bl (b.den / Nat.gcd a.den b.den) ≤ 1099511627776 ∧ bl b.num.natAbs + bl (a.den / Nat.gcd a.den b.den) ≤ 1099511627776 ∧
  bl (ztm a.num (b.den / Nat.gcd a.den b.den)).natAbs < 1099511627776 ∧ bl (ztm b.num (a.den / Nat.gcd a.den b.den)).natAbs < 1099511627776 ∧ bl (A2C (ztm a.num (b.den / Nat.gcd a.den b.den)) (ztm b.num (a.den / Nat.gcd a.den b.den))).natAbs ≤ BIG ∧
  bl (Nat.gcd (A2C (ztm a.num (b.den / Nat.gcd a.den b.den)) (ztm b.num (a.den / Nat.gcd a.den b.den))).natAbs (Nat.gcd a.den b.den)) ≤ BIG ∧ Nat.gcd (A2C (ztm a.num (b.den / Nat.gcd a.den b.den)) (ztm b.num (a.den / Nat.gcd a.den b.den))).natAbs (Nat.gcd a.den b.den) ≠ 0:=by
 have hB40:=I9
 have s1:=G4 a
 have s2:=G6 a
 have s3:=G4 b
 have s4:=G6 b
 have s5:=L0 b.den (Nat.gcd a.den b.den)
 have s6:=L0 a.den (Nat.gcd a.den b.den)
 have g0 : Nat.gcd a.den b.den ≠ 0:=fun e=>a.den_nz (Nat.eq_zero_of_gcd_eq_zero_left e)
 have g1:=B5c a.den b.den a.den_nz
 have up : bl (A0A a b).natAbs ≤ qs a + qs b + 1:=A6U a b
 have m1 : bl (ztm a.num (b.den / Nat.gcd a.den b.den)).natAbs ≤ bl a.num.natAbs + bl (b.den / Nat.gcd a.den b.den):=by unfold ztm;rw [Int.natAbs_mul];exact N6 _ _
 have m2 : bl (ztm b.num (a.den / Nat.gcd a.den b.den)).natAbs ≤ bl b.num.natAbs + bl (a.den / Nat.gcd a.den b.den):=by unfold ztm;rw [Int.natAbs_mul];exact N6 _ _
 refine ⟨by omega,g0,by omega,by omega,by omega,by omega,by omega,by omega,Nat.le_trans up h,Nat.le_trans (A3r _ _ g0) (by omega),fun e=>g0 (Nat.eq_zero_of_gcd_eq_zero_right e)⟩
end
end Go.Proofs.YtgpglgbcobeogaaGreatDoor
