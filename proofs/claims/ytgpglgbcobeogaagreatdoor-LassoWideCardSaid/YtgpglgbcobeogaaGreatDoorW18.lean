import Derived.Test.YtgpglgbcobeogaaGreatDoorW17
set_option linter.unusedSimpArgs false
set_option linter.unusedVariables false
set_option maxHeartbeats 4000000
set_option maxRecDepth 100000
namespace Go.Proofs.YtgpglgbcobeogaaGreatDoor
open Go.RowKit
section
variable (a b:Rat) (w:World)
theorem A67(HT:Tab w)(h:qs a+qs b+1≤BIG)(x y:Bool)(hx:∀W,Calls Tryz.prog 81 #[qV a] W fun e w'=>e = .returned (.bool x)∧A4 W w')(hy:∀W,Calls Tryz.prog 81 #[qV b] W fun e w'=>e = .returned (.bool y)∧A4 W w')(hxy:(x&&y)=false) :
  Calls Tryz.prog 95 #[qV a,qV b] w fun e w'=>e = .returned (qV (H5 a b))∧A4 w w':=by
 have hB40:=K5;obtain⟨g1,g0,d1,d2,t1,t2,m1,m2,u1,k1,k0⟩:=B2p a b h;have d1':=Q7 d1;have d2':=Q7 d2;have g1':=Q7 g1;have He:=B9g (And.intro (A9M a b) (A88 a b));obtain⟨G,hG0⟩:∃G,G=Nat.gcd a.den b.den:=⟨_,rfl⟩
 obtain⟨U,hU0⟩:∃U,U=A21 (ztm a.num (b.den/G)) (ztm b.num (a.den/G)):=⟨_,rfl⟩
 obtain⟨H,hH0⟩:∃H,H=Nat.gcd U.natAbs G:=⟨_,rfl⟩
 rw[←hG0]at g1 g0 t1 t2 m1 m2 u1 k1 k0 g1';rw[←hU0]at u1 k1 k0;rw[←hH0]at k1 k0;have hgc:∀W,Tab W→Calls Tryz.prog 83 #[E0 (sgn false a.den),E0 (sgn false b.den)] W fun e w'=>e = .returned (B4 G)∧A4 W w':=fun W ht=>hG0 ▸ B5m a.den b.den d1 d2 W ht;have hgu:∀W,Tab W→Calls Tryz.prog 83 #[E0 U,E0 (sgn false G)] W fun e w'=>e = .returned (B4 H)∧A4 W w':=fun W ht=>hH0 ▸ A3V U G u1 g1 W ht;have hau:∀W,Calls Tryz.prog 149 #[E0 (ztm a.num (b.den/G)),E0 (ztm b.num (a.den/G))] W fun e w'=>e = .returned (E0 U)∧A4 W w':=fun W=>hU0 ▸ A7M _ _ m1 m2 W;have e1:(H5 a b).num=ztd U H:=by
  have:=He.out.1;unfold A0e hOf A0e at this;rw[←hG0]at this;rw[hH0,hU0];exact this
 have e2:(H5 a b).den=a.den/G*(b.den/H):=by
  have:=He.out.2;unfold hOf A0e at this;rw[←hG0]at this;rw[hH0,hU0];exact this
 have He2:=B9g (And.intro e1 e2);have f1:bl (a.den/G)≤1099511627776:=B9Y (O5 _ _) d1';have f2:bl (b.den/H)≤1099511627776:=B9Y (O5 _ _) d2';have f3:bl (a.den/G*(b.den/H))≤1099511627776:=by
  have s1:=T9 (a.den/G) (b.den/H);have s2:=O5 a.den G;have s3:=O5 b.den H;have s4:=H9 a;have s5:=H9 b;omega
 have Hx:=B9g hx;have Hy:=B9g hy;have Hgc:=B9g hgc;have Hgu:=B9g hgu;have Hau:=B9g hau;clear hx hy hgc hgu hau e1 e2 He hG0 hU0 hH0;cases x<;>cases y<;>first|(exact absurd hxy (by decide))|skip
 all_goals clear hxy
 all_goals
  go_enter Tryz.func95,Tryz.ntmps95;refine en3 ?_;intro u hG b4 b3 b2 hB hF;refine B9b ?_;refine B9b (rsE A8 [0,1,0,0,1,0] hB hG fun L hL=>?_);refine gs ?_;refine gmw (C:=fun v=>Hx.out _) ?_;refine gs ?_
  first|refine gmw (C:=fun v=>Hy.out _) ?_|refine M9 ?_
  refine gs ?_;refine geT hL ?_;clear hB hG hL L;rintro u ⟨-,hB,hG,-⟩;refine B9h (rfl) ?_;refine B9i ?_;refine A6 ?_;refine B9b (rdC A8 [] [(0,0),(0,3),(1,1),(1,2),(1,4),(1,5),(1,6),(2,7)] hB hG fun K L hN hL=>?_);refine gs ?_;refine gmw (C:=fun v=>V3 _ (by assumption) _) ?_;refine gmw (C:=fun v=>T4 _ _ (by assumption) _) ?_;refine gmw (C:=fun v=>V3 _ (by assumption) _) ?_;refine gmw (C:=fun v=>T4 _ _ (by assumption) _) ?_;refine gmd (C:=fun v ⟨hgu,hB,hG,_⟩=>Hgc.out _ (HT.grow hG)) ?_;refine gaa (M3 _ _ _ _ _) fun b5 hb5 hn5=>?_;replace hF:=hF.n1 [] hB hG hb5 hn5;refine geC hL ?_;clear hB hG hL L;rintro u ⟨⟨-,hB,hG,-⟩,h5⟩;replace hB:=hB.cons' h5;clear h5;clear hb5 hn5;refine gtT ?_;clear hN K;refine st hB hF hG 0 0 [_,_] ?_;clear hB hG;intro u hB hG;refine B9b (rdC A8 [] [(0,0),(0,2),(0,4),(0,6),(1,1),(1,3),(1,5),(1,7),(2,8),(2,9)] hB hG fun K L hN hL=>?_);refine gs ?_;refine gmw (C:=fun v=>V3 _ (by assumption) _) ?_;refine gmw (C:=fun v=>A2H a.den G d1 g1 g0 _) ?_;refine gmw (C:=fun v=>V3 _ (by assumption) _) ?_;refine gmw (C:=fun v=>A2H b.den G d2 g1 g0 _) ?_;refine gaa (M3 _ _ _ _ _) fun b6 hb6 hn6=>?_;refine gaa (M3 _ _ _ _ _) fun b7 hb7 hn7=>?_;replace hF:=hF.n1 [] hB hG hb6 hn6;replace hF:=hF.n1 [b6] hB hG hb7 hn7;refine geC hL ?_;clear hB hG hL L;rintro u ⟨⟨⟨-,hB,hG,-⟩,h6⟩,h7⟩;replace hB:=hB.cons' h6;replace hB:=hB.cons' h7;clear h6 h7;clear hb6 hn6 hb7 hn7;have hD:b6≠b7∧b7≠b6:=⟨hF.ne 1 0 rfl rfl (by decide),hF.ne 0 1 rfl rfl (by decide)⟩
  refine gtT ?_;clear hN K;clear hD;refine st2 hB hF hG 1 0 [_,_] 0 0 [_,_] ?_;clear hB hG;intro u hB hG;refine B9b (rdC A8 [] [(0,0),(0,1),(0,2),(0,4),(0,5),(0,6),(1,3),(1,7),(1,8),(2,9)] hB hG fun K L hN hL=>?_);refine gs ?_;refine gmw (C:=fun v=>A2v _ _ (by assumption) _) ?_;refine gmw (C:=fun v=>A2v _ _ (by assumption) _) ?_;refine gmw (C:=fun v=>Hau.out _) ?_;refine gaa (A2f _ _ _ _ _) fun b8 hb8 hn8=>?_;replace hF:=hF.n1 [] hB hG hb8 hn8;refine geC hL ?_;clear hB hG hL L;rintro u ⟨⟨-,hB,hG,-⟩,h8⟩;replace hB:=hB.cons' h8;clear h8;clear hb8 hn8;refine gtT ?_;clear hN K;refine st hB hF hG 0 0 [_,_,_] ?_;clear hB hG;intro u hB hG;refine B9b (rdC A8 [] [(0,0),(0,1),(1,2),(1,3),(2,4)] hB hG fun K L hN hL=>?_);refine gs ?_;refine gmw (C:=fun v=>T4 _ _ (by assumption) _) ?_;refine gmd (C:=fun v ⟨hgu,hB,hG,_⟩=>Hgu.out _ (HT.grow hG)) ?_;refine gaa (M3 _ _ _ _ _) fun b9 hb9 hn9=>?_;replace hF:=hF.n1 [] hB hG hb9 hn9;refine geC hL ?_;clear hB hG hL L;rintro u ⟨⟨-,hB,hG,-⟩,h9⟩;replace hB:=hB.cons' h9;clear h9;clear hb9 hn9;refine gtT ?_;clear hN K;refine st hB hF hG 0 0 [_,_] ?_;clear hB hG;intro u hB hG;refine B9b (rdC A8 [] [(0,0),(0,1),(0,3),(0,4),(0,6),(1,2),(1,5),(1,7),(1,8),(1,9)] hB hG fun K L hN hL=>?_);refine gs ?_;refine gmw (C:=fun v=>A3z U H u1 k1 k0 _) ?_;refine gmw (C:=fun v=>V3 _ (by assumption) _) ?_;refine gmw (C:=fun v=>A2H b.den H d2 k1 k0 _) ?_;refine gmw (C:=fun v=>A6A _ _ (by assumption) (by assumption) _) ?_;refine gmw (C:=fun v=>A4t _ _ (by assumption) _) ?_;refine geC hL ?_;clear hB hG hL L;rintro u ⟨-,hB,hG,-⟩;refine gtT ?_;clear hN K;refine st hB hF hG 7 0 [_,_,_,_,_] ?_;clear hB hG;intro u hB hG;refine rt Tryz.results95 ?_;exact⟨A1o He2.out.1 He2.out.2,hG⟩
theorem A3R(h:qs a+qs b+1≤BIG)(HT:Tab w):Calls Tryz.prog 95 #[qV a,qV b] w fun e w'=>e = .returned (qV (H5 a b))∧A4 w w':=by
 have hB40:=K5;have h3:bl a.den≤1099511627776:=by have:=H9 a;omega
 have h4:bl b.den≤1099511627776:=by have:=H9 b;omega
 by_cases ha1:a.den=1
 ·by_cases hb1:b.den=1
  ·exact B4q a b w h ha1 hb1
  ·exact A67 a b w HT h true false (A0S a h3 ha1) (A0i b h4 hb1) rfl
 ·by_cases hb1:b.den=1
  ·exact A67 a b w HT h false true (A0i a h3 ha1) (A0S b h4 hb1) rfl
  ·exact A67 a b w HT h false false (A0i a h3 ha1) (A0i b h4 hb1) rfl
theorem B7O:qs (I7 a)=qs a:=A2d a
theorem B6H:H5 a (I7 b)=F8 a b:=(Rat.sub_eq_add_neg a b).symm
theorem A2R(h:qs a+qs b+1≤BIG)(HT:Tab w):Calls Tryz.prog 50 #[qV a,qV b] w fun e w'=>e = .returned (qV (F8 a b))∧A4 w w':=by
 have hB40:=K5;have h2:bl b.num.natAbs≤1099511627776:=by have:=G8 b;omega
 have h3:qs a+qs (I7 b)+1≤BIG:=by rw[B7O];exact h
 go_enter Tryz.func50,Tryz.ntmps50;refine en3 ?_;intro u hG b4 b3 b2 hB hF;refine B9b (rdC A8 [] [(0,0),(0,1),(1,2),(1,3)] hB hG fun K L hN hL=>?_);refine gs ?_;refine gmw (C:=fun v=>A6e _ (by assumption) _) ?_;refine gmd (C:=fun v ⟨hgu,hB,hG,_⟩=>A3R _ _ _ (by assumption) (HT.grow hG)) ?_;refine geC hL ?_;clear hB hG hL L;rintro u ⟨-,hB,hG,-⟩;refine gtT ?_;clear hN K;refine st hB hF hG 2 0 [_,_,_,_,_] ?_;clear hB hG;intro u hB hG;refine rt Tryz.results50 ?_;exact⟨B5R (B6H a b),hG⟩
theorem B84(h:qs a+qs b≤BIG)(ha1:a.den=1)(hb1:b.den=1):Calls Tryz.prog 29 #[qV a,qV b] w fun e w'=>e = .returned (qV (D8 a b))∧A4 w w':=by
 have hB40:=K5;have h1:bl a.num.natAbs+bl b.num.natAbs≤1099511627776:=by have:=G8 a;have:=G8 b;omega
 have h3:bl a.den≤1099511627776:=by have:=H9 a;omega
 have h4:bl b.den≤1099511627776:=by have:=H9 b;omega
 have e:D8 a b=((a.num*b.num:Int):Rat):=by
  unfold D8;rw[Rat.intCast_mul,←A4m a ha1,←A4m b hb1]
 have e1:(D8 a b).num=A5m a.num b.num:=by rw[e,Rat.num_intCast];rfl
 have e2:(D8 a b).den=1:=by rw[e,Rat.den_intCast]
 have He:=B9g (And.intro e1 e2);have Ha1:=B9g ha1;have Hb1:=B9g hb1;clear e e1 e2 ha1 hb1;go_enter Tryz.func29,Tryz.ntmps29;refine en3 ?_;intro u hG b4 b3 b2 hB hF;refine B9b ?_;refine B9b (rsE A8 [0,1,0,0,1,0] hB hG fun L hL=>?_);refine gs ?_;refine gmw (C:=fun v=>A0S a h3 Ha1.out _) ?_;refine gs ?_
 first|refine gmw (C:=fun v=>A0S b h4 Hb1.out _) ?_|refine M9 ?_
 refine gs ?_;refine geT hL ?_;clear hB hG hL L;rintro u ⟨-,hB,hG,-⟩;refine B9j (rfl) ?_;refine B9b (rsC A8 [0,0,0,0,1,0] hB hG fun K L hN hL=>?_);refine gs ?_;refine gmw (C:=fun v=>A6q _ _ (by assumption) _) ?_;refine gs ?_;refine geC hL ?_;clear hB hG hL L;rintro u ⟨-,hB,hG,-⟩;refine gtT ?_;clear hN K;refine st hB hF hG 2 0 [_,_,_,_,_] ?_;clear hB hG;intro u hB hG;refine rt Tryz.results29 ?_;exact⟨A1o He.out.1 He.out.2,hG⟩
theorem A6l(HT:Tab w)(h:qs a+qs b≤BIG)(x y:Bool)(hx:∀W,Calls Tryz.prog 81 #[qV a] W fun e w'=>e = .returned (.bool x)∧A4 W w')(hy:∀W,Calls Tryz.prog 81 #[qV b] W fun e w'=>e = .returned (.bool y)∧A4 W w')(hxy:(x&&y)=false) :
  Calls Tryz.prog 29 #[qV a,qV b] w fun e w'=>e = .returned (qV (D8 a b))∧A4 w w':=by
 have hB40:=K5;have s1:=G8 a;have s2:=H9 a;have s3:=G8 b;have s4:=H9 b;have n1:bl a.num.natAbs≤BIG:=by omega
 have n2:bl b.num.natAbs≤BIG:=by omega
 have d1:bl a.den≤BIG:=by omega
 have d2:bl b.den≤BIG:=by omega
 have d1':=Q7 d1;have d2':=Q7 d2;have He:=B9g (And.intro (A9A a b) (A7q a b));obtain⟨G,hG0⟩:∃G,G=Nat.gcd a.num.natAbs b.den:=⟨_,rfl⟩
 obtain⟨H,hH0⟩:∃H,H=Nat.gcd b.num.natAbs a.den:=⟨_,rfl⟩
 have g0:G≠0:=fun e=>b.den_nz (C0n (hG0 ▸ e));have k0:H≠0:=fun e=>a.den_nz (C0n (hH0 ▸ e));have g1:bl G≤BIG:=by rw[hG0];exact B9Y (A4o _ _ b.den_nz) d2
 have k1:bl H≤BIG:=by rw[hH0];exact B9Y (A4o _ _ a.den_nz) d1
 have hgc:∀W,Tab W→Calls Tryz.prog 83 #[E0 a.num,E0 (sgn false b.den)] W fun e w'=>e = .returned (B4 G)∧A4 W w':=fun W ht=>hG0 ▸ A3V a.num b.den n1 d2 W ht;have hgu:∀W,Tab W→Calls Tryz.prog 83 #[E0 b.num,E0 (sgn false a.den)] W fun e w'=>e = .returned (B4 H)∧A4 W w':=fun W ht=>hH0 ▸ A3V b.num a.den n2 d1 W ht;have e1:(D8 a b).num=A5m (ztd a.num G) (ztd b.num H):=by rw[hG0,hH0];exact He.out.1
 have e2:(D8 a b).den=a.den/H*(b.den/G):=by rw[hG0,hH0];exact He.out.2
 have He2:=B9g (And.intro e1 e2);have f1:bl (a.den/H)≤1099511627776:=B9Y (O5 _ _) d1';have f2:bl (b.den/G)≤1099511627776:=B9Y (O5 _ _) d2';have f3:bl (a.den/H*(b.den/G))≤1099511627776:=by
  have s1:=T9 (a.den/H) (b.den/G);have s2:=O5 a.den H;have s3:=O5 b.den G;omega
 have f4:bl (ztd a.num G).natAbs+bl (ztd b.num H).natAbs≤1099511627776:=by
  have s1:=S5 (A3p a.num G);have s2:=S5 (A3p b.num H);unfold ztd;omega
 have Hx:=B9g hx;have Hy:=B9g hy;have Hgc:=B9g hgc;have Hgu:=B9g hgu;clear hx hy hgc hgu e1 e2 He hG0 hH0;cases x<;>cases y<;>first|(exact absurd hxy (by decide))|skip
 all_goals clear hxy
 all_goals
  go_enter Tryz.func29,Tryz.ntmps29;refine en3 ?_;intro u hG b4 b3 b2 hB hF;refine B9b ?_;refine B9b (rsE A8 [0,1,0,0,1,0] hB hG fun L hL=>?_);refine gs ?_;refine gmw (C:=fun v=>Hx.out _) ?_;refine gs ?_
  first|refine gmw (C:=fun v=>Hy.out _) ?_|refine M9 ?_
  refine gs ?_;refine geT hL ?_;clear hB hG hL L;rintro u ⟨-,hB,hG,-⟩;refine B9h (rfl) ?_;refine B9i ?_;refine A6 ?_;refine B9b (rdC A8 [] [(0,0),(0,1),(0,2),(1,3),(1,4),(1,5),(2,6)] hB hG fun K L hN hL=>?_);refine gs ?_;refine gmw (C:=fun v=>V3 _ (by assumption) _) ?_;refine gmw (C:=fun v=>T4 _ _ (by assumption) _) ?_;refine gmd (C:=fun v ⟨hgu,hB,hG,_⟩=>Hgc.out _ (HT.grow hG)) ?_;refine gaa (M3 _ _ _ _ _) fun b5 hb5 hn5=>?_;replace hF:=hF.n1 [] hB hG hb5 hn5;refine geC hL ?_;clear hB hG hL L;rintro u ⟨⟨-,hB,hG,-⟩,h5⟩;replace hB:=hB.cons' h5;clear h5;clear hb5 hn5;refine gtT ?_;clear hN K;refine st hB hF hG 0 0 [_,_] ?_;clear hB hG;intro u hB hG;refine B9b (rdC A8 [] [(0,0),(0,1),(0,2),(1,3),(1,4),(1,5),(2,6)] hB hG fun K L hN hL=>?_);refine gs ?_;refine gmw (C:=fun v=>V3 _ (by assumption) _) ?_;refine gmw (C:=fun v=>T4 _ _ (by assumption) _) ?_;refine gmd (C:=fun v ⟨hgu,hB,hG,_⟩=>Hgu.out _ (HT.grow hG)) ?_;refine gaa (M3 _ _ _ _ _) fun b6 hb6 hn6=>?_;replace hF:=hF.n1 [] hB hG hb6 hn6;refine geC hL ?_;clear hB hG hL L;rintro u ⟨⟨-,hB,hG,-⟩,h6⟩;replace hB:=hB.cons' h6;clear h6;clear hb6 hn6;refine gtT ?_;clear hN K;refine st hB hF hG 0 0 [_,_] ?_;clear hB hG;intro u hB hG;refine B9b (rdC A8 [] [(0,0),(0,1),(0,2),(0,4),(0,5),(0,6),(0,9),(0,11),(0,13),(0,15),(1,3),(1,7),(1,8),(1,10),(1,12),(1,14),(1,16),(1,17),(1,18)] hB hG fun K L hN hL=>?_);refine gs ?_;refine gmw (C:=fun v=>A3z a.num G n1 g1 g0 _) ?_;refine gmw (C:=fun v=>A3z b.num H n2 k1 k0 _) ?_;refine gmw (C:=fun v=>A6q _ _ (by assumption) _) ?_;refine gmw (C:=fun v=>V3 _ (by assumption) _) ?_;refine gmw (C:=fun v=>A2H a.den H d1 k1 k0 _) ?_;refine gmw (C:=fun v=>V3 _ (by assumption) _) ?_;refine gmw (C:=fun v=>A2H b.den G d2 g1 g0 _) ?_;refine gmw (C:=fun v=>A6A _ _ (by assumption) (by assumption) _) ?_;refine gmw (C:=fun v=>A4t _ _ (by assumption) _) ?_;refine geC hL ?_;clear hB hG hL L;rintro u ⟨-,hB,hG,-⟩;refine gtT ?_;clear hN K;refine st hB hF hG 4 0 [_,_,_,_,_] ?_;clear hB hG;intro u hB hG;refine rt Tryz.results29 ?_;exact⟨A1o He2.out.1 He2.out.2,hG⟩
theorem A1g(h:qs a+qs b≤BIG)(HT:Tab w):Calls Tryz.prog 29 #[qV a,qV b] w fun e w'=>e = .returned (qV (D8 a b))∧A4 w w':=by
 have hB40:=K5;have h3:bl a.den≤1099511627776:=by have:=H9 a;omega
 have h4:bl b.den≤1099511627776:=by have:=H9 b;omega
 by_cases ha1:a.den=1
 ·by_cases hb1:b.den=1
  ·exact B84 a b w h ha1 hb1
  ·exact A6l a b w HT h true false (A0S a h3 ha1) (A0i b h4 hb1) rfl
 ·by_cases hb1:b.den=1
  ·exact A6l a b w HT h false true (A0i a h3 ha1) (A0S b h4 hb1) rfl
  ·exact A6l a b w HT h false false (A0i a h3 ha1) (A0i b h4 hb1) rfl
theorem B7I(h:b≠0):b⁻¹.num=sgn (D6 b.num) b.den:=by
 rw[Rat.num_inv];have h0:b.num≠0:=fun e=>h (Rat.num_eq_zero.1 e);unfold sgn D6;by_cases hn:b.num<0
 ·rw[if_pos (C0L hn),C0N hn];omega
 ·rw[if_neg (by simpa using hn),C0P (by omega)];omega
theorem B1h(h:b≠0):b⁻¹.den=b.num.natAbs:=by
 rw[Rat.den_inv,if_neg (fun e=>h (Rat.num_eq_zero.1 e))]
def A36(b:Rat):Rat:=b⁻¹
theorem B6u(h:b≠0)(hb:bl b.num.natAbs≤1099511627776):Calls Tryz.prog 85 #[E0 (sgn (decide (b.num<0)) b.den),B4 b.num.natAbs] w fun e w'=>e = .returned (qV (A36 b))∧A4 w w':=by
 have:=A4t (sgn (D6 b.num) b.den) b.num.natAbs hb w;rw[A7u (q:=b⁻¹) (B7I b h) (B1h b h)]at this;exact this
theorem B8q(h:bl b.num.natAbs≤1099511627776)(h0:b=0):Calls Tryz.prog 94 #[qV a,qV b] w fun e w'=>e = .returned (.tuple #[qV (I8 a b),.bool (nzq b)])∧A4 w w':=by
 have hs:(b.num.sign == 0)=true:=by rw[h0];rfl
 have h1:I8 a b=0:=by rw[h0];unfold I8;rw[Rat.div_def,Rat.inv_zero,Rat.mul_zero]
 have h2:nzq b=false:=by rw[h0];rfl
 rw[h1,h2];have Hh:=B9g h0;clear h0 h1 h2;go_enter Tryz.func94,Tryz.ntmps94;refine en3 ?_;intro u hG b4 b3 b2 hB hF;refine B9b ?_;refine B9b (rsE A8 [0,1,0] hB hG fun L hL=>?_);refine gs ?_;refine gmw (C:=fun v=>R3 _ (by assumption) _) ?_;refine gs ?_;refine geT hL ?_;clear hB hG hL L;rintro u ⟨-,hB,hG,-⟩;refine B9j (rfl) ?_;refine r0T ?_;refine st hB hF hG 2 0 [_,_,_,_,_] ?_;clear hB hG;intro u hB hG;refine rt Tryz.results94 ?_;exact⟨rfl,hG⟩
theorem B81(h:qs a+qs b≤BIG)(h0:b≠0)(HT:Tab w):Calls Tryz.prog 94 #[qV a,qV b] w fun e w'=>e = .returned (.tuple #[qV (I8 a b),.bool (nzq b)])∧A4 w w':=by
 have hB40:=K5;have n2:bl b.num.natAbs≤1099511627776:=by have:=G8 b;omega
 have d2:bl b.den≤1099511627776:=by have:=H9 b;omega
 have hb0:b.num≠0:=fun e=>h0 (Rat.num_eq_zero.1 e);have hs:(b.num.sign == 0)=false:=by simpa using hb0
 have h2:nzq b=true:=C0L h0;have hi:qs a+qs (A36 b)≤BIG:=by unfold A36;rw[A8p b h0];exact h
 have hd:D8 a (A36 b)=I8 a b:=(Rat.div_def a b).symm;have Hd:=B9g hd;rw[h2];clear h2 hd;go_enter Tryz.func94,Tryz.ntmps94;refine en3 ?_;intro u hG b4 b3 b2 hB hF;refine B9b ?_;refine B9b (rsE A8 [0,1,0] hB hG fun L hL=>?_);refine gs ?_;refine gmw (C:=fun v=>R3 _ (by assumption) _) ?_;refine gs ?_;refine geT hL ?_;clear hB hG hL L;rintro u ⟨-,hB,hG,-⟩;refine B9h (rfl) ?_;refine B9i ?_;refine A6 ?_;refine B9b (rdC A8 [] [(0,0),(0,1),(0,4),(0,7),(0,8),(1,2),(0,3),(1,5),(1,6),(1,9),(1,10),(1,11)] hB hG fun K L hN hL=>?_);refine gs ?_;refine gmw (C:=fun v=>R3 _ (by assumption) _) ?_;refine gs ?_;refine gmw (C:=fun v=>V3 _ (by assumption) _) ?_;refine gmw (C:=fun v=>T4 _ _ (by assumption) _) ?_;refine gmw (C:=fun v=>A2O _ _) ?_;refine gmw (C:=fun v=>B6u b _ h0 n2) ?_;refine gmd (C:=fun v ⟨hgu,hB,hG,_⟩=>A1g _ _ _ (by assumption) (HT.grow hG)) ?_;refine geC hL ?_;clear hB hG hL L;rintro u ⟨-,hB,hG,-⟩;refine gtT ?_;clear hN K;refine st hB hF hG 2 0 [_,_,_,_,_] ?_;clear hB hG;intro u hB hG;refine rt Tryz.results94 ?_;exact⟨A4W (Hd.out) rfl,hG⟩
theorem A6k(h:qs a+qs b≤BIG)(HT:Tab w):Calls Tryz.prog 94 #[qV a,qV b] w fun e w'=>e = .returned (.tuple #[qV (I8 a b),.bool (nzq b)])∧A4 w w':=by
 by_cases h0:b=0
 ·exact B8q a b w (by have:=G8 b;have:=K5;omega) h0
 ·exact B81 a b w h h0 HT
end
end Go.Proofs.YtgpglgbcobeogaaGreatDoor
