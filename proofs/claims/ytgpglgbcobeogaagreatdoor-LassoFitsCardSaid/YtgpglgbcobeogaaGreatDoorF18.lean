import Derived.Test.YtgpglgbcobeogaaGreatDoorF17
set_option linter.unusedSimpArgs false
set_option linter.unusedVariables false
set_option maxHeartbeats 4000000
set_option maxRecDepth 100000
namespace Go.Proofs.YtgpglgbcobeogaaGreatDoor
open Go.RowKit
section
variable (a b:Rat) (w:World)
theorem A6T(HT:Tab w)(h:qs a+qs b+1≤BIG)(x y:Bool)(hx:∀W,Calls Tryz.prog 81 #[qV a] W fun e w'=>e = .returned (.bool x)∧A4 W w')(hy:∀W,Calls Tryz.prog 81 #[qV b] W fun e w'=>e = .returned (.bool y)∧A4 W w')(hxy:(x&&y)=false) :
  Calls Tryz.prog 95 #[qV a,qV b] w fun e w'=>e = .returned (qV (G6 a b))∧A4 w w':=by
 have hB40:=K4;obtain⟨g1,g0,d1,d2,t1,t2,m1,m2,u1,k1,k0⟩:=B5y a b h;have d1':=T8 d1;have d2':=T8 d2;have g1':=T8 g1;have He:=C0P (And.intro (B0R a b) (B0X a b));obtain⟨G,hG0⟩:∃G,G=Nat.gcd a.den b.den:=⟨_,rfl⟩
 obtain⟨U,hU0⟩:∃U,U=A3N (ztm a.num (b.den/G)) (ztm b.num (a.den/G)):=⟨_,rfl⟩
 obtain⟨H,hH0⟩:∃H,H=Nat.gcd U.natAbs G:=⟨_,rfl⟩
 rw[←hG0]at g1 g0 t1 t2 m1 m2 u1 k1 k0 g1';rw[←hU0]at u1 k1 k0;rw[←hH0]at k1 k0;have hgc:∀W,Tab W→Calls Tryz.prog 83 #[E7 (sgn false a.den),E7 (sgn false b.den)] W fun e w'=>e = .returned (B4 G)∧A4 W w':=fun W ht=>hG0 ▸ B74 a.den b.den d1 d2 W ht;have hgu:∀W,Tab W→Calls Tryz.prog 83 #[E7 U,E7 (sgn false G)] W fun e w'=>e = .returned (B4 H)∧A4 W w':=fun W ht=>hH0 ▸ A3y U G u1 g1 W ht;have hau:∀W,Calls Tryz.prog 149 #[E7 (ztm a.num (b.den/G)),E7 (ztm b.num (a.den/G))] W fun e w'=>e = .returned (E7 U)∧A4 W w':=fun W=>hU0 ▸ B06 _ _ m1 m2 W;have e1:(G6 a b).num=ztd U H:=by
  have:=He.out.1;unfold A0t hOf A0t at this;rw[←hG0]at this;rw[hH0,hU0];exact this
 have e2:(G6 a b).den=a.den/G*(b.den/H):=by
  have:=He.out.2;unfold hOf A0t at this;rw[←hG0]at this;rw[hH0,hU0];exact this
 have He2:=C0P (And.intro e1 e2);have f1:bl (a.den/G)≤1099511627776:=C0H (R5 _ _) d1';have f2:bl (b.den/H)≤1099511627776:=C0H (R5 _ _) d2';have f3:bl (a.den/G*(b.den/H))≤1099511627776:=by
  have s1:=W8 (a.den/G) (b.den/H);have s2:=R5 a.den G;have s3:=R5 b.den H;have s4:=I7 a;have s5:=I7 b;omega
 have Hx:=C0P hx;have Hy:=C0P hy;have Hgc:=C0P hgc;have Hgu:=C0P hgu;have Hau:=C0P hau;clear hx hy hgc hgu hau e1 e2 He hG0 hU0 hH0;cases x<;>cases y<;>first|(exact absurd hxy (by decide))|skip
 all_goals clear hxy
 all_goals
  go_enter Tryz.func95,Tryz.ntmps95;refine en3 ?_;intro u hG b4 b3 b2 hB hF;refine C0K ?_;refine C0K (rsE A8 [0,1,0,0,1,0] hB hG fun L hL=>?_);refine gs ?_;refine gmw (C:=fun v=>Hx.out _) ?_;refine gs ?_
  first|refine gmw (C:=fun v=>Hy.out _) ?_|refine L0 ?_
  refine gs ?_;refine geT hL ?_;clear hB hG hL L;rintro u ⟨-,hB,hG,-⟩;refine C0Q (rfl) ?_;refine C0R ?_;refine A6 ?_;refine C0K (rdC A8 [] [(0,0),(0,3),(1,1),(1,2),(1,4),(1,5),(1,6),(2,7)] hB hG fun K L hN hL=>?_);refine gs ?_;refine gmw (C:=fun v=>Z7 _ (by assumption) _) ?_;refine gmw (C:=fun v=>U8 _ _ (by assumption) _) ?_;refine gmw (C:=fun v=>Z7 _ (by assumption) _) ?_;refine gmw (C:=fun v=>U8 _ _ (by assumption) _) ?_;refine gmd (C:=fun v ⟨hgu,hB,hG,_⟩=>Hgc.out _ (HT.grow hG)) ?_;refine gaa (M9 _ _ _ _ _) fun b5 hb5 hn5=>?_;replace hF:=hF.n1 [] hB hG hb5 hn5;refine geC hL ?_;clear hB hG hL L;rintro u ⟨⟨-,hB,hG,-⟩,h5⟩;replace hB:=hB.cons' h5;clear h5;clear hb5 hn5;refine gtT ?_;clear hN K;refine st hB hF hG 0 0 [_,_] ?_;clear hB hG;intro u hB hG;refine C0K (rdC A8 [] [(0,0),(0,2),(0,4),(0,6),(1,1),(1,3),(1,5),(1,7),(2,8),(2,9)] hB hG fun K L hN hL=>?_);refine gs ?_;refine gmw (C:=fun v=>Z7 _ (by assumption) _) ?_;refine gmw (C:=fun v=>A2E a.den G d1 g1 g0 _) ?_;refine gmw (C:=fun v=>Z7 _ (by assumption) _) ?_;refine gmw (C:=fun v=>A2E b.den G d2 g1 g0 _) ?_;refine gaa (M9 _ _ _ _ _) fun b6 hb6 hn6=>?_;refine gaa (M9 _ _ _ _ _) fun b7 hb7 hn7=>?_;replace hF:=hF.n1 [] hB hG hb6 hn6;replace hF:=hF.n1 [b6] hB hG hb7 hn7;refine geC hL ?_;clear hB hG hL L;rintro u ⟨⟨⟨-,hB,hG,-⟩,h6⟩,h7⟩;replace hB:=hB.cons' h6;replace hB:=hB.cons' h7;clear h6 h7;clear hb6 hn6 hb7 hn7;have hD:b6≠b7∧b7≠b6:=⟨hF.ne 1 0 rfl rfl (by decide),hF.ne 0 1 rfl rfl (by decide)⟩
  refine gtT ?_;clear hN K;clear hD;refine st2 hB hF hG 1 0 [_,_] 0 0 [_,_] ?_;clear hB hG;intro u hB hG;refine C0K (rdC A8 [] [(0,0),(0,1),(0,2),(0,4),(0,5),(0,6),(1,3),(1,7),(1,8),(2,9)] hB hG fun K L hN hL=>?_);refine gs ?_;refine gmw (C:=fun v=>A2m _ _ (by assumption) _) ?_;refine gmw (C:=fun v=>A2m _ _ (by assumption) _) ?_;refine gmw (C:=fun v=>Hau.out _) ?_;refine gaa (A3a _ _ _ _ _) fun b8 hb8 hn8=>?_;replace hF:=hF.n1 [] hB hG hb8 hn8;refine geC hL ?_;clear hB hG hL L;rintro u ⟨⟨-,hB,hG,-⟩,h8⟩;replace hB:=hB.cons' h8;clear h8;clear hb8 hn8;refine gtT ?_;clear hN K;refine st hB hF hG 0 0 [_,_,_] ?_;clear hB hG;intro u hB hG;refine C0K (rdC A8 [] [(0,0),(0,1),(1,2),(1,3),(2,4)] hB hG fun K L hN hL=>?_);refine gs ?_;refine gmw (C:=fun v=>U8 _ _ (by assumption) _) ?_;refine gmd (C:=fun v ⟨hgu,hB,hG,_⟩=>Hgu.out _ (HT.grow hG)) ?_;refine gaa (M9 _ _ _ _ _) fun b9 hb9 hn9=>?_;replace hF:=hF.n1 [] hB hG hb9 hn9;refine geC hL ?_;clear hB hG hL L;rintro u ⟨⟨-,hB,hG,-⟩,h9⟩;replace hB:=hB.cons' h9;clear h9;clear hb9 hn9;refine gtT ?_;clear hN K;refine st hB hF hG 0 0 [_,_] ?_;clear hB hG;intro u hB hG;refine C0K (rdC A8 [] [(0,0),(0,1),(0,3),(0,4),(0,6),(1,2),(1,5),(1,7),(1,8),(1,9)] hB hG fun K L hN hL=>?_);refine gs ?_;refine gmw (C:=fun v=>A4e U H u1 k1 k0 _) ?_;refine gmw (C:=fun v=>Z7 _ (by assumption) _) ?_;refine gmw (C:=fun v=>A2E b.den H d2 k1 k0 _) ?_;refine gmw (C:=fun v=>A6Z _ _ (by assumption) (by assumption) _) ?_;refine gmw (C:=fun v=>A5l _ _ (by assumption) _) ?_;refine geC hL ?_;clear hB hG hL L;rintro u ⟨-,hB,hG,-⟩;refine gtT ?_;clear hN K;refine st hB hF hG 7 0 [_,_,_,_,_] ?_;clear hB hG;intro u hB hG;refine rt Tryz.results95 ?_;exact⟨A1n He2.out.1 He2.out.2,hG⟩
theorem A1o(h:qs a+qs b+1≤BIG)(HT:Tab w):Calls Tryz.prog 95 #[qV a,qV b] w fun e w'=>e = .returned (qV (G6 a b))∧A4 w w':=by
 have hB40:=K4;have h3:bl a.den≤1099511627776:=by have:=I7 a;omega
 have h4:bl b.den≤1099511627776:=by have:=I7 b;omega
 by_cases ha1:a.den=1
 ·by_cases hb1:b.den=1
  ·exact B7s a b w h ha1 hb1
  ·exact A6T a b w HT h true false (A0j a h3 ha1) (A0q b h4 hb1) rfl
 ·by_cases hb1:b.den=1
  ·exact A6T a b w HT h false true (A0q a h3 ha1) (A0j b h4 hb1) rfl
  ·exact A6T a b w HT h false false (A0q a h3 ha1) (A0q b h4 hb1) rfl
theorem A9Z:qs (J7 a)=qs a:=A2q a
theorem B3z:G6 a (J7 b)=D3 a b:=(Rat.sub_eq_add_neg a b).symm
theorem A2c(h:qs a+qs b+1≤BIG)(HT:Tab w):Calls Tryz.prog 50 #[qV a,qV b] w fun e w'=>e = .returned (qV (D3 a b))∧A4 w w':=by
 have hB40:=K4;have h2:bl b.num.natAbs≤1099511627776:=by have:=G4 b;omega
 have h3:qs a+qs (J7 b)+1≤BIG:=by rw[A9Z];exact h
 go_enter Tryz.func50,Tryz.ntmps50;refine en3 ?_;intro u hG b4 b3 b2 hB hF;refine C0K (rdC A8 [] [(0,0),(0,1),(1,2),(1,3)] hB hG fun K L hN hL=>?_);refine gs ?_;refine gmw (C:=fun v=>A4d _ (by assumption) _) ?_;refine gmd (C:=fun v ⟨hgu,hB,hG,_⟩=>A1o _ _ _ (by assumption) (HT.grow hG)) ?_;refine geC hL ?_;clear hB hG hL L;rintro u ⟨-,hB,hG,-⟩;refine gtT ?_;clear hN K;refine st hB hF hG 2 0 [_,_,_,_,_] ?_;clear hB hG;intro u hB hG;refine rt Tryz.results50 ?_;exact⟨B2Y (B3z a b),hG⟩
theorem B80(h:qs a+qs b≤BIG)(ha1:a.den=1)(hb1:b.den=1):Calls Tryz.prog 29 #[qV a,qV b] w fun e w'=>e = .returned (qV (C9 a b))∧A4 w w':=by
 have hB40:=K4;have h1:bl a.num.natAbs+bl b.num.natAbs≤1099511627776:=by have:=G4 a;have:=G4 b;omega
 have h3:bl a.den≤1099511627776:=by have:=I7 a;omega
 have h4:bl b.den≤1099511627776:=by have:=I7 b;omega
 have e:C9 a b=((a.num*b.num:Int):Rat):=by
  unfold C9;rw[Rat.intCast_mul,←A44 a ha1,←A44 b hb1]
 have e1:(C9 a b).num=A7I a.num b.num:=by rw[e,Rat.num_intCast];rfl
 have e2:(C9 a b).den=1:=by rw[e,Rat.den_intCast]
 have He:=C0P (And.intro e1 e2);have Ha1:=C0P ha1;have Hb1:=C0P hb1;clear e e1 e2 ha1 hb1;go_enter Tryz.func29,Tryz.ntmps29;refine en3 ?_;intro u hG b4 b3 b2 hB hF;refine C0K ?_;refine C0K (rsE A8 [0,1,0,0,1,0] hB hG fun L hL=>?_);refine gs ?_;refine gmw (C:=fun v=>A0j a h3 Ha1.out _) ?_;refine gs ?_
 first|refine gmw (C:=fun v=>A0j b h4 Hb1.out _) ?_|refine L0 ?_
 refine gs ?_;refine geT hL ?_;clear hB hG hL L;rintro u ⟨-,hB,hG,-⟩;refine C0S (rfl) ?_;refine C0K (rsC A8 [0,0,0,0,1,0] hB hG fun K L hN hL=>?_);refine gs ?_;refine gmw (C:=fun v=>A6K _ _ (by assumption) _) ?_;refine gs ?_;refine geC hL ?_;clear hB hG hL L;rintro u ⟨-,hB,hG,-⟩;refine gtT ?_;clear hN K;refine st hB hF hG 2 0 [_,_,_,_,_] ?_;clear hB hG;intro u hB hG;refine rt Tryz.results29 ?_;exact⟨A1n He.out.1 He.out.2,hG⟩
theorem A62(HT:Tab w)(h:qs a+qs b≤BIG)(x y:Bool)(hx:∀W,Calls Tryz.prog 81 #[qV a] W fun e w'=>e = .returned (.bool x)∧A4 W w')(hy:∀W,Calls Tryz.prog 81 #[qV b] W fun e w'=>e = .returned (.bool y)∧A4 W w')(hxy:(x&&y)=false) :
  Calls Tryz.prog 29 #[qV a,qV b] w fun e w'=>e = .returned (qV (C9 a b))∧A4 w w':=by
 have hB40:=K4;have s1:=G4 a;have s2:=I7 a;have s3:=G4 b;have s4:=I7 b;have n1:bl a.num.natAbs≤BIG:=by omega
 have n2:bl b.num.natAbs≤BIG:=by omega
 have d1:bl a.den≤BIG:=by omega
 have d2:bl b.den≤BIG:=by omega
 have d1':=T8 d1;have d2':=T8 d2;have He:=C0P (And.intro (A98 a b) (A9t a b));obtain⟨G,hG0⟩:∃G,G=Nat.gcd a.num.natAbs b.den:=⟨_,rfl⟩
 obtain⟨H,hH0⟩:∃H,H=Nat.gcd b.num.natAbs a.den:=⟨_,rfl⟩
 have g0:G≠0:=fun e=>b.den_nz (C1W (hG0 ▸ e));have k0:H≠0:=fun e=>a.den_nz (C1W (hH0 ▸ e));have g1:bl G≤BIG:=by rw[hG0];exact C0H (A5B _ _ b.den_nz) d2
 have k1:bl H≤BIG:=by rw[hH0];exact C0H (A5B _ _ a.den_nz) d1
 have hgc:∀W,Tab W→Calls Tryz.prog 83 #[E7 a.num,E7 (sgn false b.den)] W fun e w'=>e = .returned (B4 G)∧A4 W w':=fun W ht=>hG0 ▸ A3y a.num b.den n1 d2 W ht;have hgu:∀W,Tab W→Calls Tryz.prog 83 #[E7 b.num,E7 (sgn false a.den)] W fun e w'=>e = .returned (B4 H)∧A4 W w':=fun W ht=>hH0 ▸ A3y b.num a.den n2 d1 W ht;have e1:(C9 a b).num=A7I (ztd a.num G) (ztd b.num H):=by rw[hG0,hH0];exact He.out.1
 have e2:(C9 a b).den=a.den/H*(b.den/G):=by rw[hG0,hH0];exact He.out.2
 have He2:=C0P (And.intro e1 e2);have f1:bl (a.den/H)≤1099511627776:=C0H (R5 _ _) d1';have f2:bl (b.den/G)≤1099511627776:=C0H (R5 _ _) d2';have f3:bl (a.den/H*(b.den/G))≤1099511627776:=by
  have s1:=W8 (a.den/H) (b.den/G);have s2:=R5 a.den H;have s3:=R5 b.den G;omega
 have f4:bl (ztd a.num G).natAbs+bl (ztd b.num H).natAbs≤1099511627776:=by
  have s1:=V3 (A3j a.num G);have s2:=V3 (A3j b.num H);unfold ztd;omega
 have Hx:=C0P hx;have Hy:=C0P hy;have Hgc:=C0P hgc;have Hgu:=C0P hgu;clear hx hy hgc hgu e1 e2 He hG0 hH0;cases x<;>cases y<;>first|(exact absurd hxy (by decide))|skip
 all_goals clear hxy
 all_goals
  go_enter Tryz.func29,Tryz.ntmps29;refine en3 ?_;intro u hG b4 b3 b2 hB hF;refine C0K ?_;refine C0K (rsE A8 [0,1,0,0,1,0] hB hG fun L hL=>?_);refine gs ?_;refine gmw (C:=fun v=>Hx.out _) ?_;refine gs ?_
  first|refine gmw (C:=fun v=>Hy.out _) ?_|refine L0 ?_
  refine gs ?_;refine geT hL ?_;clear hB hG hL L;rintro u ⟨-,hB,hG,-⟩;refine C0Q (rfl) ?_;refine C0R ?_;refine A6 ?_;refine C0K (rdC A8 [] [(0,0),(0,1),(0,2),(1,3),(1,4),(1,5),(2,6)] hB hG fun K L hN hL=>?_);refine gs ?_;refine gmw (C:=fun v=>Z7 _ (by assumption) _) ?_;refine gmw (C:=fun v=>U8 _ _ (by assumption) _) ?_;refine gmd (C:=fun v ⟨hgu,hB,hG,_⟩=>Hgc.out _ (HT.grow hG)) ?_;refine gaa (M9 _ _ _ _ _) fun b5 hb5 hn5=>?_;replace hF:=hF.n1 [] hB hG hb5 hn5;refine geC hL ?_;clear hB hG hL L;rintro u ⟨⟨-,hB,hG,-⟩,h5⟩;replace hB:=hB.cons' h5;clear h5;clear hb5 hn5;refine gtT ?_;clear hN K;refine st hB hF hG 0 0 [_,_] ?_;clear hB hG;intro u hB hG;refine C0K (rdC A8 [] [(0,0),(0,1),(0,2),(1,3),(1,4),(1,5),(2,6)] hB hG fun K L hN hL=>?_);refine gs ?_;refine gmw (C:=fun v=>Z7 _ (by assumption) _) ?_;refine gmw (C:=fun v=>U8 _ _ (by assumption) _) ?_;refine gmd (C:=fun v ⟨hgu,hB,hG,_⟩=>Hgu.out _ (HT.grow hG)) ?_;refine gaa (M9 _ _ _ _ _) fun b6 hb6 hn6=>?_;replace hF:=hF.n1 [] hB hG hb6 hn6;refine geC hL ?_;clear hB hG hL L;rintro u ⟨⟨-,hB,hG,-⟩,h6⟩;replace hB:=hB.cons' h6;clear h6;clear hb6 hn6;refine gtT ?_;clear hN K;refine st hB hF hG 0 0 [_,_] ?_;clear hB hG;intro u hB hG;refine C0K (rdC A8 [] [(0,0),(0,1),(0,2),(0,4),(0,5),(0,6),(0,9),(0,11),(0,13),(0,15),(1,3),(1,7),(1,8),(1,10),(1,12),(1,14),(1,16),(1,17),(1,18)] hB hG fun K L hN hL=>?_);refine gs ?_;refine gmw (C:=fun v=>A4e a.num G n1 g1 g0 _) ?_;refine gmw (C:=fun v=>A4e b.num H n2 k1 k0 _) ?_;refine gmw (C:=fun v=>A6K _ _ (by assumption) _) ?_;refine gmw (C:=fun v=>Z7 _ (by assumption) _) ?_;refine gmw (C:=fun v=>A2E a.den H d1 k1 k0 _) ?_;refine gmw (C:=fun v=>Z7 _ (by assumption) _) ?_;refine gmw (C:=fun v=>A2E b.den G d2 g1 g0 _) ?_;refine gmw (C:=fun v=>A6Z _ _ (by assumption) (by assumption) _) ?_;refine gmw (C:=fun v=>A5l _ _ (by assumption) _) ?_;refine geC hL ?_;clear hB hG hL L;rintro u ⟨-,hB,hG,-⟩;refine gtT ?_;clear hN K;refine st hB hF hG 4 0 [_,_,_,_,_] ?_;clear hB hG;intro u hB hG;refine rt Tryz.results29 ?_;exact⟨A1n He2.out.1 He2.out.2,hG⟩
theorem A1B(h:qs a+qs b≤BIG)(HT:Tab w):Calls Tryz.prog 29 #[qV a,qV b] w fun e w'=>e = .returned (qV (C9 a b))∧A4 w w':=by
 have hB40:=K4;have h3:bl a.den≤1099511627776:=by have:=I7 a;omega
 have h4:bl b.den≤1099511627776:=by have:=I7 b;omega
 by_cases ha1:a.den=1
 ·by_cases hb1:b.den=1
  ·exact B80 a b w h ha1 hb1
  ·exact A62 a b w HT h true false (A0j a h3 ha1) (A0q b h4 hb1) rfl
 ·by_cases hb1:b.den=1
  ·exact A62 a b w HT h false true (A0q a h3 ha1) (A0j b h4 hb1) rfl
  ·exact A62 a b w HT h false false (A0q a h3 ha1) (A0q b h4 hb1) rfl
theorem B6R(h:b≠0):b⁻¹.num=sgn (E5 b.num) b.den:=by
 rw[Rat.num_inv];have h0:b.num≠0:=fun e=>h (Rat.num_eq_zero.1 e);unfold sgn E5;by_cases hn:b.num<0
 ·rw[if_pos (C04 hn),C06 hn];omega
 ·rw[if_neg (by simpa using hn),C08 (by omega)];omega
theorem B8g(h:b≠0):b⁻¹.den=b.num.natAbs:=by
 rw[Rat.den_inv,if_neg (fun e=>h (Rat.num_eq_zero.1 e))]
def A5u(b:Rat):Rat:=b⁻¹
theorem B2n(h:b≠0)(hb:bl b.num.natAbs≤1099511627776):Calls Tryz.prog 85 #[E7 (sgn (decide (b.num<0)) b.den),B4 b.num.natAbs] w fun e w'=>e = .returned (qV (A5u b))∧A4 w w':=by
 have:=A5l (sgn (E5 b.num) b.den) b.num.natAbs hb w;rw[A79 (q:=b⁻¹) (B6R b h) (B8g b h)]at this;exact this
theorem B8S(h:bl b.num.natAbs≤1099511627776)(h0:b=0):Calls Tryz.prog 94 #[qV a,qV b] w fun e w'=>e = .returned (.tuple #[qV (G9 a b),.bool (nzq b)])∧A4 w w':=by
 have hs:(b.num.sign == 0)=true:=by rw[h0];rfl
 have h1:G9 a b=0:=by rw[h0];unfold G9;rw[Rat.div_def,Rat.inv_zero,Rat.mul_zero]
 have h2:nzq b=false:=by rw[h0];rfl
 rw[h1,h2];have Hh:=C0P h0;clear h0 h1 h2;go_enter Tryz.func94,Tryz.ntmps94;refine en3 ?_;intro u hG b4 b3 b2 hB hF;refine C0K ?_;refine C0K (rsE A8 [0,1,0] hB hG fun L hL=>?_);refine gs ?_;refine gmw (C:=fun v=>O8 _ (by assumption) _) ?_;refine gs ?_;refine geT hL ?_;clear hB hG hL L;rintro u ⟨-,hB,hG,-⟩;refine C0S (rfl) ?_;refine r0T ?_;refine st hB hF hG 2 0 [_,_,_,_,_] ?_;clear hB hG;intro u hB hG;refine rt Tryz.results94 ?_;exact⟨rfl,hG⟩
theorem B2M(h:qs a+qs b≤BIG)(h0:b≠0)(HT:Tab w):Calls Tryz.prog 94 #[qV a,qV b] w fun e w'=>e = .returned (.tuple #[qV (G9 a b),.bool (nzq b)])∧A4 w w':=by
 have hB40:=K4;have n2:bl b.num.natAbs≤1099511627776:=by have:=G4 b;omega
 have d2:bl b.den≤1099511627776:=by have:=I7 b;omega
 have hb0:b.num≠0:=fun e=>h0 (Rat.num_eq_zero.1 e);have hs:(b.num.sign == 0)=false:=by simpa using hb0
 have h2:nzq b=true:=C04 h0;have hi:qs a+qs (A5u b)≤BIG:=by unfold A5u;rw[B1b b h0];exact h
 have hd:C9 a (A5u b)=G9 a b:=(Rat.div_def a b).symm;have Hd:=C0P hd;rw[h2];clear h2 hd;go_enter Tryz.func94,Tryz.ntmps94;refine en3 ?_;intro u hG b4 b3 b2 hB hF;refine C0K ?_;refine C0K (rsE A8 [0,1,0] hB hG fun L hL=>?_);refine gs ?_;refine gmw (C:=fun v=>O8 _ (by assumption) _) ?_;refine gs ?_;refine geT hL ?_;clear hB hG hL L;rintro u ⟨-,hB,hG,-⟩;refine C0Q (rfl) ?_;refine C0R ?_;refine A6 ?_;refine C0K (rdC A8 [] [(0,0),(0,1),(0,4),(0,7),(0,8),(1,2),(0,3),(1,5),(1,6),(1,9),(1,10),(1,11)] hB hG fun K L hN hL=>?_);refine gs ?_;refine gmw (C:=fun v=>O8 _ (by assumption) _) ?_;refine gs ?_;refine gmw (C:=fun v=>Z7 _ (by assumption) _) ?_;refine gmw (C:=fun v=>U8 _ _ (by assumption) _) ?_;refine gmw (C:=fun v=>A3J _ _) ?_;refine gmw (C:=fun v=>B2n b _ h0 n2) ?_;refine gmd (C:=fun v ⟨hgu,hB,hG,_⟩=>A1B _ _ _ (by assumption) (HT.grow hG)) ?_;refine geC hL ?_;clear hB hG hL L;rintro u ⟨-,hB,hG,-⟩;refine gtT ?_;clear hN K;refine st hB hF hG 2 0 [_,_,_,_,_] ?_;clear hB hG;intro u hB hG;refine rt Tryz.results94 ?_;exact⟨A5t (Hd.out) rfl,hG⟩
theorem A5Q(h:qs a+qs b≤BIG)(HT:Tab w):Calls Tryz.prog 94 #[qV a,qV b] w fun e w'=>e = .returned (.tuple #[qV (G9 a b),.bool (nzq b)])∧A4 w w':=by
 by_cases h0:b=0
 ·exact B8S a b w (by have:=G4 b;have:=K4;omega) h0
 ·exact B2M a b w h h0 HT
end
end Go.Proofs.YtgpglgbcobeogaaGreatDoor
