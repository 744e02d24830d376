import Derived.Test.YtgpglgbcobeogaaGreatDoorL17
set_option linter.unusedSimpArgs false
set_option linter.unusedVariables false
set_option maxHeartbeats 4000000
set_option maxRecDepth 100000
namespace Go.Proofs.YtgpglgbcobeogaaGreatDoor
open Go.RowKit
section
variable (a b:Rat) (w:World)
theorem A5K(HT:Tab w)(h:qs a+qs b+1<=BIG)(x y:Bool)(hx:∀W,Calls Tryz.prog 81 #[qV a] W λe w'=>e = .returned (.bool x)/\A4 W w')(hy:∀W,Calls Tryz.prog 81 #[qV b] W λe w'=>e = .returned (.bool y)/\A4 W w')(hxy:(x&&y)=false) :
  Calls Tryz.prog 95 #[qV a,qV b] w λe w'=>e = .returned (qV (G9 a b))/\A4 w w':=by
 have hB40:=I6;obtain⟨g1,g0,d1,d2,t1,t2,m1,m2,u1,k1,k0⟩:=B33 a b h;have d1':=R7 d1;have d2':=R7 d2;have g1':=R7 g1;have He:=B8S (And.intro (A8S a b) (A7w a b));obtain⟨G,hG0⟩:∃G,G=Nat.gcd a.den b.den:=⟨_,rfl⟩
 obtain⟨U,hU0⟩:∃U,U=X7 (ztm a.num (b.den/G)) (ztm b.num (a.den/G)):=⟨_,rfl⟩
 obtain⟨H,hH0⟩:∃H,H=Nat.gcd U.natAbs G:=⟨_,rfl⟩
 rw[<-hG0]at g1 g0 t1 t2 m1 m2 u1 k1 k0 g1';rw[<-hU0]at u1 k1 k0;rw[<-hH0]at k1 k0;have hgc:∀W,Tab W->Calls Tryz.prog 83 #[F0 (sgn false a.den),F0 (sgn false b.den)] W λe w'=>e = .returned (B5 G)/\A4 W w':=λW ht=>hG0 ▸ B1C a.den b.den d1 d2 W ht;have hgu:∀W,Tab W->Calls Tryz.prog 83 #[F0 U,F0 (sgn false G)] W λe w'=>e = .returned (B5 H)/\A4 W w':=λW ht=>hH0 ▸ A3K U G u1 g1 W ht;have hau:∀W,Calls Tryz.prog 149 #[F0 (ztm a.num (b.den/G)),F0 (ztm b.num (a.den/G))] W λe w'=>e = .returned (F0 U)/\A4 W w':=λW=>hU0 ▸ A7x _ _ m1 m2 W;have e1:(G9 a b).num=ztd U H:=by
  have:=He.out.1;unfold A0V hOf A0V at this;rw[<-hG0]at this;rw[hH0,hU0];exact this
 have e2:(G9 a b).den=a.den/G*(b.den/H):=by
  have:=He.out.2;unfold hOf A0V at this;rw[<-hG0]at this;rw[hH0,hU0];exact this
 have He2:=B8S (And.intro e1 e2);have f1:bl (a.den/G)<=1099511627776:=B8K (O6 _ _) d1';have f2:bl (b.den/H)<=1099511627776:=B8K (O6 _ _) d2';have f3:bl (a.den/G*(b.den/H))<=1099511627776:=by
  have s1:=Q5 (a.den/G) (b.den/H);have s2:=O6 a.den G;have s3:=O6 b.den H;have s4:=H3 a;have s5:=H3 b;omega
 have Hx:=B8S hx;have Hy:=B8S hy;have Hgc:=B8S hgc;have Hgu:=B8S hgu;have Hau:=B8S hau;clear hx hy hgc hgu hau e1 e2 He hG0 hU0 hH0;cases x<;>cases y<;>first|(exact absurd hxy (by decide))|skip
 all_goals clear hxy
 all_goals
  go_enter Tryz.func95,Tryz.ntmps95;refine en3 ?_;intro u hG b4 b3 b2 hB hF;refine B8N ?_;refine B8N (rsE A8 [0,1,0,0,1,0] hB hG λL hL=>?_);refine gs ?_;refine gmw (C:=λv=>Hx.out _) ?_;refine gs ?_
  first|refine gmw (C:=λv=>Hy.out _) ?_|refine J6 ?_
  refine gs ?_;refine geT hL ?_;clear hB hG hL L;rintro u ⟨-,hB,hG,-⟩;refine B8T (rfl) ?_;refine B8U ?_;refine A6 ?_;refine B8N (rdC A8 [] [(0,0),(0,3),(1,1),(1,2),(1,4),(1,5),(1,6),(2,7)] hB hG λK L hN hL=>?_);refine gs ?_;refine gmw (C:=λv=>W4 _ (by assumption) _) ?_;refine gmw (C:=λv=>T8 _ _ (by assumption) _) ?_;refine gmw (C:=λv=>W4 _ (by assumption) _) ?_;refine gmw (C:=λv=>T8 _ _ (by assumption) _) ?_;refine gmd (C:=λv ⟨hgu,hB,hG,_⟩=>Hgc.out _ (HT.grow hG)) ?_;refine gaa (M7 _ _ _ _ _) λb5 hb5 hn5=>?_;replace hF:=hF.n1 [] hB hG hb5 hn5;refine geC hL ?_;clear hB hG hL L;rintro u ⟨⟨-,hB,hG,-⟩,h5⟩;replace hB:=hB.cons' h5;clear h5;clear hb5 hn5;refine gtT ?_;clear hN K;refine st hB hF hG 0 0 [_,_] ?_;clear hB hG;intro u hB hG;refine B8N (rdC A8 [] [(0,0),(0,2),(0,4),(0,6),(1,1),(1,3),(1,5),(1,7),(2,8),(2,9)] hB hG λK L hN hL=>?_);refine gs ?_;refine gmw (C:=λv=>W4 _ (by assumption) _) ?_;refine gmw (C:=λv=>A2B a.den G d1 g1 g0 _) ?_;refine gmw (C:=λv=>W4 _ (by assumption) _) ?_;refine gmw (C:=λv=>A2B b.den G d2 g1 g0 _) ?_;refine gaa (M7 _ _ _ _ _) λb6 hb6 hn6=>?_;refine gaa (M7 _ _ _ _ _) λb7 hb7 hn7=>?_;replace hF:=hF.n1 [] hB hG hb6 hn6;replace hF:=hF.n1 [b6] hB hG hb7 hn7;refine geC hL ?_;clear hB hG hL L;rintro u ⟨⟨⟨-,hB,hG,-⟩,h6⟩,h7⟩;replace hB:=hB.cons' h6;replace hB:=hB.cons' h7;clear h6 h7;clear hb6 hn6 hb7 hn7;have hD:b6≠b7/\b7≠b6:=⟨hF.ne 1 0 rfl rfl (by decide),hF.ne 0 1 rfl rfl (by decide)⟩
  refine gtT ?_;clear hN K;clear hD;refine st2 hB hF hG 1 0 [_,_] 0 0 [_,_] ?_;clear hB hG;intro u hB hG;refine B8N (rdC A8 [] [(0,0),(0,1),(0,2),(0,4),(0,5),(0,6),(1,3),(1,7),(1,8),(2,9)] hB hG λK L hN hL=>?_);refine gs ?_;refine gmw (C:=λv=>A2P _ _ (by assumption) _) ?_;refine gmw (C:=λv=>A2P _ _ (by assumption) _) ?_;refine gmw (C:=λv=>Hau.out _) ?_;refine gaa (A25 _ _ _ _ _) λb8 hb8 hn8=>?_;replace hF:=hF.n1 [] hB hG hb8 hn8;refine geC hL ?_;clear hB hG hL L;rintro u ⟨⟨-,hB,hG,-⟩,h8⟩;replace hB:=hB.cons' h8;clear h8;clear hb8 hn8;refine gtT ?_;clear hN K;refine st hB hF hG 0 0 [_,_,_] ?_;clear hB hG;intro u hB hG;refine B8N (rdC A8 [] [(0,0),(0,1),(1,2),(1,3),(2,4)] hB hG λK L hN hL=>?_);refine gs ?_;refine gmw (C:=λv=>T8 _ _ (by assumption) _) ?_;refine gmd (C:=λv ⟨hgu,hB,hG,_⟩=>Hgu.out _ (HT.grow hG)) ?_;refine gaa (M7 _ _ _ _ _) λb9 hb9 hn9=>?_;replace hF:=hF.n1 [] hB hG hb9 hn9;refine geC hL ?_;clear hB hG hL L;rintro u ⟨⟨-,hB,hG,-⟩,h9⟩;replace hB:=hB.cons' h9;clear h9;clear hb9 hn9;refine gtT ?_;clear hN K;refine st hB hF hG 0 0 [_,_] ?_;clear hB hG;intro u hB hG;refine B8N (rdC A8 [] [(0,0),(0,1),(0,3),(0,4),(0,6),(1,2),(1,5),(1,7),(1,8),(1,9)] hB hG λK L hN hL=>?_);refine gs ?_;refine gmw (C:=λv=>A4u U H u1 k1 k0 _) ?_;refine gmw (C:=λv=>W4 _ (by assumption) _) ?_;refine gmw (C:=λv=>A2B b.den H d2 k1 k0 _) ?_;refine gmw (C:=λv=>A6I _ _ (by assumption) (by assumption) _) ?_;refine gmw (C:=λv=>A4S _ _ (by assumption) _) ?_;refine geC hL ?_;clear hB hG hL L;rintro u ⟨-,hB,hG,-⟩;refine gtT ?_;clear hN K;refine st hB hF hG 7 0 [_,_,_,_,_] ?_;clear hB hG;intro u hB hG;refine rt Tryz.results95 ?_;exact⟨A1P He2.out.1 He2.out.2,hG⟩
theorem A3g(h:qs a+qs b+1<=BIG)(HT:Tab w):Calls Tryz.prog 95 #[qV a,qV b] w λe w'=>e = .returned (qV (G9 a b))/\A4 w w':=by
 have hB40:=I6;have h3:bl a.den<=1099511627776:=by have:=H3 a;omega
 have h4:bl b.den<=1099511627776:=by have:=H3 b;omega
 by_cases ha1:a.den=1
 ·by_cases hb1:b.den=1
  ·exact B3F a b w h ha1 hb1
  ·exact A5K a b w HT h true false (A0U a h3 ha1) (A0Z b h4 hb1) rfl
 ·by_cases hb1:b.den=1
  ·exact A5K a b w HT h false true (A0Z a h3 ha1) (A0U b h4 hb1) rfl
  ·exact A5K a b w HT h false false (A0Z a h3 ha1) (A0Z b h4 hb1) rfl
theorem A54:qs (K4 a)=qs a:=A3Y a
theorem A7h:G9 a (K4 b)=G0 a b:=(Rat.sub_eq_add_neg a b).symm
theorem A4x(h:qs a+qs b+1<=BIG)(HT:Tab w):Calls Tryz.prog 50 #[qV a,qV b] w λe w'=>e = .returned (qV (G0 a b))/\A4 w w':=by
 have hB40:=I6;have h2:bl b.num.natAbs<=1099511627776:=by have:=G6 b;omega
 have h3:qs a+qs (K4 b)+1<=BIG:=by rw[A54];exact h
 go_enter Tryz.func50,Tryz.ntmps50;refine en3 ?_;intro u hG b4 b3 b2 hB hF;refine B8N (rdC A8 [] [(0,0),(0,1),(1,2),(1,3)] hB hG λK L hN hL=>?_);refine gs ?_;refine gmw (C:=λv=>A7v _ (by assumption) _) ?_;refine gmd (C:=λv ⟨hgu,hB,hG,_⟩=>A3g _ _ _ (by assumption) (HT.grow hG)) ?_;refine geC hL ?_;clear hB hG hL L;rintro u ⟨-,hB,hG,-⟩;refine gtT ?_;clear hN K;refine st hB hF hG 2 0 [_,_,_,_,_] ?_;clear hB hG;intro u hB hG;refine rt Tryz.results50 ?_;exact⟨B49 (A7h a b),hG⟩
theorem B4r(h:qs a+qs b<=BIG)(ha1:a.den=1)(hb1:b.den=1):Calls Tryz.prog 29 #[qV a,qV b] w λe w'=>e = .returned (qV (C3 a b))/\A4 w w':=by
 have hB40:=I6;have h1:bl a.num.natAbs+bl b.num.natAbs<=1099511627776:=by have:=G6 a;have:=G6 b;omega
 have h3:bl a.den<=1099511627776:=by have:=H3 a;omega
 have h4:bl b.den<=1099511627776:=by have:=H3 b;omega
 have e:C3 a b=((a.num*b.num:Int):Rat):=by
  unfold C3;rw[Rat.intCast_mul,<-A4D a ha1,<-A4D b hb1]
 have e1:(C3 a b).num=I5 a.num b.num:=by rw[e,Rat.num_intCast];rfl
 have e2:(C3 a b).den=1:=by rw[e,Rat.den_intCast]
 have He:=B8S (And.intro e1 e2);have Ha1:=B8S ha1;have Hb1:=B8S hb1;clear e e1 e2 ha1 hb1;go_enter Tryz.func29,Tryz.ntmps29;refine en3 ?_;intro u hG b4 b3 b2 hB hF;refine B8N ?_;refine B8N (rsE A8 [0,1,0,0,1,0] hB hG λL hL=>?_);refine gs ?_;refine gmw (C:=λv=>A0U a h3 Ha1.out _) ?_;refine gs ?_
 first|refine gmw (C:=λv=>A0U b h4 Hb1.out _) ?_|refine J6 ?_
 refine gs ?_;refine geT hL ?_;clear hB hG hL L;rintro u ⟨-,hB,hG,-⟩;refine B8V (rfl) ?_;refine B8N (rsC A8 [0,0,0,0,1,0] hB hG λK L hN hL=>?_);refine gs ?_;refine gmw (C:=λv=>A5p _ _ (by assumption) _) ?_;refine gs ?_;refine geC hL ?_;clear hB hG hL L;rintro u ⟨-,hB,hG,-⟩;refine gtT ?_;clear hN K;refine st hB hF hG 2 0 [_,_,_,_,_] ?_;clear hB hG;intro u hB hG;refine rt Tryz.results29 ?_;exact⟨A1P He.out.1 He.out.2,hG⟩
theorem A5x(HT:Tab w)(h:qs a+qs b<=BIG)(x y:Bool)(hx:∀W,Calls Tryz.prog 81 #[qV a] W λe w'=>e = .returned (.bool x)/\A4 W w')(hy:∀W,Calls Tryz.prog 81 #[qV b] W λe w'=>e = .returned (.bool y)/\A4 W w')(hxy:(x&&y)=false) :
  Calls Tryz.prog 29 #[qV a,qV b] w λe w'=>e = .returned (qV (C3 a b))/\A4 w w':=by
 have hB40:=I6;have s1:=G6 a;have s2:=H3 a;have s3:=G6 b;have s4:=H3 b;have n1:bl a.num.natAbs<=BIG:=by omega
 have n2:bl b.num.natAbs<=BIG:=by omega
 have d1:bl a.den<=BIG:=by omega
 have d2:bl b.den<=BIG:=by omega
 have d1':=R7 d1;have d2':=R7 d2;have He:=B8S (And.intro (A7A a b) (A95 a b));obtain⟨G,hG0⟩:∃G,G=Nat.gcd a.num.natAbs b.den:=⟨_,rfl⟩
 obtain⟨H,hH0⟩:∃H,H=Nat.gcd b.num.natAbs a.den:=⟨_,rfl⟩
 have g0:G≠0:=λe=>b.den_nz (B9Z (hG0 ▸ e));have k0:H≠0:=λe=>a.den_nz (B9Z (hH0 ▸ e));have g1:bl G<=BIG:=by rw[hG0];exact B8K (A43 _ _ b.den_nz) d2
 have k1:bl H<=BIG:=by rw[hH0];exact B8K (A43 _ _ a.den_nz) d1
 have hgc:∀W,Tab W->Calls Tryz.prog 83 #[F0 a.num,F0 (sgn false b.den)] W λe w'=>e = .returned (B5 G)/\A4 W w':=λW ht=>hG0 ▸ A3K a.num b.den n1 d2 W ht;have hgu:∀W,Tab W->Calls Tryz.prog 83 #[F0 b.num,F0 (sgn false a.den)] W λe w'=>e = .returned (B5 H)/\A4 W w':=λW ht=>hH0 ▸ A3K b.num a.den n2 d1 W ht;have e1:(C3 a b).num=I5 (ztd a.num G) (ztd b.num H):=by rw[hG0,hH0];exact He.out.1
 have e2:(C3 a b).den=a.den/H*(b.den/G):=by rw[hG0,hH0];exact He.out.2
 have He2:=B8S (And.intro e1 e2);have f1:bl (a.den/H)<=1099511627776:=B8K (O6 _ _) d1';have f2:bl (b.den/G)<=1099511627776:=B8K (O6 _ _) d2';have f3:bl (a.den/H*(b.den/G))<=1099511627776:=by
  have s1:=Q5 (a.den/H) (b.den/G);have s2:=O6 a.den H;have s3:=O6 b.den G;omega
 have f4:bl (ztd a.num G).natAbs+bl (ztd b.num H).natAbs<=1099511627776:=by
  have s1:=S8 (A3j a.num G);have s2:=S8 (A3j b.num H);unfold ztd;omega
 have Hx:=B8S hx;have Hy:=B8S hy;have Hgc:=B8S hgc;have Hgu:=B8S hgu;clear hx hy hgc hgu e1 e2 He hG0 hH0;cases x<;>cases y<;>first|(exact absurd hxy (by decide))|skip
 all_goals clear hxy
 all_goals
  go_enter Tryz.func29,Tryz.ntmps29;refine en3 ?_;intro u hG b4 b3 b2 hB hF;refine B8N ?_;refine B8N (rsE A8 [0,1,0,0,1,0] hB hG λL hL=>?_);refine gs ?_;refine gmw (C:=λv=>Hx.out _) ?_;refine gs ?_
  first|refine gmw (C:=λv=>Hy.out _) ?_|refine J6 ?_
  refine gs ?_;refine geT hL ?_;clear hB hG hL L;rintro u ⟨-,hB,hG,-⟩;refine B8T (rfl) ?_;refine B8U ?_;refine A6 ?_;refine B8N (rdC A8 [] [(0,0),(0,1),(0,2),(1,3),(1,4),(1,5),(2,6)] hB hG λK L hN hL=>?_);refine gs ?_;refine gmw (C:=λv=>W4 _ (by assumption) _) ?_;refine gmw (C:=λv=>T8 _ _ (by assumption) _) ?_;refine gmd (C:=λv ⟨hgu,hB,hG,_⟩=>Hgc.out _ (HT.grow hG)) ?_;refine gaa (M7 _ _ _ _ _) λb5 hb5 hn5=>?_;replace hF:=hF.n1 [] hB hG hb5 hn5;refine geC hL ?_;clear hB hG hL L;rintro u ⟨⟨-,hB,hG,-⟩,h5⟩;replace hB:=hB.cons' h5;clear h5;clear hb5 hn5;refine gtT ?_;clear hN K;refine st hB hF hG 0 0 [_,_] ?_;clear hB hG;intro u hB hG;refine B8N (rdC A8 [] [(0,0),(0,1),(0,2),(1,3),(1,4),(1,5),(2,6)] hB hG λK L hN hL=>?_);refine gs ?_;refine gmw (C:=λv=>W4 _ (by assumption) _) ?_;refine gmw (C:=λv=>T8 _ _ (by assumption) _) ?_;refine gmd (C:=λv ⟨hgu,hB,hG,_⟩=>Hgu.out _ (HT.grow hG)) ?_;refine gaa (M7 _ _ _ _ _) λb6 hb6 hn6=>?_;replace hF:=hF.n1 [] hB hG hb6 hn6;refine geC hL ?_;clear hB hG hL L;rintro u ⟨⟨-,hB,hG,-⟩,h6⟩;replace hB:=hB.cons' h6;clear h6;clear hb6 hn6;refine gtT ?_;clear hN K;refine st hB hF hG 0 0 [_,_] ?_;clear hB hG;intro u hB hG;refine B8N (rdC A8 [] [(0,0),(0,1),(0,2),(0,4),(0,5),(0,6),(0,9),(0,11),(0,13),(0,15),(1,3),(1,7),(1,8),(1,10),(1,12),(1,14),(1,16),(1,17),(1,18)] hB hG λK L hN hL=>?_);refine gs ?_;refine gmw (C:=λv=>A4u a.num G n1 g1 g0 _) ?_;refine gmw (C:=λv=>A4u b.num H n2 k1 k0 _) ?_;refine gmw (C:=λv=>A5p _ _ (by assumption) _) ?_;refine gmw (C:=λv=>W4 _ (by assumption) _) ?_;refine gmw (C:=λv=>A2B a.den H d1 k1 k0 _) ?_;refine gmw (C:=λv=>W4 _ (by assumption) _) ?_;refine gmw (C:=λv=>A2B b.den G d2 g1 g0 _) ?_;refine gmw (C:=λv=>A6I _ _ (by assumption) (by assumption) _) ?_;refine gmw (C:=λv=>A4S _ _ (by assumption) _) ?_;refine geC hL ?_;clear hB hG hL L;rintro u ⟨-,hB,hG,-⟩;refine gtT ?_;clear hN K;refine st hB hF hG 4 0 [_,_,_,_,_] ?_;clear hB hG;intro u hB hG;refine rt Tryz.results29 ?_;exact⟨A1P He2.out.1 He2.out.2,hG⟩
theorem A1d(h:qs a+qs b<=BIG)(HT:Tab w):Calls Tryz.prog 29 #[qV a,qV b] w λe w'=>e = .returned (qV (C3 a b))/\A4 w w':=by
 have hB40:=I6;have h3:bl a.den<=1099511627776:=by have:=H3 a;omega
 have h4:bl b.den<=1099511627776:=by have:=H3 b;omega
 by_cases ha1:a.den=1
 ·by_cases hb1:b.den=1
  ·exact B4r a b w h ha1 hb1
  ·exact A5x a b w HT h true false (A0U a h3 ha1) (A0Z b h4 hb1) rfl
 ·by_cases hb1:b.den=1
  ·exact A5x a b w HT h false true (A0Z a h3 ha1) (A0U b h4 hb1) rfl
  ·exact A5x a b w HT h false false (A0Z a h3 ha1) (A0Z b h4 hb1) rfl
theorem B50(h:b≠0):b⁻¹.num=sgn (F9 b.num) b.den:=by
 rw[Rat.num_inv];have h0:b.num≠0:=λe=>h (Rat.num_eq_zero.1 e);unfold sgn F9;by_cases hn:b.num<0
 ·rw[if_pos (B87 hn),B89 hn];omega
 ·rw[if_neg (by simpa using hn),B9B (by omega)];omega
theorem B5t(h:b≠0):b⁻¹.den=b.num.natAbs:=by
 rw[Rat.den_inv,if_neg (λe=>h (Rat.num_eq_zero.1 e))]
def A4q(b:Rat):Rat:=b⁻¹
theorem B6G(h:b≠0)(hb:bl b.num.natAbs<=1099511627776):Calls Tryz.prog 85 #[F0 (sgn (decide (b.num<0)) b.den),B5 b.num.natAbs] w λe w'=>e = .returned (qV (A4q b))/\A4 w w':=by
 have:=A4S (sgn (F9 b.num) b.den) b.num.natAbs hb w;rw[A9r (q:=b⁻¹) (B50 b h) (B5t b h)]at this;exact this
theorem B3a(h:bl b.num.natAbs<=1099511627776)(h0:b=0):Calls Tryz.prog 94 #[qV a,qV b] w λe w'=>e = .returned (.tuple #[qV (Q9 a b),.bool (nzq b)])/\A4 w w':=by
 have hs:(b.num.sign == 0)=true:=by rw[h0];rfl
 have h1:Q9 a b=0:=by rw[h0];unfold Q9;rw[Rat.div_def,Rat.inv_zero,Rat.mul_zero]
 have h2:nzq b=false:=by rw[h0];rfl
 rw[h1,h2];have Hh:=B8S h0;clear h0 h1 h2;go_enter Tryz.func94,Tryz.ntmps94;refine en3 ?_;intro u hG b4 b3 b2 hB hF;refine B8N ?_;refine B8N (rsE A8 [0,1,0] hB hG λL hL=>?_);refine gs ?_;refine gmw (C:=λv=>U4 _ (by assumption) _) ?_;refine gs ?_;refine geT hL ?_;clear hB hG hL L;rintro u ⟨-,hB,hG,-⟩;refine B8V (rfl) ?_;refine r0T ?_;refine st hB hF hG 2 0 [_,_,_,_,_] ?_;clear hB hG;intro u hB hG;refine rt Tryz.results94 ?_;exact⟨rfl,hG⟩
theorem B5F(h:qs a+qs b<=BIG)(h0:b≠0)(HT:Tab w):Calls Tryz.prog 94 #[qV a,qV b] w λe w'=>e = .returned (.tuple #[qV (Q9 a b),.bool (nzq b)])/\A4 w w':=by
 have hB40:=I6;have n2:bl b.num.natAbs<=1099511627776:=by have:=G6 b;omega
 have d2:bl b.den<=1099511627776:=by have:=H3 b;omega
 have hb0:b.num≠0:=λe=>h0 (Rat.num_eq_zero.1 e);have hs:(b.num.sign == 0)=false:=by simpa using hb0
 have h2:nzq b=true:=B87 h0;have hi:qs a+qs (A4q b)<=BIG:=by unfold A4q;rw[A7F b h0];exact h
 have hd:C3 a (A4q b)=Q9 a b:=(Rat.div_def a b).symm;have Hd:=B8S hd;rw[h2];clear h2 hd;go_enter Tryz.func94,Tryz.ntmps94;refine en3 ?_;intro u hG b4 b3 b2 hB hF;refine B8N ?_;refine B8N (rsE A8 [0,1,0] hB hG λL hL=>?_);refine gs ?_;refine gmw (C:=λv=>U4 _ (by assumption) _) ?_;refine gs ?_;refine geT hL ?_;clear hB hG hL L;rintro u ⟨-,hB,hG,-⟩;refine B8T (rfl) ?_;refine B8U ?_;refine A6 ?_;refine B8N (rdC A8 [] [(0,0),(0,1),(0,4),(0,7),(0,8),(1,2),(0,3),(1,5),(1,6),(1,9),(1,10),(1,11)] hB hG λK L hN hL=>?_);refine gs ?_;refine gmw (C:=λv=>U4 _ (by assumption) _) ?_;refine gs ?_;refine gmw (C:=λv=>W4 _ (by assumption) _) ?_;refine gmw (C:=λv=>T8 _ _ (by assumption) _) ?_;refine gmw (C:=λv=>A2d _ _) ?_;refine gmw (C:=λv=>B6G b _ h0 n2) ?_;refine gmd (C:=λv ⟨hgu,hB,hG,_⟩=>A1d _ _ _ (by assumption) (HT.grow hG)) ?_;refine geC hL ?_;clear hB hG hL L;rintro u ⟨-,hB,hG,-⟩;refine gtT ?_;clear hN K;refine st hB hF hG 2 0 [_,_,_,_,_] ?_;clear hB hG;intro u hB hG;refine rt Tryz.results94 ?_;exact⟨A39 (Hd.out) rfl,hG⟩
theorem B3v(h:qs a+qs b<=BIG)(HT:Tab w):Calls Tryz.prog 94 #[qV a,qV b] w λe w'=>e = .returned (.tuple #[qV (Q9 a b),.bool (nzq b)])/\A4 w w':=by
 by_cases h0:b=0
 ·exact B3a a b w (by have:=G6 b;have:=I6;omega) h0
 ·exact B5F a b w h h0 HT
end
def W32:Nat:=4294967296
theorem D6:2<=W32:=by unfold W32;omega
theorem F5:0<W32:=by unfold W32;omega
def ln(a:Nat):Nat:=(B4 W32 a).length
theorem A5v:ln 0=0:=rfl
theorem A5Q{a:Nat}:ln a=0↔a=0:=by
 constructor
 ·intro h;have h1:=E3 D6 a;rw[B76 h]at h1;exact h1.symm
 ·rintro rfl;rfl
theorem A2G{a:Nat}:0<ln a↔a≠0:=by have:=@A5Q a;omega
def Lim(u:World)(A:Option Addr)(l:List Nat):Prop :=
 l≠[]->∃b off cs fr,A=some ⟨b,off,none⟩/\u.heap[b]?=some (.cells cs 193 fr)/\∀i x,l[i]?=some x->cs[off+i]?=some (.int .u32 (x:Nat))
theorem Lim.nil(u:World)(A:Option Addr):Lim u A []:=λh=>absurd rfl h
theorem Lim.grow{u u':World}{A:Option Addr}{l:List Nat}(h:Lim u A l)(hg:A4 u u'):Lim u' A l:=λhn=>by
 obtain⟨b,off,cs,fr,e,hb,hc⟩:=h hn;exact⟨b,off,cs,fr,e,(hg.block b (N7 hb)).trans hb,hc⟩
theorem Lim.take{u:World}{A:Option Addr}{l:List Nat}(h:Lim u A l)(n:Nat):Lim u A (l.take n):=λhn=>by
 obtain⟨b,off,cs,fr,e,hb,hc⟩:=h (λh0=>hn (by rw[h0];simp));refine⟨b,off,cs,fr,e,hb,λi x hi=>hc i x ?_⟩;rw[B9b]at hi;split at hi
 ·exact hi
 ·cases hi
theorem Lim.cell{u:World}{A:Option Addr}{l:List Nat}(h:Lim u A l){i:Nat}(hi:i<l.length):∃b off,A=some ⟨b,off,none⟩/\u.cell? ⟨b,off+i,none⟩=some (.int .u32 (dg l i:Nat)):=by
 obtain⟨b,off,cs,fr,e,hb,hc⟩:=h (λh0=>by rw[h0]at hi;cases hi);refine⟨b,off,e,?_⟩;rw[E8 hi,<-hc i _ (B8i hi)];exact B8E u b (off+i) cs 193 fr hb
theorem Lim.put{u u':World}{A:Option Addr}{l:List Nat}(h:Lim u A l){bl:List (Nat×TypeId×Array Value)}(hB:Bx u bl)(k:Nat){b:Nat}{t:TypeId}{cs:Array Value}(hk:bl[k]?=some (b,t,cs))(ht:t≠193)(i:Nat)(vs:List Value)(hu:C7 u b i vs=u'):Lim u' A l:=λhn=>by
 obtain⟨b',off,cs',fr,e,hb,hc⟩:=h hn;refine⟨b',off,cs',fr,e,?_,hc⟩;have hbk:Blk u b t cs:=hB (b,t,cs) (B8J hk);have hne:b'≠b:=λe=>by
  subst e;have:=hbk.symm.trans hb;injection this with this;injection this with _ h2 _;exact ht h2
 clear hbk hB hk hc h;subst hu
 induction vs generalizing u i with
 | nil=>exact hb
 | cons v vs ih=>exact ih _ ((B8F u ⟨b,i,none⟩ v b' hne).trans hb)
theorem A19(A:Option Addr)(l:List Nat)(c:Nat)(w:World)(h:Lim w A l)(hc:l.length<=c)(hm:c<=9223372036854775807) :
  Calls Tryz.prog 139 #[.slice A l.length c] w λe w'=>e = .returned (.slice A (E4 l).length c)/\A4 w w':=by
 have H:=B8S h;clear h;obtain⟨n,hn⟩:∃n,n=l.length:=⟨_,rfl⟩
 rw[<-hn];rw[<-hn]at hc;have Hn:=B8S hn;clear hn;go_enter Tryz.func139,Tryz.ntmps139;go_wp2;go_loop [3] (λs=>∃k:Nat,k<=n/\s = .int .i64 k/\E4 (l.take k)=E4 l) (λs=>(intOf s).toNat)
 case atStart=>exact⟨n,K2 _,rfl,by rw[B8u (by rw[Hn.out];exact K2 _)]⟩
 case round =>
  obtain⟨k,hk,rfl,ht⟩:=hrel;have Ht:=B8S ht;clear ht;rcases B8M k with rfl|hpos
  ·go_wp2;go_ret;refine⟨?_,A4.refl _⟩;have:E4 l=[]:=by rw[<-Ht.out];rfl
   rw[this];rfl
  ·have hkl:k-1<l.length:=by rw[<-Hn.out];omega
   obtain⟨b,off,rfl,hcell⟩:=H.out.cell hkl;have hsn:l.take k=l.take (k-1)++[dg l (k-1)]:=by
    have:=B8h hkl;rw[show k-1+1=k by omega]at this;rw[E8 hkl];exact this
   have Hsn:=B8S hsn;clear hsn;obtain⟨x,hx⟩:∃x,x=dg l (k-1):=⟨_,rfl⟩
   rw[<-hx]at hcell;have Hx:=B8S hx;clear hx;have hidx:(0:Int)<=(k:Int)-1:=by omega
   by_cases h0:x=0
   ·subst h0;go_wp2;go_round
    case rel=>exact⟨k-1,by omega,by go_num,by rw[<-Ht.out,Hsn.out,<-Hx.out,A5L]⟩
    case measure=>simp[intOf];omega
   ·have hb:((x:Int) == 0)=false:=by simpa using h0
    go_wp2;go_ret;refine⟨?_,A4.refl _⟩;have:E4 l=l.take k:=by rw[<-Ht.out,Hsn.out,A55 _ (by rw[<-Hx.out];exact h0)]
    rw[this,List.length_take,B83 (by omega)];rfl
abbrev Ax:=Option Addr×Nat
def Rn(u:World)(x:Ax)(a:Nat):Prop:=Lim u x.1 (B4 W32 a)/\ln a<=x.2/\x.2<=9223372036854775807/\ln a<=1099511627776
theorem Rn.grow{u u':World}{x:Ax}{a:Nat}(h:Rn u x a)(hg:A4 u u'):Rn u' x a:=⟨h.1.grow hg,h.2⟩
theorem Rn.put{u u':World}{x:Ax}{a:Nat}(h:Rn u x a){bl:List (Nat×TypeId×Array Value)}(hB:Bx u bl)(k:Nat){b:Nat}{t:TypeId}{cs:Array Value}(hk:bl[k]?=some (b,t,cs))(ht:t≠193)(i:Nat)(vs:List Value)(hu:C7 u b i vs=u'):Rn u' x a:=⟨h.1.put hB k hk ht i vs hu,h.2⟩
abbrev nvV(x:Ax)(a:Nat):Value:=.slice x.1 (ln a) x.2
abbrev riV(x:Ax)(z:Int):Value:=.agg #[.bool (F9 z),.slice x.1 (ln z.natAbs) x.2]
abbrev rqV(x y:Ax)(q:Rat):Value:=.agg #[.bool (F9 q.num),.slice x.1 (ln q.num.natAbs) x.2,.slice y.1 (ln q.den) y.2]
structure Rp where
 X:Type
 f:X->Value
 T:X->World->Prop
 mono:∀x w w',A4 w w'->T x w->T x w'
def M3(a:Nat):Rp:=⟨Ax,λx=>nvV x a,λx v=>Rn v x a,λ_ _ _ hg h=>h.grow hg⟩
def L9(z:Int):Rp:=⟨Ax,λx=>riV x z,λx v=>Rn v x z.natAbs,λ_ _ _ hg h=>h.grow hg⟩
def F7(q:Rat):Rp:=⟨Ax×Ax,λx=>rqV x.1 x.2 q,λx v=>Rn v x.1 q.num.natAbs/\Rn v x.2 q.den,λ_ _ _ hg h=>⟨h.1.grow hg,h.2.grow hg⟩⟩
def nnR(a b:Nat):Rp:=⟨Ax×Ax,λx=>.tuple #[nvV x.1 a,nvV x.2 b],λx v=>Rn v x.1 a/\Rn v x.2 b,λ_ _ _ hg h=>⟨h.1.grow hg,h.2.grow hg⟩⟩
def Ret(R:Rp)(w:World)(e:Ending)(w':World):Prop:=∃x,e = .returned (R.f x)/\R.T x w'/\A4 w w'
theorem gr{P:Program}{ops:Array Oper}{L:Act->World->Prop}{o:Oper}{r:List (Nat×Oper)}{B:Nat}{tk:List Nat}{a:Act}{F:World->Prop}(R:Rp)(hw:Region.wanted o (yielded ops a.tmps)=true)
  (h:∀w,F w->∀N:Value->World->Prop,(∀x w',R.T x w'->A4 w w'->N (R.f x) w')->Z7 P o a w N) (hr:∀x,OKs P ops L B r tk (a.put o.dst (R.f x)) (λw=>F w/\R.T x w)):OKs P ops L B ((1,o)::r) tk a F :=
 gx R.X R.f R.T R.mono hw h hr
theorem grd{P:Program}{ops:Array Oper}{L:Act->World->Prop}{o:Oper}{r:List (Nat×Oper)}{B:Nat}{tk:List Nat}{a:Act}{F:World->Prop}(R:Rp){a':R.X->Act}{g:FuncId}{args:Array Value}(hr:∀x,OKs P ops L B r tk (a' x) (λw=>F w/\R.T x w))
  (hw:Region.wanted o (yielded ops a.tmps)=true:=by exact rfl) (hs:∀w (N:Value->World->Prop),(Calls P g args w λe w''=>∃u,e = .returned u/\N u w'')->Z7 P o a w N:=by(intro w N h;go_simp<;>with_reducible exact h))
  (hp:∀x,a.put o.dst (R.f x)=a' x:=by(intro x;simp only[M3,L9,F7,nnR,Act.put,List.setIfInBounds_toArray,List.set_cons_succ,List.set_cons_zero];exact rfl)) (C:∀w,F w->Calls P g args w (Ret R w)):OKs P ops L B ((1,o)::r) tk a F :=
 gxd R.f R.T R.mono hr hw hs hp C
theorem B7l(w:World)(o:Obj):(w.alloc o).heap[w.heap.size]?=some o:=by
 show(w.heap.push _)[w.heap.size]?=_;simp
theorem B4G(w:World)(l:List Nat):Lim (w.alloc (.cells (l.map λx=>Value.int .u32 (x:Nat)).toArray 193)) (some ⟨w.heap.size,0,none⟩) l:=λ_ =>
 ⟨w.heap.size,0,(l.map λx=>Value.int .u32 (x:Nat)).toArray,(0,0),rfl,B7l w _,λi x hi=>by simp[hi]⟩
theorem A4Z{u:World}{A:Option Addr}{l:List Nat}{c:Nat}{a:Nat}(h:Lim u A l)(hd:Dig W32 l)(hv:val W32 l=a)(hc:l.length<=c)(hm:c<=9223372036854775807)(hl:l.length<=1099511627776):Rn u (A,c) a/\(E4 l).length=ln a:=by
 have e:E4 l=B4 W32 a:=by rw[<-hv];exact A60 D6 hd
 have h1:ln a<=l.length:=by
  unfold ln;rw[<-e];exact A2p l
 refine⟨⟨?_,B8K h1 hc,hm,B8K h1 hl⟩,by rw[e];rfl⟩;rw[<-e,A2X];exact h.take _
theorem A3k{u:World}{A:Option Addr}{l:List Nat}{c:Nat}{a:Nat}(h:Lim u A l)(hd:Dig W32 l)(hv:val W32 l=a)(hc:l.length<=c)(hm:c<=1099511627776):Rn u (A,c) a/\(E4 l).length=ln a :=
 A4Z h hd hv hc (by omega) (by omega)
theorem A4T(n:Nat)(hn:n<W64)(w:World):Calls Tryz.prog 109 #[.int .u64 n] w (Ret (M3 n) w):=by
 have h1:n%4294967296<4294967296:=B8b _ (by omega);have h2:n/4294967296<4294967296:=by unfold W64 at hn;omega
 have htr:Calls Tryz.prog 139 #[.slice (some ⟨w.heap.size,0,none⟩) 2 2] (w.alloc (.cells #[.int .u32 ((n:Int)%4294967296),.int .u32 ((n:Int)/4294967296)] 193)) λe w'=>e = .returned (.slice (some ⟨w.heap.size,0,none⟩) (ln n) 2)/\Rn w' (some ⟨w.heap.size,0,none⟩,2) n/\A4 w w':=by
  have hl:=B4G w [n%4294967296,n/4294967296];have e1:((n%4294967296:Nat):Int)=(n:Int)%4294967296:=by omega
  have e2:((n/4294967296:Nat):Int)=(n:Int)/4294967296:=by omega
  simp only[List.map_cons,List.map_nil,e1,e2]at hl;refine(A19 _ _ 2 _ hl (K2 _) (by omega)).mono λe w' ⟨he,hg⟩=>?_
  obtain⟨hr,hlen⟩:=A3k (a:=n) (c:=2) (hl.grow hg) (λx hx=>by
   simp only[List.mem_cons,List.not_mem_nil,or_false]at hx;unfold W32
   omega) (by simp[val,W32];omega) (K2 _) (by omega)
  rw[hlen]at he;exact⟨he,hr,(A4.alloc _ _).trans hg⟩
 have Htr:=B8S htr;clear htr;go_enter Tryz.func109,Tryz.ntmps109;go_wp2_with (go_at_call 139;((with_reducible refine(Htr.out).mono ?_);rintro e w1 ⟨rfl,hr,hg⟩));go_ret;exact⟨(some ⟨w.heap.size,0,none⟩,2),rfl,hr,hg⟩
theorem A5I{a b:Nat}(h:ln a<ln b):a<b:=by
 have:=A4B D6 (G5 D6 a) (A2F D6 b) (G5 D6 b) h
 rwa [E3 D6,E3 D6]at this
theorem A6o{a b:Nat}(h:a<=b):ln a<=ln b:=by
 rcases B73 (ln b) (ln a)with h'|h'
 ·have:=A5I h';omega
 ·exact h'
theorem B7q(x y:Ax)(a b:Nat)(w:World)(hx:Rn w x a)(hy:Rn w y b)(hl:ln a=ln b) :
  Calls Tryz.prog 101 #[nvV x a,nvV y b] w λe w'=>e = .returned (.int .i64 (G4 a b))/\A4 w w':=by
 obtain⟨A1,c1⟩:=x;obtain⟨A2,c2⟩:=y;have Hx:=B8S hx.1;have Hy:=B8S hy.1;have hm:=hx.2;simp only at hm;obtain⟨n,hn⟩:∃n,n=ln a:=⟨_,rfl⟩
 rw[<-hn]at hm;show Calls Tryz.prog 101 #[.slice A1 (ln a) c1,.slice A2 (ln b) c2] w _;rw[<-hl,<-hn];have Hn1:=B8S hn;have Hn2:=B8S (hn.trans hl);clear hx hy hl hn;go_enter Tryz.func101,Tryz.ntmps101;go_wp2_with fail;go_loopw [5] (λs wr=>∃k:Nat,k<=n/\s = .int .i64 ((k:Int)-1)/\(B4 W32 a).drop k=(B4 W32 b).drop k/\A4 w wr) (λs _=>(intOf s+1).toNat)
 case atStart=>exact⟨n,K2 _,rfl,by rw[B8m (B84 Hn1.out.symm),B8m (B84 Hn2.out.symm)],A4.refl _⟩
 case round =>
  obtain⟨k,hk,rfl,hd,hG⟩:=hrel;have Hd:=B8S hd;clear hd;rcases B8M k with rfl|hpos
  ·have hc:decide ((0:Int)<=((0:Nat):Int)-1)=false:=by decide
   go_wp2_with fail;go_ret;refine⟨M5 ?_,hG⟩;have:=Hd.out;simp only[List.drop_zero]at this;rw[A13 (B5U D6 this)]
  ·obtain⟨j,rfl⟩:∃j,k=j+1:=⟨k-1,by omega⟩
   have e1:((j+1:Nat):Int)-1=(j:Nat):=by omega
   rw[e1];have hj1:j<(B4 W32 a).length:=by have:=Hn1.out;unfold ln at this;omega
   have hj2:j<(B4 W32 b).length:=by have:=Hn2.out;unfold ln at this;omega
   obtain⟨b1,o1,rfl,hc1⟩:=(Hx.out.grow hG).cell hj1;obtain⟨b2,o2,rfl,hc2⟩:=(Hy.out.grow hG).cell hj2;obtain⟨p,hp⟩:∃p,p=dg (B4 W32 a) j:=⟨_,rfl⟩
   obtain⟨q,hq⟩:∃q,q=dg (B4 W32 b) j:=⟨_,rfl⟩
   rw[<-hp]at hc1;rw[<-hq]at hc2;have Hp:=B8S hp;have Hq:=B8S hq;clear hp hq e1;have hc0:decide ((0:Int)<=(j:Int))=true:=by simp
   rcases B85 p q with hlt|heq|hgt
   ·have hb1:((p:Int) != (q:Int))=true:=by simp;omega
    have hb2:decide ((p:Int)<(q:Int))=true:=by simp;omega
    go_wp2_with fail;go_quiet (fail);go_wp2_with fail;go_quiet (fail);go_wp2_with fail;go_ret;refine⟨M5 ?_,hG.trans ((T2 _ _).trans (T2 _ _))⟩;have h1:=A2f (G5 D6 a) (Hn1.out.symm.trans Hn2.out) hj1 Hd.out (by rw[<-Hp.out,<-Hq.out];exact hlt);rw[E3 D6,E3 D6]at h1;rw[V4 h1]
   ·subst heq;go_wp2_with fail;go_quiet (fail);go_wp2_with fail;exact⟨⟨j,by omega,rfl,by rw[A1O hj1,A1O hj2,Hd.out,<-Hp.out,<-Hq.out],hG.trans (T2 _ _)⟩,by simp[intOf]⟩
   ·have hb1:((p:Int) != (q:Int))=true:=by simp;omega
    have hb2:decide ((p:Int)<(q:Int))=false:=by simp;omega
    go_wp2_with fail;go_quiet (fail);go_wp2_with fail;go_quiet (fail);go_wp2_with fail;go_ret;refine⟨M5 ?_,hG.trans ((T2 _ _).trans (T2 _ _))⟩;have h1:=A2f (G5 D6 b) (Hn2.out.symm.trans Hn1.out) hj2 Hd.out.symm (by rw[<-Hp.out,<-Hq.out];exact hgt);rw[E3 D6,E3 D6]at h1;rw[A0c h1]
theorem B2X(x y:Ax)(a b:Nat)(w:World)(hl:ln a≠ln b) :
  Calls Tryz.prog 101 #[nvV x a,nvV y b] w λe w'=>e = .returned (.int .i64 (G4 a b))/\A4 w w':=by
 rcases B8H hl with h|h
 ·rw[V4 (A5I h)];go_enter Tryz.func101,Tryz.ntmps101;go_wp2_with fail;go_ret;exact⟨rfl,A4.refl _⟩
 ·rw[A0c (A5I h)];have h':¬ln a<ln b:=by omega
  go_enter Tryz.func101,Tryz.ntmps101;go_wp2_with fail;go_ret;exact⟨rfl,A4.refl _⟩
theorem A3Q(x y:Ax)(a b:Nat)(w:World)(hx:Rn w x a)(hy:Rn w y b) :
  Calls Tryz.prog 101 #[nvV x a,nvV y b] w λe w'=>e = .returned (.int .i64 (G4 a b))/\A4 w w':=by
 by_cases hl:ln a=ln b
 ·exact B7q x y a b w hx hy hl
 ·exact B2X x y a b w hl
end Go.Proofs.YtgpglgbcobeogaaGreatDoor
