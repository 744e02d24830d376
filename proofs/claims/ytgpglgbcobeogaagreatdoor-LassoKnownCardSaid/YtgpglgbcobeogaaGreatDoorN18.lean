import Derived.Test.YtgpglgbcobeogaaGreatDoorN17
set_option linter.unusedSimpArgs false
set_option linter.unusedVariables false
set_option maxHeartbeats 4000000
set_option maxRecDepth 100000
namespace Go.Proofs.YtgpglgbcobeogaaGreatDoor
open Go.RowKit
section
variable (a b:Rat) (w:World)
theorem A5t(HT:Tab w)(h:qs a+qs b+1<=BIG)(x y:Bool)(hx:∀W,Calls Tryz.prog 81 #[qV a] W λe w'=>e = .returned (.bool x)/\A4 W w')(hy:∀W,Calls Tryz.prog 81 #[qV b] W λe w'=>e = .returned (.bool y)/\A4 W w')(hxy:(x&&y)=false) :
  Calls Tryz.prog 95 #[qV a,qV b] w λe w'=>e = .returned (qV (G5 a b))/\A4 w w':=by
 have hB40:=J7;obtain⟨g1,g0,d1,d2,t1,t2,m1,m2,u1,k1,k0⟩:=B3D a b h;have d1':=Q9 d1;have d2':=Q9 d2;have g1':=Q9 g1;have He:=B9I (And.intro (A8n a b) (A9a a b));obtain⟨G,hG0⟩:∃G,G=Nat.gcd a.den b.den:=⟨_,rfl⟩
 obtain⟨U,hU0⟩:∃U,U=A2a (ztm a.num (b.den/G)) (ztm b.num (a.den/G)):=⟨_,rfl⟩
 obtain⟨H,hH0⟩:∃H,H=Nat.gcd U.natAbs G:=⟨_,rfl⟩
 rw[<-hG0]at g1 g0 t1 t2 m1 m2 u1 k1 k0 g1';rw[<-hU0]at u1 k1 k0;rw[<-hH0]at k1 k0;have hgc:∀W,Tab W->Calls Tryz.prog 83 #[E5 (sgn false a.den),E5 (sgn false b.den)] W λe w'=>e = .returned (B2 G)/\A4 W w':=λW ht=>hG0 ▸ B3o a.den b.den d1 d2 W ht;have hgu:∀W,Tab W->Calls Tryz.prog 83 #[E5 U,E5 (sgn false G)] W λe w'=>e = .returned (B2 H)/\A4 W w':=λW ht=>hH0 ▸ A24 U G u1 g1 W ht;have hau:∀W,Calls Tryz.prog 149 #[E5 (ztm a.num (b.den/G)),E5 (ztm b.num (a.den/G))] W λe w'=>e = .returned (E5 U)/\A4 W w':=λW=>hU0 ▸ B0p _ _ m1 m2 W;have e1:(G5 a b).num=ztd U H:=by
  have:=He.out.1;unfold A0U hOf A0U at this;rw[<-hG0]at this;rw[hH0,hU0];exact this
 have e2:(G5 a b).den=a.den/G*(b.den/H):=by
  have:=He.out.2;unfold hOf A0U at this;rw[<-hG0]at this;rw[hH0,hU0];exact this
 have He2:=B9I (And.intro e1 e2);have f1:bl (a.den/G)<=1099511627776:=B9A (R0 _ _) d1';have f2:bl (b.den/H)<=1099511627776:=B9A (R0 _ _) d2';have f3:bl (a.den/G*(b.den/H))<=1099511627776:=by
  have s1:=T0 (a.den/G) (b.den/H);have s2:=R0 a.den G;have s3:=R0 b.den H;have s4:=I2 a;have s5:=I2 b;omega
 have Hx:=B9I hx;have Hy:=B9I hy;have Hgc:=B9I hgc;have Hgu:=B9I hgu;have Hau:=B9I hau;clear hx hy hgc hgu hau e1 e2 He hG0 hU0 hH0;cases x<;>cases y<;>first|(exact absurd hxy (by decide))|skip
 all_goals clear hxy
 all_goals
  go_enter Tryz.func95,Tryz.ntmps95;refine en3 ?_;intro u hG b4 b3 b2 hB hF;refine B9D ?_;refine B9D (rsE A8 [0,1,0,0,1,0] hB hG λL hL=>?_);refine gs ?_;refine gmw (C:=λv=>Hx.out _) ?_;refine gs ?_
  first|refine gmw (C:=λv=>Hy.out _) ?_|refine I0 ?_
  refine gs ?_;refine geT hL ?_;clear hB hG hL L;rintro u ⟨-,hB,hG,-⟩;refine B9J (rfl) ?_;refine B9K ?_;refine A6 ?_;refine B9D (rdC A8 [] [(0,0),(0,3),(1,1),(1,2),(1,4),(1,5),(1,6),(2,7)] hB hG λK L hN hL=>?_);refine gs ?_;refine gmw (C:=λv=>U8 _ (by assumption) _) ?_;refine gmw (C:=λv=>V5 _ _ (by assumption) _) ?_;refine gmw (C:=λv=>U8 _ (by assumption) _) ?_;refine gmw (C:=λv=>V5 _ _ (by assumption) _) ?_;refine gmd (C:=λv ⟨hgu,hB,hG,_⟩=>Hgc.out _ (HT.grow hG)) ?_;refine gaa (L8 _ _ _ _ _) λb5 hb5 hn5=>?_;replace hF:=hF.n1 [] hB hG hb5 hn5;refine geC hL ?_;clear hB hG hL L;rintro u ⟨⟨-,hB,hG,-⟩,h5⟩;replace hB:=hB.cons' h5;clear h5;clear hb5 hn5;refine gtT ?_;clear hN K;refine st hB hF hG 0 0 [_,_] ?_;clear hB hG;intro u hB hG;refine B9D (rdC A8 [] [(0,0),(0,2),(0,4),(0,6),(1,1),(1,3),(1,5),(1,7),(2,8),(2,9)] hB hG λK L hN hL=>?_);refine gs ?_;refine gmw (C:=λv=>U8 _ (by assumption) _) ?_;refine gmw (C:=λv=>A1o a.den G d1 g1 g0 _) ?_;refine gmw (C:=λv=>U8 _ (by assumption) _) ?_;refine gmw (C:=λv=>A1o b.den G d2 g1 g0 _) ?_;refine gaa (L8 _ _ _ _ _) λb6 hb6 hn6=>?_;refine gaa (L8 _ _ _ _ _) λb7 hb7 hn7=>?_;replace hF:=hF.n1 [] hB hG hb6 hn6;replace hF:=hF.n1 [b6] hB hG hb7 hn7;refine geC hL ?_;clear hB hG hL L;rintro u ⟨⟨⟨-,hB,hG,-⟩,h6⟩,h7⟩;replace hB:=hB.cons' h6;replace hB:=hB.cons' h7;clear h6 h7;clear hb6 hn6 hb7 hn7;have hD:b6≠b7/\b7≠b6:=⟨hF.ne 1 0 rfl rfl (by decide),hF.ne 0 1 rfl rfl (by decide)⟩
  refine gtT ?_;clear hN K;clear hD;refine st2 hB hF hG 1 0 [_,_] 0 0 [_,_] ?_;clear hB hG;intro u hB hG;refine B9D (rdC A8 [] [(0,0),(0,1),(0,2),(0,4),(0,5),(0,6),(1,3),(1,7),(1,8),(2,9)] hB hG λK L hN hL=>?_);refine gs ?_;refine gmw (C:=λv=>A2w _ _ (by assumption) _) ?_;refine gmw (C:=λv=>A2w _ _ (by assumption) _) ?_;refine gmw (C:=λv=>Hau.out _) ?_;refine gaa (A2m _ _ _ _ _) λb8 hb8 hn8=>?_;replace hF:=hF.n1 [] hB hG hb8 hn8;refine geC hL ?_;clear hB hG hL L;rintro u ⟨⟨-,hB,hG,-⟩,h8⟩;replace hB:=hB.cons' h8;clear h8;clear hb8 hn8;refine gtT ?_;clear hN K;refine st hB hF hG 0 0 [_,_,_] ?_;clear hB hG;intro u hB hG;refine B9D (rdC A8 [] [(0,0),(0,1),(1,2),(1,3),(2,4)] hB hG λK L hN hL=>?_);refine gs ?_;refine gmw (C:=λv=>V5 _ _ (by assumption) _) ?_;refine gmd (C:=λv ⟨hgu,hB,hG,_⟩=>Hgu.out _ (HT.grow hG)) ?_;refine gaa (L8 _ _ _ _ _) λb9 hb9 hn9=>?_;replace hF:=hF.n1 [] hB hG hb9 hn9;refine geC hL ?_;clear hB hG hL L;rintro u ⟨⟨-,hB,hG,-⟩,h9⟩;replace hB:=hB.cons' h9;clear h9;clear hb9 hn9;refine gtT ?_;clear hN K;refine st hB hF hG 0 0 [_,_] ?_;clear hB hG;intro u hB hG;refine B9D (rdC A8 [] [(0,0),(0,1),(0,3),(0,4),(0,6),(1,2),(1,5),(1,7),(1,8),(1,9)] hB hG λK L hN hL=>?_);refine gs ?_;refine gmw (C:=λv=>A4K U H u1 k1 k0 _) ?_;refine gmw (C:=λv=>U8 _ (by assumption) _) ?_;refine gmw (C:=λv=>A1o b.den H d2 k1 k0 _) ?_;refine gmw (C:=λv=>A6K _ _ (by assumption) (by assumption) _) ?_;refine gmw (C:=λv=>A38 _ _ (by assumption) _) ?_;refine geC hL ?_;clear hB hG hL L;rintro u ⟨-,hB,hG,-⟩;refine gtT ?_;clear hN K;refine st hB hF hG 7 0 [_,_,_,_,_] ?_;clear hB hG;intro u hB hG;refine rt Tryz.results95 ?_;exact⟨A1Z He2.out.1 He2.out.2,hG⟩
theorem A1M(h:qs a+qs b+1<=BIG)(HT:Tab w):Calls Tryz.prog 95 #[qV a,qV b] w λe w'=>e = .returned (qV (G5 a b))/\A4 w w':=by
 have hB40:=J7;have h3:bl a.den<=1099511627776:=by have:=I2 a;omega
 have h4:bl b.den<=1099511627776:=by have:=I2 b;omega
 by_cases ha1:a.den=1
 ·by_cases hb1:b.den=1
  ·exact B2U a b w h ha1 hb1
  ·exact A5t a b w HT h true false (A0h a h3 ha1) (A0Z b h4 hb1) rfl
 ·by_cases hb1:b.den=1
  ·exact A5t a b w HT h false true (A0Z a h3 ha1) (A0h b h4 hb1) rfl
  ·exact A5t a b w HT h false false (A0Z a h3 ha1) (A0Z b h4 hb1) rfl
theorem A90:qs (I4 a)=qs a:=A2X a
theorem B21:G5 a (I4 b)=D9 a b:=(Rat.sub_eq_add_neg a b).symm
theorem A16(h:qs a+qs b+1<=BIG)(HT:Tab w):Calls Tryz.prog 50 #[qV a,qV b] w λe w'=>e = .returned (qV (D9 a b))/\A4 w w':=by
 have hB40:=J7;have h2:bl b.num.natAbs<=1099511627776:=by have:=G3 b;omega
 have h3:qs a+qs (I4 b)+1<=BIG:=by rw[A90];exact h
 go_enter Tryz.func50,Tryz.ntmps50;refine en3 ?_;intro u hG b4 b3 b2 hB hF;refine B9D (rdC A8 [] [(0,0),(0,1),(1,2),(1,3)] hB hG λK L hN hL=>?_);refine gs ?_;refine gmw (C:=λv=>A3w _ (by assumption) _) ?_;refine gmd (C:=λv ⟨hgu,hB,hG,_⟩=>A1M _ _ _ (by assumption) (HT.grow hG)) ?_;refine geC hL ?_;clear hB hG hL L;rintro u ⟨-,hB,hG,-⟩;refine gtT ?_;clear hN K;refine st hB hF hG 2 0 [_,_,_,_,_] ?_;clear hB hG;intro u hB hG;refine rt Tryz.results50 ?_;exact⟨B1q (B21 a b),hG⟩
theorem B8C(h:qs a+qs b<=BIG)(ha1:a.den=1)(hb1:b.den=1):Calls Tryz.prog 29 #[qV a,qV b] w λe w'=>e = .returned (qV (D5 a b))/\A4 w w':=by
 have hB40:=J7;have h1:bl a.num.natAbs+bl b.num.natAbs<=1099511627776:=by have:=G3 a;have:=G3 b;omega
 have h3:bl a.den<=1099511627776:=by have:=I2 a;omega
 have h4:bl b.den<=1099511627776:=by have:=I2 b;omega
 have e:D5 a b=((a.num*b.num:Int):Rat):=by
  unfold D5;rw[Rat.intCast_mul,<-A4Q a ha1,<-A4Q b hb1]
 have e1:(D5 a b).num=A5e a.num b.num:=by rw[e,Rat.num_intCast];rfl
 have e2:(D5 a b).den=1:=by rw[e,Rat.den_intCast]
 have He:=B9I (And.intro e1 e2);have Ha1:=B9I ha1;have Hb1:=B9I hb1;clear e e1 e2 ha1 hb1;go_enter Tryz.func29,Tryz.ntmps29;refine en3 ?_;intro u hG b4 b3 b2 hB hF;refine B9D ?_;refine B9D (rsE A8 [0,1,0,0,1,0] hB hG λL hL=>?_);refine gs ?_;refine gmw (C:=λv=>A0h a h3 Ha1.out _) ?_;refine gs ?_
 first|refine gmw (C:=λv=>A0h b h4 Hb1.out _) ?_|refine I0 ?_
 refine gs ?_;refine geT hL ?_;clear hB hG hL L;rintro u ⟨-,hB,hG,-⟩;refine B9L (rfl) ?_;refine B9D (rsC A8 [0,0,0,0,1,0] hB hG λK L hN hL=>?_);refine gs ?_;refine gmw (C:=λv=>A6h _ _ (by assumption) _) ?_;refine gs ?_;refine geC hL ?_;clear hB hG hL L;rintro u ⟨-,hB,hG,-⟩;refine gtT ?_;clear hN K;refine st hB hF hG 2 0 [_,_,_,_,_] ?_;clear hB hG;intro u hB hG;refine rt Tryz.results29 ?_;exact⟨A1Z He.out.1 He.out.2,hG⟩
theorem A5R(HT:Tab w)(h:qs a+qs b<=BIG)(x y:Bool)(hx:∀W,Calls Tryz.prog 81 #[qV a] W λe w'=>e = .returned (.bool x)/\A4 W w')(hy:∀W,Calls Tryz.prog 81 #[qV b] W λe w'=>e = .returned (.bool y)/\A4 W w')(hxy:(x&&y)=false) :
  Calls Tryz.prog 29 #[qV a,qV b] w λe w'=>e = .returned (qV (D5 a b))/\A4 w w':=by
 have hB40:=J7;have s1:=G3 a;have s2:=I2 a;have s3:=G3 b;have s4:=I2 b;have n1:bl a.num.natAbs<=BIG:=by omega
 have n2:bl b.num.natAbs<=BIG:=by omega
 have d1:bl a.den<=BIG:=by omega
 have d2:bl b.den<=BIG:=by omega
 have d1':=Q9 d1;have d2':=Q9 d2;have He:=B9I (And.intro (A9D a b) (A87 a b));obtain⟨G,hG0⟩:∃G,G=Nat.gcd a.num.natAbs b.den:=⟨_,rfl⟩
 obtain⟨H,hH0⟩:∃H,H=Nat.gcd b.num.natAbs a.den:=⟨_,rfl⟩
 have g0:G≠0:=λe=>b.den_nz (C0P (hG0 ▸ e));have k0:H≠0:=λe=>a.den_nz (C0P (hH0 ▸ e));have g1:bl G<=BIG:=by rw[hG0];exact B9A (A35 _ _ b.den_nz) d2
 have k1:bl H<=BIG:=by rw[hH0];exact B9A (A35 _ _ a.den_nz) d1
 have hgc:∀W,Tab W->Calls Tryz.prog 83 #[E5 a.num,E5 (sgn false b.den)] W λe w'=>e = .returned (B2 G)/\A4 W w':=λW ht=>hG0 ▸ A24 a.num b.den n1 d2 W ht;have hgu:∀W,Tab W->Calls Tryz.prog 83 #[E5 b.num,E5 (sgn false a.den)] W λe w'=>e = .returned (B2 H)/\A4 W w':=λW ht=>hH0 ▸ A24 b.num a.den n2 d1 W ht;have e1:(D5 a b).num=A5e (ztd a.num G) (ztd b.num H):=by rw[hG0,hH0];exact He.out.1
 have e2:(D5 a b).den=a.den/H*(b.den/G):=by rw[hG0,hH0];exact He.out.2
 have He2:=B9I (And.intro e1 e2);have f1:bl (a.den/H)<=1099511627776:=B9A (R0 _ _) d1';have f2:bl (b.den/G)<=1099511627776:=B9A (R0 _ _) d2';have f3:bl (a.den/H*(b.den/G))<=1099511627776:=by
  have s1:=T0 (a.den/H) (b.den/G);have s2:=R0 a.den H;have s3:=R0 b.den G;omega
 have f4:bl (ztd a.num G).natAbs+bl (ztd b.num H).natAbs<=1099511627776:=by
  have s1:=S3 (A3o a.num G);have s2:=S3 (A3o b.num H);unfold ztd;omega
 have Hx:=B9I hx;have Hy:=B9I hy;have Hgc:=B9I hgc;have Hgu:=B9I hgu;clear hx hy hgc hgu e1 e2 He hG0 hH0;cases x<;>cases y<;>first|(exact absurd hxy (by decide))|skip
 all_goals clear hxy
 all_goals
  go_enter Tryz.func29,Tryz.ntmps29;refine en3 ?_;intro u hG b4 b3 b2 hB hF;refine B9D ?_;refine B9D (rsE A8 [0,1,0,0,1,0] hB hG λL hL=>?_);refine gs ?_;refine gmw (C:=λv=>Hx.out _) ?_;refine gs ?_
  first|refine gmw (C:=λv=>Hy.out _) ?_|refine I0 ?_
  refine gs ?_;refine geT hL ?_;clear hB hG hL L;rintro u ⟨-,hB,hG,-⟩;refine B9J (rfl) ?_;refine B9K ?_;refine A6 ?_;refine B9D (rdC A8 [] [(0,0),(0,1),(0,2),(1,3),(1,4),(1,5),(2,6)] hB hG λK L hN hL=>?_);refine gs ?_;refine gmw (C:=λv=>U8 _ (by assumption) _) ?_;refine gmw (C:=λv=>V5 _ _ (by assumption) _) ?_;refine gmd (C:=λv ⟨hgu,hB,hG,_⟩=>Hgc.out _ (HT.grow hG)) ?_;refine gaa (L8 _ _ _ _ _) λb5 hb5 hn5=>?_;replace hF:=hF.n1 [] hB hG hb5 hn5;refine geC hL ?_;clear hB hG hL L;rintro u ⟨⟨-,hB,hG,-⟩,h5⟩;replace hB:=hB.cons' h5;clear h5;clear hb5 hn5;refine gtT ?_;clear hN K;refine st hB hF hG 0 0 [_,_] ?_;clear hB hG;intro u hB hG;refine B9D (rdC A8 [] [(0,0),(0,1),(0,2),(1,3),(1,4),(1,5),(2,6)] hB hG λK L hN hL=>?_);refine gs ?_;refine gmw (C:=λv=>U8 _ (by assumption) _) ?_;refine gmw (C:=λv=>V5 _ _ (by assumption) _) ?_;refine gmd (C:=λv ⟨hgu,hB,hG,_⟩=>Hgu.out _ (HT.grow hG)) ?_;refine gaa (L8 _ _ _ _ _) λb6 hb6 hn6=>?_;replace hF:=hF.n1 [] hB hG hb6 hn6;refine geC hL ?_;clear hB hG hL L;rintro u ⟨⟨-,hB,hG,-⟩,h6⟩;replace hB:=hB.cons' h6;clear h6;clear hb6 hn6;refine gtT ?_;clear hN K;refine st hB hF hG 0 0 [_,_] ?_;clear hB hG;intro u hB hG;refine B9D (rdC A8 [] [(0,0),(0,1),(0,2),(0,4),(0,5),(0,6),(0,9),(0,11),(0,13),(0,15),(1,3),(1,7),(1,8),(1,10),(1,12),(1,14),(1,16),(1,17),(1,18)] hB hG λK L hN hL=>?_);refine gs ?_;refine gmw (C:=λv=>A4K a.num G n1 g1 g0 _) ?_;refine gmw (C:=λv=>A4K b.num H n2 k1 k0 _) ?_;refine gmw (C:=λv=>A6h _ _ (by assumption) _) ?_;refine gmw (C:=λv=>U8 _ (by assumption) _) ?_;refine gmw (C:=λv=>A1o a.den H d1 k1 k0 _) ?_;refine gmw (C:=λv=>U8 _ (by assumption) _) ?_;refine gmw (C:=λv=>A1o b.den G d2 g1 g0 _) ?_;refine gmw (C:=λv=>A6K _ _ (by assumption) (by assumption) _) ?_;refine gmw (C:=λv=>A38 _ _ (by assumption) _) ?_;refine geC hL ?_;clear hB hG hL L;rintro u ⟨-,hB,hG,-⟩;refine gtT ?_;clear hN K;refine st hB hF hG 4 0 [_,_,_,_,_] ?_;clear hB hG;intro u hB hG;refine rt Tryz.results29 ?_;exact⟨A1Z He2.out.1 He2.out.2,hG⟩
theorem A0q(h:qs a+qs b<=BIG)(HT:Tab w):Calls Tryz.prog 29 #[qV a,qV b] w λe w'=>e = .returned (qV (D5 a b))/\A4 w w':=by
 have hB40:=J7;have h3:bl a.den<=1099511627776:=by have:=I2 a;omega
 have h4:bl b.den<=1099511627776:=by have:=I2 b;omega
 by_cases ha1:a.den=1
 ·by_cases hb1:b.den=1
  ·exact B8C a b w h ha1 hb1
  ·exact A5R a b w HT h true false (A0h a h3 ha1) (A0Z b h4 hb1) rfl
 ·by_cases hb1:b.den=1
  ·exact A5R a b w HT h false true (A0Z a h3 ha1) (A0h b h4 hb1) rfl
  ·exact A5R a b w HT h false false (A0Z a h3 ha1) (A0Z b h4 hb1) rfl
theorem B7l(h:b≠0):b⁻¹.num=sgn (E0 b.num) b.den:=by
 rw[Rat.num_inv];have h0:b.num≠0:=λe=>h (Rat.num_eq_zero.1 e);unfold sgn E0;by_cases hn:b.num<0
 ·rw[if_pos (B9x hn),B9z hn];omega
 ·rw[if_neg (by simpa using hn),B91 (by omega)];omega
theorem B3t(h:b≠0):b⁻¹.den=b.num.natAbs:=by
 rw[Rat.den_inv,if_neg (λe=>h (Rat.num_eq_zero.1 e))]
def A4P(b:Rat):Rat:=b⁻¹
theorem B4T(h:b≠0)(hb:bl b.num.natAbs<=1099511627776):Calls Tryz.prog 85 #[E5 (sgn (decide (b.num<0)) b.den),B2 b.num.natAbs] w λe w'=>e = .returned (qV (A4P b))/\A4 w w':=by
 have:=A38 (sgn (E0 b.num) b.den) b.num.natAbs hb w;rw[A63 (q:=b⁻¹) (B7l b h) (B3t b h)]at this;exact this
theorem B5H(h:bl b.num.natAbs<=1099511627776)(h0:b=0):Calls Tryz.prog 94 #[qV a,qV b] w λe w'=>e = .returned (.tuple #[qV (H9 a b),.bool (nzq b)])/\A4 w w':=by
 have hs:(b.num.sign == 0)=true:=by rw[h0];rfl
 have h1:H9 a b=0:=by rw[h0];unfold H9;rw[Rat.div_def,Rat.inv_zero,Rat.mul_zero]
 have h2:nzq b=false:=by rw[h0];rfl
 rw[h1,h2];have Hh:=B9I h0;clear h0 h1 h2;go_enter Tryz.func94,Tryz.ntmps94;refine en3 ?_;intro u hG b4 b3 b2 hB hF;refine B9D ?_;refine B9D (rsE A8 [0,1,0] hB hG λL hL=>?_);refine gs ?_;refine gmw (C:=λv=>M8 _ (by assumption) _) ?_;refine gs ?_;refine geT hL ?_;clear hB hG hL L;rintro u ⟨-,hB,hG,-⟩;refine B9L (rfl) ?_;refine r0T ?_;refine st hB hF hG 2 0 [_,_,_,_,_] ?_;clear hB hG;intro u hB hG;refine rt Tryz.results94 ?_;exact⟨rfl,hG⟩
theorem B1Z(h:qs a+qs b<=BIG)(h0:b≠0)(HT:Tab w):Calls Tryz.prog 94 #[qV a,qV b] w λe w'=>e = .returned (.tuple #[qV (H9 a b),.bool (nzq b)])/\A4 w w':=by
 have hB40:=J7;have n2:bl b.num.natAbs<=1099511627776:=by have:=G3 b;omega
 have d2:bl b.den<=1099511627776:=by have:=I2 b;omega
 have hb0:b.num≠0:=λe=>h0 (Rat.num_eq_zero.1 e);have hs:(b.num.sign == 0)=false:=by simpa using hb0
 have h2:nzq b=true:=B9x h0;have hi:qs a+qs (A4P b)<=BIG:=by unfold A4P;rw[A8u b h0];exact h
 have hd:D5 a (A4P b)=H9 a b:=(Rat.div_def a b).symm;have Hd:=B9I hd;rw[h2];clear h2 hd;go_enter Tryz.func94,Tryz.ntmps94;refine en3 ?_;intro u hG b4 b3 b2 hB hF;refine B9D ?_;refine B9D (rsE A8 [0,1,0] hB hG λL hL=>?_);refine gs ?_;refine gmw (C:=λv=>M8 _ (by assumption) _) ?_;refine gs ?_;refine geT hL ?_;clear hB hG hL L;rintro u ⟨-,hB,hG,-⟩;refine B9J (rfl) ?_;refine B9K ?_;refine A6 ?_;refine B9D (rdC A8 [] [(0,0),(0,1),(0,4),(0,7),(0,8),(1,2),(0,3),(1,5),(1,6),(1,9),(1,10),(1,11)] hB hG λK L hN hL=>?_);refine gs ?_;refine gmw (C:=λv=>M8 _ (by assumption) _) ?_;refine gs ?_;refine gmw (C:=λv=>U8 _ (by assumption) _) ?_;refine gmw (C:=λv=>V5 _ _ (by assumption) _) ?_;refine gmw (C:=λv=>A2Q _ _) ?_;refine gmw (C:=λv=>B4T b _ h0 n2) ?_;refine gmd (C:=λv ⟨hgu,hB,hG,_⟩=>A0q _ _ _ (by assumption) (HT.grow hG)) ?_;refine geC hL ?_;clear hB hG hL L;rintro u ⟨-,hB,hG,-⟩;refine gtT ?_;clear hN K;refine st hB hF hG 2 0 [_,_,_,_,_] ?_;clear hB hG;intro u hB hG;refine rt Tryz.results94 ?_;exact⟨A4M (Hd.out) rfl,hG⟩
theorem A4s(h:qs a+qs b<=BIG)(HT:Tab w):Calls Tryz.prog 94 #[qV a,qV b] w λe w'=>e = .returned (.tuple #[qV (H9 a b),.bool (nzq b)])/\A4 w w':=by
 by_cases h0:b=0
 ·exact B5H a b w (by have:=G3 b;have:=J7;omega) h0
 ·exact B1Z a b w h h0 HT
end
end Go.Proofs.YtgpglgbcobeogaaGreatDoor
