import Derived.Test.YtgpglgbcobeogaaGreatDoorN22
set_option linter.unusedSimpArgs false
set_option linter.unusedVariables false
set_option maxHeartbeats 1000000
set_option maxRecDepth 100000
namespace Go.Proofs.YtgpglgbcobeogaaGreatDoor
open Go.RowKit
theorem A5n(x y:Ax)(a b:Nat)(w:World)(hx:Rn w x a)(hy:Rn w y b)(h0:b≠0)(ha:bl a<=BIG):Calls Tryz.prog 138 #[nvV x a,nvV y b] w (Ret (nnR (a/b) (a%b)) w):=by
 by_cases hs:b<W32
 ·exact B76 x y a b w hx hy h0 hs
 ·by_cases hlt:a<b
  ·exact A9T x y a b w hx hy hlt
  ·refine B5w x y a b w hx hy (by omega) ?_ ha;have h1:=A69 (Nat.not_lt.1 hs);have h2:ln W32=2:=by decide +kernel
   omega
theorem B4f(x y:Ax)(a b:Nat)(w:World)(hx:Rn w x a)(hy:Rn w y b)(ha:bl a<=BIG)(hb:bl b<=BIG):Calls Tryz.prog 137 #[nvV x a,nvV y b] w (Ret (W7 (Nat.gcd a b)) w):=by
 have Hx:=B9I hx;have Hy:=B9I hy;have Ha:=B9I ha;have Hb:=B9I hb;obtain⟨g,hg⟩:∃g,g=Nat.gcd a b:=⟨_,rfl⟩
 rw[<-hg];have Hg:=B9I hg.symm;clear hx hy ha hb hg;go_enter Tryz.func137,Tryz.ntmps137;go_wp2_with fail;go_loopg [0,1] b (λk s t wr=>∃(x y:Ax) (a:Nat),s=nvV x a/\t=nvV y k/\Nat.gcd a k=g/\(bl a<=BIG/\bl k<=BIG)/\Rn wr x a/\Rn wr y k/\A4 w wr)
 case atStart=>exact⟨x,y,a,rfl,rfl,Hg.out,⟨Ha.out,Hb.out⟩,Hx.out,Hy.out,A4.refl _⟩
 case round =>
  obtain⟨x,y,a,rfl,rfl,hgc,hs,hx,hy,hG⟩:=hrel;rcases B9C gk with h0|h0
  ·have hl:¬0<ln gk:=by rw[h0,A6e];omega
   have Hgc:Hid (a=g):=by rw[h0,C0I]at hgc;exact B9I hgc
   have Hr:=B9I hx;clear hgc hs hx hy h0;go_wp2_with fail;go_ret;exact⟨x,by rw[<-Hgc.out];rfl,by rw[<-Hgc.out];exact Hr.out,hG⟩
  ·have hl:0<ln gk:=A1l.2 (by omega);have hdv:=A5n x y a gk wr hx hy (by omega) hs.1;obtain⟨q,hq⟩:∃q,q=a/gk:=⟨_,rfl⟩
   obtain⟨m,hm⟩:∃m,m=a%gk:=⟨_,rfl⟩
   have hmlt:m<gk:=by rw[hm];exact B9R _ h0
   have Hgc:Hid (Nat.gcd gk m=g):=by rw[hm];exact B9I (A0S a gk g hgc)
   rw[<-hq,<-hm]at hdv;have Hdv:=B9I (Ret.nn hdv);have Hy:=B9I hy;have Hs:Hid (bl gk<=BIG/\bl m<=BIG):=B9I ⟨hs.2,B9A (S3 (B81 hmlt)) hs.2⟩;clear hgc hs hx hy hq hm hdv;go_wp2_with (go_at_call 138;((with_reducible refine(Hdv.out).mono ?_);rintro e w1 ⟨y1,y2,rfl,hr1,hr2,hg1⟩));go_roundg m
   case rel=>exact⟨y,y2,gk,rfl,rfl,Hgc.out,Hs.out,Hy.out.grow hg1,hr2,hG.trans hg1⟩
   case measure=>exact hmlt
theorem B3q(d:Option Tmp)(ty:TypeId)(pos:String)(af:Array Edge)(gd:Option (Nat×Bool)):N5 Tryz.prog ⟨d,.alloc 31,ty,pos,af,gd⟩ = .cells #[.bool false,.slice none 0 0] 31:=by kernel_rfl
theorem A7K(d:Option Tmp)(ty:TypeId)(pos:String)(af:Array Edge)(gd:Option (Nat×Bool)):N5 Tryz.prog ⟨d,.alloc 33,ty,pos,af,gd⟩ = .cells #[.bool false,.slice none 0 0,.slice none 0 0] 33:=by kernel_rfl
theorem A4B(x:Ax)(neg:Bool)(a:Nat):riV x (sgn neg a) = .agg #[.bool (neg&&decide (a≠0)),.slice x.1 (ln a) x.2]:=by
 unfold riV;rw[A86,A1k]
theorem B4W(x:Ax)(a:Nat)(w:World):Calls Tryz.prog 78 #[.bool false,nvV x a] w λe w'=>e = .returned (riV x (sgn false a))/\A4 w w':=by
 rw[A4B,Bool.false_and];go_enter Tryz.func78,Tryz.ntmps78;refine en1 ?_;intro u hG b4 hB hF;refine r0T ?_;refine st hB hF hG 0 0 [_,_] ?_;clear hB hG;intro u hB hG;refine rt Tryz.results78 ?_;exact⟨rfl,hG⟩
theorem B2v(x:Ax)(a:Nat)(w:World):Calls Tryz.prog 78 #[.bool true,nvV x a] w λe w'=>e = .returned (riV x (sgn true a))/\A4 w w':=by
 rw[A4B,Bool.true_and];have hd:decide (a≠0)=decide (0<ln a):=by
  have:=@A1l a;rw[decide_eq_decide];exact this.symm
 rw[hd];clear hd;go_enter Tryz.func78,Tryz.ntmps78;refine en1 ?_;intro u hG b4 hB hF;refine r0T ?_;refine st hB hF hG 0 0 [_,_] ?_;clear hB hG;intro u hB hG;refine rt Tryz.results78 ?_;exact⟨rfl,hG⟩
theorem A2F(x:Ax)(neg:Bool)(a:Nat)(w:World):Calls Tryz.prog 78 #[.bool neg,nvV x a] w λe w'=>e = .returned (riV x (sgn neg a))/\A4 w w':=by
 cases neg
 ·exact B4W x a w
 ·exact B2v x a w
theorem B8a(n:Int)(h0:n<0)(h1 : -9223372036854775808<=n)(w:World):Calls Tryz.prog 77 #[.int .i64 n] w (Ret (A1g n) w):=by
 have hw1:IntKind.u64.wrap n=n+18446744073709551616:=by
  simp[IntKind.wrap,IntKind.signed,IntKind.bits];omega
 have hw2:IntKind.u64.wrap (-(n+18446744073709551616))=(n.natAbs:Nat):=by
  simp[IntKind.wrap,IntKind.signed,IntKind.bits];omega
 have hlt:n.natAbs<W64:=by unfold W64;omega
 have hd:decide (n<0)=true:=by simpa using h0
 have hn:sgn true n.natAbs=n:=by rw[B7S];omega
 have Hn:=B9I hn;clear hn;go_enter Tryz.func77,Tryz.ntmps77;refine en1 ?_;intro u hG b2 hB hF;refine B9D ?_;refine r0T ?_;refine B9L (rfl) ?_;refine B9D (rsC A8 [0,0,0,1,1] hB hG λK L hN hL=>?_);refine gs ?_;refine grd (W7 n.natAbs) (λ(x8:Ax)=>?_) (C:=λv _=>A5S n.natAbs hlt _);refine gmd (C:=by(rintro v ⟨⟨hgu,hB,hG,-⟩,hx8⟩;have hx8:Rn v x8 _:=hx8;exact A2F x8 true n.natAbs _)) ?_;refine geC hL ?_;clear hB hG hL L;rintro u ⟨⟨-,hB,hG,-⟩,hx8⟩;replace hx8:Rn u x8 _:=hx8;refine gtT ?_;clear hN K;refine sv hB hF hG 0 0 [_,_] ?_;intro u hu hBG;replace hx8:=hx8.put hB 0 rfl (by first|decide|simp) _ _ hu;clear hB hG hu;obtain⟨hB,hG⟩:=hBG;refine rt Tryz.results77 ?_;exact⟨x8,C0T (λz:Int=>Ending.returned (riV x8 z)) Hn.out,hx8,hG⟩
theorem B1W(n:Int)(h0:0<=n)(h1:n<=9223372036854775807)(w:World):Calls Tryz.prog 77 #[.int .i64 n] w (Ret (A1g n) w):=by
 have hw1:IntKind.u64.wrap n=(n.natAbs:Nat):=by
  simp[IntKind.wrap,IntKind.signed,IntKind.bits];omega
 have hlt:n.natAbs<W64:=by unfold W64;omega
 have hd:decide (n<0)=false:=by simpa using h0
 have hn:sgn false n.natAbs=n:=by rw[A7H];omega
 have Hn:=B9I hn;clear hn;go_enter Tryz.func77,Tryz.ntmps77;refine en1 ?_;intro u hG b2 hB hF;refine B9D ?_;refine r0T ?_;refine B9J (rfl) ?_;refine B9K ?_;refine A6 ?_;refine B9D (rsC A8 [0,0,1,1] hB hG λK L hN hL=>?_);refine gs ?_;refine grd (W7 n.natAbs) (λ(x12:Ax)=>?_) (C:=λv _=>A5S n.natAbs hlt _);refine gmd (C:=by(rintro v ⟨⟨hgu,hB,hG,-⟩,hx12⟩;have hx12:Rn v x12 _:=hx12;exact A2F x12 false n.natAbs _)) ?_;refine geC hL ?_;clear hB hG hL L;rintro u ⟨⟨-,hB,hG,-⟩,hx12⟩;replace hx12:Rn u x12 _:=hx12;refine gtT ?_;clear hN K;refine sv hB hF hG 0 0 [_,_] ?_;intro u hu hBG;replace hx12:=hx12.put hB 0 rfl (by first|decide|simp) _ _ hu;clear hB hG hu;obtain⟨hB,hG⟩:=hBG;refine rt Tryz.results77 ?_;exact⟨x12,C0T (λz:Int=>Ending.returned (riV x12 z)) Hn.out,hx12,hG⟩
theorem A70(n:Int)(h0 : -9223372036854775808<=n)(h1:n<=9223372036854775807)(w:World):Calls Tryz.prog 77 #[.int .i64 n] w (Ret (A1g n) w):=by
 by_cases h:n<0
 ·exact B8a n h h0 w
 ·exact B1W n (by omega) h1 w
theorem A6b{x y:Ax}{z:Int}{d:Nat}{q:Rat}(h1:q.num=z)(h2:q.den=d):Ending.returned (.agg #[.bool (E0 z),.slice x.1 (ln z.natAbs) x.2,.slice y.1 (ln d) y.2]) = .returned (rqV x y q):=by subst h1;subst h2;rfl
theorem B5r(n d:Int)(h:d≠0):(D0 n d).num=sgn (E0 n != E0 d) (n.natAbs/Nat.gcd n.natAbs d.natAbs):=by
 have hd:d.natAbs≠0:=by omega
 by_cases hn:d<0
 ·rw[A6i n d hn,A6X _ _ hd,<-A5f];have e1:(A0c n).natAbs=n.natAbs:=by unfold A0c;exact C0J n
  rw[e1];have e2:E0 d=true:=B9x hn;rw[e2];by_cases h0:n=0
  ·subst h0;simp[sgn]
  ·congr 1;unfold E0 A0c;rw[Bool.eq_iff_iff];simp;omega
 ·rw[A5I n d hn,A6X _ _ hd,<-A5f];have e2:E0 d=false:=B92 hn;rw[e2];simp
theorem B6e(n d:Int)(h:d≠0):(D0 n d).den=d.natAbs/Nat.gcd n.natAbs d.natAbs:=by
 have hd:d.natAbs≠0:=by omega
 by_cases hn:d<0
 ·rw[A6i n d hn,A6s _ _ hd];unfold A0c;rw[C0J]
 ·rw[A5I n d hn,A6s _ _ hd]
theorem B6R(x y:Ax)(n d:Int)(w:World)(hx:Rn w x n.natAbs)(hy:Rn w y d.natAbs)(h0:d≠0)(hn:bl n.natAbs<=BIG)(hd:bl d.natAbs<=BIG):Calls Tryz.prog 76 #[riV x n,riV y d] w (Ret (A1s (D0 n d)) w):=by
 have He:=B9I (And.intro (B5r n d h0) (B6e n d h0));have hd0:d.natAbs≠0:=by omega
 have g0:Nat.gcd n.natAbs d.natAbs≠0:=λe=>hd0 (C0P e);go_enter Tryz.func76,Tryz.ntmps76;refine en3 ?_;intro u hG b4 b3 b2 hB hF;replace hx:=hx.grow hG;replace hy:=hy.grow hG;refine B9D (rsE A8 [0,0,0,0,1,0] hB hG λL hL=>?_);refine gs ?_;refine grd (W7 (Nat.gcd n.natAbs d.natAbs)) (λ(x14:Ax)=>?_) (C:=by(rintro v ⟨hgu,hB,hG,-⟩;exact B4f x y n.natAbs d.natAbs _ (hx.grow hgu) (hy.grow hgu) hn hd));refine gs ?_;refine geT hL ?_;clear hB hG hL L;rintro u ⟨⟨hgu,hB,hG,-⟩,hx14⟩;replace hx:=hx.grow hgu;replace hy:=hy.grow hgu;replace hx14:Rn u x14 _:=hx14;clear hgu;refine B9D (rsE A8 [0,0,0,1,0,0,0,0,0] hB hG λL hL=>?_);refine gs ?_;refine grd (nnR (n.natAbs/Nat.gcd n.natAbs d.natAbs) (n.natAbs%Nat.gcd n.natAbs d.natAbs)) (λ(x19:Ax×Ax)=>?_) (C:=by(rintro v ⟨hgu,hB,hG,-⟩;exact A5n x x14 n.natAbs _ _ (hx.grow hgu) (hx14.grow hgu) g0 hn));refine gs ?_;refine geT hL ?_;clear hB hG hL L;rintro u ⟨⟨hgu,hB,hG,-⟩,hx19⟩;replace hx:=hx.grow hgu;replace hy:=hy.grow hgu;replace hx14:=hx14.grow hgu;obtain⟨hx19a,hx19b⟩:Rn u x19.1 _/\Rn u x19.2 _:=hx19;clear hgu;refine B9D (rsE A8 [0,0,0,1,0,0,0,0,0] hB hG λL hL=>?_);refine gs ?_;refine grd (nnR (d.natAbs/Nat.gcd n.natAbs d.natAbs) (d.natAbs%Nat.gcd n.natAbs d.natAbs)) (λ(x26:Ax×Ax)=>?_) (C:=by(rintro v ⟨hgu,hB,hG,-⟩;exact A5n y x14 d.natAbs _ _ (hy.grow hgu) (hx14.grow hgu) g0 hd));refine gs ?_;refine geT hL ?_;clear hB hG hL L;rintro u ⟨⟨hgu,hB,hG,-⟩,hx26⟩;replace hx:=hx.grow hgu;replace hy:=hy.grow hgu;replace hx14:=hx14.grow hgu;replace hx19a:=hx19a.grow hgu;replace hx19b:=hx19b.grow hgu;obtain⟨hx26a,hx26b⟩:Rn u x26.1 _/\Rn u x26.2 _:=hx26;clear hgu;refine B9D (rsC A8 [0,0,0,0,0,0,1,0,0] hB hG λK L hN hL=>?_);refine gs ?_;refine gmw (C:=λv=>A2F x19.1 _ (n.natAbs/Nat.gcd n.natAbs d.natAbs) _) ?_;refine gs ?_;refine geC hL ?_;clear hB hG hL L;rintro u ⟨hgu,hB,hG,-⟩;replace hx:=hx.grow hgu;replace hy:=hy.grow hgu;replace hx14:=hx14.grow hgu;replace hx19a:=hx19a.grow hgu;replace hx19b:=hx19b.grow hgu;replace hx26a:=hx26a.grow hgu;replace hx26b:=hx26b.grow hgu;clear hgu;refine gtT ?_;clear hN K;refine sv hB hF hG 2 0 [_,_,_] ?_;intro u hu hBG;replace hx:=hx.put hB 2 rfl (by first|decide|simp) _ _ hu;replace hy:=hy.put hB 2 rfl (by first|decide|simp) _ _ hu;replace hx14:=hx14.put hB 2 rfl (by first|decide|simp) _ _ hu;replace hx19a:=hx19a.put hB 2 rfl (by first|decide|simp) _ _ hu;replace hx19b:=hx19b.put hB 2 rfl (by first|decide|simp) _ _ hu;replace hx26a:=hx26a.put hB 2 rfl (by first|decide|simp) _ _ hu;replace hx26b:=hx26b.put hB 2 rfl (by first|decide|simp) _ _ hu;clear hB hG hu;obtain⟨hB,hG⟩:=hBG;refine rt Tryz.results76 ?_;exact⟨(x19.1,x26.1),A6b He.out.1 He.out.2,⟨by rw[He.out.1,A1k];exact hx19a,by rw[He.out.2];exact hx26a⟩,hG⟩
theorem B1h(n d:Int)(h0 : -9223372036854775808<=n)(h1:n<=9223372036854775807)(h2 : -9223372036854775808<=d)(h3:d<=9223372036854775807)(hd:d≠0)(w:World):Calls Tryz.prog 25 #[.int .i64 n,.int .i64 d] w (Ret (A1s (D0 n d)) w):=by
 go_enter Tryz.func25,Tryz.ntmps25;refine en1 ?_;intro u hG b4 hB hF;refine B9D (rsC A8 [0,1,0,1,1] hB hG λK L hN hL=>?_);refine gs ?_;refine grd (A1g n) (λ(x6:Ax)=>?_) (C:=λv _=>A70 n h0 h1 _);refine gs ?_;refine grd (A1g d) (λ(x8:Ax)=>?_) (C:=by(rintro v ⟨⟨hgu,hB,hG,-⟩,hx6⟩;have hx6:Rn v x6 _:=hx6;exact A70 d h2 h3 _));refine grd (A1s (D0 n d)) (λ(x9:Ax×Ax)=>?_) (C:=by(rintro v ⟨⟨⟨hgu,hB,hG,-⟩,hx6⟩,hx8⟩;have hx6:Rn v x6 _:=hx6;have hx8:Rn v x8 _:=hx8;exact B6R x6 x8 n d _ hx6 hx8 hd (A7V h0 h1) (A7V h2 h3)));refine geC hL ?_;clear hB hG hL L;rintro u ⟨⟨⟨⟨-,hB,hG,-⟩,hx6⟩,hx8⟩,hx9⟩;replace hx6:Rn u x6 _:=hx6;replace hx8:Rn u x8 _:=hx8;obtain⟨hx9a,hx9b⟩:Rn u x9.1 _/\Rn u x9.2 _:=hx9;refine gtT ?_;clear hN K;refine sv hB hF hG 0 0 [_,_,_] ?_;intro u hu hBG;replace hx6:=hx6.put hB 0 rfl (by first|decide|simp) _ _ hu;replace hx8:=hx8.put hB 0 rfl (by first|decide|simp) _ _ hu;replace hx9a:=hx9a.put hB 0 rfl (by first|decide|simp) _ _ hu;replace hx9b:=hx9b.put hB 0 rfl (by first|decide|simp) _ _ hu;clear hB hG hu;obtain⟨hB,hG⟩:=hBG;refine rt Tryz.results25 ?_;exact⟨x9,rfl,⟨hx9a,hx9b⟩,hG⟩
theorem B3Y(zs:List Nat)(V k y:Nat)(hd:Dig W32 zs)(hk:k/4<zs.length)(hv:val W32 zs=V*256^(k+1))(hy:y<256) :
  dg zs (k/4) ||| y*2^(8*(k%4))=dg zs (k/4)+y*2^(8*(k%4))/\dg zs (k/4)+y*2^(8*(k%4))<W32/\val W32 (zs.set (k/4) (dg zs (k/4)+y*2^(8*(k%4))))=(V*256+y)*256^k:=by
 have e1:(256:Nat)^k=W32^(k/4)*2^(8*(k%4)):=by
  rw[show W32=2^32 from rfl,show(256:Nat)=2^8 from rfl,<-B9O,<-B9O,<-B9Q];congr 1;omega
 have hdv:2^(8*(k%4)+8) ∣ dg zs (k/4):=by
  have h1:dg zs (k/4)=val W32 zs/W32^(k/4)%W32:=by
   have h2:=N1 W32 zs (k/4);have h3:val W32 zs=val W32 (zs.take (k/4+1))+W32^(k/4+1)*val W32 (zs.drop (k/4+1)):=by
    have:=A0B W32 (zs.take (k/4+1)) (zs.drop (k/4+1));rw[B83,List.length_take,B9t (by omega)]at this;exact this
   have h4:val W32 (zs.take (k/4))<W32^(k/4):=by
    have:=K4 (B:=W32) (l:=zs.take (k/4)) (λx hx=>hd x (B9f hx))
    rwa [List.length_take,B9t (by omega)]at this
   have h5:=C6 F9 hd (k/4);rw[h3,h2,Nat.pow_succ,C0G,C0W,<-C0e,C0a _ _ (C0j F9),B9q h4,Nat.zero_add,B98,Nat.mod_eq_of_lt h5]
  rw[h1,hv];have e2:V*256^(k+1)=W32^(k/4)*(V*2^(8*(k%4)+8)):=by
   rw[Nat.pow_succ,e1,B9Q];simp only[show(256:Nat)=2^8 from rfl];grind
  rw[e2,Nat.mul_div_cancel_left _ (C0j F9)];refine(Nat.dvd_mod_iff ?_).2 (B95 _ _);rw[show W32=2^32 from rfl];exact Nat.pow_dvd_pow 2 (by omega)
 have hlt:y*2^(8*(k%4))<2^(8*(k%4)+8):=by
  rw[B9Q,B9j];exact Nat.mul_lt_mul_of_pos_left hy (Nat.two_pow_pos _)
 refine⟨A2g hlt hdv,?_,?_⟩
 ·obtain⟨c,hc⟩:=hdv;have h5:=C6 F9 hd (k/4);rw[hc]at h5⊢;have e3:W32=2^(8*(k%4)+8)*2^(24-8*(k%4)):=by
   rw[<-B9Q,show W32=2^32 from rfl];congr 1;omega
  rw[e3]at h5⊢;have h6:=Nat.lt_of_mul_lt_mul_left h5
  calc 2^(8*(k%4)+8)*c+y*2^(8*(k%4))<2^(8*(k%4)+8)*c+2^(8*(k%4)+8):=by omega
   _=2^(8*(k%4)+8)*(c+1):=by rw[C0e,C0F]
   _<=_:=C0B _ h6
 ·have h7:=X9 W32 zs (k/4) (dg zs (k/4)+y*2^(8*(k%4))) hk;rw[hv,C0e]at h7;have e4:(V*256+y)*256^k=V*256^(k+1)+W32^(k/4)*(y*2^(8*(k%4))):=by
   rw[C0X,Nat.pow_succ,e1];grind
  omega
theorem B7X(a b:Nat)(ha:a<4294967296)(hb:b<4294967296):bits .or .u32 (a:Int) (b:Int)=((a ||| b:Nat):Int):=by
 have hx:a ||| b<2^32:=Nat.or_lt_two_pow (by omega) (by omega)
 have h1:(BitVec.ofInt 32 (a:Int)).toNat=a:=by
  rw[BitVec.ofInt_natCast,BitVec.toNat_ofNat];exact Nat.mod_eq_of_lt (by omega)
 have h2:(BitVec.ofInt 32 (b:Int)).toNat=b:=by
  rw[BitVec.ofInt_natCast,BitVec.toNat_ofNat];exact Nat.mod_eq_of_lt (by omega)
 show IntKind.u32.wrap ((BitVec.ofInt 32 (a:Int) ||| BitVec.ofInt 32 (b:Int)).toNat:Int)=_;rw[BitVec.toNat_or,h1,h2];simp[IntKind.wrap,IntKind.signed,IntKind.bits];omega
theorem B0r(n:Nat)(h:n<4294967296):IntKind.u32.wrap (n:Int)=(n:Int):=by
 simp[IntKind.wrap,IntKind.signed,IntKind.bits];omega
theorem B7R(A:Option Addr)(a:Nat)(w:World)(ha:bl a<=1099511627760)(hA:By w A (byt a).reverse):Calls Tryz.prog 186 #[.slice A (byt a).length (byt a).length] w (Ret (W7 a) w):=by
 obtain⟨n,hn⟩:∃n,n=(byt a).length:=⟨_,rfl⟩
 have hnb:n<=137438953471:=by rw[hn,A4W];omega
 obtain⟨m,hm⟩:∃m,m=(n+3)/4:=⟨_,rfl⟩
 have hmi:((n:Int)+3)/4=(m:Int):=by omega
 have hmt:((n:Int)+3).tdiv 4=(m:Int):=by rw[B9G (by omega)];exact hmi
 have hmk:=A4l m (by omega) (m:Int) rfl;rw[<-hn];have HA:=B9I hA;have Hn:=B9I hn;have Hm:=B9I hm;have hmb:m<=34359738368:=by omega
 clear hA hn hm;go_enter Tryz.func186,Tryz.ntmps186;go_wp2_with fail;clear hmk hmi hmt;go_loopw [4] (λs wr=>∃(i:Nat) (zs:List Nat),i<=n/\s = .int .i64 i/\zs.length=m/\Dig W32 zs/\val W32 zs=a/256^(n-i)*256^(n-i)/\T4 wr w.heap.size zs/\A4 w wr) (λs _=>n-(intOf s).toNat)
 case atStart=>exact⟨0,List.replicate m 0,B9a _,rfl,by simp,λz hz=>(by rw[(List.mem_replicate.1 hz).2];exact F9),by
   rw[A1V,Nat.sub_zero,B9q,B9i];have:=K4 (A4e a);rw[<-Hn.out]at this;unfold byt at this
   rwa [E6 (by omega)]at this,Blk.new w 193 _,A4.alloc _ _⟩
 case round =>
  obtain⟨i,zs,hi,rfl,hl,hd,hv,hR,hG⟩:=hrel;have HR:=B9I hR;have HG:=B9I hG;have Hd:=B9I hd;have Hv:=B9I hv;have Hl:=B9I hl;clear hl hd hv hR hG;rcases B8t i n with hlt|hge
  ·obtain⟨k,hk⟩:∃k,k=n-1-i:=⟨_,rfl⟩
   have hni:n-i=k+1:=by omega
   have hki:(n:Int)-1-(i:Int)=(k:Int):=by omega
   have hkq:k/4<zs.length:=by rw[Hl.out,Hm.out];omega
   obtain⟨b1,o1,rfl,hc1⟩:=(HA.out.grow HG.out).cell (i:=i) (by rw[B9o,<-Hn.out];exact hlt);rw[A8h (by rw[<-Hn.out];exact hlt),<-Hn.out,<-hk]at hc1;have hby:=C6 (by omega) (A4e a) k;have hv1:=Hv.out;rw[hni]at hv1;obtain⟨l1,l2,l3⟩:=B3Y zs _ k _ Hd.out hkq hv1 hby
   have hc2:=HR.out.cell hkq;have hf2:=HR.out.frozen (k/4);have hzl:=C6 F9 Hd.out (k/4);have hkm:k/4<m:=by rw[<-Hl.out];exact hkq
   have hstep:a/256^(k+1)*256+dg (byt a) k=a/256^k:=by
    unfold byt;rw[A5T (by omega),Nat.pow_succ,<-B9M];omega
   rw[hstep]at l3;obtain⟨q,hq⟩:∃q,q=k/4:=⟨_,rfl⟩
   obtain⟨r,hr⟩:∃r,r=k%4:=⟨_,rfl⟩
   have hr8:r<4:=by omega
   have hqi:(k:Int)/4=(q:Int):=by omega
   have hri:(k:Int)%4=(r:Int):=by omega
   obtain⟨y,hy⟩:∃y,y=dg (byt a) k:=⟨_,rfl⟩
   obtain⟨x,hx⟩:∃x,x=dg zs (k/4):=⟨_,rfl⟩
   rw[<-hx]at hc2 l1 l2 l3 hzl;rw[<-hy]at hc1 hby l1 l2 l3;rw[<-hq]at hc2 hf2 hkm l3;rw[<-hr]at l1 l2 l3;have L1:=B9I l1;have L2:=B9I l2;have L3:=B9I l3;unfold W32 at hzl;have hw1:IntKind.i64.wrap (q:Int)=(q:Int):=B9Z _ (by omega);have hw2:IntKind.i64.wrap (r:Int)=(r:Int):=B9Z _ (by omega);have hw3:IntKind.i64.wrap (8*(r:Int))=8*(r:Int):=B9Z _ (by omega);have hw4:IntKind.u64.wrap (8*(r:Int))=8*(r:Int):=u64_wrap_id (x:=8*(r:Int)) (by omega) (by omega);have hw5:(8*(r:Int)).toNat=8*r:=by omega
   have hw6:(k:Int).tmod 4=(r:Int):=by rw[B9H (by omega)];exact hri
   have hw7:=B0r y (by omega);have hw8:min (8*r) 32=8*r:=by omega
   obtain⟨z,hz⟩:∃z,z=y*2^(8*r):=⟨_,rfl⟩
   have hzlt:z<4294967296:=by unfold W32 at l2;omega
   have hw9:IntKind.u32.wrap ((y:Int)*2^(8*r))=(z:Int):=by
    rw[show((y:Int)*2^(8*r))=((z:Nat):Int)by rw[hz];simp];exact B0r z hzlt
   rw[<-hz]at l1 l2 l3;have hw10:bits BinOp.or IntKind.u32 (x:Int) (z:Int)=((x+z:Nat):Int):=by
    rw[B7X x z hzl hzlt,l1]
   obtain⟨s,hs⟩:∃s,s=x+z:=⟨_,rfl⟩
   rw[<-hs]at l2 l3 hw10;have L4:=B9I l3;have L5:=B9I l2;clear hk hni hstep hv1 l1 l2 l3 hx hy hq hr hkq hz hs L1 L2 L3;go_wp2_with fail;go_still_tail 19,(by kernel_rfl)
   go_wp2_with fail;have hnk:n-(i+1)=k:=by omega
   exact⟨⟨i+1,zs.set q s,by omega,by go_num,by rw[B9h];exact Hl.out,Q6 Hd.out q L5.out,by rw[hnk];exact L4.out,(HR.out.set q s).grow (A4.drew _),(HG.out.setCell (p:=⟨w.heap.size,q,none⟩) (B8s _) _).trans (A4.drew _)⟩,by simp[intOf];omega⟩
  ·obtain rfl:i=n:=by omega
   have hva:val W32 zs=a:=by have:=Hv.out;simpa using this
   have htr:Calls Tryz.prog 139 #[.slice (some ⟨w.heap.size,0,none⟩) m m] wr λe w'=>e = .returned (.slice (some ⟨w.heap.size,0,none⟩) (ln a) m)/\Rn w' (some ⟨w.heap.size,0,none⟩,m) a/\A4 w w':=by
    have h1:=A19 (some ⟨w.heap.size,0,none⟩) zs m wr HR.out.lim (B9u Hl.out) (by omega);rw[Hl.out]at h1;refine h1.mono λe w' ⟨he,hg⟩=>?_;obtain⟨hr1,hlen⟩:=A29 (a:=a) (c:=m) (HR.out.lim.grow hg) Hd.out hva (B9u Hl.out) (by omega);rw[hlen]at he;exact⟨he,hr1,HG.out.trans hg⟩
   have Htr:=B9I htr;clear htr hva;go_wp2_with (go_at_call 139;((with_reducible refine(Htr.out).mono ?_);rintro e w1 ⟨rfl,hr1,hg⟩));go_ret;exact⟨(some ⟨w.heap.size,0,none⟩,m),rfl,hr1,hg⟩
def LIM:Nat:=1099511627760
theorem B0b:∀t∈[44,46,48,31,33],N8 Tryz.prog t:=by
 intro t ht;simp only[List.mem_cons,List.not_mem_nil,or_false]at ht;rcases ht with rfl|rfl|rfl|rfl|rfl
 ·exact λ_ _ _ _ _ _=>by rw[L8];kernel_rfl
 ·exact λ_ _ _ _ _ _=>by rw[A2m];kernel_rfl
 ·exact λ_ _ _ _ _ _=>by rw[G6];kernel_rfl
 ·exact λ_ _ _ _ _ _=>by rw[B3q];kernel_rfl
 ·exact λ_ _ _ _ _ _=>by rw[A7K];kernel_rfl
theorem A8j(a:Nat)(ha:bl a<=LIM)(w:World):Calls Tryz.prog 152 #[B2 a] w (Ret (W7 a) w):=by
 unfold LIM at ha;have hby:∀W,Calls Tryz.prog 187 #[B2 a] W λe w'=>∃A,e = .returned (.slice A (byt a).length (byt a).length)/\By w' A (byt a).reverse/\A4 W w':=λW=>B0W a ha W;have hfr:∀A W,By W A (byt a).reverse->Calls Tryz.prog 186 #[.slice A (byt a).length (byt a).length] W (Ret (W7 a) W):=λA W h=>B7R A a W ha h;obtain⟨n,hn⟩:∃n,n=(byt a).length:=⟨_,rfl⟩
 rw[<-hn]at hby hfr;have Hby:=B9I hby
 have Hfr:=B9I hfr;clear hby hfr hn;go_enter Tryz.func152,Tryz.ntmps152
 go_wp2_with (first
  | (go_at_call 187;((with_reducible refine(Hby.out _).mono ?_);rintro e w1 ⟨A,rfl,hA,hg1⟩))
  | (go_at_call 186;((with_reducible refine(Hfr.out _ _ hA).mono ?_);rintro e w2 ⟨x,rfl,hx,hg2⟩)))
 go_ret;exact⟨x,rfl,hx,(A4.alloc _ _).trans (hg1.trans hg2)⟩
theorem B8i(z:Int)(ha:bl z.natAbs<=LIM)(w:World):Calls Tryz.prog 150 #[E5 z] w (Ret (A1g z) w):=by
 have ha':bl z.natAbs<=1099511627776:=by unfold LIM at ha;omega
 go_enter Tryz.func150,Tryz.ntmps150;refine en2 ?_;intro u hG b2 b1 hB hF;refine B9D (rdC A8 [] [(0,0),(0,3),(1,1),(0,2),(1,4),(1,5),(1,6)] hB hG λK L hN hL=>?_);refine gs ?_;refine gmw (C:=λv=>A3I _ (by assumption) _) ?_;refine gs ?_;refine gmw (C:=λv=>A2Q _ _) ?_;refine grd (W7 z.natAbs) (λ(x8:Ax)=>?_) (C:=λv _=>A8j z.natAbs ha _);refine gmd (C:=by(rintro v ⟨⟨hgu,hB,hG,-⟩,hx8⟩;have hx8:Rn v x8 _:=hx8;exact A2F x8 _ z.natAbs _)) ?_;refine geC hL ?_;clear hB hG hL L;rintro u ⟨⟨-,hB,hG,-⟩,hx8⟩;replace hx8:Rn u x8 _:=hx8;refine gtT ?_;clear hN K;refine sv hB hF hG 1 0 [_,_] ?_;intro u hu hBG;replace hx8:=hx8.put hB 1 rfl (by first|decide|simp) _ _ hu;clear hB hG hu;obtain⟨hB,hG⟩:=hBG;refine rt Tryz.results150 ?_;exact⟨x8,C0T (λy:Int=>Ending.returned (riV x8 y)) (A2K z),hx8,hG⟩
theorem B75(q:Rat)(ha:qs q<=LIM)(w:World):Calls Tryz.prog 100 #[qV q] w (Ret (A1s q) w):=by
 have h1:bl q.num.natAbs<=LIM:=B9A (G3 q) ha;have h2:bl q.den<=LIM:=B9A (I2 q) ha;have h3:bl q.den<=1099511627776:=by unfold LIM at h2;omega
 go_enter Tryz.func100,Tryz.ntmps100;refine en2 ?_;intro u hG b2 b1 hB hF;refine B9D (rdC A8 [] [(0,0),(0,3),(1,1),(1,2),(1,4),(1,5),(0,6)] hB hG λK L hN hL=>?_);refine gs ?_;refine gmw (C:=λv=>B29 _ _) ?_;refine grd (A1g q.num) (λ(x5:Ax)=>?_) (C:=λv _=>B8i q.num h1 _);refine gmd (C:=by(rintro v ⟨⟨hgu,hB,hG,-⟩,hx5⟩;have hx5:Rn v x5 _:=hx5;exact U8 _ (by assumption) _)) ?_;refine grd (W7 q.den) (λ(x8:Ax)=>?_) (C:=by(rintro v ⟨⟨hgu,hB,hG,-⟩,hx5⟩;have hx5:Rn v x5 _:=hx5;exact A8j q.den h2 _));refine gs ?_;refine geC hL ?_;clear hB hG hL L;rintro u ⟨⟨⟨-,hB,hG,-⟩,hx5⟩,hx8⟩;replace hx5:Rn u x5 _:=hx5;replace hx8:Rn u x8 _:=hx8;refine gtT ?_;clear hN K;refine sv hB hF hG 1 0 [_,_,_] ?_;intro u hu hBG;replace hx5:=hx5.put hB 1 rfl (by first|decide|simp) _ _ hu;replace hx8:=hx8.put hB 1 rfl (by first|decide|simp) _ _ hu;clear hB hG hu;obtain⟨hB,hG⟩:=hBG;refine rt Tryz.results100 ?_;exact⟨(x5,x8),rfl,⟨hx5,hx8⟩,hG⟩
theorem A9K(x y:Ax)(a:Nat)(w:World)(hx:Rn w x a)(hy:Rn w y a):Calls Tryz.prog 101 #[nvV x a,nvV y a] w λe w'=>e = .returned (.int .i64 0)/\A4 w w':=by
 have:=A4G x y a a w hx hy;rw[A14 rfl]at this;exact this
theorem B8f(q:Rat)(x y:Ax)(ha:qs q<=LIM)(w:World)(hx:Rn w x q.num.natAbs)(hy:Rn w y q.den):Calls Tryz.prog 37 #[qV q,rqV x y q] w λe w'=>e = .returned (.bool true)/\A4 w w':=by
 have hl:0<ln q.den:=A1l.2 q.den_nz;have hlb:((ln q.den:Int) == 0)=false:=by simp;omega
 go_enter Tryz.func37,Tryz.ntmps37;refine en2 ?_;intro u hG b3 b2 hB hF;replace hx:=hx.grow hG;replace hy:=hy.grow hG;refine B9D (rsC B0b [0,1,2] hB hG λK L hN hL=>?_);refine gs ?_;refine grd (A1s q) (λ(x7:Ax×Ax)=>?_) (C:=λv _=>B75 q ha _);refine gaa (A7K _ _ _ _ _) λb5 hb5 hn5=>?_;replace hF:=hF.n1 [] hB hG hb5 hn5;refine geC hL ?_;clear hB hG hL L;rintro u ⟨⟨⟨hgu,hB,hG,-⟩,hx7⟩,h5⟩;replace hB:=hB.cons' h5;clear h5;replace hx:=hx.grow hgu;replace hy:=hy.grow hgu;obtain⟨hx7a,hx7b⟩:Rn u x7.1 _/\Rn u x7.2 _:=hx7;clear hb5 hn5;clear hgu;refine gtT ?_;clear hN K;refine sv hB hF hG 0 0 [_,_,_] ?_;intro u hu hBG;replace hx:=hx.put hB 0 rfl (by first|decide|simp) _ _ hu;replace hy:=hy.put hB 0 rfl (by first|decide|simp) _ _ hu;replace hx7a:=hx7a.put hB 0 rfl (by first|decide|simp) _ _ hu;replace hx7b:=hx7b.put hB 0 rfl (by first|decide|simp) _ _ hu;clear hB hG hu;obtain⟨hB,hG⟩:=hBG;refine B9D ?_;refine r0T ?_;refine B9J (rfl) ?_;refine B9K ?_;refine A6 ?_;refine B9D (rsE B0b [0,0,0,0,0,0,1,0,0,0,0,0,0,0,0,0,0,0,0,0,0,0,1,0,0,0] hB hG λL hL=>?_);refine gs ?_;refine gmd (C:=λv ⟨hgu,hB,hG,_⟩=>A9K x7.1 x q.num.natAbs _ (hx7a.grow hgu) (hx.grow hgu)) ?_;refine gs ?_
 first|refine gmd (C:=λv ⟨hgu,hB,hG,_⟩=>A9K x7.2 y q.den _ (hx7b.grow hgu) (hy.grow hgu)) ?_|refine I0 ?_
 refine gs ?_;refine geT hL ?_;clear hB hG hL L;rintro u ⟨hgu,hB,hG,-⟩;replace hx:=hx.grow hgu;replace hy:=hy.grow hgu;replace hx7a:=hx7a.grow hgu;replace hx7b:=hx7b.grow hgu;clear hgu;refine rt Tryz.results37 ?_;exact⟨rfl,hG⟩
theorem A7P(n d:Int)(h0 : -9223372036854775808<=n)(h1:n<=9223372036854775807)(h2 : -9223372036854775808<=d)(h3:d<=9223372036854775807)(hd:d≠0)(ha:qs (D0 n d)<=LIM)(w:World):Calls Tryz.prog 52 #[qV (D0 n d),.int .i64 n,.int .i64 d] w λe w'=>e = .returned (.bool true)/\A4 w w':=by
 go_enter Tryz.func52,Tryz.ntmps52;refine en1 ?_;intro u hG b3 hB hF;refine B9D (rdC A8 [] [(0,0),(0,1),(0,2),(1,3),(1,4)] hB hG λK L hN hL=>?_);refine gs ?_;refine grd (A1s (D0 n d)) (λ(x10:Ax×Ax)=>?_) (C:=λv _=>B1h n d h0 h1 h2 h3 hd _);refine gmd (C:=by(rintro v ⟨⟨hgu,hB,hG,-⟩,hx10⟩;obtain⟨hx10a,hx10b⟩:Rn v x10.1 _/\Rn v x10.2 _:=hx10;exact B8f (D0 n d) x10.1 x10.2 ha _ hx10a hx10b)) ?_;refine geC hL ?_;clear hB hG hL L;rintro u ⟨⟨-,hB,hG,-⟩,hx10⟩;obtain⟨hx10a,hx10b⟩:Rn u x10.1 _/\Rn u x10.2 _:=hx10;refine gtT ?_;clear hN K;refine rt Tryz.results52 ?_;exact⟨rfl,hG⟩
def A1R(n m:Int):Int:=n%m
theorem B6f(n m:Int)(hm:0<m)(hm2:m<=9223372036854775807)(w:World):Calls Tryz.prog 24 #[.int .i64 n,.int .i64 m] w λe w'=>e = .returned (.int .i64 (A1R n m))/\w=w':=by
 have h0:¬m=0:=by omega
 obtain⟨t,ht⟩:∃t,t=n.tmod m:=⟨_,rfl⟩
 have hp:A1R n m=if t<0 then t+m else t:=by
  rw[ht];unfold A1R;have h1:=Int.emod_nonneg n (show m≠0 by omega);have h2:=Int.emod_lt_of_pos n hm;rw[Int.tmod_eq_emod];split<;>split<;>omega
 have hb : -m<t/\t<m:=by
  rw[ht];have h1:=Int.emod_nonneg n (show m≠0 by omega);have h2:=Int.emod_lt_of_pos n hm;rw[Int.tmod_eq_emod];split<;>omega
 have htm:n.tmod m=t:=ht.symm;have hw1:IntKind.i64.wrap t=t:=B9Z _ (by omega);clear ht;by_cases hneg:t<0
 ·rw[if_pos hneg]at hp;have hw2:IntKind.i64.wrap (t+m)=t+m:=B9Z _ (by omega);have Hp:=B9I hp;clear hp;go_enter Tryz.func24,Tryz.ntmps24;go_wp2_with fail;go_ret;exact⟨N0 Hp.out.symm,rfl⟩
 ·rw[if_neg hneg]at hp;have Hp:=B9I hp;clear hp;go_enter Tryz.func24,Tryz.ntmps24;go_wp2_with fail;go_ret;exact⟨N0 Hp.out.symm,rfl⟩
theorem B8d{x:Ax}{y z:Int}(h:y=z):Ending.returned (riV x y) = .returned (riV x z):=by rw[h]
theorem B8l(x y:Ax)(q:Rat)(w:World):Calls Tryz.prog 154 #[rqV x y q] w λe w'=>e = .returned (riV y (sgn false q.den))/\A4 w w':=by
 rw[A4B,Bool.false_and];have hI:=λW=>A2F y false q.den W;simp only[A4B,Bool.false_and]at hI;go_enter Tryz.func154,Tryz.ntmps154;refine en2 ?_;intro u hG b2 b1 hB hF;refine B9D (rsC A8 [0,0,1] hB hG λK L hN hL=>?_);refine gs ?_;refine gmw (C:=λv=>hI _) ?_;refine geC hL ?_;clear hB hG hL L;rintro u ⟨-,hB,hG,-⟩;refine gtT ?_;clear hN K;refine st hB hF hG 1 0 [_,_] ?_;clear hB hG;intro u hB hG;refine rt Tryz.results154 ?_;exact⟨rfl,hG⟩
theorem B5Q(x:Ax)(z:Int)(w:World):Calls Tryz.prog 136 #[riV x z] w λe w'=>e = .returned (riV x (A0c z))/\A4 w w':=by
 go_enter Tryz.func136,Tryz.ntmps136;refine en2 ?_;intro u hG b2 b1 hB hF;refine B9D (rsC A8 [0,0,0,0,0,1] hB hG λK L hN hL=>?_);refine gs ?_;refine gmw (C:=λv=>A2F x _ z.natAbs _) ?_;refine geC hL ?_;clear hB hG hL L;rintro u ⟨-,hB,hG,-⟩;refine gtT ?_;clear hN K;refine st hB hF hG 1 0 [_,_] ?_;clear hB hG;intro u hB hG;refine rt Tryz.results136 ?_;exact⟨B8d (A7a z),hG⟩
theorem B5m(x:Ax)(z:Int)(w:World):Calls Tryz.prog 69 #[riV x z] w λe w'=>e = .returned (.int .i64 z.sign)/\A4 w w':=by
 go_enter Tryz.func69,Tryz.ntmps69;refine en1 ?_;intro u hG b1 hB hF;refine B9D ?_;refine B9l ?_;refine r0T ?_;refine B9y rfl ?_ ?_
 ·intro ht;have ht3:=ht;refine r0T ?_;refine rt Tryz.results69 ?_;have h2:ln z.natAbs=0:=by simpa using ht3
  have h3:z=0:=by have:=@A6V z.natAbs;omega
  exact⟨N0 (by rw[h3];rfl),hG⟩
 ·intro ht;have ht3:=ht;refine r0T ?_;refine B9y rfl ?_ ?_
  ·intro ht;have ht8:=ht;refine r0T ?_;refine rt Tryz.results69 ?_;have h:z<0:=B9w ht8;exact⟨N0 (B9z h).symm,hG⟩
  ·intro ht;have ht8:=ht;refine B9K ?_;refine C5 ?_;refine A6 ?_;refine r0T ?_;refine rt Tryz.results69 ?_;have h:¬z<0:=B90 ht8;have h2:¬ln z.natAbs=0:=by simpa using ht3
   have h3:z≠0:=by have:=@A6V z.natAbs;omega
   exact⟨N0 (B91 (by omega)).symm,hG⟩
abbrev Az:=Ax×Ax
def Rz(u:World)(p:Az)(q:Rat):Prop:=Rn u p.1 q.num.natAbs/\Rn u p.2 q.den
theorem Rz.grow{u u':World}{p:Az}{q:Rat}(h:Rz u p q)(hg:A4 u u'):Rz u' p q:=⟨h.1.grow hg,h.2.grow hg⟩
theorem B8n(x y:Ax)(q:Rat)(w:World):Calls Tryz.prog 20 #[rqV x y q] w λe w'=>e = .returned (.int .i64 q.num.sign)/\A4 w w':=by
 go_enter Tryz.func20,Tryz.ntmps20;refine en1 ?_;intro u hG b1 hB hF;refine B9D (rsE A8 [0,0,1,0] hB hG λL hL=>?_);refine gs ?_;refine gmw (C:=λv=>B5m x q.num _) ?_;refine gs ?_;refine geT hL ?_;clear hB hG hL L;rintro u ⟨-,hB,hG,-⟩;refine rt Tryz.results20 ?_;exact⟨rfl,hG⟩
theorem B8m(x y:Ax)(q:Rat)(w:World):Calls Tryz.prog 75 #[rqV x y q] w λe w'=>e = .returned (rqV x y (I4 q))/\A4 w w':=by
 go_enter Tryz.func75,Tryz.ntmps75;refine en2 ?_;intro u hG b2 b1 hB hF;refine B9D (rdC A8 [] [(0,0),(0,1),(0,3),(0,4),(1,2),(0,5)] hB hG λK L hN hL=>?_);refine gs ?_;refine gmw (C:=λv=>B5Q _ _ _) ?_;refine gs ?_;refine geC hL ?_;clear hB hG hL L;rintro u ⟨-,hB,hG,-⟩;refine gtT ?_;clear hN K;refine st hB hF hG 1 0 [_,_,_] ?_;clear hB hG;intro u hB hG;refine rt Tryz.results75 ?_;exact⟨A6b (q:=I4 q) (Rat.neg_num q) (Rat.neg_den q),hG⟩
theorem B8q(x y:Ax)(q:Rat)(w:World):Calls Tryz.prog 26 #[rqV x y q] w λe w'=>e = .returned (rqV x y (Q5 q))/\A4 w w':=by
 go_enter Tryz.func26,Tryz.ntmps26;refine en2 ?_;intro u hG b2 b1 hB hF;refine B9D (rdC A8 [] [(0,0),(0,1),(0,2),(0,4),(0,5),(1,3),(0,6)] hB hG λK L hN hL=>?_);refine gs ?_;refine gmw (C:=λv=>A2F x _ q.num.natAbs _) ?_;refine gs ?_;refine geC hL ?_;clear hB hG hL L;rintro u ⟨-,hB,hG,-⟩;refine gtT ?_;clear hN K;refine st hB hF hG 1 0 [_,_,_] ?_;clear hB hG;intro u hB hG;refine rt Tryz.results26 ?_;exact⟨A6b (q:=Q5 q) (A9v q) (B0h q),hG⟩
end Go.Proofs.YtgpglgbcobeogaaGreatDoor
