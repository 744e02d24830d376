import Derived.Test.YtgpglgbcobeogaaGreatDoorK21
set_option linter.unusedSimpArgs false
set_option linter.unusedVariables false
set_option maxHeartbeats 1000000
set_option maxRecDepth 100000
namespace Go.Proofs.YtgpglgbcobeogaaGreatDoor
open Go.RowKit
theorem A7B(x y:Ax)(a b:Nat)(w:World)(hx:Rn w x a)(hy:Rn w y b)(h0:b≠0)(ha:bl a<=BIG):Calls Tryz.prog 138 #[nvV x a,nvV y b] w (Ret (nnR (a/b) (a%b)) w):=by
 by_cases hs:b<W32
 ·exact B6T x y a b w hx hy h0 hs
 ·by_cases hlt:a<b
  ·exact B0R x y a b w hx hy hlt
  ·refine B14 x y a b w hx hy (by omega) ?_ ha;have h1:=A96 (Nat.not_lt.1 hs);have h2:ln W32=2:=by decide +kernel
   omega
theorem B6b(x y:Ax)(a b:Nat)(w:World)(hx:Rn w x a)(hy:Rn w y b)(ha:bl a<=BIG)(hb:bl b<=BIG):Calls Tryz.prog 137 #[nvV x a,nvV y b] w (Ret (V5 (Nat.gcd a b)) w):=by
 have Hx:=B9t hx;have Hy:=B9t hy;have Ha:=B9t ha;have Hb:=B9t hb;obtain⟨g,hg⟩:∃g,g=Nat.gcd a b:=⟨_,rfl⟩
 rw[<-hg];have Hg:=B9t hg.symm;clear hx hy ha hb hg;go_enter Tryz.func137,Tryz.ntmps137;go_wp2_with fail;go_loopg [0,1] b (λk s t wr=>∃(x y:Ax) (a:Nat),s=nvV x a/\t=nvV y k/\Nat.gcd a k=g/\(bl a<=BIG/\bl k<=BIG)/\Rn wr x a/\Rn wr y k/\A4 w wr)
 case atStart=>exact⟨x,y,a,rfl,rfl,Hg.out,⟨Ha.out,Hb.out⟩,Hx.out,Hy.out,A4.refl _⟩
 case round =>
  obtain⟨x,y,a,rfl,rfl,hgc,hs,hx,hy,hG⟩:=hrel;rcases B9n gk with h0|h0
  ·have hl:¬0<ln gk:=by rw[h0,A7P];omega
   have Hgc:Hid (a=g):=by rw[h0,C0t]at hgc;exact B9t hgc
   have Hr:=B9t hx;clear hgc hs hx hy h0;go_wp2_with fail;go_ret;exact⟨x,by rw[<-Hgc.out];rfl,by rw[<-Hgc.out];exact Hr.out,hG⟩
  ·have hl:0<ln gk:=A2G.2 (by omega);have hdv:=A7B x y a gk wr hx hy (by omega) hs.1;obtain⟨q,hq⟩:∃q,q=a/gk:=⟨_,rfl⟩
   obtain⟨m,hm⟩:∃m,m=a%gk:=⟨_,rfl⟩
   have hmlt:m<gk:=by rw[hm];exact B92 _ h0
   have Hgc:Hid (Nat.gcd gk m=g):=by rw[hm];exact B9t (A0u a gk g hgc)
   rw[<-hq,<-hm]at hdv;have Hdv:=B9t (Ret.nn hdv);have Hy:=B9t hy;have Hs:Hid (bl gk<=BIG/\bl m<=BIG):=B9t ⟨hs.2,B9l (T4 (B9c hmlt)) hs.2⟩;clear hgc hs hx hy hq hm hdv;go_wp2_with (go_at_call 138;((with_reducible refine(Hdv.out).mono ?_);rintro e w1 ⟨y1,y2,rfl,hr1,hr2,hg1⟩));go_roundg m
   case rel=>exact⟨y,y2,gk,rfl,rfl,Hgc.out,Hs.out,Hy.out.grow hg1,hr2,hG.trans hg1⟩
   case measure=>exact hmlt
theorem B3h(d:Option Tmp)(ty:TypeId)(pos:String)(af:Array Edge)(gd:Option (Nat×Bool)):O4 Tryz.prog ⟨d,.alloc 31,ty,pos,af,gd⟩ = .cells #[.bool false,.slice none 0 0] 31:=by kernel_rfl
theorem A9y(d:Option Tmp)(ty:TypeId)(pos:String)(af:Array Edge)(gd:Option (Nat×Bool)):O4 Tryz.prog ⟨d,.alloc 33,ty,pos,af,gd⟩ = .cells #[.bool false,.slice none 0 0,.slice none 0 0] 33:=by kernel_rfl
theorem A5a(x:Ax)(neg:Bool)(a:Nat):riV x (sgn neg a) = .agg #[.bool (neg&&decide (a≠0)),.slice x.1 (ln a) x.2]:=by
 unfold riV;rw[B1C,A1J]
theorem B2Q(x:Ax)(a:Nat)(w:World):Calls Tryz.prog 78 #[.bool false,nvV x a] w λe w'=>e = .returned (riV x (sgn false a))/\A4 w w':=by
 rw[A5a,Bool.false_and];go_enter Tryz.func78,Tryz.ntmps78;refine en1 ?_;intro u hG b4 hB hF;refine r0T ?_;refine st hB hF hG 0 0 [_,_] ?_;clear hB hG;intro u hB hG;refine rt Tryz.results78 ?_;exact⟨rfl,hG⟩
theorem B4K(x:Ax)(a:Nat)(w:World):Calls Tryz.prog 78 #[.bool true,nvV x a] w λe w'=>e = .returned (riV x (sgn true a))/\A4 w w':=by
 rw[A5a,Bool.true_and];have hd:decide (a≠0)=decide (0<ln a):=by
  have:=@A2G a;rw[decide_eq_decide];exact this.symm
 rw[hd];clear hd;go_enter Tryz.func78,Tryz.ntmps78;refine en1 ?_;intro u hG b4 hB hF;refine r0T ?_;refine st hB hF hG 0 0 [_,_] ?_;clear hB hG;intro u hB hG;refine rt Tryz.results78 ?_;exact⟨rfl,hG⟩
theorem A2M(x:Ax)(neg:Bool)(a:Nat)(w:World):Calls Tryz.prog 78 #[.bool neg,nvV x a] w λe w'=>e = .returned (riV x (sgn neg a))/\A4 w w':=by
 cases neg
 ·exact B2Q x a w
 ·exact B4K x a w
theorem B68(n:Int)(h0:n<0)(h1 : -9223372036854775808<=n)(w:World):Calls Tryz.prog 77 #[.int .i64 n] w (Ret (A1W n) w):=by
 have hw1:IntKind.u64.wrap n=n+18446744073709551616:=by
  simp[IntKind.wrap,IntKind.signed,IntKind.bits];omega
 have hw2:IntKind.u64.wrap (-(n+18446744073709551616))=(n.natAbs:Nat):=by
  simp[IntKind.wrap,IntKind.signed,IntKind.bits];omega
 have hlt:n.natAbs<W64:=by unfold W64;omega
 have hd:decide (n<0)=true:=by simpa using h0
 have hn:sgn true n.natAbs=n:=by rw[B4b];omega
 have Hn:=B9t hn;clear hn;go_enter Tryz.func77,Tryz.ntmps77;refine en1 ?_;intro u hG b2 hB hF;refine B9o ?_;refine r0T ?_;refine B9w (rfl) ?_;refine B9o (rsC A8 [0,0,0,1,1] hB hG λK L hN hL=>?_);refine gs ?_;refine grd (V5 n.natAbs) (λ(x8:Ax)=>?_) (C:=λv _=>A4P n.natAbs hlt _);refine gmd (C:=by(rintro v ⟨⟨hgu,hB,hG,-⟩,hx8⟩;have hx8:Rn v x8 _:=hx8;exact A2M x8 true n.natAbs _)) ?_;refine geC hL ?_;clear hB hG hL L;rintro u ⟨⟨-,hB,hG,-⟩,hx8⟩;replace hx8:Rn u x8 _:=hx8;refine gtT ?_;clear hN K;refine sv hB hF hG 0 0 [_,_] ?_;intro u hu hBG;replace hx8:=hx8.put hB 0 rfl (by first|decide|simp) _ _ hu;clear hB hG hu;obtain⟨hB,hG⟩:=hBG;refine rt Tryz.results77 ?_;exact⟨x8,C04 (λz:Int=>Ending.returned (riV x8 z)) Hn.out,hx8,hG⟩
theorem B2G(n:Int)(h0:0<=n)(h1:n<=9223372036854775807)(w:World):Calls Tryz.prog 77 #[.int .i64 n] w (Ret (A1W n) w):=by
 have hw1:IntKind.u64.wrap n=(n.natAbs:Nat):=by
  simp[IntKind.wrap,IntKind.signed,IntKind.bits];omega
 have hlt:n.natAbs<W64:=by unfold W64;omega
 have hd:decide (n<0)=false:=by simpa using h0
 have hn:sgn false n.natAbs=n:=by rw[A9n];omega
 have Hn:=B9t hn;clear hn;go_enter Tryz.func77,Tryz.ntmps77;refine en1 ?_;intro u hG b2 hB hF;refine B9o ?_;refine r0T ?_;refine B9u (rfl) ?_;refine B9v ?_;refine A6 ?_;refine B9o (rsC A8 [0,0,1,1] hB hG λK L hN hL=>?_);refine gs ?_;refine grd (V5 n.natAbs) (λ(x12:Ax)=>?_) (C:=λv _=>A4P n.natAbs hlt _);refine gmd (C:=by(rintro v ⟨⟨hgu,hB,hG,-⟩,hx12⟩;have hx12:Rn v x12 _:=hx12;exact A2M x12 false n.natAbs _)) ?_;refine geC hL ?_;clear hB hG hL L;rintro u ⟨⟨-,hB,hG,-⟩,hx12⟩;replace hx12:Rn u x12 _:=hx12;refine gtT ?_;clear hN K;refine sv hB hF hG 0 0 [_,_] ?_;intro u hu hBG;replace hx12:=hx12.put hB 0 rfl (by first|decide|simp) _ _ hu;clear hB hG hu;obtain⟨hB,hG⟩:=hBG;refine rt Tryz.results77 ?_;exact⟨x12,C04 (λz:Int=>Ending.returned (riV x12 z)) Hn.out,hx12,hG⟩
theorem A6j(n:Int)(h0 : -9223372036854775808<=n)(h1:n<=9223372036854775807)(w:World):Calls Tryz.prog 77 #[.int .i64 n] w (Ret (A1W n) w):=by
 by_cases h:n<0
 ·exact B68 n h h0 w
 ·exact B2G n (by omega) h1 w
theorem A4O{x y:Ax}{z:Int}{d:Nat}{q:Rat}(h1:q.num=z)(h2:q.den=d):Ending.returned (.agg #[.bool (D9 z),.slice x.1 (ln z.natAbs) x.2,.slice y.1 (ln d) y.2]) = .returned (rqV x y q):=by subst h1;subst h2;rfl
theorem A98(n d:Int)(h:d≠0):(K3 n d).num=sgn (D9 n != D9 d) (n.natAbs/Nat.gcd n.natAbs d.natAbs):=by
 have hd:d.natAbs≠0:=by omega
 by_cases hn:d<0
 ·rw[A53 n d hn,A6N _ _ hd,<-A6U];have e1:(A0k n).natAbs=n.natAbs:=by unfold A0k;exact C0u n
  rw[e1];have e2:D9 d=true:=C0Y hn;rw[e2];by_cases h0:n=0
  ·subst h0;simp[sgn]
  ·congr 1;unfold D9 A0k;rw[Bool.eq_iff_iff];simp;omega
 ·rw[A6A n d hn,A6N _ _ hd,<-A6U];have e2:D9 d=false:=C0d hn;rw[e2];simp
theorem A7k(n d:Int)(h:d≠0):(K3 n d).den=d.natAbs/Nat.gcd n.natAbs d.natAbs:=by
 have hd:d.natAbs≠0:=by omega
 by_cases hn:d<0
 ·rw[A53 n d hn,A5x _ _ hd];unfold A0k;rw[C0u]
 ·rw[A6A n d hn,A5x _ _ hd]
theorem B2H(x y:Ax)(n d:Int)(w:World)(hx:Rn w x n.natAbs)(hy:Rn w y d.natAbs)(h0:d≠0)(hn:bl n.natAbs<=BIG)(hd:bl d.natAbs<=BIG):Calls Tryz.prog 76 #[riV x n,riV y d] w (Ret (A0C (K3 n d)) w):=by
 have He:=B9t (And.intro (A98 n d h0) (A7k n d h0));have hd0:d.natAbs≠0:=by omega
 have g0:Nat.gcd n.natAbs d.natAbs≠0:=λe=>hd0 (C00 e);go_enter Tryz.func76,Tryz.ntmps76;refine en3 ?_;intro u hG b4 b3 b2 hB hF;replace hx:=hx.grow hG;replace hy:=hy.grow hG;refine B9o (rsE A8 [0,0,0,0,1,0] hB hG λL hL=>?_);refine gs ?_;refine grd (V5 (Nat.gcd n.natAbs d.natAbs)) (λ(x14:Ax)=>?_) (C:=by(rintro v ⟨hgu,hB,hG,-⟩;exact B6b x y n.natAbs d.natAbs _ (hx.grow hgu) (hy.grow hgu) hn hd));refine gs ?_;refine geT hL ?_;clear hB hG hL L;rintro u ⟨⟨hgu,hB,hG,-⟩,hx14⟩;replace hx:=hx.grow hgu;replace hy:=hy.grow hgu;replace hx14:Rn u x14 _:=hx14;clear hgu;refine B9o (rsE A8 [0,0,0,1,0,0,0,0,0] hB hG λL hL=>?_);refine gs ?_;refine grd (nnR (n.natAbs/Nat.gcd n.natAbs d.natAbs) (n.natAbs%Nat.gcd n.natAbs d.natAbs)) (λ(x19:Ax×Ax)=>?_) (C:=by(rintro v ⟨hgu,hB,hG,-⟩;exact A7B x x14 n.natAbs _ _ (hx.grow hgu) (hx14.grow hgu) g0 hn));refine gs ?_;refine geT hL ?_;clear hB hG hL L;rintro u ⟨⟨hgu,hB,hG,-⟩,hx19⟩;replace hx:=hx.grow hgu;replace hy:=hy.grow hgu;replace hx14:=hx14.grow hgu;obtain⟨hx19a,hx19b⟩:Rn u x19.1 _/\Rn u x19.2 _:=hx19;clear hgu;refine B9o (rsE A8 [0,0,0,1,0,0,0,0,0] hB hG λL hL=>?_);refine gs ?_;refine grd (nnR (d.natAbs/Nat.gcd n.natAbs d.natAbs) (d.natAbs%Nat.gcd n.natAbs d.natAbs)) (λ(x26:Ax×Ax)=>?_) (C:=by(rintro v ⟨hgu,hB,hG,-⟩;exact A7B y x14 d.natAbs _ _ (hy.grow hgu) (hx14.grow hgu) g0 hd));refine gs ?_;refine geT hL ?_;clear hB hG hL L;rintro u ⟨⟨hgu,hB,hG,-⟩,hx26⟩;replace hx:=hx.grow hgu;replace hy:=hy.grow hgu;replace hx14:=hx14.grow hgu;replace hx19a:=hx19a.grow hgu;replace hx19b:=hx19b.grow hgu;obtain⟨hx26a,hx26b⟩:Rn u x26.1 _/\Rn u x26.2 _:=hx26;clear hgu;refine B9o (rsC A8 [0,0,0,0,0,0,1,0,0] hB hG λK L hN hL=>?_);refine gs ?_;refine gmw (C:=λv=>A2M x19.1 _ (n.natAbs/Nat.gcd n.natAbs d.natAbs) _) ?_;refine gs ?_;refine geC hL ?_;clear hB hG hL L;rintro u ⟨hgu,hB,hG,-⟩;replace hx:=hx.grow hgu;replace hy:=hy.grow hgu;replace hx14:=hx14.grow hgu;replace hx19a:=hx19a.grow hgu;replace hx19b:=hx19b.grow hgu;replace hx26a:=hx26a.grow hgu;replace hx26b:=hx26b.grow hgu;clear hgu;refine gtT ?_;clear hN K;refine sv hB hF hG 2 0 [_,_,_] ?_;intro u hu hBG;replace hx:=hx.put hB 2 rfl (by first|decide|simp) _ _ hu;replace hy:=hy.put hB 2 rfl (by first|decide|simp) _ _ hu;replace hx14:=hx14.put hB 2 rfl (by first|decide|simp) _ _ hu;replace hx19a:=hx19a.put hB 2 rfl (by first|decide|simp) _ _ hu;replace hx19b:=hx19b.put hB 2 rfl (by first|decide|simp) _ _ hu;replace hx26a:=hx26a.put hB 2 rfl (by first|decide|simp) _ _ hu;replace hx26b:=hx26b.put hB 2 rfl (by first|decide|simp) _ _ hu;clear hB hG hu;obtain⟨hB,hG⟩:=hBG;refine rt Tryz.results76 ?_;exact⟨(x19.1,x26.1),A4O He.out.1 He.out.2,⟨by rw[He.out.1,A1J];exact hx19a,by rw[He.out.2];exact hx26a⟩,hG⟩
theorem B0O(n d:Int)(h0 : -9223372036854775808<=n)(h1:n<=9223372036854775807)(h2 : -9223372036854775808<=d)(h3:d<=9223372036854775807)(hd:d≠0)(w:World):Calls Tryz.prog 25 #[.int .i64 n,.int .i64 d] w (Ret (A0C (K3 n d)) w):=by
 go_enter Tryz.func25,Tryz.ntmps25;refine en1 ?_;intro u hG b4 hB hF;refine B9o (rsC A8 [0,1,0,1,1] hB hG λK L hN hL=>?_);refine gs ?_;refine grd (A1W n) (λ(x6:Ax)=>?_) (C:=λv _=>A6j n h0 h1 _);refine gs ?_;refine grd (A1W d) (λ(x8:Ax)=>?_) (C:=by(rintro v ⟨⟨hgu,hB,hG,-⟩,hx6⟩;have hx6:Rn v x6 _:=hx6;exact A6j d h2 h3 _));refine grd (A0C (K3 n d)) (λ(x9:Ax×Ax)=>?_) (C:=by(rintro v ⟨⟨⟨hgu,hB,hG,-⟩,hx6⟩,hx8⟩;have hx6:Rn v x6 _:=hx6;have hx8:Rn v x8 _:=hx8;exact B2H x6 x8 n d _ hx6 hx8 hd (A9M h0 h1) (A9M h2 h3)));refine geC hL ?_;clear hB hG hL L;rintro u ⟨⟨⟨⟨-,hB,hG,-⟩,hx6⟩,hx8⟩,hx9⟩;replace hx6:Rn u x6 _:=hx6;replace hx8:Rn u x8 _:=hx8;obtain⟨hx9a,hx9b⟩:Rn u x9.1 _/\Rn u x9.2 _:=hx9;refine gtT ?_;clear hN K;refine sv hB hF hG 0 0 [_,_,_] ?_;intro u hu hBG;replace hx6:=hx6.put hB 0 rfl (by first|decide|simp) _ _ hu;replace hx8:=hx8.put hB 0 rfl (by first|decide|simp) _ _ hu;replace hx9a:=hx9a.put hB 0 rfl (by first|decide|simp) _ _ hu;replace hx9b:=hx9b.put hB 0 rfl (by first|decide|simp) _ _ hu;clear hB hG hu;obtain⟨hB,hG⟩:=hBG;refine rt Tryz.results25 ?_;exact⟨x9,rfl,⟨hx9a,hx9b⟩,hG⟩
theorem B3n(w:World):Calls Tryz.prog 109 #[.int .u64 1] w (Ret (V5 1) w):=A4P 1 (by unfold W64;omega) w
theorem B6r(n:Int)(h0 : -9223372036854775808<=n)(h1:n<=9223372036854775807)(w:World):Calls Tryz.prog 42 #[.int .i64 n] w (Ret (A0C (C2 n)) w):=by
 go_enter Tryz.func42,Tryz.ntmps42;refine en1 ?_;intro u hG b2 hB hF;refine B9o (rsC A8 [0,1,1,0] hB hG λK L hN hL=>?_);refine gs ?_;refine grd (A1W n) (λ(x4:Ax)=>?_) (C:=λv _=>A6j n h0 h1 _);refine grd (V5 1) (λ(x5:Ax)=>?_) (C:=by(rintro v ⟨⟨hgu,hB,hG,-⟩,hx4⟩;have hx4:Rn v x4 _:=hx4;exact B3n _));refine gs ?_;refine geC hL ?_;clear hB hG hL L;rintro u ⟨⟨⟨-,hB,hG,-⟩,hx4⟩,hx5⟩;replace hx4:Rn u x4 _:=hx4;replace hx5:Rn u x5 _:=hx5;refine gtT ?_;clear hN K;refine sv hB hF hG 0 0 [_,_,_] ?_;intro u hu hBG;replace hx4:=hx4.put hB 0 rfl (by first|decide|simp) _ _ hu;replace hx5:=hx5.put hB 0 rfl (by first|decide|simp) _ _ hu;clear hB hG hu;obtain⟨hB,hG⟩:=hBG;refine rt Tryz.results42 ?_;exact⟨(x4,x5),A4O (A6J n) (A5j n),⟨by rw[A6J];exact hx4,by rw[A5j];exact hx5⟩,hG⟩
theorem B9F(zs:List Nat)(V k y:Nat)(hd:Dig W32 zs)(hk:k/4<zs.length)(hv:val W32 zs=V*256^(k+1))(hy:y<256) :
  dg zs (k/4) ||| y*2^(8*(k%4))=dg zs (k/4)+y*2^(8*(k%4))/\dg zs (k/4)+y*2^(8*(k%4))<W32/\val W32 (zs.set (k/4) (dg zs (k/4)+y*2^(8*(k%4))))=(V*256+y)*256^k:=by
 have e1:(256:Nat)^k=W32^(k/4)*2^(8*(k%4)):=by
  rw[show W32=2^32 from rfl,show(256:Nat)=2^8 from rfl,<-B9z,<-B9z,<-B91];congr 1;omega
 have hdv:2^(8*(k%4)+8) ∣ dg zs (k/4):=by
  have h1:dg zs (k/4)=val W32 zs/W32^(k/4)%W32:=by
   have h2:=O0 W32 zs (k/4);have h3:val W32 zs=val W32 (zs.take (k/4+1))+W32^(k/4+1)*val W32 (zs.drop (k/4+1)):=by
    have:=A0R W32 (zs.take (k/4+1)) (zs.drop (k/4+1));rw[B9e,List.length_take,C0U (by omega)]at this;exact this
   have h4:val W32 (zs.take (k/4))<W32^(k/4):=by
    have:=L9 (B:=W32) (l:=zs.take (k/4)) (λx hx=>hd x (C0G hx))
    rwa [List.length_take,C0U (by omega)]at this
   have h5:=C5 F8 hd (k/4);rw[h3,h2,Nat.pow_succ,C0r,C07,<-C1F,C1B _ _ (C1K F8),C0R h4,Nat.zero_add,C0j,Nat.mod_eq_of_lt h5]
  rw[h1,hv];have e2:V*256^(k+1)=W32^(k/4)*(V*2^(8*(k%4)+8)):=by
   rw[Nat.pow_succ,e1,B91];simp only[show(256:Nat)=2^8 from rfl];grind
  rw[e2,Nat.mul_div_cancel_left _ (C1K F8)];refine(Nat.dvd_mod_iff ?_).2 (C0g _ _);rw[show W32=2^32 from rfl];exact Nat.pow_dvd_pow 2 (by omega)
 have hlt:y*2^(8*(k%4))<2^(8*(k%4)+8):=by
  rw[B91,C0K];exact Nat.mul_lt_mul_of_pos_left hy (Nat.two_pow_pos _)
 refine⟨A2y hlt hdv,?_,?_⟩
 ·obtain⟨c,hc⟩:=hdv;have h5:=C5 F8 hd (k/4);rw[hc]at h5⊢;have e3:W32=2^(8*(k%4)+8)*2^(24-8*(k%4)):=by
   rw[<-B91,show W32=2^32 from rfl];congr 1;omega
  rw[e3]at h5⊢;have h6:=Nat.lt_of_mul_lt_mul_left h5
  calc 2^(8*(k%4)+8)*c+y*2^(8*(k%4))<2^(8*(k%4)+8)*c+2^(8*(k%4)+8):=by omega
   _=2^(8*(k%4)+8)*(c+1):=by rw[C1F,C0q]
   _<=_:=C0m _ h6
 ·have h7:=A0J W32 zs (k/4) (dg zs (k/4)+y*2^(8*(k%4))) hk;rw[hv,C1F]at h7;have e4:(V*256+y)*256^k=V*256^(k+1)+W32^(k/4)*(y*2^(8*(k%4))):=by
   rw[C08,Nat.pow_succ,e1];grind
  omega
theorem B4R(a b:Nat)(ha:a<4294967296)(hb:b<4294967296):bits .or .u32 (a:Int) (b:Int)=((a ||| b:Nat):Int):=by
 have hx:a ||| b<2^32:=Nat.or_lt_two_pow (by omega) (by omega)
 have h1:(BitVec.ofInt 32 (a:Int)).toNat=a:=by
  rw[BitVec.ofInt_natCast,BitVec.toNat_ofNat];exact Nat.mod_eq_of_lt (by omega)
 have h2:(BitVec.ofInt 32 (b:Int)).toNat=b:=by
  rw[BitVec.ofInt_natCast,BitVec.toNat_ofNat];exact Nat.mod_eq_of_lt (by omega)
 show IntKind.u32.wrap ((BitVec.ofInt 32 (a:Int) ||| BitVec.ofInt 32 (b:Int)).toNat:Int)=_;rw[BitVec.toNat_or,h1,h2];simp[IntKind.wrap,IntKind.signed,IntKind.bits];omega
theorem B1F(n:Nat)(h:n<4294967296):IntKind.u32.wrap (n:Int)=(n:Int):=by
 simp[IntKind.wrap,IntKind.signed,IntKind.bits];omega
theorem B6P(A:Option Addr)(a:Nat)(w:World)(ha:bl a<=1099511627760)(hA:By w A (byt a).reverse):Calls Tryz.prog 186 #[.slice A (byt a).length (byt a).length] w (Ret (V5 a) w):=by
 obtain⟨n,hn⟩:∃n,n=(byt a).length:=⟨_,rfl⟩
 have hnb:n<=137438953471:=by rw[hn,A21];omega
 obtain⟨m,hm⟩:∃m,m=(n+3)/4:=⟨_,rfl⟩
 have hmi:((n:Int)+3)/4=(m:Int):=by omega
 have hmt:((n:Int)+3).tdiv 4=(m:Int):=by rw[B9r (by omega)];exact hmi
 have hmk:=A5F m (by omega) (m:Int) rfl;rw[<-hn];have HA:=B9t hA;have Hn:=B9t hn;have Hm:=B9t hm;have hmb:m<=34359738368:=by omega
 clear hA hn hm;go_enter Tryz.func186,Tryz.ntmps186;go_wp2_with fail;clear hmk hmi hmt;go_loopw [4] (λs wr=>∃(i:Nat) (zs:List Nat),i<=n/\s = .int .i64 i/\zs.length=m/\Dig W32 zs/\val W32 zs=a/256^(n-i)*256^(n-i)/\V6 wr w.heap.size zs/\A4 w wr) (λs _=>n-(intOf s).toNat)
 case atStart=>exact⟨0,List.replicate m 0,C0B _,rfl,by simp,λz hz=>(by rw[(List.mem_replicate.1 hz).2];exact F8),by
   rw[A1d,Nat.sub_zero,C0R,C0J];have:=L9 (A28 a);rw[<-Hn.out]at this;unfold byt at this
   rwa [E6 (by omega)]at this,Blk.new w 193 _,A4.alloc _ _⟩
 case round =>
  obtain⟨i,zs,hi,rfl,hl,hd,hv,hR,hG⟩:=hrel;have HR:=B9t hR;have HG:=B9t hG;have Hd:=B9t hd;have Hv:=B9t hv;have Hl:=B9t hl;clear hl hd hv hR hG;rcases B9U i n with hlt|hge
  ·obtain⟨k,hk⟩:∃k,k=n-1-i:=⟨_,rfl⟩
   have hni:n-i=k+1:=by omega
   have hki:(n:Int)-1-(i:Int)=(k:Int):=by omega
   have hkq:k/4<zs.length:=by rw[Hl.out,Hm.out];omega
   obtain⟨b1,o1,rfl,hc1⟩:=(HA.out.grow HG.out).cell (i:=i) (by rw[C0P,<-Hn.out];exact hlt);rw[B1T (by rw[<-Hn.out];exact hlt),<-Hn.out,<-hk]at hc1;have hby:=C5 (by omega) (A28 a) k;have hv1:=Hv.out;rw[hni]at hv1;obtain⟨l1,l2,l3⟩:=B9F zs _ k _ Hd.out hkq hv1 hby
   have hc2:=HR.out.cell hkq;have hf2:=HR.out.frozen (k/4);have hzl:=C5 F8 Hd.out (k/4);have hkm:k/4<m:=by rw[<-Hl.out];exact hkq
   have hstep:a/256^(k+1)*256+dg (byt a) k=a/256^k:=by
    unfold byt;rw[A3m (by omega),Nat.pow_succ,<-B9x];omega
   rw[hstep]at l3;obtain⟨q,hq⟩:∃q,q=k/4:=⟨_,rfl⟩
   obtain⟨r,hr⟩:∃r,r=k%4:=⟨_,rfl⟩
   have hr8:r<4:=by omega
   have hqi:(k:Int)/4=(q:Int):=by omega
   have hri:(k:Int)%4=(r:Int):=by omega
   obtain⟨y,hy⟩:∃y,y=dg (byt a) k:=⟨_,rfl⟩
   obtain⟨x,hx⟩:∃x,x=dg zs (k/4):=⟨_,rfl⟩
   rw[<-hx]at hc2 l1 l2 l3 hzl;rw[<-hy]at hc1 hby l1 l2 l3;rw[<-hq]at hc2 hf2 hkm l3;rw[<-hr]at l1 l2 l3;have L1:=B9t l1;have L2:=B9t l2;have L3:=B9t l3;unfold W32 at hzl;have hw1:IntKind.i64.wrap (q:Int)=(q:Int):=C0A _ (by omega);have hw2:IntKind.i64.wrap (r:Int)=(r:Int):=C0A _ (by omega);have hw3:IntKind.i64.wrap (8*(r:Int))=8*(r:Int):=C0A _ (by omega);have hw4:IntKind.u64.wrap (8*(r:Int))=8*(r:Int):=u64_wrap_id (x:=8*(r:Int)) (by omega) (by omega);have hw5:(8*(r:Int)).toNat=8*r:=by omega
   have hw6:(k:Int).tmod 4=(r:Int):=by rw[B9s (by omega)];exact hri
   have hw7:=B1F y (by omega);have hw8:min (8*r) 32=8*r:=by omega
   obtain⟨z,hz⟩:∃z,z=y*2^(8*r):=⟨_,rfl⟩
   have hzlt:z<4294967296:=by unfold W32 at l2;omega
   have hw9:IntKind.u32.wrap ((y:Int)*2^(8*r))=(z:Int):=by
    rw[show((y:Int)*2^(8*r))=((z:Nat):Int)by rw[hz];simp];exact B1F z hzlt
   rw[<-hz]at l1 l2 l3;have hw10:bits BinOp.or IntKind.u32 (x:Int) (z:Int)=((x+z:Nat):Int):=by
    rw[B4R x z hzl hzlt,l1]
   obtain⟨s,hs⟩:∃s,s=x+z:=⟨_,rfl⟩
   rw[<-hs]at l2 l3 hw10;have L4:=B9t l3;have L5:=B9t l2;clear hk hni hstep hv1 l1 l2 l3 hx hy hq hr hkq hz hs L1 L2 L3;go_wp2_with fail;go_still_tail 19,(by kernel_rfl)
   go_wp2_with fail;have hnk:n-(i+1)=k:=by omega
   exact⟨⟨i+1,zs.set q s,by omega,by go_num,by rw[C0I];exact Hl.out,S7 Hd.out q L5.out,by rw[hnk];exact L4.out,(HR.out.set q s).grow (A4.drew _),(HG.out.setCell (p:=⟨w.heap.size,q,none⟩) (K2 _) _).trans (A4.drew _)⟩,by simp[intOf];omega⟩
  ·obtain rfl:i=n:=by omega
   have hva:val W32 zs=a:=by have:=Hv.out;simpa using this
   have htr:Calls Tryz.prog 139 #[.slice (some ⟨w.heap.size,0,none⟩) m m] wr λe w'=>e = .returned (.slice (some ⟨w.heap.size,0,none⟩) (ln a) m)/\Rn w' (some ⟨w.heap.size,0,none⟩,m) a/\A4 w w':=by
    have h1:=A2C (some ⟨w.heap.size,0,none⟩) zs m wr HR.out.lim (C0V Hl.out) (by omega);rw[Hl.out]at h1;refine h1.mono λe w' ⟨he,hg⟩=>?_;obtain⟨hr1,hlen⟩:=A3j (a:=a) (c:=m) (HR.out.lim.grow hg) Hd.out hva (C0V Hl.out) (by omega);rw[hlen]at he;exact⟨he,hr1,HG.out.trans hg⟩
   have Htr:=B9t htr;clear htr hva;go_wp2_with (go_at_call 139;((with_reducible refine(Htr.out).mono ?_);rintro e w1 ⟨rfl,hr1,hg⟩));go_ret;exact⟨(some ⟨w.heap.size,0,none⟩,m),rfl,hr1,hg⟩
def LIM:Nat:=1099511627760
theorem A7a:∀t∈[44,46,48,31,33],O8 Tryz.prog t:=by
 intro t ht;simp only[List.mem_cons,List.not_mem_nil,or_false]at ht;rcases ht with rfl|rfl|rfl|rfl|rfl
 ·exact λ_ _ _ _ _ _=>by rw[N1];kernel_rfl
 ·exact λ_ _ _ _ _ _=>by rw[A2u];kernel_rfl
 ·exact λ_ _ _ _ _ _=>by rw[J3];kernel_rfl
 ·exact λ_ _ _ _ _ _=>by rw[B3h];kernel_rfl
 ·exact λ_ _ _ _ _ _=>by rw[A9y];kernel_rfl
theorem A9W(a:Nat)(ha:bl a<=LIM)(w:World):Calls Tryz.prog 152 #[B4 a] w (Ret (V5 a) w):=by
 unfold LIM at ha;have hby:∀W,Calls Tryz.prog 187 #[B4 a] W λe w'=>∃A,e = .returned (.slice A (byt a).length (byt a).length)/\By w' A (byt a).reverse/\A4 W w':=λW=>B0L a ha W;have hfr:∀A W,By W A (byt a).reverse->Calls Tryz.prog 186 #[.slice A (byt a).length (byt a).length] W (Ret (V5 a) W):=λA W h=>B6P A a W ha h;obtain⟨n,hn⟩:∃n,n=(byt a).length:=⟨_,rfl⟩
 rw[<-hn]at hby hfr;have Hby:=B9t hby
 have Hfr:=B9t hfr;clear hby hfr hn;go_enter Tryz.func152,Tryz.ntmps152
 go_wp2_with (first
  | (go_at_call 187;((with_reducible refine(Hby.out _).mono ?_);rintro e w1 ⟨A,rfl,hA,hg1⟩))
  | (go_at_call 186;((with_reducible refine(Hfr.out _ _ hA).mono ?_);rintro e w2 ⟨x,rfl,hx,hg2⟩)))
 go_ret;exact⟨x,rfl,hx,(A4.alloc _ _).trans (hg1.trans hg2)⟩
theorem B5u(z:Int)(ha:bl z.natAbs<=LIM)(w:World):Calls Tryz.prog 150 #[E5 z] w (Ret (A1W z) w):=by
 have ha':bl z.natAbs<=1099511627776:=by unfold LIM at ha;omega
 go_enter Tryz.func150,Tryz.ntmps150;refine en2 ?_;intro u hG b2 b1 hB hF;refine B9o (rdC A8 [] [(0,0),(0,3),(1,1),(0,2),(1,4),(1,5),(1,6)] hB hG λK L hN hL=>?_);refine gs ?_;refine gmw (C:=λv=>A3v _ (by assumption) _) ?_;refine gs ?_;refine gmw (C:=λv=>A2g _ _) ?_;refine grd (V5 z.natAbs) (λ(x8:Ax)=>?_) (C:=λv _=>A9W z.natAbs ha _);refine gmd (C:=by(rintro v ⟨⟨hgu,hB,hG,-⟩,hx8⟩;have hx8:Rn v x8 _:=hx8;exact A2M x8 _ z.natAbs _)) ?_;refine geC hL ?_;clear hB hG hL L;rintro u ⟨⟨-,hB,hG,-⟩,hx8⟩;replace hx8:Rn u x8 _:=hx8;refine gtT ?_;clear hN K;refine sv hB hF hG 1 0 [_,_] ?_;intro u hu hBG;replace hx8:=hx8.put hB 1 rfl (by first|decide|simp) _ _ hu;clear hB hG hu;obtain⟨hB,hG⟩:=hBG;refine rt Tryz.results150 ?_;exact⟨x8,C04 (λy:Int=>Ending.returned (riV x8 y)) (A1b z),hx8,hG⟩
theorem B6i(q:Rat)(ha:qs q<=LIM)(w:World):Calls Tryz.prog 100 #[qV q] w (Ret (A0C q) w):=by
 have h1:bl q.num.natAbs<=LIM:=B9l (I0 q) ha;have h2:bl q.den<=LIM:=B9l (J4 q) ha;have h3:bl q.den<=1099511627776:=by unfold LIM at h2;omega
 go_enter Tryz.func100,Tryz.ntmps100;refine en2 ?_;intro u hG b2 b1 hB hF;refine B9o (rdC A8 [] [(0,0),(0,3),(1,1),(1,2),(1,4),(1,5),(0,6)] hB hG λK L hN hL=>?_);refine gs ?_;refine gmw (C:=λv=>B5N _ _) ?_;refine grd (A1W q.num) (λ(x5:Ax)=>?_) (C:=λv _=>B5u q.num h1 _);refine gmd (C:=by(rintro v ⟨⟨hgu,hB,hG,-⟩,hx5⟩;have hx5:Rn v x5 _:=hx5;exact X8 _ (by assumption) _)) ?_;refine grd (V5 q.den) (λ(x8:Ax)=>?_) (C:=by(rintro v ⟨⟨hgu,hB,hG,-⟩,hx5⟩;have hx5:Rn v x5 _:=hx5;exact A9W q.den h2 _));refine gs ?_;refine geC hL ?_;clear hB hG hL L;rintro u ⟨⟨⟨-,hB,hG,-⟩,hx5⟩,hx8⟩;replace hx5:Rn u x5 _:=hx5;replace hx8:Rn u x8 _:=hx8;refine gtT ?_;clear hN K;refine sv hB hF hG 1 0 [_,_,_] ?_;intro u hu hBG;replace hx5:=hx5.put hB 1 rfl (by first|decide|simp) _ _ hu;replace hx8:=hx8.put hB 1 rfl (by first|decide|simp) _ _ hu;clear hB hG hu;obtain⟨hB,hG⟩:=hBG;refine rt Tryz.results100 ?_;exact⟨(x5,x8),rfl,⟨hx5,hx8⟩,hG⟩
theorem A93(x y:Ax)(a:Nat)(w:World)(hx:Rn w x a)(hy:Rn w y a):Calls Tryz.prog 101 #[nvV x a,nvV y a] w λe w'=>e = .returned (.int .i64 0)/\A4 w w':=by
 have:=A4E x y a a w hx hy;rw[A2V rfl]at this;exact this
theorem B1n(q:Rat)(x y:Ax)(ha:qs q<=LIM)(w:World)(hx:Rn w x q.num.natAbs)(hy:Rn w y q.den):Calls Tryz.prog 37 #[qV q,rqV x y q] w λe w'=>e = .returned (.bool true)/\A4 w w':=by
 have hl:0<ln q.den:=A2G.2 q.den_nz;have hlb:((ln q.den:Int) == 0)=false:=by simp;omega
 go_enter Tryz.func37,Tryz.ntmps37;refine en2 ?_;intro u hG b3 b2 hB hF;replace hx:=hx.grow hG;replace hy:=hy.grow hG;refine B9o (rsC A7a [0,1,2] hB hG λK L hN hL=>?_);refine gs ?_;refine grd (A0C q) (λ(x7:Ax×Ax)=>?_) (C:=λv _=>B6i q ha _);refine gaa (A9y _ _ _ _ _) λb5 hb5 hn5=>?_;replace hF:=hF.n1 [] hB hG hb5 hn5;refine geC hL ?_;clear hB hG hL L;rintro u ⟨⟨⟨hgu,hB,hG,-⟩,hx7⟩,h5⟩;replace hB:=hB.cons' h5;clear h5;replace hx:=hx.grow hgu;replace hy:=hy.grow hgu;obtain⟨hx7a,hx7b⟩:Rn u x7.1 _/\Rn u x7.2 _:=hx7;clear hb5 hn5;clear hgu;refine gtT ?_;clear hN K;refine sv hB hF hG 0 0 [_,_,_] ?_;intro u hu hBG;replace hx:=hx.put hB 0 rfl (by first|decide|simp) _ _ hu;replace hy:=hy.put hB 0 rfl (by first|decide|simp) _ _ hu;replace hx7a:=hx7a.put hB 0 rfl (by first|decide|simp) _ _ hu;replace hx7b:=hx7b.put hB 0 rfl (by first|decide|simp) _ _ hu;clear hB hG hu;obtain⟨hB,hG⟩:=hBG;refine B9o ?_;refine r0T ?_;refine B9u (rfl) ?_;refine B9v ?_;refine A6 ?_;refine B9o (rsE A7a [0,0,0,0,0,0,1,0,0,0,0,0,0,0,0,0,0,0,0,0,0,0,1,0,0,0] hB hG λL hL=>?_);refine gs ?_;refine gmd (C:=λv ⟨hgu,hB,hG,_⟩=>A93 x7.1 x q.num.natAbs _ (hx7a.grow hgu) (hx.grow hgu)) ?_;refine gs ?_
 first|refine gmd (C:=λv ⟨hgu,hB,hG,_⟩=>A93 x7.2 y q.den _ (hx7b.grow hgu) (hy.grow hgu)) ?_|refine N0 ?_
 refine gs ?_;refine geT hL ?_;clear hB hG hL L;rintro u ⟨hgu,hB,hG,-⟩;replace hx:=hx.grow hgu;replace hy:=hy.grow hgu;replace hx7a:=hx7a.grow hgu;replace hx7b:=hx7b.grow hgu;clear hgu;refine rt Tryz.results37 ?_;exact⟨rfl,hG⟩
theorem B71(n d:Int)(h0 : -9223372036854775808<=n)(h1:n<=9223372036854775807)(h2 : -9223372036854775808<=d)(h3:d<=9223372036854775807)(hd:d≠0)(ha:qs (K3 n d)<=LIM)(w:World):Calls Tryz.prog 52 #[qV (K3 n d),.int .i64 n,.int .i64 d] w λe w'=>e = .returned (.bool true)/\A4 w w':=by
 go_enter Tryz.func52,Tryz.ntmps52;refine en1 ?_;intro u hG b3 hB hF;refine B9o (rdC A8 [] [(0,0),(0,1),(0,2),(1,3),(1,4)] hB hG λK L hN hL=>?_);refine gs ?_;refine grd (A0C (K3 n d)) (λ(x10:Ax×Ax)=>?_) (C:=λv _=>B0O n d h0 h1 h2 h3 hd _);refine gmd (C:=by(rintro v ⟨⟨hgu,hB,hG,-⟩,hx10⟩;obtain⟨hx10a,hx10b⟩:Rn v x10.1 _/\Rn v x10.2 _:=hx10;exact B1n (K3 n d) x10.1 x10.2 ha _ hx10a hx10b)) ?_;refine geC hL ?_;clear hB hG hL L;rintro u ⟨⟨-,hB,hG,-⟩,hx10⟩;obtain⟨hx10a,hx10b⟩:Rn u x10.1 _/\Rn u x10.2 _:=hx10;refine gtT ?_;clear hN K;refine rt Tryz.results52 ?_;exact⟨rfl,hG⟩
def K8(n m:Int):Int:=n%m
theorem A2N(n:Int){m:Int}(h:0<m):0<=K8 n m/\K8 n m<m:=⟨Int.emod_nonneg _ (by omega),Int.emod_lt_of_pos _ h⟩
theorem B1w(n m:Int)(hm:0<m)(hm2:m<=9223372036854775807)(w:World):Calls Tryz.prog 24 #[.int .i64 n,.int .i64 m] w λe w'=>e = .returned (.int .i64 (K8 n m))/\w=w':=by
 have h0:¬m=0:=by omega
 obtain⟨t,ht⟩:∃t,t=n.tmod m:=⟨_,rfl⟩
 have hp:K8 n m=if t<0 then t+m else t:=by
  rw[ht];unfold K8;have h1:=Int.emod_nonneg n (show m≠0 by omega);have h2:=Int.emod_lt_of_pos n hm;rw[Int.tmod_eq_emod];split<;>split<;>omega
 have hb : -m<t/\t<m:=by
  rw[ht];have h1:=Int.emod_nonneg n (show m≠0 by omega);have h2:=Int.emod_lt_of_pos n hm;rw[Int.tmod_eq_emod];split<;>omega
 have htm:n.tmod m=t:=ht.symm;have hw1:IntKind.i64.wrap t=t:=C0A _ (by omega);clear ht;by_cases hneg:t<0
 ·rw[if_pos hneg]at hp;have hw2:IntKind.i64.wrap (t+m)=t+m:=C0A _ (by omega);have Hp:=B9t hp;clear hp;go_enter Tryz.func24,Tryz.ntmps24;go_wp2_with fail;go_ret;exact⟨N8 Hp.out.symm,rfl⟩
 ·rw[if_neg hneg]at hp;have Hp:=B9t hp;clear hp;go_enter Tryz.func24,Tryz.ntmps24;go_wp2_with fail;go_ret;exact⟨N8 Hp.out.symm,rfl⟩
end Go.Proofs.YtgpglgbcobeogaaGreatDoor
