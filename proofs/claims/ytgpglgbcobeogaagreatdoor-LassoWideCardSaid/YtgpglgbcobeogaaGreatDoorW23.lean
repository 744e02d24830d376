import Derived.Test.YtgpglgbcobeogaaGreatDoorW22
set_option linter.unusedSimpArgs false
set_option linter.unusedVariables false
set_option maxHeartbeats 1000000
set_option maxRecDepth 100000
namespace Go.Proofs.YtgpglgbcobeogaaGreatDoor
open Go.RowKit
theorem A6x(x y:Ax)(a b:Nat)(w:World)(hx:Rn w x a)(hy:Rn w y b)(h0:b≠0)(ha:bl a≤BIG):Calls Tryz.prog 138 #[nvV x a,nvV y b] w (Ret (nnR (a/b) (a%b)) w):=by
 by_cases hs:b<W32
 ·exact B14 x y a b w hx hy h0 hs
 ·by_cases hlt:a<b
  ·exact B0d x y a b w hx hy hlt
  ·refine B4t x y a b w hx hy (by omega) ?_ ha;have h1:=A7C (Nat.not_lt.1 hs);have h2:ln W32=2:=by decide +kernel
   omega
theorem B2Q(x y:Ax)(a b:Nat)(w:World)(hx:Rn w x a)(hy:Rn w y b)(ha:bl a≤BIG)(hb:bl b≤BIG):Calls Tryz.prog 137 #[nvV x a,nvV y b] w (Ret (U7 (Nat.gcd a b)) w):=by
 have Hx:=B9g hx;have Hy:=B9g hy;have Ha:=B9g ha;have Hb:=B9g hb;obtain⟨g,hg⟩:∃g,g=Nat.gcd a b:=⟨_,rfl⟩
 rw[←hg];have Hg:=B9g hg.symm;clear hx hy ha hb hg;go_enter Tryz.func137,Tryz.ntmps137;go_wp2_with fail;go_loopg [0,1] b (fun k s t wr=>∃(x y:Ax) (a:Nat),s=nvV x a∧t=nvV y k∧Nat.gcd a k=g∧(bl a≤BIG∧bl k≤BIG)∧Rn wr x a∧Rn wr y k∧A4 w wr)
 case atStart=>exact⟨x,y,a,rfl,rfl,Hg.out,⟨Ha.out,Hb.out⟩,Hx.out,Hy.out,A4.refl _⟩
 case round =>
  obtain⟨x,y,a,rfl,rfl,hgc,hs,hx,hy,hG⟩:=hrel;rcases B9a gk with h0|h0
  ·have hl:¬0<ln gk:=by rw[h0,A6j];omega
   have Hgc:Hid (a=g):=by rw[h0,C0g]at hgc;exact B9g hgc
   have Hr:=B9g hx;clear hgc hs hx hy h0;go_wp2_with fail;go_ret;exact⟨x,by rw[←Hgc.out];rfl,by rw[←Hgc.out];exact Hr.out,hG⟩
  ·have hl:0<ln gk:=A2M.2 (by omega);have hdv:=A6x x y a gk wr hx hy (by omega) hs.1;obtain⟨q,hq⟩:∃q,q=a/gk:=⟨_,rfl⟩
   obtain⟨m,hm⟩:∃m,m=a%gk:=⟨_,rfl⟩
   have hmlt:m<gk:=by rw[hm];exact B9p _ h0
   have Hgc:Hid (Nat.gcd gk m=g):=by rw[hm];exact B9g (A0P a gk g hgc)
   rw[←hq,←hm]at hdv;have Hdv:=B9g (Ret.nn hdv);have Hy:=B9g hy;have Hs:Hid (bl gk≤BIG∧bl m≤BIG):=B9g ⟨hs.2,B9Y (S5 (B9P hmlt)) hs.2⟩;clear hgc hs hx hy hq hm hdv;go_wp2_with (go_at_call 138;((with_reducible refine(Hdv.out).mono ?_);rintro e w1 ⟨y1,y2,rfl,hr1,hr2,hg1⟩));go_roundg m
   case rel=>exact⟨y,y2,gk,rfl,rfl,Hgc.out,Hs.out,Hy.out.grow hg1,hr2,hG.trans hg1⟩
   case measure=>exact hmlt
theorem B7g(d:Option Tmp)(ty:TypeId)(pos:String)(af:Array Edge)(gd:Option (Nat×Bool)):M8 Tryz.prog ⟨d,.alloc 31,ty,pos,af,gd⟩ = .cells #[.bool false,.slice none 0 0] 31:=by kernel_rfl
theorem A7z(d:Option Tmp)(ty:TypeId)(pos:String)(af:Array Edge)(gd:Option (Nat×Bool)):M8 Tryz.prog ⟨d,.alloc 33,ty,pos,af,gd⟩ = .cells #[.bool false,.slice none 0 0,.slice none 0 0] 33:=by kernel_rfl
theorem A4u(x:Ax)(neg:Bool)(a:Nat):riV x (sgn neg a) = .agg #[.bool (neg&&decide (a≠0)),.slice x.1 (ln a) x.2]:=by
 unfold riV;rw[A7c,A1F]
theorem B3L(x:Ax)(a:Nat)(w:World):Calls Tryz.prog 78 #[.bool false,nvV x a] w fun e w'=>e = .returned (riV x (sgn false a))∧A4 w w':=by
 rw[A4u,Bool.false_and];go_enter Tryz.func78,Tryz.ntmps78;refine en1 ?_;intro u hG b4 hB hF;refine r0T ?_;refine st hB hF hG 0 0 [_,_] ?_;clear hB hG;intro u hB hG;refine rt Tryz.results78 ?_;exact⟨rfl,hG⟩
theorem B5V(x:Ax)(a:Nat)(w:World):Calls Tryz.prog 78 #[.bool true,nvV x a] w fun e w'=>e = .returned (riV x (sgn true a))∧A4 w w':=by
 rw[A4u,Bool.true_and];have hd:decide (a≠0)=decide (0<ln a):=by
  have:=@A2M a;rw[decide_eq_decide];exact this.symm
 rw[hd];clear hd;go_enter Tryz.func78,Tryz.ntmps78;refine en1 ?_;intro u hG b4 hB hF;refine r0T ?_;refine st hB hF hG 0 0 [_,_] ?_;clear hB hG;intro u hB hG;refine rt Tryz.results78 ?_;exact⟨rfl,hG⟩
theorem A1p(x:Ax)(neg:Bool)(a:Nat)(w:World):Calls Tryz.prog 78 #[.bool neg,nvV x a] w fun e w'=>e = .returned (riV x (sgn neg a))∧A4 w w':=by
 cases neg
 ·exact B3L x a w
 ·exact B5V x a w
theorem B3m(n:Int)(h0:n<0)(h1 : -9223372036854775808≤n)(w:World):Calls Tryz.prog 77 #[.int .i64 n] w (Ret (A00 n) w):=by
 have hw1:IntKind.u64.wrap n=n+18446744073709551616:=by
  simp[IntKind.wrap,IntKind.signed,IntKind.bits];omega
 have hw2:IntKind.u64.wrap (-(n+18446744073709551616))=(n.natAbs:Nat):=by
  simp[IntKind.wrap,IntKind.signed,IntKind.bits];omega
 have hlt:n.natAbs<W64:=by unfold W64;omega
 have hd:decide (n<0)=true:=by simpa using h0
 have hn:sgn true n.natAbs=n:=by rw[B4D];omega
 have Hn:=B9g hn;clear hn;go_enter Tryz.func77,Tryz.ntmps77;refine en1 ?_;intro u hG b2 hB hF;refine B9b ?_;refine r0T ?_;refine B9j (rfl) ?_;refine B9b (rsC A8 [0,0,0,1,1] hB hG fun K L hN hL=>?_);refine gs ?_;refine grd (U7 n.natAbs) (fun(x8:Ax)=>?_) (C:=fun v _=>A4M n.natAbs hlt _);refine gmd (C:=by(rintro v ⟨⟨hgu,hB,hG,-⟩,hx8⟩;have hx8:Rn v x8 _:=hx8;exact A1p x8 true n.natAbs _)) ?_;refine geC hL ?_;clear hB hG hL L;rintro u ⟨⟨-,hB,hG,-⟩,hx8⟩;replace hx8:Rn u x8 _:=hx8;refine gtT ?_;clear hN K;refine sv hB hF hG 0 0 [_,_] ?_;intro u hu hBG;replace hx8:=hx8.put hB 0 rfl (by first|decide|simp) _ _ hu;clear hB hG hu;obtain⟨hB,hG⟩:=hBG;refine rt Tryz.results77 ?_;exact⟨x8,C0r (fun z:Int=>Ending.returned (riV x8 z)) Hn.out,hx8,hG⟩
theorem B8n(n:Int)(h0:0≤n)(h1:n≤9223372036854775807)(w:World):Calls Tryz.prog 77 #[.int .i64 n] w (Ret (A00 n) w):=by
 have hw1:IntKind.u64.wrap n=(n.natAbs:Nat):=by
  simp[IntKind.wrap,IntKind.signed,IntKind.bits];omega
 have hlt:n.natAbs<W64:=by unfold W64;omega
 have hd:decide (n<0)=false:=by simpa using h0
 have hn:sgn false n.natAbs=n:=by rw[B0B];omega
 have Hn:=B9g hn;clear hn;go_enter Tryz.func77,Tryz.ntmps77;refine en1 ?_;intro u hG b2 hB hF;refine B9b ?_;refine r0T ?_;refine B9h (rfl) ?_;refine B9i ?_;refine A6 ?_;refine B9b (rsC A8 [0,0,1,1] hB hG fun K L hN hL=>?_);refine gs ?_;refine grd (U7 n.natAbs) (fun(x12:Ax)=>?_) (C:=fun v _=>A4M n.natAbs hlt _);refine gmd (C:=by(rintro v ⟨⟨hgu,hB,hG,-⟩,hx12⟩;have hx12:Rn v x12 _:=hx12;exact A1p x12 false n.natAbs _)) ?_;refine geC hL ?_;clear hB hG hL L;rintro u ⟨⟨-,hB,hG,-⟩,hx12⟩;replace hx12:Rn u x12 _:=hx12;refine gtT ?_;clear hN K;refine sv hB hF hG 0 0 [_,_] ?_;intro u hu hBG;replace hx12:=hx12.put hB 0 rfl (by first|decide|simp) _ _ hu;clear hB hG hu;obtain⟨hB,hG⟩:=hBG;refine rt Tryz.results77 ?_;exact⟨x12,C0r (fun z:Int=>Ending.returned (riV x12 z)) Hn.out,hx12,hG⟩
theorem A58(n:Int)(h0 : -9223372036854775808≤n)(h1:n≤9223372036854775807)(w:World):Calls Tryz.prog 77 #[.int .i64 n] w (Ret (A00 n) w):=by
 by_cases h:n<0
 ·exact B3m n h h0 w
 ·exact B8n n (by omega) h1 w
theorem A4Z{x y:Ax}{z:Int}{d:Nat}{q:Rat}(h1:q.num=z)(h2:q.den=d):Ending.returned (.agg #[.bool (D6 z),.slice x.1 (ln z.natAbs) x.2,.slice y.1 (ln d) y.2]) = .returned (rqV x y q):=by subst h1;subst h2;rfl
theorem A7s(n d:Int)(h:d≠0):(I6 n d).num=sgn (D6 n != D6 d) (n.natAbs/Nat.gcd n.natAbs d.natAbs):=by
 have hd:d.natAbs≠0:=by omega
 by_cases hn:d<0
 ·rw[A5N n d hn,A5x _ _ hd,←A54];have e1:(A0k n).natAbs=n.natAbs:=by unfold A0k;exact C0h n
  rw[e1];have e2:D6 d=true:=C0L hn;rw[e2];by_cases h0:n=0
  ·subst h0;simp[sgn]
  ·congr 1;unfold D6 A0k;rw[Bool.eq_iff_iff];simp;omega
 ·rw[A5T n d hn,A5x _ _ hd,←A54];have e2:D6 d=false:=C0Q hn;rw[e2];simp
theorem B0x(n d:Int)(h:d≠0):(I6 n d).den=d.natAbs/Nat.gcd n.natAbs d.natAbs:=by
 have hd:d.natAbs≠0:=by omega
 by_cases hn:d<0
 ·rw[A5N n d hn,A6D _ _ hd];unfold A0k;rw[C0h]
 ·rw[A5T n d hn,A6D _ _ hd]
theorem B5a(x y:Ax)(n d:Int)(w:World)(hx:Rn w x n.natAbs)(hy:Rn w y d.natAbs)(h0:d≠0)(hn:bl n.natAbs≤BIG)(hd:bl d.natAbs≤BIG):Calls Tryz.prog 76 #[riV x n,riV y d] w (Ret (W7 (I6 n d)) w):=by
 have He:=B9g (And.intro (A7s n d h0) (B0x n d h0));have hd0:d.natAbs≠0:=by omega
 have g0:Nat.gcd n.natAbs d.natAbs≠0:=fun e=>hd0 (C0n e);go_enter Tryz.func76,Tryz.ntmps76;refine en3 ?_;intro u hG b4 b3 b2 hB hF;replace hx:=hx.grow hG;replace hy:=hy.grow hG;refine B9b (rsE A8 [0,0,0,0,1,0] hB hG fun L hL=>?_);refine gs ?_;refine grd (U7 (Nat.gcd n.natAbs d.natAbs)) (fun(x14:Ax)=>?_) (C:=by(rintro v ⟨hgu,hB,hG,-⟩;exact B2Q x y n.natAbs d.natAbs _ (hx.grow hgu) (hy.grow hgu) hn hd));refine gs ?_;refine geT hL ?_;clear hB hG hL L;rintro u ⟨⟨hgu,hB,hG,-⟩,hx14⟩;replace hx:=hx.grow hgu;replace hy:=hy.grow hgu;replace hx14:Rn u x14 _:=hx14;clear hgu;refine B9b (rsE A8 [0,0,0,1,0,0,0,0,0] hB hG fun L hL=>?_);refine gs ?_;refine grd (nnR (n.natAbs/Nat.gcd n.natAbs d.natAbs) (n.natAbs%Nat.gcd n.natAbs d.natAbs)) (fun(x19:Ax×Ax)=>?_) (C:=by(rintro v ⟨hgu,hB,hG,-⟩;exact A6x x x14 n.natAbs _ _ (hx.grow hgu) (hx14.grow hgu) g0 hn));refine gs ?_;refine geT hL ?_;clear hB hG hL L;rintro u ⟨⟨hgu,hB,hG,-⟩,hx19⟩;replace hx:=hx.grow hgu;replace hy:=hy.grow hgu;replace hx14:=hx14.grow hgu;obtain⟨hx19a,hx19b⟩:Rn u x19.1 _∧Rn u x19.2 _:=hx19;clear hgu;refine B9b (rsE A8 [0,0,0,1,0,0,0,0,0] hB hG fun L hL=>?_);refine gs ?_;refine grd (nnR (d.natAbs/Nat.gcd n.natAbs d.natAbs) (d.natAbs%Nat.gcd n.natAbs d.natAbs)) (fun(x26:Ax×Ax)=>?_) (C:=by(rintro v ⟨hgu,hB,hG,-⟩;exact A6x y x14 d.natAbs _ _ (hy.grow hgu) (hx14.grow hgu) g0 hd));refine gs ?_;refine geT hL ?_;clear hB hG hL L;rintro u ⟨⟨hgu,hB,hG,-⟩,hx26⟩;replace hx:=hx.grow hgu;replace hy:=hy.grow hgu;replace hx14:=hx14.grow hgu;replace hx19a:=hx19a.grow hgu;replace hx19b:=hx19b.grow hgu;obtain⟨hx26a,hx26b⟩:Rn u x26.1 _∧Rn u x26.2 _:=hx26;clear hgu;refine B9b (rsC A8 [0,0,0,0,0,0,1,0,0] hB hG fun K L hN hL=>?_);refine gs ?_;refine gmw (C:=fun v=>A1p x19.1 _ (n.natAbs/Nat.gcd n.natAbs d.natAbs) _) ?_;refine gs ?_;refine geC hL ?_;clear hB hG hL L;rintro u ⟨hgu,hB,hG,-⟩;replace hx:=hx.grow hgu;replace hy:=hy.grow hgu;replace hx14:=hx14.grow hgu;replace hx19a:=hx19a.grow hgu;replace hx19b:=hx19b.grow hgu;replace hx26a:=hx26a.grow hgu;replace hx26b:=hx26b.grow hgu;clear hgu;refine gtT ?_;clear hN K;refine sv hB hF hG 2 0 [_,_,_] ?_;intro u hu hBG;replace hx:=hx.put hB 2 rfl (by first|decide|simp) _ _ hu;replace hy:=hy.put hB 2 rfl (by first|decide|simp) _ _ hu;replace hx14:=hx14.put hB 2 rfl (by first|decide|simp) _ _ hu;replace hx19a:=hx19a.put hB 2 rfl (by first|decide|simp) _ _ hu;replace hx19b:=hx19b.put hB 2 rfl (by first|decide|simp) _ _ hu;replace hx26a:=hx26a.put hB 2 rfl (by first|decide|simp) _ _ hu;replace hx26b:=hx26b.put hB 2 rfl (by first|decide|simp) _ _ hu;clear hB hG hu;obtain⟨hB,hG⟩:=hBG;refine rt Tryz.results76 ?_;exact⟨(x19.1,x26.1),A4Z He.out.1 He.out.2,⟨by rw[He.out.1,A1F];exact hx19a,by rw[He.out.2];exact hx26a⟩,hG⟩
theorem B0O(n d:Int)(h0 : -9223372036854775808≤n)(h1:n≤9223372036854775807)(h2 : -9223372036854775808≤d)(h3:d≤9223372036854775807)(hd:d≠0)(w:World):Calls Tryz.prog 25 #[.int .i64 n,.int .i64 d] w (Ret (W7 (I6 n d)) w):=by
 go_enter Tryz.func25,Tryz.ntmps25;refine en1 ?_;intro u hG b4 hB hF;refine B9b (rsC A8 [0,1,0,1,1] hB hG fun K L hN hL=>?_);refine gs ?_;refine grd (A00 n) (fun(x6:Ax)=>?_) (C:=fun v _=>A58 n h0 h1 _);refine gs ?_;refine grd (A00 d) (fun(x8:Ax)=>?_) (C:=by(rintro v ⟨⟨hgu,hB,hG,-⟩,hx6⟩;have hx6:Rn v x6 _:=hx6;exact A58 d h2 h3 _));refine grd (W7 (I6 n d)) (fun(x9:Ax×Ax)=>?_) (C:=by(rintro v ⟨⟨⟨hgu,hB,hG,-⟩,hx6⟩,hx8⟩;have hx6:Rn v x6 _:=hx6;have hx8:Rn v x8 _:=hx8;exact B5a x6 x8 n d _ hx6 hx8 hd (B0e h0 h1) (B0e h2 h3)));refine geC hL ?_;clear hB hG hL L;rintro u ⟨⟨⟨⟨-,hB,hG,-⟩,hx6⟩,hx8⟩,hx9⟩;replace hx6:Rn u x6 _:=hx6;replace hx8:Rn u x8 _:=hx8;obtain⟨hx9a,hx9b⟩:Rn u x9.1 _∧Rn u x9.2 _:=hx9;refine gtT ?_;clear hN K;refine sv hB hF hG 0 0 [_,_,_] ?_;intro u hu hBG;replace hx6:=hx6.put hB 0 rfl (by first|decide|simp) _ _ hu;replace hx8:=hx8.put hB 0 rfl (by first|decide|simp) _ _ hu;replace hx9a:=hx9a.put hB 0 rfl (by first|decide|simp) _ _ hu;replace hx9b:=hx9b.put hB 0 rfl (by first|decide|simp) _ _ hu;clear hB hG hu;obtain⟨hB,hG⟩:=hBG;refine rt Tryz.results25 ?_;exact⟨x9,rfl,⟨hx9a,hx9b⟩,hG⟩
theorem B6P(w:World):Calls Tryz.prog 109 #[.int .u64 1] w (Ret (U7 1) w):=A4M 1 (by unfold W64;omega) w
theorem A55(n:Int)(h0 : -9223372036854775808≤n)(h1:n≤9223372036854775807)(w:World):Calls Tryz.prog 42 #[.int .i64 n] w (Ret (W7 (C1 n)) w):=by
 go_enter Tryz.func42,Tryz.ntmps42;refine en1 ?_;intro u hG b2 hB hF;refine B9b (rsC A8 [0,1,1,0] hB hG fun K L hN hL=>?_);refine gs ?_;refine grd (A00 n) (fun(x4:Ax)=>?_) (C:=fun v _=>A58 n h0 h1 _);refine grd (U7 1) (fun(x5:Ax)=>?_) (C:=by(rintro v ⟨⟨hgu,hB,hG,-⟩,hx4⟩;have hx4:Rn v x4 _:=hx4;exact B6P _));refine gs ?_;refine geC hL ?_;clear hB hG hL L;rintro u ⟨⟨⟨-,hB,hG,-⟩,hx4⟩,hx5⟩;replace hx4:Rn u x4 _:=hx4;replace hx5:Rn u x5 _:=hx5;refine gtT ?_;clear hN K;refine sv hB hF hG 0 0 [_,_,_] ?_;intro u hu hBG;replace hx4:=hx4.put hB 0 rfl (by first|decide|simp) _ _ hu;replace hx5:=hx5.put hB 0 rfl (by first|decide|simp) _ _ hu;clear hB hG hu;obtain⟨hB,hG⟩:=hBG;refine rt Tryz.results42 ?_;exact⟨(x4,x5),A4Z (A59 n) (A6C n),⟨by rw[A59];exact hx4,by rw[A6C];exact hx5⟩,hG⟩
theorem B2E(zs:List Nat)(V k y:Nat)(hd:Dig W32 zs)(hk:k/4<zs.length)(hv:val W32 zs=V*256^(k+1))(hy:y<256) :
  dg zs (k/4) ||| y*2^(8*(k%4))=dg zs (k/4)+y*2^(8*(k%4))∧dg zs (k/4)+y*2^(8*(k%4))<W32∧val W32 (zs.set (k/4) (dg zs (k/4)+y*2^(8*(k%4))))=(V*256+y)*256^k:=by
 have e1:(256:Nat)^k=W32^(k/4)*2^(8*(k%4)):=by
  rw[show W32=2^32 from rfl,show(256:Nat)=2^8 from rfl,←B9m,←B9m,←B9o];congr 1;omega
 have hdv:2^(8*(k%4)+8) ∣ dg zs (k/4):=by
  have h1:dg zs (k/4)=val W32 zs/W32^(k/4)%W32:=by
   have h2:=N4 W32 zs (k/4);have h3:val W32 zs=val W32 (zs.take (k/4+1))+W32^(k/4+1)*val W32 (zs.drop (k/4+1)):=by
    have:=A0F W32 (zs.take (k/4+1)) (zs.drop (k/4+1));rw[B9R,List.length_take,C0H (by omega)]at this;exact this
   have h4:val W32 (zs.take (k/4))<W32^(k/4):=by
    have:=J7 (B:=W32) (l:=zs.take (k/4)) (fun x hx=>hd x (B93 hx))
    rwa [List.length_take,C0H (by omega)]at this
   have h5:=C4 F6 hd (k/4);rw[h3,h2,Nat.pow_succ,C0e,C0u,←C02,C0y _ _ (C07 F6),C0E h4,Nat.zero_add,C0W,Nat.mod_eq_of_lt h5]
  rw[h1,hv];have e2:V*256^(k+1)=W32^(k/4)*(V*2^(8*(k%4)+8)):=by
   rw[Nat.pow_succ,e1,B9o];simp only[show(256:Nat)=2^8 from rfl];grind
  rw[e2,Nat.mul_div_cancel_left _ (C07 F6)];refine(Nat.dvd_mod_iff ?_).2 (C0T _ _);rw[show W32=2^32 from rfl];exact Nat.pow_dvd_pow 2 (by omega)
 have hlt:y*2^(8*(k%4))<2^(8*(k%4)+8):=by
  rw[B9o,B97];exact Nat.mul_lt_mul_of_pos_left hy (Nat.two_pow_pos _)
 refine⟨A2b hlt hdv,?_,?_⟩
 ·obtain⟨c,hc⟩:=hdv;have h5:=C4 F6 hd (k/4);rw[hc]at h5⊢;have e3:W32=2^(8*(k%4)+8)*2^(24-8*(k%4)):=by
   rw[←B9o,show W32=2^32 from rfl];congr 1;omega
  rw[e3]at h5⊢;have h6:=Nat.lt_of_mul_lt_mul_left h5
  calc 2^(8*(k%4)+8)*c+y*2^(8*(k%4))<2^(8*(k%4)+8)*c+2^(8*(k%4)+8):=by omega
   _=2^(8*(k%4)+8)*(c+1):=by rw[C02,C0d]
   _≤_:=C0Z _ h6
 ·have h7:=Y0 W32 zs (k/4) (dg zs (k/4)+y*2^(8*(k%4))) hk;rw[hv,C02]at h7;have e4:(V*256+y)*256^k=V*256^(k+1)+W32^(k/4)*(y*2^(8*(k%4))):=by
   rw[C0v,Nat.pow_succ,e1];grind
  omega
theorem B1N(a b:Nat)(ha:a<4294967296)(hb:b<4294967296):bits .or .u32 (a:Int) (b:Int)=((a ||| b:Nat):Int):=by
 have hx:a ||| b<2^32:=Nat.or_lt_two_pow (by omega) (by omega)
 have h1:(BitVec.ofInt 32 (a:Int)).toNat=a:=by
  rw[BitVec.ofInt_natCast,BitVec.toNat_ofNat];exact Nat.mod_eq_of_lt (by omega)
 have h2:(BitVec.ofInt 32 (b:Int)).toNat=b:=by
  rw[BitVec.ofInt_natCast,BitVec.toNat_ofNat];exact Nat.mod_eq_of_lt (by omega)
 show IntKind.u32.wrap ((BitVec.ofInt 32 (a:Int) ||| BitVec.ofInt 32 (b:Int)).toNat:Int)=_;rw[BitVec.toNat_or,h1,h2];simp[IntKind.wrap,IntKind.signed,IntKind.bits];omega
theorem B0t(n:Nat)(h:n<4294967296):IntKind.u32.wrap (n:Int)=(n:Int):=by
 simp[IntKind.wrap,IntKind.signed,IntKind.bits];omega
theorem B6k(A:Option Addr)(a:Nat)(w:World)(ha:bl a≤1099511627760)(hA:By w A (byt a).reverse):Calls Tryz.prog 186 #[.slice A (byt a).length (byt a).length] w (Ret (U7 a) w):=by
 obtain⟨n,hn⟩:∃n,n=(byt a).length:=⟨_,rfl⟩
 have hnb:n≤137438953471:=by rw[hn,A2s];omega
 obtain⟨m,hm⟩:∃m,m=(n+3)/4:=⟨_,rfl⟩
 have hmi:((n:Int)+3)/4=(m:Int):=by omega
 have hmt:((n:Int)+3).tdiv 4=(m:Int):=by rw[B9e (by omega)];exact hmi
 have hmk:=A4y m (by omega) (m:Int) rfl;rw[←hn];have HA:=B9g hA;have Hn:=B9g hn;have Hm:=B9g hm;have hmb:m≤34359738368:=by omega
 clear hA hn hm;go_enter Tryz.func186,Tryz.ntmps186;go_wp2_with fail;clear hmk hmi hmt;go_loopw [4] (fun s wr=>∃(i:Nat) (zs:List Nat),i≤n∧s = .int .i64 i∧zs.length=m∧Dig W32 zs∧val W32 zs=a/256^(n-i)*256^(n-i)∧T7 wr w.heap.size zs∧A4 w wr) (fun s _=>n-(intOf s).toNat)
 case atStart=>exact⟨0,List.replicate m 0,B9y _,rfl,by simp,fun z hz=>(by rw[(List.mem_replicate.1 hz).2];exact F6),by
   rw[A1i,Nat.sub_zero,C0E,B96];have:=J7 (A2P a);rw[←Hn.out]at this;unfold byt at this
   rwa [E3 (by omega)]at this,Blk.new w 193 _,A4.alloc _ _⟩
 case round =>
  obtain⟨i,zs,hi,rfl,hl,hd,hv,hR,hG⟩:=hrel;have HR:=B9g hR;have HG:=B9g hG;have Hd:=B9g hd;have Hv:=B9g hv;have Hl:=B9g hl;clear hl hd hv hR hG;rcases B9H i n with hlt|hge
  ·obtain⟨k,hk⟩:∃k,k=n-1-i:=⟨_,rfl⟩
   have hni:n-i=k+1:=by omega
   have hki:(n:Int)-1-(i:Int)=(k:Int):=by omega
   have hkq:k/4<zs.length:=by rw[Hl.out,Hm.out];omega
   obtain⟨b1,o1,rfl,hc1⟩:=(HA.out.grow HG.out).cell (i:=i) (by rw[C0C,←Hn.out];exact hlt);rw[A8D (by rw[←Hn.out];exact hlt),←Hn.out,←hk]at hc1;have hby:=C4 (by omega) (A2P a) k;have hv1:=Hv.out;rw[hni]at hv1;obtain⟨l1,l2,l3⟩:=B2E zs _ k _ Hd.out hkq hv1 hby
   have hc2:=HR.out.cell hkq;have hf2:=HR.out.frozen (k/4);have hzl:=C4 F6 Hd.out (k/4);have hkm:k/4<m:=by rw[←Hl.out];exact hkq
   have hstep:a/256^(k+1)*256+dg (byt a) k=a/256^k:=by
    unfold byt;rw[A3c (by omega),Nat.pow_succ,←B9k];omega
   rw[hstep]at l3;obtain⟨q,hq⟩:∃q,q=k/4:=⟨_,rfl⟩
   obtain⟨r,hr⟩:∃r,r=k%4:=⟨_,rfl⟩
   have hr8:r<4:=by omega
   have hqi:(k:Int)/4=(q:Int):=by omega
   have hri:(k:Int)%4=(r:Int):=by omega
   obtain⟨y,hy⟩:∃y,y=dg (byt a) k:=⟨_,rfl⟩
   obtain⟨x,hx⟩:∃x,x=dg zs (k/4):=⟨_,rfl⟩
   rw[←hx]at hc2 l1 l2 l3 hzl;rw[←hy]at hc1 hby l1 l2 l3;rw[←hq]at hc2 hf2 hkm l3;rw[←hr]at l1 l2 l3;have L1:=B9g l1;have L2:=B9g l2;have L3:=B9g l3;unfold W32 at hzl;have hw1:IntKind.i64.wrap (q:Int)=(q:Int):=B9x _ (by omega);have hw2:IntKind.i64.wrap (r:Int)=(r:Int):=B9x _ (by omega);have hw3:IntKind.i64.wrap (8*(r:Int))=8*(r:Int):=B9x _ (by omega);have hw4:IntKind.u64.wrap (8*(r:Int))=8*(r:Int):=u64_wrap_id (x:=8*(r:Int)) (by omega) (by omega);have hw5:(8*(r:Int)).toNat=8*r:=by omega
   have hw6:(k:Int).tmod 4=(r:Int):=by rw[B9f (by omega)];exact hri
   have hw7:=B0t y (by omega);have hw8:min (8*r) 32=8*r:=by omega
   obtain⟨z,hz⟩:∃z,z=y*2^(8*r):=⟨_,rfl⟩
   have hzlt:z<4294967296:=by unfold W32 at l2;omega
   have hw9:IntKind.u32.wrap ((y:Int)*2^(8*r))=(z:Int):=by
    rw[show((y:Int)*2^(8*r))=((z:Nat):Int)by rw[hz];simp];exact B0t z hzlt
   rw[←hz]at l1 l2 l3;have hw10:bits BinOp.or IntKind.u32 (x:Int) (z:Int)=((x+z:Nat):Int):=by
    rw[B1N x z hzl hzlt,l1]
   obtain⟨s,hs⟩:∃s,s=x+z:=⟨_,rfl⟩
   rw[←hs]at l2 l3 hw10;have L4:=B9g l3;have L5:=B9g l2;clear hk hni hstep hv1 l1 l2 l3 hx hy hq hr hkq hz hs L1 L2 L3;go_wp2_with fail;go_still_tail 19,(by kernel_rfl)
   go_wp2_with fail;have hnk:n-(i+1)=k:=by omega
   exact⟨⟨i+1,zs.set q s,by omega,by go_num,by rw[B95];exact Hl.out,Q4 Hd.out q L5.out,by rw[hnk];exact L4.out,(HR.out.set q s).grow (A4.drew _),(HG.out.setCell (p:=⟨w.heap.size,q,none⟩) (B9G _) _).trans (A4.drew _)⟩,by simp[intOf];omega⟩
  ·obtain rfl:i=n:=by omega
   have hva:val W32 zs=a:=by have:=Hv.out;simpa using this
   have htr:Calls Tryz.prog 139 #[.slice (some ⟨w.heap.size,0,none⟩) m m] wr fun e w'=>e = .returned (.slice (some ⟨w.heap.size,0,none⟩) (ln a) m)∧Rn w' (some ⟨w.heap.size,0,none⟩,m) a∧A4 w w':=by
    have h1:=A1r (some ⟨w.heap.size,0,none⟩) zs m wr HR.out.lim (C0I Hl.out) (by omega);rw[Hl.out]at h1;refine h1.mono fun e w' ⟨he,hg⟩=>?_;obtain⟨hr1,hlen⟩:=A25 (a:=a) (c:=m) (HR.out.lim.grow hg) Hd.out hva (C0I Hl.out) (by omega);rw[hlen]at he;exact⟨he,hr1,HG.out.trans hg⟩
   have Htr:=B9g htr;clear htr hva;go_wp2_with (go_at_call 139;((with_reducible refine(Htr.out).mono ?_);rintro e w1 ⟨rfl,hr1,hg⟩));go_ret;exact⟨(some ⟨w.heap.size,0,none⟩,m),rfl,hr1,hg⟩
def LIM:Nat:=1099511627760
theorem A07:∀t∈[44,46,48,31,33],O1 Tryz.prog t:=by
 intro t ht;simp only[List.mem_cons,List.not_mem_nil,or_false]at ht;rcases ht with rfl|rfl|rfl|rfl|rfl
 ·exact fun _ _ _ _ _ _=>by rw[M3];kernel_rfl
 ·exact fun _ _ _ _ _ _=>by rw[A2f];kernel_rfl
 ·exact fun _ _ _ _ _ _=>by rw[J5];kernel_rfl
 ·exact fun _ _ _ _ _ _=>by rw[B7g];kernel_rfl
 ·exact fun _ _ _ _ _ _=>by rw[A7z];kernel_rfl
theorem A97(a:Nat)(ha:bl a≤LIM)(w:World):Calls Tryz.prog 152 #[B4 a] w (Ret (U7 a) w):=by
 unfold LIM at ha;have hby:∀W,Calls Tryz.prog 187 #[B4 a] W fun e w'=>∃A,e = .returned (.slice A (byt a).length (byt a).length)∧By w' A (byt a).reverse∧A4 W w':=fun W=>B0G a ha W;have hfr:∀A W,By W A (byt a).reverse→Calls Tryz.prog 186 #[.slice A (byt a).length (byt a).length] W (Ret (U7 a) W):=fun A W h=>B6k A a W ha h;obtain⟨n,hn⟩:∃n,n=(byt a).length:=⟨_,rfl⟩
 rw[←hn]at hby hfr;have Hby:=B9g hby
 have Hfr:=B9g hfr;clear hby hfr hn;go_enter Tryz.func152,Tryz.ntmps152
 go_wp2_with (first
  | (go_at_call 187;((with_reducible refine(Hby.out _).mono ?_);rintro e w1 ⟨A,rfl,hA,hg1⟩))
  | (go_at_call 186;((with_reducible refine(Hfr.out _ _ hA).mono ?_);rintro e w2 ⟨x,rfl,hx,hg2⟩)))
 go_ret;exact⟨x,rfl,hx,(A4.alloc _ _).trans (hg1.trans hg2)⟩
theorem B1f(z:Int)(ha:bl z.natAbs≤LIM)(w:World):Calls Tryz.prog 150 #[E0 z] w (Ret (A00 z) w):=by
 have ha':bl z.natAbs≤1099511627776:=by unfold LIM at ha;omega
 go_enter Tryz.func150,Tryz.ntmps150;refine en2 ?_;intro u hG b2 b1 hB hF;refine B9b (rdC A8 [] [(0,0),(0,3),(1,1),(0,2),(1,4),(1,5),(1,6)] hB hG fun K L hN hL=>?_);refine gs ?_;refine gmw (C:=fun v=>A3f _ (by assumption) _) ?_;refine gs ?_;refine gmw (C:=fun v=>A2O _ _) ?_;refine grd (U7 z.natAbs) (fun(x8:Ax)=>?_) (C:=fun v _=>A97 z.natAbs ha _);refine gmd (C:=by(rintro v ⟨⟨hgu,hB,hG,-⟩,hx8⟩;have hx8:Rn v x8 _:=hx8;exact A1p x8 _ z.natAbs _)) ?_;refine geC hL ?_;clear hB hG hL L;rintro u ⟨⟨-,hB,hG,-⟩,hx8⟩;replace hx8:Rn u x8 _:=hx8;refine gtT ?_;clear hN K;refine sv hB hF hG 1 0 [_,_] ?_;intro u hu hBG;replace hx8:=hx8.put hB 1 rfl (by first|decide|simp) _ _ hu;clear hB hG hu;obtain⟨hB,hG⟩:=hBG;refine rt Tryz.results150 ?_;exact⟨x8,C0r (fun y:Int=>Ending.returned (riV x8 y)) (A1k z),hx8,hG⟩
theorem B4p(q:Rat)(ha:qs q≤LIM)(w:World):Calls Tryz.prog 100 #[qV q] w (Ret (W7 q) w):=by
 have h1:bl q.num.natAbs≤LIM:=B9Y (G8 q) ha;have h2:bl q.den≤LIM:=B9Y (H9 q) ha;have h3:bl q.den≤1099511627776:=by unfold LIM at h2;omega
 go_enter Tryz.func100,Tryz.ntmps100;refine en2 ?_;intro u hG b2 b1 hB hF;refine B9b (rdC A8 [] [(0,0),(0,3),(1,1),(1,2),(1,4),(1,5),(0,6)] hB hG fun K L hN hL=>?_);refine gs ?_;refine gmw (C:=fun v=>B21 _ _) ?_;refine grd (A00 q.num) (fun(x5:Ax)=>?_) (C:=fun v _=>B1f q.num h1 _);refine gmd (C:=by(rintro v ⟨⟨hgu,hB,hG,-⟩,hx5⟩;have hx5:Rn v x5 _:=hx5;exact V3 _ (by assumption) _)) ?_;refine grd (U7 q.den) (fun(x8:Ax)=>?_) (C:=by(rintro v ⟨⟨hgu,hB,hG,-⟩,hx5⟩;have hx5:Rn v x5 _:=hx5;exact A97 q.den h2 _));refine gs ?_;refine geC hL ?_;clear hB hG hL L;rintro u ⟨⟨⟨-,hB,hG,-⟩,hx5⟩,hx8⟩;replace hx5:Rn u x5 _:=hx5;replace hx8:Rn u x8 _:=hx8;refine gtT ?_;clear hN K;refine sv hB hF hG 1 0 [_,_,_] ?_;intro u hu hBG;replace hx5:=hx5.put hB 1 rfl (by first|decide|simp) _ _ hu;replace hx8:=hx8.put hB 1 rfl (by first|decide|simp) _ _ hu;clear hB hG hu;obtain⟨hB,hG⟩:=hBG;refine rt Tryz.results100 ?_;exact⟨(x5,x8),rfl,⟨hx5,hx8⟩,hG⟩
theorem A8b(x y:Ax)(a:Nat)(w:World)(hx:Rn w x a)(hy:Rn w y a):Calls Tryz.prog 101 #[nvV x a,nvV y a] w fun e w'=>e = .returned (.int .i64 0)∧A4 w w':=by
 have:=A5E x y a a w hx hy;rw[A1y rfl]at this;exact this
theorem B4M(q:Rat)(x y:Ax)(ha:qs q≤LIM)(w:World)(hx:Rn w x q.num.natAbs)(hy:Rn w y q.den):Calls Tryz.prog 37 #[qV q,rqV x y q] w fun e w'=>e = .returned (.bool true)∧A4 w w':=by
 have hl:0<ln q.den:=A2M.2 q.den_nz;have hlb:((ln q.den:Int) == 0)=false:=by simp;omega
 go_enter Tryz.func37,Tryz.ntmps37;refine en2 ?_;intro u hG b3 b2 hB hF;replace hx:=hx.grow hG;replace hy:=hy.grow hG;refine B9b (rsC A07 [0,1,2] hB hG fun K L hN hL=>?_);refine gs ?_;refine grd (W7 q) (fun(x7:Ax×Ax)=>?_) (C:=fun v _=>B4p q ha _);refine gaa (A7z _ _ _ _ _) fun b5 hb5 hn5=>?_;replace hF:=hF.n1 [] hB hG hb5 hn5;refine geC hL ?_;clear hB hG hL L;rintro u ⟨⟨⟨hgu,hB,hG,-⟩,hx7⟩,h5⟩;replace hB:=hB.cons' h5;clear h5;replace hx:=hx.grow hgu;replace hy:=hy.grow hgu;obtain⟨hx7a,hx7b⟩:Rn u x7.1 _∧Rn u x7.2 _:=hx7;clear hb5 hn5;clear hgu;refine gtT ?_;clear hN K;refine sv hB hF hG 0 0 [_,_,_] ?_;intro u hu hBG;replace hx:=hx.put hB 0 rfl (by first|decide|simp) _ _ hu;replace hy:=hy.put hB 0 rfl (by first|decide|simp) _ _ hu;replace hx7a:=hx7a.put hB 0 rfl (by first|decide|simp) _ _ hu;replace hx7b:=hx7b.put hB 0 rfl (by first|decide|simp) _ _ hu;clear hB hG hu;obtain⟨hB,hG⟩:=hBG;refine B9b ?_;refine r0T ?_;refine B9h (rfl) ?_;refine B9i ?_;refine A6 ?_;refine B9b (rsE A07 [0,0,0,0,0,0,1,0,0,0,0,0,0,0,0,0,0,0,0,0,0,0,1,0,0,0] hB hG fun L hL=>?_);refine gs ?_;refine gmd (C:=fun v ⟨hgu,hB,hG,_⟩=>A8b x7.1 x q.num.natAbs _ (hx7a.grow hgu) (hx.grow hgu)) ?_;refine gs ?_
 first|refine gmd (C:=fun v ⟨hgu,hB,hG,_⟩=>A8b x7.2 y q.den _ (hx7b.grow hgu) (hy.grow hgu)) ?_|refine M9 ?_
 refine gs ?_;refine geT hL ?_;clear hB hG hL L;rintro u ⟨hgu,hB,hG,-⟩;replace hx:=hx.grow hgu;replace hy:=hy.grow hgu;replace hx7a:=hx7a.grow hgu;replace hx7b:=hx7b.grow hgu;clear hgu;refine rt Tryz.results37 ?_;exact⟨rfl,hG⟩
theorem B39(n d:Int)(h0 : -9223372036854775808≤n)(h1:n≤9223372036854775807)(h2 : -9223372036854775808≤d)(h3:d≤9223372036854775807)(hd:d≠0)(ha:qs (I6 n d)≤LIM)(w:World):Calls Tryz.prog 52 #[qV (I6 n d),.int .i64 n,.int .i64 d] w fun e w'=>e = .returned (.bool true)∧A4 w w':=by
 go_enter Tryz.func52,Tryz.ntmps52;refine en1 ?_;intro u hG b3 hB hF;refine B9b (rdC A8 [] [(0,0),(0,1),(0,2),(1,3),(1,4)] hB hG fun K L hN hL=>?_);refine gs ?_;refine grd (W7 (I6 n d)) (fun(x10:Ax×Ax)=>?_) (C:=fun v _=>B0O n d h0 h1 h2 h3 hd _);refine gmd (C:=by(rintro v ⟨⟨hgu,hB,hG,-⟩,hx10⟩;obtain⟨hx10a,hx10b⟩:Rn v x10.1 _∧Rn v x10.2 _:=hx10;exact B4M (I6 n d) x10.1 x10.2 ha _ hx10a hx10b)) ?_;refine geC hL ?_;clear hB hG hL L;rintro u ⟨⟨-,hB,hG,-⟩,hx10⟩;obtain⟨hx10a,hx10b⟩:Rn u x10.1 _∧Rn u x10.2 _:=hx10;refine gtT ?_;clear hN K;refine rt Tryz.results52 ?_;exact⟨rfl,hG⟩
def N5(n m:Int):Int:=n%m
theorem A4g(n:Int){m:Int}(h:0<m):0≤N5 n m∧N5 n m<m:=⟨Int.emod_nonneg _ (by omega),Int.emod_lt_of_pos _ h⟩
theorem B1V(n m:Int)(hm:0<m)(hm2:m≤9223372036854775807)(w:World):Calls Tryz.prog 24 #[.int .i64 n,.int .i64 m] w fun e w'=>e = .returned (.int .i64 (N5 n m))∧w=w':=by
 have h0:¬m=0:=by omega
 obtain⟨t,ht⟩:∃t,t=n.tmod m:=⟨_,rfl⟩
 have hp:N5 n m=if t<0 then t+m else t:=by
  rw[ht];unfold N5;have h1:=Int.emod_nonneg n (show m≠0 by omega);have h2:=Int.emod_lt_of_pos n hm;rw[Int.tmod_eq_emod];split<;>split<;>omega
 have hb : -m<t∧t<m:=by
  rw[ht];have h1:=Int.emod_nonneg n (show m≠0 by omega);have h2:=Int.emod_lt_of_pos n hm;rw[Int.tmod_eq_emod];split<;>omega
 have htm:n.tmod m=t:=ht.symm;have hw1:IntKind.i64.wrap t=t:=B9x _ (by omega);clear ht;by_cases hneg:t<0
 ·rw[if_pos hneg]at hp;have hw2:IntKind.i64.wrap (t+m)=t+m:=B9x _ (by omega);have Hp:=B9g hp;clear hp;go_enter Tryz.func24,Tryz.ntmps24;go_wp2_with fail;go_ret;exact⟨M7 Hp.out.symm,rfl⟩
 ·rw[if_neg hneg]at hp;have Hp:=B9g hp;clear hp;go_enter Tryz.func24,Tryz.ntmps24;go_wp2_with fail;go_ret;exact⟨M7 Hp.out.symm,rfl⟩
end Go.Proofs.YtgpglgbcobeogaaGreatDoor
