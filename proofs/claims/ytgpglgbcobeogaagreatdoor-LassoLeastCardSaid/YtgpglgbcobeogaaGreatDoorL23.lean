import Derived.Test.YtgpglgbcobeogaaGreatDoorL22
set_option linter.unusedSimpArgs false
set_option linter.unusedVariables false
set_option maxHeartbeats 1000000
set_option maxRecDepth 100000
namespace Go.Proofs.YtgpglgbcobeogaaGreatDoor
open Go.RowKit
theorem A5u(x y:Ax)(a b:Nat)(w:World)(hx:Rn w x a)(hy:Rn w y b)(h0:b≠0)(ha:bl a<=BIG):Calls Tryz.prog 138 #[nvV x a,nvV y b] w (Ret (nnR (a/b) (a%b)) w):=by
 by_cases hs:b<W32
 ·exact B31 x y a b w hx hy h0 hs
 ·by_cases hlt:a<b
  ·exact A7f x y a b w hx hy hlt
  ·refine B1q x y a b w hx hy (by omega) ?_ ha;have h1:=A6o (Nat.not_lt.1 hs);have h2:ln W32=2:=by decide +kernel
   omega
theorem B3H(x y:Ax)(a b:Nat)(w:World)(hx:Rn w x a)(hy:Rn w y b)(ha:bl a<=BIG)(hb:bl b<=BIG):Calls Tryz.prog 137 #[nvV x a,nvV y b] w (Ret (M3 (Nat.gcd a b)) w):=by
 have Hx:=B8S hx;have Hy:=B8S hy;have Ha:=B8S ha;have Hb:=B8S hb;obtain⟨g,hg⟩:∃g,g=Nat.gcd a b:=⟨_,rfl⟩
 rw[<-hg];have Hg:=B8S hg.symm;clear hx hy ha hb hg;go_enter Tryz.func137,Tryz.ntmps137;go_wp2_with fail;go_loopg [0,1] b (λk s t wr=>∃(x y:Ax) (a:Nat),s=nvV x a/\t=nvV y k/\Nat.gcd a k=g/\(bl a<=BIG/\bl k<=BIG)/\Rn wr x a/\Rn wr y k/\A4 w wr)
 case atStart=>exact⟨x,y,a,rfl,rfl,Hg.out,⟨Ha.out,Hb.out⟩,Hx.out,Hy.out,A4.refl _⟩
 case round =>
  obtain⟨x,y,a,rfl,rfl,hgc,hs,hx,hy,hG⟩:=hrel;rcases B8M gk with h0|h0
  ·have hl:¬0<ln gk:=by rw[h0,A5v];omega
   have Hgc:Hid (a=g):=by rw[h0,B9S]at hgc;exact B8S hgc
   have Hr:=B8S hx;clear hgc hs hx hy h0;go_wp2_with fail;go_ret;exact⟨x,by rw[<-Hgc.out];rfl,by rw[<-Hgc.out];exact Hr.out,hG⟩
  ·have hl:0<ln gk:=A2G.2 (by omega);have hdv:=A5u x y a gk wr hx hy (by omega) hs.1;obtain⟨q,hq⟩:∃q,q=a/gk:=⟨_,rfl⟩
   obtain⟨m,hm⟩:∃m,m=a%gk:=⟨_,rfl⟩
   have hmlt:m<gk:=by rw[hm];exact B8b _ h0
   have Hgc:Hid (Nat.gcd gk m=g):=by rw[hm];exact B8S (A0Q a gk g hgc)
   rw[<-hq,<-hm]at hdv;have Hdv:=B8S (Ret.nn hdv);have Hy:=B8S hy;have Hs:Hid (bl gk<=BIG/\bl m<=BIG):=B8S ⟨hs.2,B8K (S8 (B8B hmlt)) hs.2⟩;clear hgc hs hx hy hq hm hdv;go_wp2_with (go_at_call 138;((with_reducible refine(Hdv.out).mono ?_);rintro e w1 ⟨y1,y2,rfl,hr1,hr2,hg1⟩));go_roundg m
   case rel=>exact⟨y,y2,gk,rfl,rfl,Hgc.out,Hs.out,Hy.out.grow hg1,hr2,hG.trans hg1⟩
   case measure=>exact hmlt
theorem B5A(d:Option Tmp)(ty:TypeId)(pos:String)(af:Array Edge)(gd:Option (Nat×Bool)):S3 Tryz.prog ⟨d,.alloc 31,ty,pos,af,gd⟩ = .cells #[.bool false,.slice none 0 0] 31:=by kernel_rfl
theorem A38(d:Option Tmp)(ty:TypeId)(pos:String)(af:Array Edge)(gd:Option (Nat×Bool)):S3 Tryz.prog ⟨d,.alloc 33,ty,pos,af,gd⟩ = .cells #[.bool false,.slice none 0 0,.slice none 0 0] 33:=by kernel_rfl
theorem A4K(x:Ax)(neg:Bool)(a:Nat):riV x (sgn neg a) = .agg #[.bool (neg&&decide (a≠0)),.slice x.1 (ln a) x.2]:=by
 unfold riV;rw[A9i,Q7]
theorem B4U(x:Ax)(a:Nat)(w:World):Calls Tryz.prog 78 #[.bool false,nvV x a] w λe w'=>e = .returned (riV x (sgn false a))/\A4 w w':=by
 rw[A4K,Bool.false_and];go_enter Tryz.func78,Tryz.ntmps78;refine en1 ?_;intro u hG b4 hB hF;refine r0T ?_;refine st hB hF hG 0 0 [_,_] ?_;clear hB hG;intro u hB hG;refine rt Tryz.results78 ?_;exact⟨rfl,hG⟩
theorem B3s(x:Ax)(a:Nat)(w:World):Calls Tryz.prog 78 #[.bool true,nvV x a] w λe w'=>e = .returned (riV x (sgn true a))/\A4 w w':=by
 rw[A4K,Bool.true_and];have hd:decide (a≠0)=decide (0<ln a):=by
  have:=@A2G a;rw[decide_eq_decide];exact this.symm
 rw[hd];clear hd;go_enter Tryz.func78,Tryz.ntmps78;refine en1 ?_;intro u hG b4 hB hF;refine r0T ?_;refine st hB hF hG 0 0 [_,_] ?_;clear hB hG;intro u hB hG;refine rt Tryz.results78 ?_;exact⟨rfl,hG⟩
theorem Z4(x:Ax)(neg:Bool)(a:Nat)(w:World):Calls Tryz.prog 78 #[.bool neg,nvV x a] w λe w'=>e = .returned (riV x (sgn neg a))/\A4 w w':=by
 cases neg
 ·exact B4U x a w
 ·exact B3s x a w
theorem B6v(n:Int)(h0:n<0)(h1 : -9223372036854775808<=n)(w:World):Calls Tryz.prog 77 #[.int .i64 n] w (Ret (L9 n) w):=by
 have hw1:IntKind.u64.wrap n=n+18446744073709551616:=by
  simp[IntKind.wrap,IntKind.signed,IntKind.bits];omega
 have hw2:IntKind.u64.wrap (-(n+18446744073709551616))=(n.natAbs:Nat):=by
  simp[IntKind.wrap,IntKind.signed,IntKind.bits];omega
 have hlt:n.natAbs<W64:=by unfold W64;omega
 have hd:decide (n<0)=true:=by simpa using h0
 have hn:sgn true n.natAbs=n:=by rw[B1a];omega
 have Hn:=B8S hn;clear hn;go_enter Tryz.func77,Tryz.ntmps77;refine en1 ?_;intro u hG b2 hB hF;refine B8N ?_;refine r0T ?_;refine B8V (rfl) ?_;refine B8N (rsC A8 [0,0,0,1,1] hB hG λK L hN hL=>?_);refine gs ?_;refine grd (M3 n.natAbs) (λ(x8:Ax)=>?_) (C:=λv _=>A4T n.natAbs hlt _);refine gmd (C:=by(rintro v ⟨⟨hgu,hB,hG,-⟩,hx8⟩;have hx8:Rn v x8 _:=hx8;exact Z4 x8 true n.natAbs _)) ?_;refine geC hL ?_;clear hB hG hL L;rintro u ⟨⟨-,hB,hG,-⟩,hx8⟩;replace hx8:Rn u x8 _:=hx8;refine gtT ?_;clear hN K;refine sv hB hF hG 0 0 [_,_] ?_;intro u hu hBG;replace hx8:=hx8.put hB 0 rfl (by first|decide|simp) _ _ hu;clear hB hG hu;obtain⟨hB,hG⟩:=hBG;refine rt Tryz.results77 ?_;exact⟨x8,B9d (λz:Int=>Ending.returned (riV x8 z)) Hn.out,hx8,hG⟩
theorem B6E(n:Int)(h0:0<=n)(h1:n<=9223372036854775807)(w:World):Calls Tryz.prog 77 #[.int .i64 n] w (Ret (L9 n) w):=by
 have hw1:IntKind.u64.wrap n=(n.natAbs:Nat):=by
  simp[IntKind.wrap,IntKind.signed,IntKind.bits];omega
 have hlt:n.natAbs<W64:=by unfold W64;omega
 have hd:decide (n<0)=false:=by simpa using h0
 have hn:sgn false n.natAbs=n:=by rw[A0f];omega
 have Hn:=B8S hn;clear hn;go_enter Tryz.func77,Tryz.ntmps77;refine en1 ?_;intro u hG b2 hB hF;refine B8N ?_;refine r0T ?_;refine B8T (rfl) ?_;refine B8U ?_;refine A6 ?_;refine B8N (rsC A8 [0,0,1,1] hB hG λK L hN hL=>?_);refine gs ?_;refine grd (M3 n.natAbs) (λ(x12:Ax)=>?_) (C:=λv _=>A4T n.natAbs hlt _);refine gmd (C:=by(rintro v ⟨⟨hgu,hB,hG,-⟩,hx12⟩;have hx12:Rn v x12 _:=hx12;exact Z4 x12 false n.natAbs _)) ?_;refine geC hL ?_;clear hB hG hL L;rintro u ⟨⟨-,hB,hG,-⟩,hx12⟩;replace hx12:Rn u x12 _:=hx12;refine gtT ?_;clear hN K;refine sv hB hF hG 0 0 [_,_] ?_;intro u hu hBG;replace hx12:=hx12.put hB 0 rfl (by first|decide|simp) _ _ hu;clear hB hG hu;obtain⟨hB,hG⟩:=hBG;refine rt Tryz.results77 ?_;exact⟨x12,B9d (λz:Int=>Ending.returned (riV x12 z)) Hn.out,hx12,hG⟩
theorem A5w(n:Int)(h0 : -9223372036854775808<=n)(h1:n<=9223372036854775807)(w:World):Calls Tryz.prog 77 #[.int .i64 n] w (Ret (L9 n) w):=by
 by_cases h:n<0
 ·exact B6v n h h0 w
 ·exact B6E n (by omega) h1 w
theorem A4R{x y:Ax}{z:Int}{d:Nat}{q:Rat}(h1:q.num=z)(h2:q.den=d):Ending.returned (.agg #[.bool (F9 z),.slice x.1 (ln z.natAbs) x.2,.slice y.1 (ln d) y.2]) = .returned (rqV x y q):=by subst h1;subst h2;rfl
theorem A9D(n d:Int)(h:d≠0):(I0 n d).num=sgn (F9 n != F9 d) (n.natAbs/Nat.gcd n.natAbs d.natAbs):=by
 have hd:d.natAbs≠0:=by omega
 by_cases hn:d<0
 ·rw[A5t n d hn,A5q _ _ hd,<-A5c];have e1:(T6 n).natAbs=n.natAbs:=by unfold T6;exact B9T n
  rw[e1];have e2:F9 d=true:=B87 hn;rw[e2];by_cases h0:n=0
  ·subst h0;simp[sgn]
  ·congr 1;unfold F9 T6;rw[Bool.eq_iff_iff];simp;omega
 ·rw[A6D n d hn,A5q _ _ hd,<-A5c];have e2:F9 d=false:=B9C hn;rw[e2];simp
theorem A7e(n d:Int)(h:d≠0):(I0 n d).den=d.natAbs/Nat.gcd n.natAbs d.natAbs:=by
 have hd:d.natAbs≠0:=by omega
 by_cases hn:d<0
 ·rw[A5t n d hn,A5f _ _ hd];unfold T6;rw[B9T]
 ·rw[A6D n d hn,A5f _ _ hd]
theorem A5R(x y:Ax)(n d:Int)(w:World)(hx:Rn w x n.natAbs)(hy:Rn w y d.natAbs)(h0:d≠0)(hn:bl n.natAbs<=BIG)(hd:bl d.natAbs<=BIG):Calls Tryz.prog 76 #[riV x n,riV y d] w (Ret (F7 (I0 n d)) w):=by
 have He:=B8S (And.intro (A9D n d h0) (A7e n d h0));have hd0:d.natAbs≠0:=by omega
 have g0:Nat.gcd n.natAbs d.natAbs≠0:=λe=>hd0 (B9Z e);go_enter Tryz.func76,Tryz.ntmps76;refine en3 ?_;intro u hG b4 b3 b2 hB hF;replace hx:=hx.grow hG;replace hy:=hy.grow hG;refine B8N (rsE A8 [0,0,0,0,1,0] hB hG λL hL=>?_);refine gs ?_;refine grd (M3 (Nat.gcd n.natAbs d.natAbs)) (λ(x14:Ax)=>?_) (C:=by(rintro v ⟨hgu,hB,hG,-⟩;exact B3H x y n.natAbs d.natAbs _ (hx.grow hgu) (hy.grow hgu) hn hd));refine gs ?_;refine geT hL ?_;clear hB hG hL L;rintro u ⟨⟨hgu,hB,hG,-⟩,hx14⟩;replace hx:=hx.grow hgu;replace hy:=hy.grow hgu;replace hx14:Rn u x14 _:=hx14;clear hgu;refine B8N (rsE A8 [0,0,0,1,0,0,0,0,0] hB hG λL hL=>?_);refine gs ?_;refine grd (nnR (n.natAbs/Nat.gcd n.natAbs d.natAbs) (n.natAbs%Nat.gcd n.natAbs d.natAbs)) (λ(x19:Ax×Ax)=>?_) (C:=by(rintro v ⟨hgu,hB,hG,-⟩;exact A5u x x14 n.natAbs _ _ (hx.grow hgu) (hx14.grow hgu) g0 hn));refine gs ?_;refine geT hL ?_;clear hB hG hL L;rintro u ⟨⟨hgu,hB,hG,-⟩,hx19⟩;replace hx:=hx.grow hgu;replace hy:=hy.grow hgu;replace hx14:=hx14.grow hgu;obtain⟨hx19a,hx19b⟩:Rn u x19.1 _/\Rn u x19.2 _:=hx19;clear hgu;refine B8N (rsE A8 [0,0,0,1,0,0,0,0,0] hB hG λL hL=>?_);refine gs ?_;refine grd (nnR (d.natAbs/Nat.gcd n.natAbs d.natAbs) (d.natAbs%Nat.gcd n.natAbs d.natAbs)) (λ(x26:Ax×Ax)=>?_) (C:=by(rintro v ⟨hgu,hB,hG,-⟩;exact A5u y x14 d.natAbs _ _ (hy.grow hgu) (hx14.grow hgu) g0 hd));refine gs ?_;refine geT hL ?_;clear hB hG hL L;rintro u ⟨⟨hgu,hB,hG,-⟩,hx26⟩;replace hx:=hx.grow hgu;replace hy:=hy.grow hgu;replace hx14:=hx14.grow hgu;replace hx19a:=hx19a.grow hgu;replace hx19b:=hx19b.grow hgu;obtain⟨hx26a,hx26b⟩:Rn u x26.1 _/\Rn u x26.2 _:=hx26;clear hgu;refine B8N (rsC A8 [0,0,0,0,0,0,1,0,0] hB hG λK L hN hL=>?_);refine gs ?_;refine gmw (C:=λv=>Z4 x19.1 _ (n.natAbs/Nat.gcd n.natAbs d.natAbs) _) ?_;refine gs ?_;refine geC hL ?_;clear hB hG hL L;rintro u ⟨hgu,hB,hG,-⟩;replace hx:=hx.grow hgu;replace hy:=hy.grow hgu;replace hx14:=hx14.grow hgu;replace hx19a:=hx19a.grow hgu;replace hx19b:=hx19b.grow hgu;replace hx26a:=hx26a.grow hgu;replace hx26b:=hx26b.grow hgu;clear hgu;refine gtT ?_;clear hN K;refine sv hB hF hG 2 0 [_,_,_] ?_;intro u hu hBG;replace hx:=hx.put hB 2 rfl (by first|decide|simp) _ _ hu;replace hy:=hy.put hB 2 rfl (by first|decide|simp) _ _ hu;replace hx14:=hx14.put hB 2 rfl (by first|decide|simp) _ _ hu;replace hx19a:=hx19a.put hB 2 rfl (by first|decide|simp) _ _ hu;replace hx19b:=hx19b.put hB 2 rfl (by first|decide|simp) _ _ hu;replace hx26a:=hx26a.put hB 2 rfl (by first|decide|simp) _ _ hu;replace hx26b:=hx26b.put hB 2 rfl (by first|decide|simp) _ _ hu;clear hB hG hu;obtain⟨hB,hG⟩:=hBG;refine rt Tryz.results76 ?_;exact⟨(x19.1,x26.1),A4R He.out.1 He.out.2,⟨by rw[He.out.1,Q7];exact hx19a,by rw[He.out.2];exact hx26a⟩,hG⟩
theorem A7H(n d:Int)(h0 : -9223372036854775808<=n)(h1:n<=9223372036854775807)(h2 : -9223372036854775808<=d)(h3:d<=9223372036854775807)(hd:d≠0)(w:World):Calls Tryz.prog 25 #[.int .i64 n,.int .i64 d] w (Ret (F7 (I0 n d)) w):=by
 go_enter Tryz.func25,Tryz.ntmps25;refine en1 ?_;intro u hG b4 hB hF;refine B8N (rsC A8 [0,1,0,1,1] hB hG λK L hN hL=>?_);refine gs ?_;refine grd (L9 n) (λ(x6:Ax)=>?_) (C:=λv _=>A5w n h0 h1 _);refine gs ?_;refine grd (L9 d) (λ(x8:Ax)=>?_) (C:=by(rintro v ⟨⟨hgu,hB,hG,-⟩,hx6⟩;have hx6:Rn v x6 _:=hx6;exact A5w d h2 h3 _));refine grd (F7 (I0 n d)) (λ(x9:Ax×Ax)=>?_) (C:=by(rintro v ⟨⟨⟨hgu,hB,hG,-⟩,hx6⟩,hx8⟩;have hx6:Rn v x6 _:=hx6;have hx8:Rn v x8 _:=hx8;exact A5R x6 x8 n d _ hx6 hx8 hd (A87 h0 h1) (A87 h2 h3)));refine geC hL ?_;clear hB hG hL L;rintro u ⟨⟨⟨⟨-,hB,hG,-⟩,hx6⟩,hx8⟩,hx9⟩;replace hx6:Rn u x6 _:=hx6;replace hx8:Rn u x8 _:=hx8;obtain⟨hx9a,hx9b⟩:Rn u x9.1 _/\Rn u x9.2 _:=hx9;refine gtT ?_;clear hN K;refine sv hB hF hG 0 0 [_,_,_] ?_;intro u hu hBG;replace hx6:=hx6.put hB 0 rfl (by first|decide|simp) _ _ hu;replace hx8:=hx8.put hB 0 rfl (by first|decide|simp) _ _ hu;replace hx9a:=hx9a.put hB 0 rfl (by first|decide|simp) _ _ hu;replace hx9b:=hx9b.put hB 0 rfl (by first|decide|simp) _ _ hu;clear hB hG hu;obtain⟨hB,hG⟩:=hBG;refine rt Tryz.results25 ?_;exact⟨x9,rfl,⟨hx9a,hx9b⟩,hG⟩
theorem B3u(w:World):Calls Tryz.prog 109 #[.int .u64 1] w (Ret (M3 1) w):=A4T 1 (by unfold W64;omega) w
theorem A0t(n:Int)(h0 : -9223372036854775808<=n)(h1:n<=9223372036854775807)(w:World):Calls Tryz.prog 42 #[.int .i64 n] w (Ret (F7 (B9 n)) w):=by
 go_enter Tryz.func42,Tryz.ntmps42;refine en1 ?_;intro u hG b2 hB hF;refine B8N (rsC A8 [0,1,1,0] hB hG λK L hN hL=>?_);refine gs ?_;refine grd (L9 n) (λ(x4:Ax)=>?_) (C:=λv _=>A5w n h0 h1 _);refine grd (M3 1) (λ(x5:Ax)=>?_) (C:=by(rintro v ⟨⟨hgu,hB,hG,-⟩,hx4⟩;have hx4:Rn v x4 _:=hx4;exact B3u _));refine gs ?_;refine geC hL ?_;clear hB hG hL L;rintro u ⟨⟨⟨-,hB,hG,-⟩,hx4⟩,hx5⟩;replace hx4:Rn u x4 _:=hx4;replace hx5:Rn u x5 _:=hx5;refine gtT ?_;clear hN K;refine sv hB hF hG 0 0 [_,_,_] ?_;intro u hu hBG;replace hx4:=hx4.put hB 0 rfl (by first|decide|simp) _ _ hu;replace hx5:=hx5.put hB 0 rfl (by first|decide|simp) _ _ hu;clear hB hG hu;obtain⟨hB,hG⟩:=hBG;refine rt Tryz.results42 ?_;exact⟨(x4,x5),A4R (A51 n) (A6g n),⟨by rw[A51];exact hx4,by rw[A6g];exact hx5⟩,hG⟩
theorem A8C{x:Ax}{y z:Int}(h:y=z):Ending.returned (riV x y) = .returned (riV x z):=by rw[h]
theorem B0s{u:World}{x:Ax}{neg:Bool}{n:Nat}{z:Int}(h:sgn neg n=z)(hr:Rn u x n):Rn u x z.natAbs:=by rw[<-h,Q7];exact hr
theorem A36{w u:World}{x:Ax}{neg:Bool}{n:Nat}{z:Int}(h:sgn neg n=z)(hr:Rn u x n)(hG:A4 w u):Ret (L9 z) w (.returned (riV x (sgn neg n))) u:=⟨x,A8C h,B0s h hr,hG⟩
theorem B3b{a b:Nat}(h:decide (0<=G4 a b)=true):b<=a:=by
 have h:=B86 h;unfold G4 at h;split at h
 ·omega
 ·omega
theorem B5s{a b:Nat}(h:decide (0<=G4 a b)=false):a<b:=by
 have h:=B9A h;unfold G4 at h;split at h
 ·assumption
 ·split at h<;>omega
theorem A6A(a b:Int):bl (I5 a b).natAbs<=bl a.natAbs+bl b.natAbs:=by unfold I5;rw[B9X];exact Q5 _ _
theorem B55(a b:Int):bl (X7 a b).natAbs<=max (bl a.natAbs) (bl b.natAbs)+1:=B8K (S8 (Int.natAbs_add_le a b)) (A6S _ _)
theorem B2O{u:World}{x:Ax}{z:Int}(h:Rn u x z.natAbs):Rn u x (T6 z).natAbs:=by unfold T6;rw[B9T];exact h
theorem A2T(x y:Ax)(q:Rat)(w:World):Calls Tryz.prog 154 #[rqV x y q] w λe w'=>e = .returned (riV y (sgn false q.den))/\A4 w w':=by
 rw[A4K,Bool.false_and];have hI:=λW=>Z4 y false q.den W;simp only[A4K,Bool.false_and]at hI;go_enter Tryz.func154,Tryz.ntmps154;refine en2 ?_;intro u hG b2 b1 hB hF;refine B8N (rsC A8 [0,0,1] hB hG λK L hN hL=>?_);refine gs ?_;refine gmw (C:=λv=>hI _) ?_;refine geC hL ?_;clear hB hG hL L;rintro u ⟨-,hB,hG,-⟩;refine gtT ?_;clear hN K;refine st hB hF hG 1 0 [_,_] ?_;clear hB hG;intro u hB hG;refine rt Tryz.results154 ?_;exact⟨rfl,hG⟩
theorem B0h(x:Ax)(z:Int)(w:World):Calls Tryz.prog 136 #[riV x z] w λe w'=>e = .returned (riV x (T6 z))/\A4 w w':=by
 go_enter Tryz.func136,Tryz.ntmps136;refine en2 ?_;intro u hG b2 b1 hB hF;refine B8N (rsC A8 [0,0,0,0,0,1] hB hG λK L hN hL=>?_);refine gs ?_;refine gmw (C:=λv=>Z4 x _ z.natAbs _) ?_;refine geC hL ?_;clear hB hG hL L;rintro u ⟨-,hB,hG,-⟩;refine gtT ?_;clear hN K;refine st hB hF hG 1 0 [_,_] ?_;clear hB hG;intro u hB hG;refine rt Tryz.results136 ?_;exact⟨A8C (A9s z),hG⟩
theorem A8R(x:Ax)(z:Int)(w:World):Calls Tryz.prog 69 #[riV x z] w λe w'=>e = .returned (.int .i64 z.sign)/\A4 w w':=by
 go_enter Tryz.func69,Tryz.ntmps69;refine en1 ?_;intro u hG b1 hB hF;refine B8N ?_;refine B8v ?_;refine r0T ?_;refine B88 rfl ?_ ?_
 ·intro ht;have ht3:=ht;refine r0T ?_;refine rt Tryz.results69 ?_;have h2:ln z.natAbs=0:=by simpa using ht3
  have h3:z=0:=by have:=@A5Q z.natAbs;omega
  exact⟨M5 (by rw[h3];rfl),hG⟩
 ·intro ht;have ht3:=ht;refine r0T ?_;refine B88 rfl ?_ ?_
  ·intro ht;have ht8:=ht;refine r0T ?_;refine rt Tryz.results69 ?_;have h:z<0:=B86 ht8;exact⟨M5 (B89 h).symm,hG⟩
  ·intro ht;have ht8:=ht;refine B8U ?_;refine C8 ?_;refine A6 ?_;refine r0T ?_;refine rt Tryz.results69 ?_;have h:¬z<0:=B9A ht8;have h2:¬ln z.natAbs=0:=by simpa using ht3
   have h3:z≠0:=by have:=@A5Q z.natAbs;omega
   exact⟨M5 (B9B (by omega)).symm,hG⟩
theorem A6C(x y:Ax)(a b:Int)(w:World)(hx:Rn w x a.natAbs)(hy:Rn w y b.natAbs)(ha:bl a.natAbs<=1099511627776)(hb:bl b.natAbs<=1099511627776):Calls Tryz.prog 79 #[riV x a,riV y b] w (Ret (L9 (I5 a b)) w):=by
 go_enter Tryz.func79,Tryz.ntmps79;refine en3 ?_;intro u hG b4 b3 b2 hB hF;replace hx:=hx.grow hG;replace hy:=hy.grow hG;refine B8N (rdC A8 [] [(0,0),(0,1),(0,2),(0,3),(0,4),(0,5),(0,6),(0,7),(0,8),(1,9),(1,10)] hB hG λK L hN hL=>?_);refine gs ?_;refine grd (M3 (a.natAbs*b.natAbs)) (λ(x14:Ax)=>?_) (C:=by(rintro v ⟨hgu,hB,hG,-⟩;exact A59 x y a.natAbs b.natAbs _ (hx.grow hgu) (hy.grow hgu) ha hb));refine gmd (C:=by(rintro v ⟨⟨hgu,hB,hG,-⟩,hx14⟩;have hx14:Rn v x14 _:=hx14;exact Z4 x14 _ (a.natAbs*b.natAbs) _)) ?_;refine geC hL ?_;clear hB hG hL L;rintro u ⟨⟨hgu,hB,hG,-⟩,hx14⟩;replace hx:=hx.grow hgu;replace hy:=hy.grow hgu;replace hx14:Rn u x14 _:=hx14;clear hgu;refine gtT ?_;clear hN K;refine sv hB hF hG 2 0 [_,_] ?_;intro u hu hBG;replace hx:=hx.put hB 2 rfl (by first|decide|simp) _ _ hu;replace hy:=hy.put hB 2 rfl (by first|decide|simp) _ _ hu;replace hx14:=hx14.put hB 2 rfl (by first|decide|simp) _ _ hu;clear hB hG hu;obtain⟨hB,hG⟩:=hBG;refine rt Tryz.results79 ?_;exact A36 (A8K a b) hx14 hG
theorem A7a(x y:Ax)(a b:Int)(w:World)(hx:Rn w x a.natAbs)(hy:Rn w y b.natAbs)(ha:bl a.natAbs<=1099511627776)(hb:bl b.natAbs<=1099511627776):Calls Tryz.prog 155 #[riV x a,riV y b] w (Ret (L9 (X7 a b)) w):=by
 go_enter Tryz.func155,Tryz.ntmps155;refine en3 ?_;intro u hG b4 b3 b2 hB hF;replace hx:=hx.grow hG;replace hy:=hy.grow hG;refine B8N ?_;refine r0T ?_;refine B88 rfl ?_ ?_
 ·intro ht;have ht9:=ht;refine B8N (rdC A8 [] [(0,0),(0,1),(0,2),(0,3),(0,4),(0,5),(1,6),(1,7)] hB hG λK L hN hL=>?_);refine gs ?_;refine grd (M3 (a.natAbs+b.natAbs)) (λ(x16:Ax)=>?_) (C:=by(rintro v ⟨hgu,hB,hG,-⟩;exact B3Q x y a.natAbs b.natAbs _ (hx.grow hgu) (hy.grow hgu) ha hb));refine gmd (C:=by(rintro v ⟨⟨hgu,hB,hG,-⟩,hx16⟩;have hx16:Rn v x16 _:=hx16;exact Z4 x16 _ (a.natAbs+b.natAbs) _)) ?_;refine geC hL ?_;clear hB hG hL L;rintro u ⟨⟨hgu,hB,hG,-⟩,hx16⟩;replace hx:=hx.grow hgu;replace hy:=hy.grow hgu;replace hx16:Rn u x16 _:=hx16;clear hgu;refine gtT ?_;clear hN K;refine sv hB hF hG 2 0 [_,_] ?_;intro u hu hBG;replace hx:=hx.put hB 2 rfl (by first|decide|simp) _ _ hu;replace hy:=hy.put hB 2 rfl (by first|decide|simp) _ _ hu;replace hx16:=hx16.put hB 2 rfl (by first|decide|simp) _ _ hu;clear hB hG hu;obtain⟨hB,hG⟩:=hBG;refine rt Tryz.results155 ?_;exact A36 (A9n (by simpa using ht9)) hx16 hG
 ·intro ht;have ht9:=ht;refine B8U ?_;refine A6 ?_;refine B8N ?_;refine B8N (rsE A8 [0,0,0,0,1,0] hB hG λL hL=>?_);refine gs ?_;refine gmd (C:=λv ⟨hgu,hB,hG,_⟩=>A3Q x y a.natAbs b.natAbs _ (hx.grow hgu) (hy.grow hgu)) ?_;refine gs ?_;refine geT hL ?_;clear hB hG hL L;rintro u ⟨hgu,hB,hG,-⟩;replace hx:=hx.grow hgu;replace hy:=hy.grow hgu;clear hgu;refine B88 rfl ?_ ?_
  ·intro ht;have ht23:=ht;have hle:=B3b ht;refine B8N (rdC A8 [] [(0,0),(0,1),(0,2),(0,3),(0,4),(0,5),(1,6),(1,7)] hB hG λK L hN hL=>?_);refine gs ?_;refine grd (M3 (a.natAbs-b.natAbs)) (λ(x30:Ax)=>?_) (C:=by(rintro v ⟨hgu,hB,hG,-⟩;exact B0M x y a.natAbs b.natAbs _ (hx.grow hgu) (hy.grow hgu) hle ha));refine gmd (C:=by(rintro v ⟨⟨hgu,hB,hG,-⟩,hx30⟩;have hx30:Rn v x30 _:=hx30;exact Z4 x30 _ (a.natAbs-b.natAbs) _)) ?_;refine geC hL ?_;clear hB hG hL L;rintro u ⟨⟨hgu,hB,hG,-⟩,hx30⟩;replace hx:=hx.grow hgu;replace hy:=hy.grow hgu;replace hx30:Rn u x30 _:=hx30;clear hgu;refine gtT ?_;clear hN K;refine sv hB hF hG 2 0 [_,_] ?_;intro u hu hBG;replace hx:=hx.put hB 2 rfl (by first|decide|simp) _ _ hu;replace hy:=hy.put hB 2 rfl (by first|decide|simp) _ _ hu;replace hx30:=hx30.put hB 2 rfl (by first|decide|simp) _ _ hu;clear hB hG hu;obtain⟨hB,hG⟩:=hBG;refine rt Tryz.results155 ?_;exact A36 (A5V (by simpa using ht9) hle) hx30 hG
  ·intro ht;have ht23:=ht;have hlt:=B5s ht;refine B8U ?_;refine A6 ?_;refine B8N (rdC A8 [] [(0,0),(0,1),(0,2),(0,3),(0,4),(0,5),(1,6),(1,7)] hB hG λK L hN hL=>?_);refine gs ?_;refine grd (M3 (b.natAbs-a.natAbs)) (λ(x38:Ax)=>?_) (C:=by(rintro v ⟨hgu,hB,hG,-⟩;exact B0M y x b.natAbs a.natAbs _ (hy.grow hgu) (hx.grow hgu) (B8B hlt) hb));refine gmd (C:=by(rintro v ⟨⟨hgu,hB,hG,-⟩,hx38⟩;have hx38:Rn v x38 _:=hx38;exact Z4 x38 _ (b.natAbs-a.natAbs) _)) ?_;refine geC hL ?_;clear hB hG hL L;rintro u ⟨⟨hgu,hB,hG,-⟩,hx38⟩;replace hx:=hx.grow hgu;replace hy:=hy.grow hgu;replace hx38:Rn u x38 _:=hx38;clear hgu;refine gtT ?_;clear hN K;refine sv hB hF hG 2 0 [_,_] ?_;intro u hu hBG;replace hx:=hx.put hB 2 rfl (by first|decide|simp) _ _ hu;replace hy:=hy.put hB 2 rfl (by first|decide|simp) _ _ hu;replace hx38:=hx38.put hB 2 rfl (by first|decide|simp) _ _ hu;clear hB hG hu;obtain⟨hB,hG⟩:=hBG;refine rt Tryz.results155 ?_;exact A36 (A8l (by simpa using ht9) (Nat.not_le.2 hlt)) hx38 hG
def A1e(a b:Int):Int:=a-b
theorem B6R(a b:Int):X7 a (T6 b)=A1e a b:=by unfold X7 T6 A1e;omega
theorem B6d(a b:Int):(A1e a b).sign=O4 a b:=by
 unfold A1e O4;split
 ·exact B89 (by omega)
 ·split
  ·exact B9B (by omega)
  ·rw[show a-b=0 by omega];rfl
theorem B1v(x y:Ax)(a b:Int)(w:World)(hx:Rn w x a.natAbs)(hy:Rn w y b.natAbs)(ha:bl a.natAbs<=1099511627776)(hb:bl b.natAbs<=1099511627776):Calls Tryz.prog 188 #[riV x a,riV y b] w (Ret (L9 (A1e a b)) w):=by
 have hy':=B2O hy;have hb':bl (T6 b).natAbs<=1099511627776:=by rw[A99];exact hb
 have had:=λW h1 h2=>A7a x y a (T6 b) W h1 h2 ha hb';rw[B6R]at had;clear hy;go_enter Tryz.func188,Tryz.ntmps188;refine en3 ?_;intro u hG b4 b3 b2 hB hF;replace hx:=hx.grow hG;replace hy':=hy'.grow hG;refine B8N (rdC A8 [] [(0,0),(0,1),(1,2),(1,3)] hB hG λK L hN hL=>?_);refine gs ?_;refine gmw (C:=λv=>B0h _ _ _) ?_;refine grd (L9 (A1e a b)) (λ(x8:Ax)=>?_) (C:=by(rintro v ⟨hgu,hB,hG,-⟩;exact had _ (hx.grow hgu) (hy'.grow hgu)));refine geC hL ?_;clear hB hG hL L;rintro u ⟨⟨hgu,hB,hG,-⟩,hx8⟩;replace hx:=hx.grow hgu;replace hy':=hy'.grow hgu;replace hx8:Rn u x8 _:=hx8;clear hgu;refine gtT ?_;clear hN K;refine sv hB hF hG 2 0 [_,_] ?_;intro u hu hBG;replace hx:=hx.put hB 2 rfl (by first|decide|simp) _ _ hu;replace hy':=hy'.put hB 2 rfl (by first|decide|simp) _ _ hu;replace hx8:=hx8.put hB 2 rfl (by first|decide|simp) _ _ hu;clear hB hG hu;obtain⟨hB,hG⟩:=hBG;refine rt Tryz.results188 ?_;exact⟨x8,rfl,hx8,hG⟩
theorem B2p(x y:Ax)(a b:Int)(w:World)(hx:Rn w x a.natAbs)(hy:Rn w y b.natAbs)(ha:bl a.natAbs<=1099511627776)(hb:bl b.natAbs<=1099511627776):Calls Tryz.prog 153 #[riV x a,riV y b] w λe w'=>e = .returned (.int .i64 (O4 a b))/\A4 w w':=by
 rw[<-B6d];go_enter Tryz.func153,Tryz.ntmps153;refine en2 ?_;intro u hG b3 b2 hB hF;replace hx:=hx.grow hG;replace hy:=hy.grow hG;refine B8N (rsE A8 [0,0,1,1,0] hB hG λL hL=>?_);refine gs ?_;refine grd (L9 (A1e a b)) (λ(x7:Ax)=>?_) (C:=by(rintro v ⟨hgu,hB,hG,-⟩;exact B1v x y a b _ (hx.grow hgu) (hy.grow hgu) ha hb));refine gmd (C:=by(rintro v ⟨⟨hgu,hB,hG,-⟩,hx7⟩;have hx7:Rn v x7 _:=hx7;exact A8R x7 (A1e a b) _)) ?_;refine gs ?_;refine geT hL ?_;clear hB hG hL L;rintro u ⟨⟨hgu,hB,hG,-⟩,hx7⟩;replace hx:=hx.grow hgu;replace hy:=hy.grow hgu;replace hx7:Rn u x7 _:=hx7;clear hgu;refine rt Tryz.results153 ?_;exact⟨rfl,hG⟩
end Go.Proofs.YtgpglgbcobeogaaGreatDoor
