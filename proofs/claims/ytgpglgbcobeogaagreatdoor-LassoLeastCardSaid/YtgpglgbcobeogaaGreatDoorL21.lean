import Derived.Test.YtgpglgbcobeogaaGreatDoorL20
set_option linter.unusedSimpArgs false
set_option linter.unusedVariables false
set_option maxHeartbeats 1000000
set_option maxRecDepth 100000
namespace Go.Proofs.YtgpglgbcobeogaaGreatDoor
open Go.RowKit
theorem B22{y:Nat}(h:y≠0):bl y=bl (y/2)+1:=by
 by_cases h1:y/2=0
 ·obtain rfl:y=1:=by omega
  rfl
 ·have:=A42 (x:=y%2) (y:=y/2) (k:=1) (by omega) h1;rw[show y%2+2^1*(y/2)=y by omega]at this;omega
theorem A8m{l:List Nat}(hd:Dig W32 l)(hn:0<l.length)(h0:dg l (l.length-1)≠0):bl (val W32 l)=32*(l.length-1)+bl (dg l (l.length-1)):=by
 have h1:=N2 W32 l (l.length-1);rw[show l.length-1+1=l.length by omega,B9r]at h1;have h2:=A5o F5 hd (l.length-1);rw[show W32=2^32 from rfl,<-B8Y]at h2;rw[h1,show W32^(l.length-1)=2^(32*(l.length-1))by rw[show W32=2^32 from rfl,<-B8Y]];exact A42 h2 h0
theorem A5B{a:Nat}(h:a≠0):dg (B4 W32 a) (ln a-1)≠0:=by
 have ht:=A2F D6 a;have hp:=A2G.2 h;have hl:ln a-1<(B4 W32 a).length:=by unfold ln at *;omega
 rcases ht with ht|ht
 ·rw[ht]at hl;cases hl
 ·rw[E8 hl];intro e;apply ht;rw[B82,show(B4 W32 a).length-1=ln a-1 from rfl,B8i hl,e]
theorem A9J(x:Ax)(a:Nat)(w:World)(hx:Rn w x a)(ha:bl a<=1099511627776):Calls Tryz.prog 166 #[nvV x a] w λe w'=>e = .returned (.int .i64 (bl a))/\A4 w w':=by
 obtain⟨A,c⟩:=x;by_cases h0:a=0
 ·subst h0;show Calls Tryz.prog 166 #[.slice A 0 c] w _;clear hx ha;go_enter Tryz.func166,Tryz.ntmps166;go_wp2_with fail;go_ret;exact⟨rfl,A4.refl _⟩
 ·have hp:=A2G.2 h0;have ht:=A5B h0;have hb:=A8m (G5 D6 a) hp ht;rw[E3 D6]at hb;have hl:ln a-1<(B4 W32 a).length:=by unfold ln at *;omega
  obtain⟨b1,o1,rfl,hc⟩:=hx.1.cell hl;have hnl:=A0p a;have htl:=dgl a (ln a-1);show Calls Tryz.prog 166 #[.slice (some ⟨b1,o1,none⟩) (ln a) c] w _;change bl a=32*(ln a-1)+bl (dg (B4 W32 a) (ln a-1))at hb;obtain⟨n,hn⟩:∃n,ln a=n+1:=⟨ln a-1,by omega⟩
  rw[hn,Nat.add_sub_cancel]at hb hc ht htl;rw[hn];obtain⟨T,hT⟩:∃T,T=dg (B4 W32 a) n:=⟨_,rfl⟩
  rw[<-hT]at hb hc ht htl;have f1:((n+1:Nat):Int)-1=(n:Int):=by omega
  have f2:((n+1:Nat):Int)=(n:Int)+1:=by omega
  obtain⟨m,hm⟩:∃m,m=32*n:=⟨_,rfl⟩
  have f3:IntKind.i64.wrap (32*(n:Int))=(m:Int):=by rw[show 32*(n:Int)=((m:Nat):Int)by omega];exact B8j _ (by omega)
  have f4:32*(n:Int)=(m:Int):=by omega
  have fw:IntKind.i64.wrap (m:Int)=(m:Int):=B8j _ (by omega);have hb2:m+bl T=bl a:=by omega
  have Hb2:=B8S hb2;have hmm:m<=1099511627776:=by omega
  have hTb:bl T<=32:=R6.2 (by omega);have hz0:((n:Int)+1 == 0)=false:=by simp;omega
  clear hb hx hp hnl hn hT hm hb2 h0 hl;go_enter Tryz.func166,Tryz.ntmps166;go_wp2_with fail;go_loopw [3,4] (λs t wr=>∃(k y:Nat),s = .int .i64 k/\t = .int .u32 y/\k+bl y=bl a/\y<4294967296/\k<=1099511627776+32/\wr=w) (λ_ t _=>(intOf t).toNat)
  case atStart=>exact⟨m,T,rfl,rfl,Hb2.out,htl,by omega,rfl⟩
  case round =>
   obtain⟨k,y,rfl,rfl,hk,hy,hkb,rfl⟩:=hrel;rcases B8M y with rfl|hpos
   ·have Hk:=B8S hk;clear hk;go_wp2_with fail;go_ret;have:=Hk.out;rw[A1B,Nat.add_zero]at this;exact⟨by rw[this];rfl,A4.refl _⟩
   ·have hh:=B22 (y:=y) (by omega);have hk2:k+1+bl (y/2)=bl a:=by omega
    have Hk:=B8S hk2;have hc1:decide ((0:Int)<(y:Int))=true:=by simp;omega
    obtain⟨z,hz⟩:∃z,z=y/2:=⟨_,rfl⟩
    have f5:(y:Int)/2=(z:Int):=by omega
    have hk1:k+1<=1099511627776+32:=by have:=Hk.out;omega
    have hzy:z<y:=by omega
    rw[<-hz]at Hk;clear hk hk2 hh hz;go_wp2_with fail;go_roundw
    case rel=>exact⟨k+1,z,by go_num,rfl,Hk.out,by omega,hk1,by first|rfl|trivial⟩
    case measure=>simp[intOf];omega
def UpI(k r:Nat)(l:List Nat)(i c:Nat)(zs:List Nat):Prop:=zs.length=k+i/\Dig W32 zs/\c<2^r/\val W32 zs+c*W32^(k+i)=val W32 (l.take i)*2^r*W32^k
theorem UpI.start(k r:Nat)(l:List Nat):UpI k r l 0 0 (List.replicate k 0) :=
 ⟨by simp,λz hz=>by rw[(List.mem_replicate.1 hz).2];exact F5,Nat.two_pow_pos r,by rw[A1S];simp[val]⟩
theorem UpI.next{k r:Nat}{l zs:List Nat}{i c:Nat}(h:UpI k r l i c zs)(hd:Dig W32 l):UpI k r l (i+1) ((c+dg l i*2^r)/W32) (zs++[(c+dg l i*2^r)%W32]):=by
 obtain⟨h1,h2,h3,h4⟩:=h;have hx:=D1 F5 hd i;refine⟨by simp[h1];omega,λz hz=>?_,?_,?_⟩
 ·rcases List.mem_append.1 hz with hz|hz
  ·exact h2 z hz
  ·simp at hz;rw[hz];exact B8b _ F5
 ·refine B9e ?_;have:(dg l i+1)*2^r<=W32*2^r:=B8q _ hx;rw[B9h,B9Y]at this;omega
 ·rw[A0g,h1,N2];have e1:=A6F W32 (W32^(k+i)) (c+dg l i*2^r);have e2:W32^(k+i)*(c+dg l i*2^r)=c*W32^(k+i)+W32^i*dg l i*2^r*W32^k:=by rw[B8a];grind
  have e3:(val W32 (l.take i)+W32^i*dg l i)*2^r*W32^k=val W32 (l.take i)*2^r*W32^k+W32^i*dg l i*2^r*W32^k:=by grind
  rw[show k+(i+1)=k+i+1 by omega,Nat.pow_succ,e3,<-h4];omega
theorem UpI.done{k r:Nat}{l zs:List Nat}{c:Nat}(h:UpI k r l (l.length+1) c zs)(hd:Dig W32 l)(hr:r<=32):val W32 zs=val W32 l*2^r*W32^k:=by
 obtain⟨h1,h2,h3,h4⟩:=h;rw[B8u (by omega)]at h4;have e1:=K6 hd;have e2:2^r<=W32:=by rw[show W32=2^32 from rfl];exact B8Z (by omega) hr
 rcases B8M c with rfl|hc
 ·omega
 ·exfalso;have e3:val W32 l*2^r*W32^k<W32^l.length*W32*W32^k:=by
   refine B9s ?_ (B9t F5);exact B8X (B9s e1 (Nat.two_pow_pos r)) (B9L _ e2)
  have e4:W32^l.length*W32*W32^k=W32^(k+(l.length+1)):=by rw[B8a,Nat.pow_succ];grind
  have e5:W32^(k+(l.length+1))<=c*W32^(k+(l.length+1)):=Nat.le_mul_of_pos_left _ hc;omega
theorem A6R(x:Ax)(a n:Nat)(w:World)(hx:Rn w x a)(ha:bl a<=1099511627776)(hn:n<=1099511627776):Calls Tryz.prog 168 #[nvV x a,.int .i64 n] w (Ret (M3 (a*2^n)) w):=by
 have hat:∀i W,A4 w W->Calls Tryz.prog 196 #[nvV x a,.int .i64 (i:Nat)] W λe w'=>e = .returned (.int .u64 (dg (B4 W32 a) i:Nat))/\A4 W w':=λi W hg=>A3T x a i W (hx.grow hg);obtain⟨p,hp⟩:∃p,p=ln a:=⟨_,rfl⟩
 obtain⟨A,c⟩:=x;have hpl:=A0p a;rw[<-hp]at hpl;change ∀i W,A4 w W->Calls Tryz.prog 196 #[.slice A (ln a) c,.int .i64 (i:Nat)] W _ at hat;show Calls Tryz.prog 168 #[.slice A (ln a) c,.int .i64 n] w _;rw[<-hp]at hat;rw[<-hp];obtain⟨k,hk⟩:∃k,k=n/32:=⟨_,rfl⟩
 obtain⟨r,hr⟩:∃r,r=n%32:=⟨_,rfl⟩
 have hr32:r<32:=by omega
 have q1:(n:Int).tdiv 32=(k:Nat):=by rw[B8Q (by omega)];omega
 have q2:(n:Int).tmod 32=(r:Nat):=by rw[B8R (by omega)];omega
 have q3:(n:Int)/32=(k:Nat):=by omega
 have q4:(n:Int)%32=(r:Nat):=by omega
 have q5:IntKind.i64.wrap (k:Int)=(k:Int):=B8j _ (by omega);have q6:IntKind.i64.wrap (r:Int)=(r:Int):=B8j _ (by omega);have q7:IntKind.u64.wrap (r:Int)=(r:Int):=D4 (by omega);have q8:min r 64=r:=by omega
 have hpw:2^r*W32^k=2^n:=by
  rw[show W32=2^32 from rfl,<-B8Y,<-B8a];congr 1;omega
 have hmk:=A2L k (by omega) (k:Int) rfl;have hnn:decide ((0:Int)<=(n:Int))=true:=by simp
 obtain⟨N,hN⟩:∃N,N=p+1:=⟨_,rfl⟩
 have hN1:N<=p+1:=by omega
 have hN2:p+1<=N:=by omega
 have hkb:k<=34359738400:=by omega
 have hpb:p<=34359738400:=by omega
 have Hat:=B8S hat;have Hp:=B8S hp;have Hpw:=B8S hpw;clear hat hp hx hk hr hpl ha hpw hN;go_enter Tryz.func168,Tryz.ntmps168;refine en0 ?_;intro u hG hB hF;refine B8N ?_;refine r0T ?_;refine B8V (rfl) ?_;refine r0T ?_;have hbo:=Blk.new u 193 (D5 (List.replicate k 0));have hF3:=Fr.new (tk:=[]) hF hB hG (K2 u.heap.size) (by simp);have hB3:=Bx.cons hbo (hB.grow (A4.alloc u (.cells (D5 (List.replicate k 0)) 193)));have hG3:=hG.trans (A4.alloc u (.cells (D5 (List.replicate k 0)) 193));simp only[List.cons_append,List.nil_append,List.map_cons,List.map_nil]at hF3;clear hB hF hG hbo;generalize World.alloc u _=v at  hB3 hG3⊢;generalize u.heap.size=b5 at hB3 hF3⊢;have hB:=hB3;have hF:=hF3;have hG:=hG3;clear hB3 hF3 hG3;obtain⟨u,rfl⟩:=exQ v;refine r0T ?_;refine B8N ?_;refine r0T ?_;refine B8v ?_;have hown:u.ownsRow w.heap.size 193 1 (.slice (some ⟨b5,0,none⟩) k k) k (A1D (List.replicate k 0)):=by
  have:=B1u hB.head (hF.1 b5 (by simp)) (by rw[B8f];unfold maxLen;omega);rw[B8f]at this;exact this
 have Hown:=B8S hown;clear hown hB hF;go_loopw [7,6,5] (λs0 s1 s2 wr=>∃(i c:Nat) (zs:List Nat),i<=N/\s0 = .int .i64 i/\s1 = .int .u64 (c:Nat)/\UpI k r (B4 W32 a) i c zs/\wr.ownsRow w.heap.size 193 1 s2 (k+i) (A1D zs)/\A4 w wr) (λs0 _ _ _=>N-(intOf s0).toNat)
 case atStart=>exact⟨0,0,List.replicate k 0,B8k _,rfl,rfl,UpI.start k r _,Hown.out,hG⟩
 case round =>
  clear hG Hown;obtain⟨i,c,zs,hi,rfl,rfl,hI,ho,hG⟩:=hrel;obtain⟨u,rfl⟩:=exQ wr;have hB:=Bx.nil u;have hF:=Fr.nil w;have HI:=B8S hI;have Ho:=B8S ho;clear hI ho;rcases B73 i N with hlt|hge
  ·have hip:i<=p:=by omega
   have e1:=dgl a i;have hnx:=HI.out.next (G5 D6 a);have hcr:=HI.out.2.2.1;have hat:=Hat.out i;obtain⟨X,hX⟩:∃X,X=dg (B4 W32 a) i:=⟨_,rfl⟩
   rw[<-hX]at e1 hnx;simp only[<-hX]at hat;obtain⟨m,hm⟩:∃m,m=X*2^r:=⟨_,rfl⟩
   rw[<-hm]at hnx;have h31:(2:Nat)^r<=2147483648:=by rw[show(2147483648:Nat)=2^31 from rfl];exact B8Z (by omega) (by omega)
   have hmb:m<=4294967295*2147483648:=by rw[hm];exact B9p (by omega) h31
   obtain⟨s,hs⟩:∃s,s=c+m:=⟨_,rfl⟩
   rw[<-hs]at hnx;have f1:IntKind.u64.wrap ((X:Int)*2^r)=(m:Int):=by rw[show(X:Int)*2^r=((m:Nat):Int)by rw[hm];simp];exact D4 (by omega)
   have f2:bits BinOp.or IntKind.u64 (c:Int) (m:Int)=(s:Nat):=by rw[B8w c m (by omega) (by omega),A2Q hcr (by rw[hm];exact B9F _ _),hs,B9G]
   obtain⟨d,hd⟩:∃d,d=s%4294967296:=⟨_,rfl⟩
   obtain⟨c',hc'⟩:∃d,d=s/4294967296:=⟨_,rfl⟩
   have hnx2:UpI k r (B4 W32 a) (i+1) c' (zs++[d]):=by rw[hc',hd];exact hnx
   have f3:(s:Int)%4294967296=(d:Int):=by omega
   have f3':IntKind.u32.wrap (s:Int)=(d:Int):=by rw[<-f3];simp[IntKind.wrap,IntKind.signed,IntKind.bits]
   have f4:(s:Int)/4294967296=(c':Int):=by omega
   have Hat2:=B8S hat;have Hnx:=B8S hnx2;clear hnx hnx2 hat hX hm hs hd hc' hcr h31;refine B8N ?_;refine r0T ?_;refine B8V (rfl) ?_;refine B8U ?_;refine A6 ?_;refine B8N ?_;refine B8v ?_;refine B8N (rsE A8 [0,0,0,1,0,0,0,0,0,0] hB hG λL hL=>?_);refine gs ?_;refine gmd (C:=λv ⟨hgu,hB,hG,_⟩=>Hat2.out _ hG) ?_;refine gs ?_;refine geT hL ?_;clear hB hG hL L;rintro u ⟨hgu,hB,hG,-⟩;have Hon:=B8S (C5 Ho.out hgu);clear Ho;have Ho:=Hon;clear Hon;clear hgu;refine B8N ?_;refine M4 (w:=w) A8 3 [0,0,0] (by kernel_rfl) (by simp only[List.drop_succ_cons,List.drop_zero];exact rfl) (λ_=>True) noG hB hG trivial ?_;intro K L hN hL;simp only[List.zip_cons_cons,List.zip_nil_left];refine gs ?_;refine H8 ?_;rintro v ⟨hgu,hB1,hG1,-⟩;have ROWn:=B8S (C5 Ho.out hgu);clear Ho;have Ho:=ROWn;clear ROWn;clear hB hG;have hB:=hB1;have hG:=hG1;clear hB1 hG1;refine hL _ _ ?_;clear hL L hgu;obtain⟨u,rfl⟩:=exQ v;refine L6 A5n w.heap.size _ _ _ _ [.int .u32 (d:Nat)] rfl rfl (A7q d u) rfl (λ_=>rfl) (λ_=>rfl) (λ_ _=>rfl) Ho.out (by omega) (by omega) hG.sz λp v' w' g1 g2 g3=>?_;have hBn:=Bx.nil w';have hGn:=K3 Ho.out hG g2;clear Ho hB hG;have Ho:=B8S g1;have hB:=hBn;have hG:=hGn;clear g1 g2 g3 hBn hGn;obtain⟨u,rfl⟩:=exQ w';simp only[Act.put,List.setIfInBounds_toArray,List.set_cons_succ,List.set_cons_zero];refine NoK.norm (hN _ _ ?_);clear hN K;refine A6 ?_;refine r0E ?_;refine C8 ?_;refine A6 ?_;refine r0E ?_;refine A6 ?_;go_roundw
   case rel=>exact⟨i+1,c',zs++[d],by omega,by go_num,rfl,Hnx.out,by have:=Ho.out;rw[show k+(i+1)=k+i+1 by omega];simpa using this,hG⟩
   case measure=>simp[intOf];omega
  ·obtain rfl:N=i:=by omega
   have hnp:¬(N<=p):=by omega
   have hvv:=HI.out;have hNp:N=(B4 W32 a).length+1:=by rw[show(B4 W32 a).length=p from Hp.out.symm];omega
   rw[hNp]at hvv;have hv2:=hvv.done (G5 D6 a) (by omega);rw[E3 D6,B9Q,Hpw.out]at hv2;obtain⟨A',cc,rfl,hcc1,hcc2,hL,hkl⟩:=A70 Ho.out;have htr:∀W,A4 u W->Calls Tryz.prog 139 #[.slice A' (k+N) cc] W λe w'=>e = .returned (.slice A' (ln (a*2^n)) cc)/\A4 W w':=λW hg=>by
    have h1:=A19 A' zs cc W (hL.grow hg) (by omega) (by unfold maxLen at hcc2;omega);have e:E4 zs=B4 W32 (a*2^n):=by rw[<-hv2];exact A60 D6 HI.out.2.1
    rw[e,<-hkl]at h1;exact h1
   have Htr:=B8S htr;have HL:=B8S hL;have Hv2:=B8S hv2;have Hkl:=B8S hkl;clear htr hL hv2 hvv hNp hkl;refine B8N ?_;refine r0T ?_;refine B8T (rfl) ?_;refine B8x ?_;refine B7 ?_;refine B7 ?_;refine D0 ?_;refine A6 ?_;refine B8N ?_;obtain⟨V,hV⟩:∃V,V=a*2^n:=⟨_,rfl⟩
   rw[<-hV]at Htr Hv2;have HV:=B8S hV;clear hV;refine rsE A8 [0,1,0] hB hG λL hL=>?_;refine gs ?_;refine gmd (C:=λv ⟨hgu,hB,hG,_⟩=>Htr.out _ hgu) ?_;refine gs ?_;refine geT hL ?_;clear hB hG hL L;rintro u ⟨hgu,hB,hG,-⟩;have hgf:=hgu;clear hgu;refine rt Tryz.results168 ?_;exact⟨(A',cc),by rw[<-HV.out];rfl,by rw[<-HV.out];exact(A4Z HL.out HI.out.2.1 Hv2.out (by have:=Hkl.out;omega) (by unfold maxLen at hcc2;omega) (by have:=Hkl.out;omega)).1.grow hgf,hG⟩
def A2g(P R:Nat)(l:List Nat)(i:Nat)(zs:List Nat):Prop:=zs.length=i/\∀t,t<i->dg zs t=dg l t/P+dg l (t+1)%P*R
theorem A2g.next{P R:Nat}{l zs:List Nat}{i:Nat}(h:A2g P R l i zs):A2g P R l (i+1) (zs++[dg l i/P+dg l (i+1)%P*R]):=by
 refine⟨by simp[h.1],λt ht=>?_⟩;unfold dg;rcases B73 t i with hlt|hge
 ·rw[B9u (by rw[h.1];exact hlt)];exact h.2 t hlt
 ·obtain rfl:t=i:=by omega
  rw[B9v (by rw[h.1];exact K2 _),h.1,B8g];rfl
theorem A2g.done{P R:Nat}{l zs:List Nat}(h:A2g P R l l.length zs)(hW:W32=P*R)(hP:0<P)(hd:Dig W32 l):val W32 zs=val W32 l/P/\Dig W32 zs :=
 ⟨A4s hW hP F5 l zs hd h.1 h.2,λx hx=>by
  obtain⟨t,ht,rfl⟩:=B9w hx;rw[<-E8 ht,h.2 t (by rw[<-h.1];exact ht)]
  exact(A2R hW hP (D1 F5 hd _)).1⟩
theorem B2o{x y P R:Nat}(hW:W32=P*R)(hP:0<P)(hx:x<W32):(x+y*W32)/P%W32=x/P+y%P*R:=by
 have h1:(x+y*W32)/P=x/P+y*R:=by rw[hW,show y*(P*R)=P*(y*R)by grind,B9k _ _ hP]
 rw[h1];have h2:=(A2R (y:=y) hW hP hx).1;have h3:y*R=y%P*R+(y/P)*W32:=by
  have:=B9c y P
  calc y*R=(P*(y/P)+y%P)*R:=by rw[this]
   _=y%P*R+(y/P)*W32:=by rw[hW];grind
 rw[h3,<-B9g,Nat.add_mul_mod_self_right,Nat.mod_eq_of_lt h2]
theorem B37(x:Ax)(a n:Nat)(w:World)(hx:Rn w x a)(ha:bl a<=1099511627776)(hn0:0<n)(hn:n<32):Calls Tryz.prog 168 #[nvV x a,.int .i64 (-(n:Int))] w (Ret (M3 (a/2^n)) w):=by
 have hat:∀i W,A4 w W->Calls Tryz.prog 196 #[nvV x a,.int .i64 (i:Nat)] W λe w'=>e = .returned (.int .u64 (dg (B4 W32 a) i:Nat))/\A4 W w':=λi W hg=>A3T x a i W (hx.grow hg);obtain⟨p,hp⟩:∃p,p=ln a:=⟨_,rfl⟩
 obtain⟨A,c⟩:=x;have hpl:=A0p a;rw[<-hp]at hpl;change ∀i W,A4 w W->Calls Tryz.prog 196 #[.slice A (ln a) c,.int .i64 (i:Nat)] W _ at hat;show Calls Tryz.prog 168 #[.slice A (ln a) c,.int .i64 (-(n:Int))] w _;rw[<-hp]at hat;rw[<-hp];have q1:(n:Int).tdiv 32=0:=by rw[B8Q (by omega)];omega
 have q2:(n:Int).tmod 32=(n:Nat):=by rw[B8R (by omega)];omega
 have q3:(n:Int)/32=0:=by omega
 have q4:(n:Int)%32=(n:Nat):=by omega
 have q5 : - (-(n:Int))=(n:Int):=by omega
 have q6:IntKind.i64.wrap (n:Int)=(n:Int):=B8j _ (by omega);have q7:IntKind.u64.wrap (n:Int)=(n:Int):=D4 (by omega);have q8:min n 64=n:=by omega
 have hnz:¬n=0:=by omega
 obtain⟨t,ht⟩:∃t,t=32-n:=⟨_,rfl⟩
 have hpw:W32=2^n*2^t:=by rw[<-B8a,show n+t=32 by omega];rfl
 have hpb:p<=34359738400:=by omega
 have Hat:=B8S hat;have Hp:=B8S hp;have Hpw:=B8S hpw;clear hat hp hx hpl ha hpw ht;go_enter Tryz.func168,Tryz.ntmps168;refine en0 ?_;intro u hG hB hF;refine B8N ?_;refine r0T ?_;refine B8T (rfl) ?_;refine B8U ?_;refine A6 ?_;refine r0T ?_;refine r0T ?_;refine B8N ?_;refine r0T ?_;refine B8v ?_;clear hB hF;go_loopw [9,8] (λs0 s2 wr=>∃(i:Nat) (zs:List Nat),i<=p/\s0 = .int .i64 i/\A2g (2^n) (2^t) (B4 W32 a) i zs/\wr.ownsRow w.heap.size 193 1 s2 i (A1D zs)/\A4 w wr) (λs0 _ _=>p-(intOf s0).toNat)
 case atStart=>exact⟨0,[],B8k _,rfl,⟨rfl,λt ht=>by omega⟩,B9x _ _ _ _,hG⟩
 case round =>
  clear hG;obtain⟨i,zs,hi,rfl,hI,ho,hG⟩:=hrel;obtain⟨u,rfl⟩:=exQ wr;have hB:=Bx.nil u;have hF:=Fr.nil w;have HI:=B8S hI;have Ho:=B8S ho;clear hI ho;rcases B73 i p with hlt|hge
  ·have hdec:decide ((i:Int)<(p:Int))=true:=by simp;omega
   have e1:=dgl a i;have e2:=dgl a (i+1);have hnx:=HI.out.next;have hat:=Hat.out i;obtain⟨i1,hi1⟩:∃j,j=i+1:=⟨_,rfl⟩
   have hat1:=Hat.out i1;rw[<-hi1]at e2 hnx;have fi:IntKind.i64.wrap ((i:Int)+1)=(i1:Int):=by rw[show(i:Int)+1=((i1:Nat):Int)by omega];exact B8j _ (by omega)
   obtain⟨X,hX⟩:∃X,X=dg (B4 W32 a) i:=⟨_,rfl⟩
   obtain⟨Y,hY⟩:∃X,X=dg (B4 W32 a) i1:=⟨_,rfl⟩
   rw[<-hX]at e1 hnx;rw[<-hY]at e2 hnx;simp only[<-hX]at hat;simp only[<-hY]at hat1;obtain⟨m,hm⟩:∃m,m=Y*4294967296:=⟨_,rfl⟩
   obtain⟨s,hs⟩:∃s,s=X+m:=⟨_,rfl⟩
   have f1:IntKind.u64.wrap ((Y:Int)*4294967296)=(m:Int):=by rw[show(Y:Int)*4294967296=((m:Nat):Int)by omega];exact D4 (by omega)
   have f1b:(Y:Int)*4294967296=(m:Int):=by omega
   have f1c:IntKind.u64.wrap (m:Int)=(m:Int):=D4 (by omega);have f2:bits BinOp.or IntKind.u64 (X:Int) (m:Int)=(s:Nat):=by rw[B8w X m (by omega) (by omega),A2Q (s:=32) e1 (by rw[hm];exact B9F _ _),hs,B9G]
   obtain⟨g,hg⟩:∃g,g=s/2^n:=⟨_,rfl⟩
   have f3:(s:Int)/2^n=(g:Int):=by rw[hg];simp
   obtain⟨d,hd⟩:∃d,d=g%4294967296:=⟨_,rfl⟩
   have f4:(g:Int)%4294967296=(d:Int):=by omega
   have f4':IntKind.u32.wrap (g:Int)=(d:Int):=by rw[<-f4];simp[IntKind.wrap,IntKind.signed,IntKind.bits]
   have hdl:X/2^n+Y%2^n*2^t=d:=by
    rw[hd,hg,hs,hm];exact(B2o (x:=X) (y:=Y) Hpw.out (Nat.two_pow_pos n) e1).symm
   rw[hdl,hi1]at hnx;have Hat0:=B8S hat;have Hat1:=B8S hat1;have Hnx:=B8S hnx;have Hi1:=B8S hi1;clear hnx hat hat1 hX hY hm hs hg hd hdl hi1;refine B8N ?_;refine r0T ?_;refine B8V (rfl) ?_;refine B8U ?_;refine A6 ?_;refine B8N ?_;refine B8v ?_;refine B8N (rsE A8 [0,0,1,0,0,0,1,0,0,0] hB hG λL hL=>?_);refine gs ?_;refine gmd (C:=λv ⟨hgu,hB,hG,_⟩=>Hat0.out _ hG) ?_;refine gs ?_;refine gmd (C:=λv ⟨hgu,hB,hG,_⟩=>Hat1.out _ hG) ?_;refine gs ?_;refine geT hL ?_;clear hB hG hL L;rintro u ⟨hgu,hB,hG,-⟩;have Hon:=B8S (C5 Ho.out hgu);clear Ho;have Ho:=Hon;clear Hon;clear hgu;refine M4 (w:=w) A8 7 [0,0,0,0,0,0,0] (by kernel_rfl) (by simp only[List.drop_succ_cons,List.drop_zero];exact rfl) (λ_=>True) noG hB hG trivial ?_;intro K L hN hL;simp only[List.zip_cons_cons,List.zip_nil_left];refine gs ?_;refine H8 ?_;rintro v ⟨hgu,hB1,hG1,-⟩;have ROWn:=B8S (C5 Ho.out hgu);clear Ho;have Ho:=ROWn;clear ROWn;clear hB hG;have hB:=hB1;have hG:=hG1;clear hB1 hG1;refine hL _ _ ?_;clear hL L hgu;obtain⟨u,rfl⟩:=exQ v;refine L6 A5n w.heap.size _ _ _ _ [.int .u32 (d:Nat)] rfl rfl (A7q d u) rfl (λ_=>rfl) (λ_=>rfl) (λ_ _=>rfl) Ho.out (by omega) (by omega) hG.sz λp v' w' g1 g2 g3=>?_;have hBn:=Bx.nil w';have hGn:=K3 Ho.out hG g2;clear Ho hB hG;have Ho:=B8S g1;have hB:=hBn;have hG:=hGn;clear g1 g2 g3 hBn hGn;obtain⟨u,rfl⟩:=exQ w';simp only[Act.put,List.setIfInBounds_toArray,List.set_cons_succ,List.set_cons_zero];refine NoK.norm (hN _ _ ?_);clear hN K;refine C8 ?_;refine A6 ?_;refine r0E ?_;refine A6 ?_;go_roundw
   case rel=>exact⟨i1,zs++[d],by have:=Hi1.out;omega,by first|rfl|go_num,by rw[Hi1.out];exact Hnx.out,by have:=Ho.out;rw[Hi1.out];simpa using this,hG⟩
   case measure=>have:=Hi1.out;simp[intOf];omega
  ·obtain rfl:p=i:=by omega
   have hdec:decide ((p:Int)<(p:Int))=false:=by simp
   have hvv:=HI.out;rw[show p=(B4 W32 a).length from Hp.out]at hvv;obtain⟨hv2,hdd⟩:=hvv.done Hpw.out (Nat.two_pow_pos n) (G5 D6 a);rw[E3 D6]at hv2;obtain⟨A',cc,rfl,hcc1,hcc2,hL,hkl⟩:=A70 Ho.out;have htr:∀W,A4 u W->Calls Tryz.prog 139 #[.slice A' p cc] W λe w'=>e = .returned (.slice A' (ln (a/2^n)) cc)/\A4 W w':=λW hg=>by
    have h1:=A19 A' zs cc W (hL.grow hg) (by omega) (by unfold maxLen at hcc2;omega);have e:E4 zs=B4 W32 (a/2^n):=by rw[<-hv2];exact A60 D6 hdd
    rw[e,<-hkl]at h1;exact h1
   have Htr:=B8S htr;have HL:=B8S hL;have Hv2:=B8S hv2;have Hkl:=B8S hkl;have Hdd:=B8S hdd;clear htr hL hv2 hvv hkl hdd;refine B8N ?_;refine r0T ?_;refine B8T (rfl) ?_;refine B8x ?_;refine B7 ?_;refine B7 ?_;refine D0 ?_;refine A6 ?_;refine B8N ?_;obtain⟨V,hV⟩:∃V,V=a/2^n:=⟨_,rfl⟩
   rw[<-hV]at Htr Hv2;have HV:=B8S hV;clear hV;refine rsE A8 [0,1,0] hB hG λL hL=>?_;refine gs ?_;refine gmd (C:=λv ⟨hgu,hB,hG,_⟩=>Htr.out _ hgu) ?_;refine gs ?_;refine geT hL ?_;clear hB hG hL L;rintro u ⟨hgu,hB,hG,-⟩;have hgf:=hgu;clear hgu;refine rt Tryz.results168 ?_;exact⟨(A',cc),by rw[<-HV.out];rfl,by rw[<-HV.out];exact(A4Z HL.out Hdd.out Hv2.out (by have:=Hkl.out;omega) (by unfold maxLen at hcc2;omega) (by have:=Hkl.out;omega)).1.grow hgf,hG⟩
end Go.Proofs.YtgpglgbcobeogaaGreatDoor
namespace Go.Proofs.YtgpglgbcobeogaaGreatDoor
def GJ(W u2 u1 u0 v1 v0 g r:Nat):Prop:=g<=W+1/\r<W/\g*v1+r=u2*W+u1/\∀g',g'<W->g'*(v1*W+v0)<=(u2*W+u1)*W+u0->g'<=g
theorem GJ.start{W u2 u1 u0 v1 v0:Nat}(hW:0<W)(h:u2<=v1)(hv:W<=2*v1)(hvW:v1<W)(h1:u1<W)(h0:u0<W):GJ W u2 u1 u0 v1 v0 ((u2*W+u1)/v1) ((u2*W+u1)%v1):=by
 have hp:0<v1:=by omega
 have e1:u2*W<=v1*W:=B8q _ h;refine⟨?_,B8o (B8b _ hp) hvW,by rw[B8t];exact B9c _ _,λg' _ hg=>?_⟩
 ·have:(u2*W+u1)/v1<W+2:=(B9q hp).2 (by rw[B9h,B8t W v1];omega);omega
 ·rw[B9y hp];have h2:g'*v1*W<=g'*(v1*W+v0):=by rw[B9o,B9Q];omega
  have h3:g'*v1*W<(u2*W+u1+1)*W:=by rw[B9h (u2*W+u1),B9Y];omega
  have:=B9l h3;omega
theorem GJ.small{W u2 u1 u0 v1 v0 g r:Nat}(h:GJ W u2 u1 u0 v1 v0 g r)(hg:g<W):GI W u2 u1 u0 v1 v0 g r:=⟨hg,h.2.2.1,h.2.2.2⟩
theorem GI.back{W u2 u1 u0 v1 v0 g r:Nat}(h:GI W u2 u1 u0 v1 v0 g r)(hr:r<W):GJ W u2 u1 u0 v1 v0 g r:=⟨by have:=h.1;omega,hr,h.2.1,h.2.2⟩
theorem GJ.big{W u2 u1 u0 v1 v0 g r:Nat}(h:GJ W u2 u1 u0 v1 v0 g r)(hg:W<=g)(hu:u2<=v1)(h1:u1<W)(h0:v0<W)(hW:0<W) :
  (W<=r+v1->GW W u2 u1 u0 v1 v0 (g-1))/\(r+v1<W->GJ W u2 u1 u0 v1 v0 (g-1) (r+v1)):=by
 obtain⟨k,rfl⟩:∃k,g=k+1:=⟨g-1,by omega⟩
 obtain⟨a1,a2,a3,a4⟩:=h;rw[Nat.add_sub_cancel];have e1:k*v1+(r+v1)=u2*W+u1:=by rw[B9h,B9Y]at a3;omega
 refine⟨λhr=>?_,λhr=>⟨by omega,hr,e1,λg' hg' _=>by omega⟩⟩;have hk:k<W:=by
  rcases B73 k W with h|h
  ·exact h
  ·exfalso;have e2:W*v1<=k*v1:=B8q _ h;have e3:u2*W<=v1*W:=B8q _ hu;rw[B8t v1]at e3;omega
 exact GI.over (r:=r+v1) ⟨hk,e1,λg' hg' _=>by omega⟩ h0 hr
theorem GJ.less{W u2 u1 u0 v1 v0 g r:Nat}(h:GJ W u2 u1 u0 v1 v0 g r)(hg:g<W)(hs:¬g*v0<=r*W+u0)(h0:v0<W) :
  0<g/\(W<=r+v1->GW W u2 u1 u0 v1 v0 (g-1))/\(r+v1<W->GJ W u2 u1 u0 v1 v0 (g-1) (r+v1)):=by
 obtain⟨a1,a2⟩:=(h.small hg).next hs;exact⟨a1,λhr=>a2.over h0 hr,λhr=>a2.back hr⟩
theorem GJ.stop{W u2 u1 u0 v1 v0 g r:Nat}(h:GJ W u2 u1 u0 v1 v0 g r)(hg:g<W)(hs:g*v0<=r*W+u0):GW W u2 u1 u0 v1 v0 g:=(h.small hg).stop hs
theorem B7Y{a n:Nat}(h1:W32^n<=a)(h2:a<W32^(n+1)):ln a=n+1:=by
 have e1:=K6 (G5 D6 a);rw[E3 D6]at e1;have hl:n<ln a:=by
  rcases B73 n (ln a)with h|h
  ·exact h
  ·exfalso;have:W32^ln a<=W32^n:=B8Z F5 h;change a<W32^ln a at e1;omega
 rcases B73 (n+1) (ln a)with h|h
 ·exfalso;have h0:a≠0:=by
   have:0<W32^n:=B9t F5;omega
  have e3:=N2 W32 (B4 W32 a) (ln a-1);rw[show ln a-1+1=ln a by omega,show ln a=(B4 W32 a).length from rfl,B9r,E3 D6]at e3;have e4:=A5B h0;rw[show ln a=(B4 W32 a).length from rfl]at e4;have e5:W32^((B4 W32 a).length-1)*1<=W32^((B4 W32 a).length-1)*dg (B4 W32 a) ((B4 W32 a).length-1):=B9L _ (by omega);have e6:W32^(n+1)<=W32^((B4 W32 a).length-1):=B8Z F5 (by change n+1<(B4 W32 a).length at h;omega);omega
 ·omega
theorem B4f{b n1 s:Nat}(hl:ln b=n1+1)(hs:s=32*ln b-bl b):s<32/\bl b+s=32*(n1+1)/\ln (b*2^s)=n1+1/\b*2^s<W32^(n1+1)/\W32^n1*2147483648<=b*2^s/\2147483648<=dg (B4 W32 (b*2^s)) n1:=by
 have h0:b≠0:=by intro e;rw[e,A5v]at hl;omega
 have hb:=A8m (G5 D6 b) (by change 0<ln b;omega) (A5B h0);rw[E3 D6]at hb;change bl b=32*(ln b-1)+bl (dg (B4 W32 b) (ln b-1))at hb;have ht:=U9.2 (A5B h0);have hd:bl (dg (B4 W32 b) (ln b-1))<=32:=R6.2 (dgl b _);rw[hl]at hb hs ht hd;have e1:bl b+s=32*(n1+1):=by omega
 have e2:W32^(n1+1)=2^(32*(n1+1)):=by rw[show W32=2^32 from rfl,<-B8Y]
 have e3:b*2^s<W32^(n1+1):=by
  rw[e2,<-e1,B8a];exact B9s (A0Y b) (Nat.two_pow_pos s)
 have e4:W32^n1*2147483648<=b*2^s:=by
  have h1:2^(bl b-1)<=b:=A05.1 (by omega);rw[show W32^n1=2^(32*n1)by rw[show W32=2^32 from rfl,<-B8Y],show 2147483648=2^31 from rfl,<-B8a,show 32*n1+31=bl b-1+s by omega,B8a];exact B8q _ h1
 have e5:ln (b*2^s)=n1+1:=B7Y (by have:W32^n1*1<=W32^n1*2147483648:=B9L _ (by omega);omega) e3;refine⟨by omega,e1,e5,e3,e4,?_⟩;have h3:=N2 W32 (B4 W32 (b*2^s)) n1;rw[show(B4 W32 (b*2^s)).take (n1+1)=B4 W32 (b*2^s)by rw[<-e5];exact B9r,E3 D6]at h3;have h4:=A5o F5 (G5 D6 (b*2^s)) n1;rcases B73 (dg (B4 W32 (b*2^s)) n1) 2147483648 with h|h
 ·exfalso;have h5:W32^n1*(dg (B4 W32 (b*2^s)) n1+1)<=W32^n1*2147483648:=B9L _ h;rw[B9o,B9P]at h5;omega
 ·exact h
theorem B1L{a V n1 k0:Nat}(hV:W32^n1<=V)(hk:n1+1+k0=ln a+2):DvI W32 V a k0 (B4 W32 a++[0,0]) (List.replicate k0 0):=by
 have hv:val W32 (B4 W32 a++[0,0])=a:=by rw[A0O,E3 D6];simp[val]
 refine⟨λx hx=>?_,λx hx=>by rw[(List.mem_replicate.1 hx).2];exact F5,by rw[A1S,hv];simp,?_,λt _=>by unfold dg;rw[B9f];split<;>rfl⟩
 ·rcases List.mem_append.1 hx with h|h
  ·exact G5 D6 a x h
  ·have:x=0:=by simpa using h
   rw[this];exact F5
 ·rw[hv];have e1:=K6 (G5 D6 a);rw[E3 D6]at e1;change a<W32^ln a at e1
  calc a<W32^ln a:=e1
   _<=W32^(n1+k0):=B8Z F5 (by omega)
   _=W32^n1*W32^k0:=B8a _ _ _
   _<=V*W32^k0:=B8q _ hV
theorem DvI.top'{W X j n2:Nat}{us qs vs:List Nat}(hW:0<W)(h:DvI W (val W vs) X (j+1) us qs)(hv:Dig W vs)(hvW:val W vs<W^(n2+2)) :
  Dig W (us.drop j)/\(∀t,n2+3<=t->dg (us.drop j) t=0)/\(∀t,n2+2<=t->dg vs t=0)/\val W (us.drop j)<val W vs*W/\(∀t,j+n2+3<=t->dg us t=0):=by
 have hp:0<W^j:=B9t hW;have h1:val W us<W^(j+n2+3):=by
  refine B8X h.2.2.2.1 ?_
  calc val W vs*W^(j+1)<=W^(n2+2)*W^(j+1):=B8q _ (B8B hvW)
   _=W^(j+n2+3):=by rw[<-B8a];congr 1;omega
 have h2:=A3Z hW h.1 h1;refine⟨λx hx=>h.1 x (B9E hx),λt ht=>by rw[A1A];exact h2 _ (by omega),A3Z hW hv hvW,?_,h2⟩;rw[<-A3J hW h.1,B9q hp,B9Q,B8t W,<-Nat.pow_succ];exact h.2.2.2.1
theorem B5O{W g x cy:Nat}(hW:0<W):g*x/W+(g*x%W+cy)/W=(cy+g*x)/W/\(g*x%W+cy)%W=(cy+g*x)%W:=by
 have e1:=B9c (g*x) W;constructor
 ·have:cy+g*x=g*x%W+cy+W*(g*x/W):=by omega
  rw[this,B9k _ _ hW];omega
 ·have:cy+g*x=g*x%W+cy+W*(g*x/W):=by omega
  rw[this,B9I]
end Go.Proofs.YtgpglgbcobeogaaGreatDoor
namespace Go.Proofs.YtgpglgbcobeogaaGreatDoor
open Go.RowKit
theorem B2N{w w1 w2:World}{x:Ax}{X:Nat}(hX:X≠0)(hg1:A4 w w1)(hg2:A4 (w1.alloc (.cells #[] 193)) w2)(hx:Rn w2 x X)(hl:ln X<=34359738500) :
  ∃v1 w3,(Builtin.append_ #[29,29] 29 #[.slice (some ⟨w1.heap.size,0,none⟩) 0 0,.slice x.1 (ln X) x.2]).run Tryz.prog w2 = .ok v1 w3 /\
  ∃(g cap:Nat) (J:Array Value) (w4:World),(Builtin.append_ #[29,29] 29 #[v1,.slice (some ⟨w3.heap.size,0,none⟩) 2 2]).run Tryz.prog (w3.alloc (.cells #[.int .u32 0,.int .u32 0] 193)) = .ok (.slice (some ⟨g,0,none⟩) (ln X+2) cap) w4 /\
   ln X+2<=cap/\cap<=maxLen/\Blk w4 g 193 (D5 (B4 W32 X++[0,0])++J)/\A4 w w4/\w1.heap.size<=g/\g<w4.heap.size/\A4 w1 w4:=by
 obtain⟨A,c⟩:=x;obtain⟨hund,⟨i0,z0,hi0,hz0,hz1,hz2,hz3⟩,hpos⟩:=A5n;have hlp:=A2G.2 hX;obtain⟨b,o,hA,-⟩:=hx.1.cell (i:=0) hlp;have hA:A=some ⟨b,o,none⟩:=hA;subst hA
 have hown0:w2.ownsRow w1.heap.size 193 1 (.slice (some ⟨w1.heap.size,0,none⟩) 0 0) 0 [] :=
  ⟨rfl,.inr ⟨w1.heap.size,0,#[],rfl,K2 _,Blk.grow hg2 (Blk.new w1 193 #[]),K2 _,B8k _,rfl,rfl⟩⟩
 have hs2:=hg2.size;rw[I7]at hs2
 obtain⟨v1,w3,r1,o1,g1,-,k1⟩:=run_append_own_at (P:=Tryz.prog) (w:=w2) w1.heap.size 29 29 193 i0 z0 1 4 hund hi0 hz0 hz1 hz2 hz3 hpos _ 0 [] hown0 ⟨b,o,none⟩ (ln X) c (A1D (B4 W32 X)) (by simp[ln]) (λj v hj=>by
  rw[List.getElem?_map]at hj;obtain⟨hjl,-⟩:∃h:j<(B4 W32 X).length,True:=by
   rcases B73 j (B4 W32 X).length with h|h
   ·exact⟨h,trivial⟩
   ·rw[B9n h]at hj;cases hj
  obtain⟨b',o',e,hc⟩:=hx.1.cell hjl;cases e;rw[B8l,hc,<-hj,B8i hjl,E8 hjl];rfl) (λv hv=>by
  obtain⟨y,_,rfl⟩:=List.mem_map.1 hv
  rfl) (by unfold maxLen;omega) (by omega) (by omega)
 have hG3:A4 w1 w3:=((A4.alloc w1 _).trans hg2).grown g1 λk hk=>by
  cases hk;exact K2 _
 refine⟨v1,w3,r1,?_⟩;have o1':=o1.alloc (.cells #[.int .u32 0,.int .u32 0] 193)
 obtain⟨v2,w4,r2,o2,g2,n2,k2⟩:=run_append_own_at (P:=Tryz.prog) (w:=w3.alloc (.cells #[.int .u32 0,.int .u32 0] 193)) w1.heap.size 29 29 193 i0 z0 1 4 hund hi0 hz0 hz1 hz2 hz3 hpos v1 _ _ o1' ⟨w3.heap.size,0,none⟩ 2 2 (A1D [0,0]) rfl (λj v hj=>by
  rw[B8l,Nat.zero_add,Blk.cell (Blk.new w3 193 #[.int .u32 0,.int .u32 0]) j];rw[<-hj];simp[A1D]) (λv hv=>by
  obtain⟨y,_,rfl⟩:=List.mem_map.1 hv
  rfl) (by unfold maxLen;omega) (by omega) (by have:=hG3.size;rw[I7];omega)
 have hG4:A4 w1 w4:=(hG3.trans (A4.alloc w3 _)).grown g2 λk hk=>(o1.lt k hk).1;obtain⟨ol,h|⟨g,cap,cur,rfl,hb,hh,hn,hc,hsz,ht⟩⟩:=o2
 ·omega
 ·rw[Nat.zero_add]at r2 hn ht;refine⟨g,cap,(cur.toList.drop ((ln X+2)*1)).toArray,w4,r2,hn,hc,?_,hg1.trans hG4,hb,N7 hh,hG4⟩;have e:D5 (B4 W32 X++[0,0])++(cur.toList.drop ((ln X+2)*1)).toArray=cur:=by
   apply Array.toList_inj.1;rw[Array.toList_append,show(D5 (B4 W32 X++[0,0])).toList=cur.toList.take ((ln X+2)*1)by rw[ht];simp[D5,A1D]];simp
  rw[e];exact hh
end Go.Proofs.YtgpglgbcobeogaaGreatDoor
