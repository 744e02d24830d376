import Derived.Test.YtgpglgbcobeogaaGreatDoorN20
set_option linter.unusedSimpArgs false
set_option linter.unusedVariables false
set_option maxHeartbeats 1000000
set_option maxRecDepth 100000
namespace Go.Proofs.YtgpglgbcobeogaaGreatDoor
open Go.RowKit
def A2x(P R:Nat)(l:List Nat)(i:Nat)(zs:List Nat):Prop:=zs.length=i/\∀t,t<i->dg zs t=dg l t/P+dg l (t+1)%P*R
theorem A2x.next{P R:Nat}{l zs:List Nat}{i:Nat}(h:A2x P R l i zs):A2x P R l (i+1) (zs++[dg l i/P+dg l (i+1)%P*R]):=by
 refine⟨by simp[h.1],λt ht=>?_⟩;unfold dg;rcases B8t t i with hlt|hge
 ·rw[C0k (by rw[h.1];exact hlt)];exact h.2 t hlt
 ·obtain rfl:t=i:=by omega
  rw[C0l (by rw[h.1];exact B8s _),h.1,B9W];rfl
theorem A2x.done{P R:Nat}{l zs:List Nat}(h:A2x P R l l.length zs)(hW:W32=P*R)(hP:0<P)(hd:Dig W32 l):val W32 zs=val W32 l/P/\Dig W32 zs :=
 ⟨A4v hW hP F9 l zs hd h.1 h.2,λx hx=>by
  obtain⟨t,ht,rfl⟩:=C0m hx;rw[<-E3 ht,h.2 t (by rw[<-h.1];exact ht)]
  exact(A2R hW hP (C6 F9 hd _)).1⟩
theorem B2o{x y P R:Nat}(hW:W32=P*R)(hP:0<P)(hx:x<W32):(x+y*W32)/P%W32=x/P+y%P*R:=by
 have h1:(x+y*W32)/P=x/P+y*R:=by rw[hW,show y*(P*R)=P*(y*R)by grind,C0a _ _ hP]
 rw[h1];have h2:=(A2R (y:=y) hW hP hx).1;have h3:y*R=y%P*R+(y/P)*W32:=by
  have:=C0S y P
  calc y*R=(P*(y/P)+y%P)*R:=by rw[this]
   _=y%P*R+(y/P)*W32:=by rw[hW];grind
 rw[h3,<-C0W,Nat.add_mul_mod_self_right,Nat.mod_eq_of_lt h2]
theorem B2Q(x:Ax)(a n:Nat)(w:World)(hx:Rn w x a)(ha:bl a<=1099511627776)(hn0:0<n)(hn:n<32):Calls Tryz.prog 168 #[nvV x a,.int .i64 (-(n:Int))] w (Ret (W7 (a/2^n)) w):=by
 have hat:∀i W,A4 w W->Calls Tryz.prog 196 #[nvV x a,.int .i64 (i:Nat)] W λe w'=>e = .returned (.int .u64 (dg (B5 W32 a) i:Nat))/\A4 W w':=λi W hg=>A64 x a i W (hx.grow hg);obtain⟨p,hp⟩:∃p,p=ln a:=⟨_,rfl⟩
 obtain⟨A,c⟩:=x;have hpl:=A3b a;rw[<-hp]at hpl;change ∀i W,A4 w W->Calls Tryz.prog 196 #[.slice A (ln a) c,.int .i64 (i:Nat)] W _ at hat;show Calls Tryz.prog 168 #[.slice A (ln a) c,.int .i64 (-(n:Int))] w _;rw[<-hp]at hat;rw[<-hp];have q1:(n:Int).tdiv 32=0:=by rw[B9G (by omega)];omega
 have q2:(n:Int).tmod 32=(n:Nat):=by rw[B9H (by omega)];omega
 have q3:(n:Int)/32=0:=by omega
 have q4:(n:Int)%32=(n:Nat):=by omega
 have q5 : - (-(n:Int))=(n:Int):=by omega
 have q6:IntKind.i64.wrap (n:Int)=(n:Int):=B9Z _ (by omega);have q7:IntKind.u64.wrap (n:Int)=(n:Int):=D7 (by omega);have q8:min n 64=n:=by omega
 have hnz:¬n=0:=by omega
 obtain⟨t,ht⟩:∃t,t=32-n:=⟨_,rfl⟩
 have hpw:W32=2^n*2^t:=by rw[<-B9Q,show n+t=32 by omega];rfl
 have hpb:p<=34359738400:=by omega
 have Hat:=B9I hat;have Hp:=B9I hp;have Hpw:=B9I hpw;clear hat hp hx hpl ha hpw ht;go_enter Tryz.func168,Tryz.ntmps168;refine en0 ?_;intro u hG hB hF;refine B9D ?_;refine r0T ?_;refine B9J (rfl) ?_;refine B9K ?_;refine A6 ?_;refine r0T ?_;refine r0T ?_;refine B9D ?_;refine r0T ?_;refine B9l ?_;clear hB hF;go_loopw [9,8] (λs0 s2 wr=>∃(i:Nat) (zs:List Nat),i<=p/\s0 = .int .i64 i/\A2x (2^n) (2^t) (B5 W32 a) i zs/\wr.ownsRow w.heap.size 193 1 s2 i (A0y zs)/\A4 w wr) (λs0 _ _=>p-(intOf s0).toNat)
 case atStart=>exact⟨0,[],B9a _,rfl,⟨rfl,λt ht=>by omega⟩,C0n _ _ _ _,hG⟩
 case round =>
  clear hG;obtain⟨i,zs,hi,rfl,hI,ho,hG⟩:=hrel;obtain⟨u,rfl⟩:=exQ wr;have hB:=Bx.nil u;have hF:=Fr.nil w;have HI:=B9I hI;have Ho:=B9I ho;clear hI ho;rcases B8t i p with hlt|hge
  ·have hdec:decide ((i:Int)<(p:Int))=true:=by simp;omega
   have e1:=dgl a i;have e2:=dgl a (i+1);have hnx:=HI.out.next;have hat:=Hat.out i;obtain⟨i1,hi1⟩:∃j,j=i+1:=⟨_,rfl⟩
   have hat1:=Hat.out i1;rw[<-hi1]at e2 hnx;have fi:IntKind.i64.wrap ((i:Int)+1)=(i1:Int):=by rw[show(i:Int)+1=((i1:Nat):Int)by omega];exact B9Z _ (by omega)
   obtain⟨X,hX⟩:∃X,X=dg (B5 W32 a) i:=⟨_,rfl⟩
   obtain⟨Y,hY⟩:∃X,X=dg (B5 W32 a) i1:=⟨_,rfl⟩
   rw[<-hX]at e1 hnx;rw[<-hY]at e2 hnx;simp only[<-hX]at hat;simp only[<-hY]at hat1;obtain⟨m,hm⟩:∃m,m=Y*4294967296:=⟨_,rfl⟩
   obtain⟨s,hs⟩:∃s,s=X+m:=⟨_,rfl⟩
   have f1:IntKind.u64.wrap ((Y:Int)*4294967296)=(m:Int):=by rw[show(Y:Int)*4294967296=((m:Nat):Int)by omega];exact D7 (by omega)
   have f1b:(Y:Int)*4294967296=(m:Int):=by omega
   have f1c:IntKind.u64.wrap (m:Int)=(m:Int):=D7 (by omega);have f2:bits BinOp.or IntKind.u64 (X:Int) (m:Int)=(s:Nat):=by rw[B9m X m (by omega) (by omega),A20 (s:=32) e1 (by rw[hm];exact B95 _ _),hs,B96]
   obtain⟨g,hg⟩:∃g,g=s/2^n:=⟨_,rfl⟩
   have f3:(s:Int)/2^n=(g:Int):=by rw[hg];simp
   obtain⟨d,hd⟩:∃d,d=g%4294967296:=⟨_,rfl⟩
   have f4:(g:Int)%4294967296=(d:Int):=by omega
   have f4':IntKind.u32.wrap (g:Int)=(d:Int):=by rw[<-f4];simp[IntKind.wrap,IntKind.signed,IntKind.bits]
   have hdl:X/2^n+Y%2^n*2^t=d:=by
    rw[hd,hg,hs,hm];exact(B2o (x:=X) (y:=Y) Hpw.out (Nat.two_pow_pos n) e1).symm
   rw[hdl,hi1]at hnx;have Hat0:=B9I hat;have Hat1:=B9I hat1;have Hnx:=B9I hnx;have Hi1:=B9I hi1;clear hnx hat hat1 hX hY hm hs hg hd hdl hi1;refine B9D ?_;refine r0T ?_;refine B9L (rfl) ?_;refine B9K ?_;refine A6 ?_;refine B9D ?_;refine B9l ?_;refine B9D (rsE A8 [0,0,1,0,0,0,1,0,0,0] hB hG λL hL=>?_);refine gs ?_;refine gmd (C:=λv ⟨hgu,hB,hG,_⟩=>Hat0.out _ hG) ?_;refine gs ?_;refine gmd (C:=λv ⟨hgu,hB,hG,_⟩=>Hat1.out _ hG) ?_;refine gs ?_;refine geT hL ?_;clear hB hG hL L;rintro u ⟨hgu,hB,hG,-⟩;have Hon:=B9I (C0 Ho.out hgu);clear Ho;have Ho:=Hon;clear Hon;clear hgu;refine Z4 (w:=w) A8 7 [0,0,0,0,0,0,0] (by kernel_rfl) (by simp only[List.drop_succ_cons,List.drop_zero];exact rfl) (λ_=>True) noG hB hG trivial ?_;intro K L hN hL;simp only[List.zip_cons_cons,List.zip_nil_left];refine gs ?_;refine I8 ?_;rintro v ⟨hgu,hB1,hG1,-⟩;have ROWn:=B9I (C0 Ho.out hgu);clear Ho;have Ho:=ROWn;clear ROWn;clear hB hG;have hB:=hB1;have hG:=hG1;clear hB1 hG1;refine hL _ _ ?_;clear hL L hgu;obtain⟨u,rfl⟩:=exQ v;refine A0E A5O w.heap.size _ _ _ _ [.int .u32 (d:Nat)] rfl rfl (A7k d u) rfl (λ_=>rfl) (λ_=>rfl) (λ_ _=>rfl) Ho.out (by omega) (by omega) hG.sz λp v' w' g1 g2 g3=>?_;have hBn:=Bx.nil w';have hGn:=A0N Ho.out hG g2;clear Ho hB hG;have Ho:=B9I g1;have hB:=hBn;have hG:=hGn;clear g1 g2 g3 hBn hGn;obtain⟨u,rfl⟩:=exQ w';simp only[Act.put,List.setIfInBounds_toArray,List.set_cons_succ,List.set_cons_zero];refine NoK.norm (hN _ _ ?_);clear hN K;refine C5 ?_;refine A6 ?_;refine r0E ?_;refine A6 ?_;go_roundw
   case rel=>exact⟨i1,zs++[d],by have:=Hi1.out;omega,by first|rfl|go_num,by rw[Hi1.out];exact Hnx.out,by have:=Ho.out;rw[Hi1.out];simpa using this,hG⟩
   case measure=>have:=Hi1.out;simp[intOf];omega
  ·obtain rfl:p=i:=by omega
   have hdec:decide ((p:Int)<(p:Int))=false:=by simp
   have hvv:=HI.out;rw[show p=(B5 W32 a).length from Hp.out]at hvv;obtain⟨hv2,hdd⟩:=hvv.done Hpw.out (Nat.two_pow_pos n) (H8 G0 a);rw[E6 G0]at hv2;obtain⟨A',cc,rfl,hcc1,hcc2,hL,hkl⟩:=A9z Ho.out;have htr:∀W,A4 u W->Calls Tryz.prog 139 #[.slice A' p cc] W λe w'=>e = .returned (.slice A' (ln (a/2^n)) cc)/\A4 W w':=λW hg=>by
    have h1:=A19 A' zs cc W (hL.grow hg) (by omega) (by unfold maxLen at hcc2;omega);have e:D6 zs=B5 W32 (a/2^n):=by rw[<-hv2];exact A56 G0 hdd
    rw[e,<-hkl]at h1;exact h1
   have Htr:=B9I htr;have HL:=B9I hL;have Hv2:=B9I hv2;have Hkl:=B9I hkl;have Hdd:=B9I hdd;clear htr hL hv2 hvv hkl hdd;refine B9D ?_;refine r0T ?_;refine B9J (rfl) ?_;refine B9n ?_;refine B9 ?_;refine B9 ?_;refine E4 ?_;refine A6 ?_;refine B9D ?_;obtain⟨V,hV⟩:∃V,V=a/2^n:=⟨_,rfl⟩
   rw[<-hV]at Htr Hv2;have HV:=B9I hV;clear hV;refine rsE A8 [0,1,0] hB hG λL hL=>?_;refine gs ?_;refine gmd (C:=λv ⟨hgu,hB,hG,_⟩=>Htr.out _ hgu) ?_;refine gs ?_;refine geT hL ?_;clear hB hG hL L;rintro u ⟨hgu,hB,hG,-⟩;have hgf:=hgu;clear hgu;refine rt Tryz.results168 ?_;exact⟨(A',cc),by rw[<-HV.out];rfl,by rw[<-HV.out];exact(A40 HL.out Hdd.out Hv2.out (by have:=Hkl.out;omega) (by unfold maxLen at hcc2;omega) (by have:=Hkl.out;omega)).1.grow hgf,hG⟩
end Go.Proofs.YtgpglgbcobeogaaGreatDoor
namespace Go.Proofs.YtgpglgbcobeogaaGreatDoor
def GJ(W u2 u1 u0 v1 v0 g r:Nat):Prop:=g<=W+1/\r<W/\g*v1+r=u2*W+u1/\∀g',g'<W->g'*(v1*W+v0)<=(u2*W+u1)*W+u0->g'<=g
theorem GJ.start{W u2 u1 u0 v1 v0:Nat}(hW:0<W)(h:u2<=v1)(hv:W<=2*v1)(hvW:v1<W)(h1:u1<W)(h0:u0<W):GJ W u2 u1 u0 v1 v0 ((u2*W+u1)/v1) ((u2*W+u1)%v1):=by
 have hp:0<v1:=by omega
 have e1:u2*W<=v1*W:=B9g _ h;refine⟨?_,B9e (B9R _ hp) hvW,by rw[B9j];exact C0S _ _,λg' _ hg=>?_⟩
 ·have:(u2*W+u1)/v1<W+2:=(C0g hp).2 (by rw[C0X,B9j W v1];omega);omega
 ·rw[C0o hp];have h2:g'*v1*W<=g'*(v1*W+v0):=by rw[C0e,C0G];omega
  have h3:g'*v1*W<(u2*W+u1+1)*W:=by rw[C0X (u2*W+u1),C0O];omega
  have:=C0b h3;omega
theorem GJ.small{W u2 u1 u0 v1 v0 g r:Nat}(h:GJ W u2 u1 u0 v1 v0 g r)(hg:g<W):GI W u2 u1 u0 v1 v0 g r:=⟨hg,h.2.2.1,h.2.2.2⟩
theorem GI.back{W u2 u1 u0 v1 v0 g r:Nat}(h:GI W u2 u1 u0 v1 v0 g r)(hr:r<W):GJ W u2 u1 u0 v1 v0 g r:=⟨by have:=h.1;omega,hr,h.2.1,h.2.2⟩
theorem GJ.big{W u2 u1 u0 v1 v0 g r:Nat}(h:GJ W u2 u1 u0 v1 v0 g r)(hg:W<=g)(hu:u2<=v1)(h1:u1<W)(h0:v0<W)(hW:0<W) :
  (W<=r+v1->GW W u2 u1 u0 v1 v0 (g-1))/\(r+v1<W->GJ W u2 u1 u0 v1 v0 (g-1) (r+v1)):=by
 obtain⟨k,rfl⟩:∃k,g=k+1:=⟨g-1,by omega⟩
 obtain⟨a1,a2,a3,a4⟩:=h;rw[Nat.add_sub_cancel];have e1:k*v1+(r+v1)=u2*W+u1:=by rw[C0X,C0O]at a3;omega
 refine⟨λhr=>?_,λhr=>⟨by omega,hr,e1,λg' hg' _=>by omega⟩⟩;have hk:k<W:=by
  rcases B8t k W with h|h
  ·exact h
  ·exfalso;have e2:W*v1<=k*v1:=B9g _ h;have e3:u2*W<=v1*W:=B9g _ hu;rw[B9j v1]at e3;omega
 exact GI.over (r:=r+v1) ⟨hk,e1,λg' hg' _=>by omega⟩ h0 hr
theorem GJ.less{W u2 u1 u0 v1 v0 g r:Nat}(h:GJ W u2 u1 u0 v1 v0 g r)(hg:g<W)(hs:¬g*v0<=r*W+u0)(h0:v0<W) :
  0<g/\(W<=r+v1->GW W u2 u1 u0 v1 v0 (g-1))/\(r+v1<W->GJ W u2 u1 u0 v1 v0 (g-1) (r+v1)):=by
 obtain⟨a1,a2⟩:=(h.small hg).next hs;exact⟨a1,λhr=>a2.over h0 hr,λhr=>a2.back hr⟩
theorem GJ.stop{W u2 u1 u0 v1 v0 g r:Nat}(h:GJ W u2 u1 u0 v1 v0 g r)(hg:g<W)(hs:g*v0<=r*W+u0):GW W u2 u1 u0 v1 v0 g:=(h.small hg).stop hs
theorem B1O{a n:Nat}(h1:W32^n<=a)(h2:a<W32^(n+1)):ln a=n+1:=by
 have e1:=K4 (H8 G0 a);rw[E6 G0]at e1;have hl:n<ln a:=by
  rcases B8t n (ln a)with h|h
  ·exact h
  ·exfalso;have:W32^ln a<=W32^n:=B9P F9 h;change a<W32^ln a at e1;omega
 rcases B8t (n+1) (ln a)with h|h
 ·exfalso;have h0:a≠0:=by
   have:0<W32^n:=C0j F9;omega
  have e3:=N1 W32 (B5 W32 a) (ln a-1);rw[show ln a-1+1=ln a by omega,show ln a=(B5 W32 a).length from rfl,C0h,E6 G0]at e3;have e4:=A4u h0;rw[show ln a=(B5 W32 a).length from rfl]at e4;have e5:W32^((B5 W32 a).length-1)*1<=W32^((B5 W32 a).length-1)*dg (B5 W32 a) ((B5 W32 a).length-1):=C0B _ (by omega);have e6:W32^(n+1)<=W32^((B5 W32 a).length-1):=B9P F9 (by change n+1<(B5 W32 a).length at h;omega);omega
 ·omega
theorem B45{b n1 s:Nat}(hl:ln b=n1+1)(hs:s=32*ln b-bl b):s<32/\bl b+s=32*(n1+1)/\ln (b*2^s)=n1+1/\b*2^s<W32^(n1+1)/\W32^n1*2147483648<=b*2^s/\2147483648<=dg (B5 W32 (b*2^s)) n1:=by
 have h0:b≠0:=by intro e;rw[e,A6e]at hl;omega
 have hb:=A7s (H8 G0 b) (by change 0<ln b;omega) (A4u h0);rw[E6 G0]at hb;change bl b=32*(ln b-1)+bl (dg (B5 W32 b) (ln b-1))at hb;have ht:=T2.2 (A4u h0);have hd:bl (dg (B5 W32 b) (ln b-1))<=32:=T9.2 (dgl b _);rw[hl]at hb hs ht hd;have e1:bl b+s=32*(n1+1):=by omega
 have e2:W32^(n1+1)=2^(32*(n1+1)):=by rw[show W32=2^32 from rfl,<-B9O]
 have e3:b*2^s<W32^(n1+1):=by
  rw[e2,<-e1,B9Q];exact C0i (A0i b) (Nat.two_pow_pos s)
 have e4:W32^n1*2147483648<=b*2^s:=by
  have h1:2^(bl b-1)<=b:=A1c.1 (by omega);rw[show W32^n1=2^(32*n1)by rw[show W32=2^32 from rfl,<-B9O],show 2147483648=2^31 from rfl,<-B9Q,show 32*n1+31=bl b-1+s by omega,B9Q];exact B9g _ h1
 have e5:ln (b*2^s)=n1+1:=B1O (by have:W32^n1*1<=W32^n1*2147483648:=C0B _ (by omega);omega) e3;refine⟨by omega,e1,e5,e3,e4,?_⟩;have h3:=N1 W32 (B5 W32 (b*2^s)) n1;rw[show(B5 W32 (b*2^s)).take (n1+1)=B5 W32 (b*2^s)by rw[<-e5];exact C0h,E6 G0]at h3;have h4:=A6U F9 (H8 G0 (b*2^s)) n1;rcases B8t (dg (B5 W32 (b*2^s)) n1) 2147483648 with h|h
 ·exfalso;have h5:W32^n1*(dg (B5 W32 (b*2^s)) n1+1)<=W32^n1*2147483648:=C0B _ h;rw[C0e,C0F]at h5;omega
 ·exact h
theorem B11{a V n1 k0:Nat}(hV:W32^n1<=V)(hk:n1+1+k0=ln a+2):DvI W32 V a k0 (B5 W32 a++[0,0]) (List.replicate k0 0):=by
 have hv:val W32 (B5 W32 a++[0,0])=a:=by rw[A0B,E6 G0];simp[val]
 refine⟨λx hx=>?_,λx hx=>by rw[(List.mem_replicate.1 hx).2];exact F9,by rw[A1V,hv];simp,?_,λt _=>by unfold dg;rw[C0V];split<;>rfl⟩
 ·rcases List.mem_append.1 hx with h|h
  ·exact H8 G0 a x h
  ·have:x=0:=by simpa using h
   rw[this];exact F9
 ·rw[hv];have e1:=K4 (H8 G0 a);rw[E6 G0]at e1;change a<W32^ln a at e1
  calc a<W32^ln a:=e1
   _<=W32^(n1+k0):=B9P F9 (by omega)
   _=W32^n1*W32^k0:=B9Q _ _ _
   _<=V*W32^k0:=B9g _ hV
theorem DvI.top'{W X j n2:Nat}{us qs vs:List Nat}(hW:0<W)(h:DvI W (val W vs) X (j+1) us qs)(hv:Dig W vs)(hvW:val W vs<W^(n2+2)) :
  Dig W (us.drop j)/\(∀t,n2+3<=t->dg (us.drop j) t=0)/\(∀t,n2+2<=t->dg vs t=0)/\val W (us.drop j)<val W vs*W/\(∀t,j+n2+3<=t->dg us t=0):=by
 have hp:0<W^j:=C0j hW;have h1:val W us<W^(j+n2+3):=by
  refine B9N h.2.2.2.1 ?_
  calc val W vs*W^(j+1)<=W^(n2+2)*W^(j+1):=B9g _ (B81 hvW)
   _=W^(j+n2+3):=by rw[<-B9Q];congr 1;omega
 have h2:=A3H hW h.1 h1;refine⟨λx hx=>h.1 x (B94 hx),λt ht=>by rw[A03];exact h2 _ (by omega),A3H hW hv hvW,?_,h2⟩;rw[<-A3O hW h.1,C0g hp,C0G,B9j W,<-Nat.pow_succ];exact h.2.2.2.1
theorem B66{W g x cy:Nat}(hW:0<W):g*x/W+(g*x%W+cy)/W=(cy+g*x)/W/\(g*x%W+cy)%W=(cy+g*x)%W:=by
 have e1:=C0S (g*x) W;constructor
 ·have:cy+g*x=g*x%W+cy+W*(g*x/W):=by omega
  rw[this,C0a _ _ hW];omega
 ·have:cy+g*x=g*x%W+cy+W*(g*x/W):=by omega
  rw[this,B98]
end Go.Proofs.YtgpglgbcobeogaaGreatDoor
namespace Go.Proofs.YtgpglgbcobeogaaGreatDoor
open Go.RowKit
theorem B51{w w1 w2:World}{x:Ax}{X:Nat}(hX:X≠0)(hg1:A4 w w1)(hg2:A4 (w1.alloc (.cells #[] 193)) w2)(hx:Rn w2 x X)(hl:ln X<=34359738500) :
  ∃v1 w3,(Builtin.append_ #[29,29] 29 #[.slice (some ⟨w1.heap.size,0,none⟩) 0 0,.slice x.1 (ln X) x.2]).run Tryz.prog w2 = .ok v1 w3 /\
  ∃(g cap:Nat) (J:Array Value) (w4:World),(Builtin.append_ #[29,29] 29 #[v1,.slice (some ⟨w3.heap.size,0,none⟩) 2 2]).run Tryz.prog (w3.alloc (.cells #[.int .u32 0,.int .u32 0] 193)) = .ok (.slice (some ⟨g,0,none⟩) (ln X+2) cap) w4 /\
   ln X+2<=cap/\cap<=maxLen/\Blk w4 g 193 (F7 (B5 W32 X++[0,0])++J)/\A4 w w4/\w1.heap.size<=g/\g<w4.heap.size/\A4 w1 w4:=by
 obtain⟨A,c⟩:=x;obtain⟨hund,⟨i0,z0,hi0,hz0,hz1,hz2,hz3⟩,hpos⟩:=A5O;have hlp:=A1l.2 hX;obtain⟨b,o,hA,-⟩:=hx.1.cell (i:=0) hlp;have hA:A=some ⟨b,o,none⟩:=hA;subst hA
 have hown0:w2.ownsRow w1.heap.size 193 1 (.slice (some ⟨w1.heap.size,0,none⟩) 0 0) 0 [] :=
  ⟨rfl,.inr ⟨w1.heap.size,0,#[],rfl,B8s _,Blk.grow hg2 (Blk.new w1 193 #[]),B8s _,B9a _,rfl,rfl⟩⟩
 have hs2:=hg2.size;rw[I9]at hs2
 obtain⟨v1,w3,r1,o1,g1,-,k1⟩:=run_append_own_at (P:=Tryz.prog) (w:=w2) w1.heap.size 29 29 193 i0 z0 1 4 hund hi0 hz0 hz1 hz2 hz3 hpos _ 0 [] hown0 ⟨b,o,none⟩ (ln X) c (A0y (B5 W32 X)) (by simp[ln]) (λj v hj=>by
  rw[List.getElem?_map]at hj;obtain⟨hjl,-⟩:∃h:j<(B5 W32 X).length,True:=by
   rcases B8t j (B5 W32 X).length with h|h
   ·exact⟨h,trivial⟩
   ·rw[C0d h]at hj;cases hj
  obtain⟨b',o',e,hc⟩:=hx.1.cell hjl;cases e;rw[B9b,hc,<-hj,B9Y hjl,E3 hjl];rfl) (λv hv=>by
  obtain⟨y,_,rfl⟩:=List.mem_map.1 hv
  rfl) (by unfold maxLen;omega) (by omega) (by omega)
 have hG3:A4 w1 w3:=((A4.alloc w1 _).trans hg2).grown g1 λk hk=>by
  cases hk;exact B8s _
 refine⟨v1,w3,r1,?_⟩;have o1':=o1.alloc (.cells #[.int .u32 0,.int .u32 0] 193)
 obtain⟨v2,w4,r2,o2,g2,n2,k2⟩:=run_append_own_at (P:=Tryz.prog) (w:=w3.alloc (.cells #[.int .u32 0,.int .u32 0] 193)) w1.heap.size 29 29 193 i0 z0 1 4 hund hi0 hz0 hz1 hz2 hz3 hpos v1 _ _ o1' ⟨w3.heap.size,0,none⟩ 2 2 (A0y [0,0]) rfl (λj v hj=>by
  rw[B9b,Nat.zero_add,Blk.cell (Blk.new w3 193 #[.int .u32 0,.int .u32 0]) j];rw[<-hj];simp[A0y]) (λv hv=>by
  obtain⟨y,_,rfl⟩:=List.mem_map.1 hv
  rfl) (by unfold maxLen;omega) (by omega) (by have:=hG3.size;rw[I9];omega)
 have hG4:A4 w1 w4:=(hG3.trans (A4.alloc w3 _)).grown g2 λk hk=>(o1.lt k hk).1;obtain⟨ol,h|⟨g,cap,cur,rfl,hb,hh,hn,hc,hsz,ht⟩⟩:=o2
 ·omega
 ·rw[Nat.zero_add]at r2 hn ht;refine⟨g,cap,(cur.toList.drop ((ln X+2)*1)).toArray,w4,r2,hn,hc,?_,hg1.trans hG4,hb,L7 hh,hG4⟩;have e:F7 (B5 W32 X++[0,0])++(cur.toList.drop ((ln X+2)*1)).toArray=cur:=by
   apply Array.toList_inj.1;rw[Array.toList_append,show(F7 (B5 W32 X++[0,0])).toList=cur.toList.take ((ln X+2)*1)by rw[ht];simp[F7,A0y]];simp
  rw[e];exact hh
end Go.Proofs.YtgpglgbcobeogaaGreatDoor
