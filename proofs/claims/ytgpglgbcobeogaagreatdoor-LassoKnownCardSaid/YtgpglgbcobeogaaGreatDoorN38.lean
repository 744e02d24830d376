import Derived.Test.YtgpglgbcobeogaaGreatDoorN35
set_option linter.unusedSimpArgs false
set_option linter.unusedVariables false
set_option maxHeartbeats 8000000
set_option maxRecDepth 100000
namespace Go.Proofs.YtgpglgbcobeogaaGreatDoor
open Go Go.RowKit
def Y8(f s:Nat->Rat)(n i:Nat):List Rat:=(List.range n).map λt=>if t<i then f t else s t
theorem A31(f s:Nat->Rat)(n i:Nat):(Y8 f s n i).length=n:=by unfold Y8;simp
theorem B3e(f s:Nat->Rat)(n:Nat):Y8 f s n 0=(List.range n).map s:=by
 unfold Y8;refine C0u λj _=>?_;rw[if_neg (C03 _)]
theorem B6A(f s:Nat->Rat)(n:Nat):Y8 f s n n=(List.range n).map f:=by
 unfold Y8;refine C0u λj hj=>?_;rw[if_pos (List.mem_range.1 hj)]
theorem B4d{f s:Nat->Rat}{n i:Nat}(h:i<n):(Y8 f s n i).set i (f i)=Y8 f s n (i+1):=by
 unfold Y8;apply B88
 ·simp
 ·intro j h1 h2;rw[C0t];simp only[List.getElem_map,List.getElem_range];by_cases e:i=j
  ·subst e;simp
  ·rw[if_neg e];by_cases h3:j<i
   ·rw[if_pos h3,if_pos (by omega)]
   ·rw[if_neg h3,if_neg (by omega)]
theorem B5G{f s:Nat->Rat}{n i:Nat}(h:i<n):gq (Y8 f s n i) i=s i:=by
 unfold Y8;rw[W5 _ h,if_neg (Nat.lt_irrefl _)]
theorem B77{u:World}{B g c n:Nat}{l:List Rat}(h:u.ownsRow B 48 5 (.slice (some ⟨g,0,none⟩) n c) n (l.flatMap qL)){i:Nat}(hi:i<l.length):Cq u g (i*5) (gq l i):=by
 obtain⟨A,c',e,-,-,hL,-⟩:=K8 h;cases e;have h1:=hL.read hi
 rwa [Nat.zero_add]at h1
theorem B7f(A:Option Addr)(ks:List Kq)(n c:Nat)(a:Rat)(hn:ks.length=n)(sh:ShapeK (ks.map C3))(od:OrderK (ks.map C3))(ha:0<=a)(s:Nat)(haz:qs a<=s)(hs:∀i,i<n->qs (knQ (ks.map C3) i)<=s)(hsw:∀i,i<n->∀j,qs (gq (knW (ks.map C3) i) j)<=s)(hB:20*s+20<=BIG)(w:World)(h:Lk w A ks)(HT:Tab w) :
  Calls Tryz.prog 43 #[.slice A n c,qV a] w (G9 (λx:Ax=>.tuple #[.slice x.1 (knW (ks.map C3) 0).length x.2,.int .i64 0]) (λx W=>Lq W x.1 (A5v (ks.map C3) a)) w):=by
 have hBm:=J7;have hkl:(ks.map C3).length=n:=by rw[List.length_map];exact hn
 have hn1:1<=n:=by rw[<-hkl];exact sh.one
 have hn1000:n<=1000:=by rw[<-hkl];exact sh.most
 have hck:=λW (hg:A4 w W)=>B3s A ks n c 0 hn hn1 (by rw[<-hkl];exact sh.most) sh.cols (.inr (.inr ⟨sh,od,rfl⟩)) s hs (λj=>hsw 0 (by omega) j) (by omega) W (h.grow hg);have hat:∀i,i<n->∃(b o:Nat) (P:Ax),A=some ⟨b,o,none⟩/\∀W,A4 w W->(Cq W b (o+i*6) (knQ (ks.map C3) i)/\W.cell? ⟨b,o+i*6+5,none⟩=some (.slice P.1 (knW (ks.map C3) i).length P.2))/\Lq W P.1 (knW (ks.map C3) i):=λi hi=>h.at (by omega);generalize ks.map C3=l at *;obtain⟨K1,K2,K3⟩:=B4Q sh od ha;have hall:∀i,i<n->(knW l i).length=(knW l 0).length:=λi hi=>sh.all i (by omega);have hm1:=sh.some;have hm20:=sh.cols;unfold A5v;obtain⟨K,hK⟩:∃K,K=atI l a:=⟨_,rfl⟩
 rw[<-hK]at K1 K2 K3⊢;rw[hkl]at K1;obtain⟨m,hm⟩:∃m,m=(knW l 0).length:=⟨_,rfl⟩
 rw[<-hm]at hm1 hm20⊢;simp only[<-hm]at hall;obtain⟨bb,ob,P0,hA,h0⟩:=hat 0 (by omega);subst hA;have hat2:∀i,i<n->∃P:Ax,∀W,A4 w W->(Cq W bb (ob+i*6) (knQ l i)/\W.cell? ⟨bb,ob+i*6+5,none⟩=some (.slice P.1 m P.2))/\Lq W P.1 (knW l i):=λi hi=>by
  obtain⟨b',o',P,e',h'⟩:=hat i hi;rw[hall i hi]at h';cases e';exact⟨P,h'⟩
 have hfs:=λ(W:World)=>M8 a (by have:=G3 a;omega) W;have hsg:decide (a.num.sign<0)=false:=by
  have h1:¬a<0:=by grind
  have h2:=@A2C a;rcases A2V a with e|e|e
  ·rw[e];rfl
  ·exact absurd (h2.1 e) h1
  ·rw[e];rfl
 obtain⟨S,hS⟩:∃S,S=a.num.sign:=⟨_,rfl⟩
 rw[<-hS]at hsg;simp only[<-hS]at hfs;obtain⟨PK,hPK⟩:=hat2 K (by omega);obtain⟨qK,hqK⟩:∃q,q=knQ l K:=⟨_,rfl⟩
 obtain⟨WK,hWK⟩:∃q,q=knW l K:=⟨_,rfl⟩
 have hWl:WK.length=m:=by rw[hWK];exact hall K K1
 have hWs:∀j,qs (gq WK j)<=s:=λj=>by rw[hWK];exact hsw K K1 j
 have hqs:qs qK<=s:=by rw[hqK];exact hs K K1
 rw[<-hqK,<-hWK]at hPK;have hcK:=λW=>W8 a qK W (by omega);have hKn:(K:Int)<(n:Int):=by omega
 have Hck:=B9I hck;have Hat:=B9I hat2;have Hfs:=B9I hfs;have HPK:=B9I hPK;have HcK:=B9I hcK;have HK2:=B9I K2;have HK3:=B9I K3;have HqK:=B9I hqK;have HWK:=B9I hWK;have HWs:=B9I hWs;have Hall:=B9I hall;have Hs:=B9I hs;have Hsw:=B9I hsw;have HWl:=B9I hWl;rw[<-hqK,<-hWK];clear hck hat hat2 hfs hPK hcK K2 K3 hqK hWK hWs hWl hall hs hsw h0 h hS hK hm sh od hn hkl ha P0;go_enter Tryz.func43,Tryz.ntmps43;refine en1 ?_;intro u hG b3 hB hF;refine B9D ?_;refine B9D (rsE I1 [0,1,0,0,0,1,0,0] hB hG λL hL=>?_);refine gs ?_;refine gmd (C:=λv ⟨hgu,hB,hG,_⟩=>Hck.out _ hG) ?_;refine gs ?_
 first|refine gmw (C:=λv=>Hfs.out _) ?_|refine I0 ?_
 refine gs ?_;refine geT hL ?_;clear hB hG hL L;rintro u ⟨-,hB,hG,-⟩;refine B9J (rfl) ?_;refine B9K ?_;refine A6 ?_;refine r0T ?_;refine B9D ?_;refine B9l ?_;have h3f:=hF.1 b3 (by simp);clear hF;have h3w:=hB.head.lt;go_loopw [6] (λs0 wr=>∃i:Nat,i<=K/\s0 = .int .i64 i/\Bx wr [(b3,48,L9 a)]/\A4 w wr) (λs0 _=>n-(intOf s0).toNat)
 case atStart=>exact⟨0,B9a _,rfl,hB,hG⟩
 case round =>
  clear hB hG;obtain⟨i,hi,rfl,hB,hG⟩:=hrel;obtain⟨u,rfl⟩:=exQ wr;have hin:(i:Int)<(n:Int):=by omega
  have hF:Fr w [b3]:=⟨λb hb=>by
   simp only[List.mem_cons,List.not_mem_nil,or_false]at hb;subst hb
   exact h3f,by simp⟩
  rcases B8t i K with hlt|hge
  ·obtain⟨P,hrd⟩:=Hat.out i (by omega);have hlq:=HK2.out i hlt;have z1:=Hs.out i (by omega);obtain⟨X,hX⟩:∃X,X=knQ l i:=⟨_,rfl⟩
   rw[<-hX]at hlq z1;have hrd2:∀W,A4 w W->Cq W bb (ob+i*6) X:=λW hg=>by rw[hX];exact(hrd W hg).1.1
   have hcm:=λW=>W8 a X W (by omega);have hc1:E9 a X = -1:=by unfold E9;rw[if_pos hlq]
   rw[hc1]at hcm;have Hrd:=B9I hrd2;have Hcm:=B9I hcm;clear hrd hrd2 hcm hlq hc1 hX z1;refine B9D ?_;refine B9D (rdC I1 [] [(0,0),(0,1),(0,2),(0,3),(0,4),(0,5),(1,6)] hB hG λK L hN hL=>?_)
   repeat first|refine gya ?_|refine gyr ?_|refine gna ?_|refine gyb (by(rintro v ⟨hgu,hB,hG,-⟩ N hN;have r:=hB.r;simp only[BxR]at r;obtain⟨y1,y2,y3,y4,y5⟩:=Hrd.out v hG;go_simp;exact hN)) ?_
   refine gmw (C:=λv=>Hcm.out _) ?_;refine geC hL ?_;clear hB hG hL L;rintro u ⟨-,hB,hG,-⟩;refine gtT ?_;clear hN K;refine B9L (rfl) ?_;refine B9K ?_;refine A6 ?_;refine B9l ?_;refine r0E ?_;refine C5 ?_;refine A6 ?_;go_roundw
   case rel=>exact⟨i+1,by omega,by go_num,hB,hG⟩
   case measure=>simp[intOf];omega
  ·obtain rfl:K=i:=by omega
   have hc1:¬E9 a qK<0:=by
    have h1:=HK3.out;rw[<-HqK.out]at h1;unfold E9;rw[if_neg h1];split<;>decide
   have hc0:E9 a qK=0↔a=qK:=by
    have h1:=@A6w a qK;constructor
    ·intro h2;rw[h2]at h1;exact B9w h1.symm
    ·intro h2;rw[B9x h2]at h1;simpa using h1
   have hcm:=HcK.out;obtain⟨C,hC⟩:∃C,C=E9 a qK:=⟨_,rfl⟩
   rw[<-hC]at hc1 hc0;simp only[<-hC]at hcm;have fC:decide (C<0)=false:=by simp;omega
   have Hc0:=B9I hc0;have Hcm:=B9I hcm;have Hrd:=B9I (λW (hg:A4 w W)=>(HPK.out W hg).1.1);clear hcm hC hc0 hc1;refine B9D ?_;refine B9D (rdC I1 [] [(0,0),(0,1),(0,2),(0,3),(0,4),(0,5),(1,6)] hB hG λK L hN hL=>?_)
   repeat first|refine gya ?_|refine gyr ?_|refine gna ?_|refine gyb (by(rintro v ⟨hgu,hB,hG,-⟩ N hN;have r:=hB.r;simp only[BxR]at r;obtain⟨y1,y2,y3,y4,y5⟩:=Hrd.out v hG;go_simp;exact hN)) ?_
   refine gmw (C:=λv=>Hcm.out _) ?_;refine geC hL ?_;clear hB hG hL L;rintro u ⟨-,hB,hG,-⟩;refine gtT ?_;clear hN K;refine B9J (rfl) ?_;refine B9n ?_;refine B9 ?_;refine B9 ?_;refine E4 ?_;refine A6 ?_;refine B9D ?_;by_cases hst:K=0\/a=qK
   ·have fst:decide (K=0)=true\/(decide (K=0)=false/\(C == 0)=true):=by
     rcases hst with h|h
     ·exact .inl (by simp[h])
     ·by_cases h0:K=0
      ·exact .inl (by simp[h0])
      ·exact .inr ⟨by simp[h0],by simp[Hc0.out.2 h]⟩
    rw[if_pos hst];have hcl:=λW (hg:A4 w W)=>A7F PK.1 PK.2 m WK HWl.out (by omega) (by omega) W (HPK.out W hg).2;have Hcl:=B9I hcl;have Hrw:=B9I (λW (hg:A4 w W)=>(HPK.out W hg).1.2);clear hcl hst;rcases fst with fk|⟨fk,fc⟩
    ·have fk2:((K:Int) == 0)=true:=by simpa using fk
     refine B9D (rdC I1 [] [(0,0),(0,1),(0,2),(0,3),(0,4),(0,5),(0,6),(0,7),(0,8),(1,9),(0,10)] hB hG λK L hN hL=>?_)
     repeat first|refine gya ?_|refine gyr ?_|refine gna ?_|refine gyb (by(rintro v ⟨hgu,hB,hG,-⟩ N hN;have r:=hB.r;simp only[BxR]at r;obtain⟨y1,y2,y3,y4,y5⟩:=Hrd.out v hG;have q0:=Hrw.out v hG;go_simp;exact hN)) ?_
     first|refine gmw (C:=λv=>Hcm.out _) ?_|refine I0 ?_
     refine gs ?_;refine geC hL ?_;clear hB hG hL L;rintro u ⟨-,hB,hG,-⟩;refine gtT ?_;clear hN K;refine B9L (rfl) ?_;refine B9D (rsE I1 [0,0,0,0,0,1,0,0] hB hG λL hL=>?_)
     repeat first|refine gya ?_|refine gyr ?_|refine gna ?_|refine gyb (by(rintro v ⟨hgu,hB,hG,-⟩ N hN;have r:=hB.r;simp only[BxR]at r;obtain⟨y1,y2,y3,y4,y5⟩:=Hrd.out v hG;have q0:=Hrw.out v hG;go_simp;exact hN)) ?_
     refine gxd (X:=(Nat×Nat)) (λx:Nat×Nat=>.slice (some ⟨x.1,0,none⟩) m x.2) (λx W=>Lq W (some ⟨x.1,0,none⟩) WK) (λx u u' hg h=>Lq.grow h hg) (λx45=>?_) (C:=by(rintro v ⟨hgu,hB,hG,-⟩;exact((Hcl.out _ hG).mono λe w' ⟨x,h1,h2,h3⟩=>⟨x,h1,by
      obtain⟨A9,c9,e9,-,-,hL9,-⟩:=K8 h2.2;cases e9
      exact hL9,h3⟩)))
     refine gs ?_;refine geT hL ?_;clear hB hG hL L;rintro u ⟨⟨-,hB,hG,-⟩,hx45⟩;refine rt Tryz.results43 ?_;exact⟨(some ⟨x45.1,0,none⟩,x45.2),rfl,hx45,hG⟩
    ·have fk2:((K:Int) == 0)=false:=by simpa using fk
     have fc2:decide (C=0)=true:=by simpa using fc
     refine B9D (rdC I1 [] [(0,0),(0,1),(0,2),(0,3),(0,4),(0,5),(0,6),(0,7),(0,8),(1,9),(0,10)] hB hG λK L hN hL=>?_)
     repeat first|refine gya ?_|refine gyr ?_|refine gna ?_|refine gyb (by(rintro v ⟨hgu,hB,hG,-⟩ N hN;have r:=hB.r;simp only[BxR]at r;obtain⟨y1,y2,y3,y4,y5⟩:=Hrd.out v hG;have q0:=Hrw.out v hG;go_simp;exact hN)) ?_
     first|refine gmw (C:=λv=>Hcm.out _) ?_|refine I0 ?_
     refine gs ?_;refine geC hL ?_;clear hB hG hL L;rintro u ⟨-,hB,hG,-⟩;refine gtT ?_;clear hN K;refine B9L (rfl) ?_;refine B9D (rsE I1 [0,0,0,0,0,1,0,0] hB hG λL hL=>?_)
     repeat first|refine gya ?_|refine gyr ?_|refine gna ?_|refine gyb (by(rintro v ⟨hgu,hB,hG,-⟩ N hN;have r:=hB.r;simp only[BxR]at r;obtain⟨y1,y2,y3,y4,y5⟩:=Hrd.out v hG;have q0:=Hrw.out v hG;go_simp;exact hN)) ?_
     refine gxd (X:=(Nat×Nat)) (λx:Nat×Nat=>.slice (some ⟨x.1,0,none⟩) m x.2) (λx W=>Lq W (some ⟨x.1,0,none⟩) WK) (λx u u' hg h=>Lq.grow h hg) (λx45=>?_) (C:=by(rintro v ⟨hgu,hB,hG,-⟩;exact((Hcl.out _ hG).mono λe w' ⟨x,h1,h2,h3⟩=>⟨x,h1,by
      obtain⟨A9,c9,e9,-,-,hL9,-⟩:=K8 h2.2;cases e9
      exact hL9,h3⟩)))
     refine gs ?_;refine geT hL ?_;clear hB hG hL L;rintro u ⟨⟨-,hB,hG,-⟩,hx45⟩;refine rt Tryz.results43 ?_;exact⟨(some ⟨x45.1,0,none⟩,x45.2),rfl,hx45,hG⟩
   ·have hK0:K≠0:=λh=>hst (.inl h);have fk:decide (K=0)=false:=by simp[hK0]
    have fk2:((K:Int) == 0)=false:=by simp;omega
    have hC0:C≠0:=λh=>hst (.inr (Hc0.out.1 h));have fc:(C == 0)=false:=by simp[hC0]
    have fc2:decide (C=0)=false:=by simp[hC0]
    rw[if_neg hst];obtain⟨J,hJ⟩:∃J,J=K-1:=⟨_,rfl⟩
    have hJn:J<n:=by omega
    have hJi:(J:Int)<(n:Int):=by omega
    have fw:IntKind.i64.wrap ((K:Int)-1)=(J:Int):=by rw[B9Z _ (by omega)];omega
    obtain⟨PJ,hPJ⟩:=Hat.out J hJn;have eJ:l.getD J (0,[])=(knQ l J,knW l J):=rfl;have eK:l.getD K (0,[])=(knQ l K,knW l K):=rfl;rw[<-hJ,eJ,eK,<-HqK.out,<-HWK.out];obtain⟨qJ,hqJ⟩:∃q,q=knQ l J:=⟨_,rfl⟩
    obtain⟨WJ,hWJ⟩:∃q,q=knW l J:=⟨_,rfl⟩
    rw[<-hqJ,<-hWJ];have hsl:∀W,A4 w W->Tab W->Calls Tryz.prog 111 #[knV qJ PJ m,knV qK PK m] W (G9 (λx:Nat=>.slice (some ⟨x,0,none⟩) m m) (λx W'=>W'.ownsRow W.heap.size 48 5 (.slice (some ⟨x,0,none⟩) m m) m ((L0 (qJ,WJ) (qK,WK) m).flatMap qL)) W):=λW hg hT=>B0S qJ qK PJ PK WJ WK m (by rw[hWJ];exact Hall.out J hJn) HWl.out (by omega) s (by rw[hqJ];exact Hs.out J hJn) hqs (λj _=>by rw[hWJ];exact Hsw.out J hJn j) (λj _=>HWs.out j) (by omega) W (by rw[hWJ];exact(hPJ W hg).2) (HPK.out W hg).2 hT;have zq:qs (D9 qK qJ)<=2*s+1:=by
     have h1:=A0G qK qJ;have h2:=Hs.out J hJn;rw[<-hqJ]at h2;unfold D9;omega
    have hzs:∀j,j<m->qs (gq (L0 (qJ,WJ) (qK,WK) m) j)<=4*s+2:=λj hj=>by
     rw[show gq (L0 (qJ,WJ) (qK,WK) m) j=H9 (D9 (gq WK j) (gq WJ j)) (D9 qK qJ)from W5 _ hj];have h1:=A2D (D9 (gq WK j) (gq WJ j)) (D9 qK qJ);have h2:=A0G (gq WK j) (gq WJ j);have h3:=HWs.out j;have h4:=Hsw.out J hJn j;rw[<-hWJ]at h4;unfold H9;unfold D9 at *;omega
    have hsle:L0 (qJ,WJ) (qK,WK) m=(List.range m).map (gq (L0 (qJ,WJ) (qK,WK) m)):=by
     unfold L0;refine C0u λj hj=>?_;rw[W5 _ (List.mem_range.1 hj)]
    have hrd2:∀W,A4 w W->(Cq W bb (ob+J*6) qJ/\W.cell? ⟨bb,ob+J*6+5,none⟩=some (.slice PJ.1 m PJ.2))/\Cq W bb (ob+K*6) qK/\W.cell? ⟨bb,ob+K*6+5,none⟩=some (.slice PK.1 m PK.2):=λW hg=>by rw[hqJ];exact⟨(hPJ W hg).1,(HPK.out W hg).1⟩
    obtain⟨SL,hSL⟩:∃S,S=L0 (qJ,WJ) (qK,WK) m:=⟨_,rfl⟩
    rw[<-hSL]at hsle hzs⊢;simp only[<-hSL]at hsl;obtain⟨sf,hsf⟩:∃f:Nat->Rat,f=gq SL:=⟨_,rfl⟩
    rw[<-hsf]at hsle hzs⊢;have zb:qs (D9 a qK)<=2*s+1:=by have:=A0G a qK;unfold D9;omega
    have hsb:=λW hT=>A16 a qK W (by omega) hT;obtain⟨D,hD⟩:∃D,D=D9 a qK:=⟨_,rfl⟩
    rw[<-hD]at zb⊢;simp only[<-hD]at hsb;obtain⟨f,hf⟩:∃f:Nat->Rat,f=λj=>G5 (gq WK j) (D5 (sf j) D):=⟨_,rfl⟩
    rw[<-hf];rw[hsle]at hsl;obtain⟨bw,ow,hPw⟩:=(HPK.out w (A4.refl w)).2.addr (by rw[HWl.out];omega);have hel:∀j,j<m->∃(X Y E:Rat),(∀W,A4 w W->W.cell? ⟨bb,ob+K*6+5,none⟩=some (.slice (some ⟨bw,ow,none⟩) m PK.2)/\Cq W bw (ow+j*5) X)/\Y=sf j/\(∀W,Tab W->Calls Tryz.prog 29 #[qV Y,qV D] W λe w'=>e = .returned (qV E)/\A4 W w')/\(∀W,Tab W->Calls Tryz.prog 95 #[qV X,qV E] W λe w'=>e = .returned (qV (f j))/\A4 W w'):=λj hj=>by
     have z1:=HWs.out j;have z2:=hzs j hj;have z3:=Z8 (sf j) D;refine⟨gq WK j,sf j,D5 (sf j) D,λW hg=>?_,rfl,λW hT=>A0q _ _ W (by omega) hT,λW hT=>?_⟩
     ·have h1:=HPK.out W hg;rw[hPw]at h1;exact⟨h1.1.2,h1.2.read (by rw[HWl.out];exact hj)⟩
     ·rw[hf];exact A1M _ _ W (by unfold D5;omega) hT
    have Hsl:=B9I hsl;have Hsb:=B9I hsb;have Hrd2:=B9I hrd2;have Hel:=B9I hel;clear hst hK0 hC0 hJ hPJ eJ eK hqJ hWJ hsl zq hzs hsle hrd2 hSL hsf zb hsb hD hf hel hPw;refine B9D (rdC I1 [] [(0,0),(0,1),(0,2),(0,3),(0,4),(0,5),(0,6),(0,7),(0,8),(1,9),(0,10)] hB hG λK L hN hL=>?_)
    repeat first|refine gya ?_|refine gyr ?_|refine gna ?_|refine gyb (by(rintro v ⟨hgu,hB,hG,-⟩ N hN;have r:=hB.r;simp only[BxR]at r;obtain⟨⟨⟨y1,y2,y3,y4,y5⟩,y6⟩,⟨z1,z2,z3,z4,z5⟩,z6⟩:=Hrd2.out v hG;go_simp;exact hN)) ?_
    first|refine gmw (C:=λv=>Hcm.out _) ?_|refine I0 ?_
    refine gs ?_;refine geC hL ?_;clear hB hG hL L;rintro u ⟨-,hB,hG,-⟩;refine gtT ?_;clear hN K;refine B9J (rfl) ?_;refine B9K ?_;refine A6 ?_;refine B9D (rdC I1 [] [(0,0),(0,1),(0,2),(0,3),(0,4),(0,5),(0,6),(0,7),(0,8),(1,9)] hB hG λK L hN hL=>?_)
    repeat first|refine gya ?_|refine gyr ?_|refine gna ?_|refine gyb (by(rintro v ⟨hgu,hB,hG,-⟩ N hN;have r:=hB.r;simp only[BxR]at r;obtain⟨⟨⟨y1,y2,y3,y4,y5⟩,y6⟩,⟨z1,z2,z3,z4,z5⟩,z6⟩:=Hrd2.out v hG;go_simp;exact hN)) ?_
    refine gxd (X:=Nat) (λx:Nat=>.slice (some ⟨x,0,none⟩) m m) (λx W=>W.ownsRow (b3+1) 48 5 (.slice (some ⟨x,0,none⟩) m m) m (((List.range m).map sf).flatMap qL)) (λx u u' hg h=>C0 h hg) (λx55=>?_) (C:=by(rintro v ⟨hgu,hB,hG,-⟩;exact((Hsl.out _ hG (HT.grow hG)).mono λe w' ⟨x,h1,h2,h3⟩=>⟨x,h1,h2.mono hB.head.lt,h3⟩)));refine geC hL ?_;clear hB hG hL L;rintro u ⟨⟨hgu,hB,hG,-⟩,hx55⟩;have hg3:x55≠b3:=λe=>by
     have h1:=(hx55.lt x55 rfl).1;omega
    have Ho:=B9I (hx55.mono (show w.heap.size<=b3+1 by omega));clear hx55;clear hgu;refine gtT ?_;clear hN K;refine B9D (rdC I1 [] [(0,0),(0,1),(0,2),(0,3),(0,4),(0,5),(1,6),(2,7)] hB hG λK L hN hL=>?_)
    repeat first|refine gya ?_|refine gyr ?_|refine gna ?_|refine gyb (by(rintro v ⟨hgu,hB,hG,-⟩ N hN;have r:=hB.r;simp only[BxR]at r;obtain⟨⟨⟨y1,y2,y3,y4,y5⟩,y6⟩,⟨z1,z2,z3,z4,z5⟩,z6⟩:=Hrd2.out v hG;go_simp;exact hN)) ?_
    refine gmd (C:=λv ⟨hgu,hB,hG,_⟩=>Hsb.out _ (HT.grow hG)) ?_;refine gaa (G6 _ _ _ _ _) λb8 hb8 hn8=>?_;replace hF:=hF.n1 [] hB hG hb8 hn8;refine geC hL ?_;clear hB hG hL L;rintro u ⟨⟨hgu,hB,hG,-⟩,h8⟩;replace hB:=hB.cons' h8;clear h8;have hg8:x55≠b8:=λe=>by
     have h1:=(Ho.out.lt x55 rfl).2;omega
    have Ho2:=B9I (C0 Ho.out hgu);clear Ho;have Ho:=Ho2;clear Ho2;clear hb8 hn8;clear hgu;refine gtT ?_;clear hN K;refine sv hB hF hG 0 0 [_,_,_,_,_] ?_;intro u2 hu2 hBG;have Ho2:=B9I (H5 Ho.out (by intro e;exact hg8 (B8y e)) hu2);clear Ho hB hG hu2;have Ho:=Ho2;clear Ho2;obtain⟨hB,hG⟩:=hBG;obtain⟨u,rfl⟩:=exQ u2;refine B9D ?_;refine r0T ?_;refine B9l ?_;go_loopw [65] (λs0 wr=>∃j:Nat,j<=m/\s0 = .int .i64 j/\wr.ownsRow w.heap.size 48 5 (.slice (some ⟨x55,0,none⟩) m m) m ((Y8 f sf m j).flatMap qL)/\Bx wr [(b8,48,L9 D),(b3,48,L9 a)]/\A4 w wr) (λs0 _=>m-(intOf s0).toNat)
    case atStart=>exact⟨0,B9a _,rfl,by rw[B3e];exact Ho.out,hB,hG⟩
    case round =>
     clear hG Ho hB;obtain⟨j,hj,rfl,ho,hB,hG⟩:=hrel;obtain⟨u,rfl⟩:=exQ wr;have Ho:=B9I ho;clear ho;rcases B8t j m with hlt|hge2
     ·have hdec:decide ((j:Int)<(m:Int))=true:=by simp;omega
      have hjn:(j:Int)<(m:Int):=by omega
      have hst:=B4d (f:=f) (s:=sf) hlt;obtain⟨X,Y,E,hrd,hY,hml,had⟩:=Hel.out j hlt;have hcw:∀W,A4 u W->Cq W x55 (j*5) Y:=λW hg=>by
       have h1:=B77 (i:=j) (C0 Ho.out hg) (by rw[A31];exact hlt);rw[B5G hlt,<-hY]at h1;exact h1
      obtain⟨Q,hQ⟩:∃q,q=f j:=⟨_,rfl⟩
      rw[<-hQ]at hst;simp only[<-hQ]at had;have Hst:=B9I hst;have Hrd3:=B9I hrd;have Hml:=B9I hml;have Had:=B9I had;have Hcw:=B9I hcw;clear hst hrd hml had hQ hY hcw;refine r0T ?_;refine B9D ?_;refine B9L (rfl) ?_;refine B9K ?_;refine A6 ?_;refine B9D ?_;refine B9l ?_;refine r0T ?_;refine rdC I1 [] [(0,0),(0,1),(0,2),(0,3),(0,4),(0,5),(0,6),(0,7),(0,8),(0,9),(0,10),(0,11),(0,12),(0,13),(0,14),(1,15),(1,16),(0,17)] hB hG λK L hN hL=>?_
      repeat first|refine gya ?_|refine gyr ?_|refine gna ?_|refine gyb (by(rintro v ⟨hgu,hB,hG,-⟩ N hN;have r:=hB.r;simp only[BxR]at r;obtain⟨⟨p0,y1,y2,y3,y4,y5⟩,z1,z2,z3,z4,z5⟩:=And.intro (Hrd3.out v hG) (Hcw.out v hgu);go_simp;exact hN)) ?_
      refine gmd (C:=λv ⟨hgu,hB,hG,_⟩=>Hml.out _ (HT.grow hG)) ?_;refine gmd (C:=λv ⟨hgu,hB,hG,_⟩=>Had.out _ (HT.grow hG)) ?_;refine gs ?_;refine geC hL ?_;clear hB hG hL L;rintro u ⟨hgu,hB,hG,-⟩;have Ho2:=B9I (C0 Ho.out hgu);clear Ho;have Ho:=Ho2;clear Ho2;obtain⟨z0,z1,z2,z3,z4,o0,o1,o2,o3,o4,hfz⟩:=Z6 (enc:=qL) (λ_=>rfl) Ho.out (A31 f sf m j).symm j (by rw[A31];exact hlt);clear hgu;refine gt ?_;clear hN K;clear o0 o1 o2 o3 o4 hfz;generalize hu0:World.setCell (World.setCell (World.setCell (World.setCell (World.setCell u _ _) _ _) _ _) _ _) _ _=u0;have hu1:C2 u x55 (j*5) (qL Q)=u0:=hu0;have hP:=R4 (enc:=qL) (size:=5) (ps:=Y8 f sf m j) (λ_=>rfl) Ho.out j Q (by rw[A31];exact hlt);rw[Hst.out,hu1]at hP;have hG2:=N4 Ho.out hG hP.2
      have hB2:=hB.grown_ hP.2 (λe he hxe=>by
       have e2:=B8y hxe;simp only[List.mem_cons,List.not_mem_nil,or_false]at he;rcases he with rfl|rfl
       ·exact hg8 e2.symm
       ·exact hg3 e2.symm)
      have Ho2:=B9I hP.1;clear hG hB Ho hP hu1 hu0;have hG:=hG2;have hB:=hB2;have Ho:=Ho2;clear hG2 Ho2 hB2;obtain⟨u,rfl⟩:=exQ u0;refine C5 ?_;refine A6 ?_;refine r0E ?_;refine A6 ?_;go_roundw
      case rel=>exact⟨j+1,by omega,by go_num,Ho.out,hB,hG⟩
      case measure=>simp[intOf];omega
     ·obtain rfl:m=j:=by omega
      have hdec:decide ((m:Int)<(m:Int))=false:=by simp
      have ho:=Ho.out;rw[B6A]at ho;obtain⟨A9,c9,e9,-,-,hL,-⟩:=K8 ho;cases e9;have HL:=B9I hL;clear ho hL Ho;refine r0T ?_;refine B9D ?_;refine B9J (rfl) ?_;refine B9n ?_;refine B9 ?_;refine B9 ?_;refine E4 ?_;refine A6 ?_;refine r0T ?_;refine rt Tryz.results43 ?_;exact⟨(some ⟨x55,0,none⟩,m),rfl,HL.out,hG⟩
end Go.Proofs.YtgpglgbcobeogaaGreatDoor
