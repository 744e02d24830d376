import Derived.Test.YtgpglgbcobeogaaGreatDoorL34
set_option linter.unusedSimpArgs false
set_option linter.unusedVariables false
namespace Go.Proofs.YtgpglgbcobeogaaGreatDoor
open Go Go.RowKit
theorem A0W(f:Nat->Rat)(n:Nat):D2 f (n+1)=D2 f n+f n:=rfl
theorem A0j{f:Nat->Rat}:∀ {n:Nat},(∀i,i<n->f i=0)->D2 f n=0
 | 0,_=>rfl
 | n+1,h=>by
  rw[A0W,A0j (λi hi=>h i (by omega)),h n (by omega)];grind
theorem A0v(f g:Nat->Rat):∀n,D2 (λi=>f i+g i) n=D2 f n+D2 g n
 | 0=>by show(0:Rat)=0+0;grind
 | n+1=>by
  simp only[A0W];rw[A0v f g n];grind
theorem S5(c:Rat)(f:Nat->Rat):∀n,D2 (λi=>c*f i) n=c*D2 f n
 | 0=>by show(0:Rat)=c*0;grind
 | n+1=>by
  simp only[A0W];rw[S5 c f n];grind
theorem A2a(f g:Nat->Rat)(n:Nat):D2 (λi=>f i-g i) n=D2 f n-D2 g n:=by
 have h:=A0v (λi=>f i-g i) g n;have e:D2 (λi=>f i-g i+g i) n=D2 f n:=H5 λi _=>by grind
 rw[e]at h;grind
theorem A1Q{f:Nat->Rat}{k:Nat}:∀ {n:Nat},k<n->(∀i,i<n->i≠k->f i=0)->D2 f n=f k
 | 0,hk,_=>absurd hk (C0C _)
 | n+1,hk,h=>by
  rw[A0W];by_cases e:k=n
  ·subst e;rw[A0j λi hi=>h i (by omega) (by omega)];grind
  ·rw[A1Q (by omega) λi hi hn=>h i (by omega) hn,h n (by omega) (by omega)];grind
theorem A3M(f:Nat->Nat->Rat)(m:Nat):∀n,D2 (λi=>D2 (f i) m) n=D2 (λj=>D2 (λi=>f i j) n) m
 | 0=>(A0j λi _=>rfl).symm
 | n+1=>by
  rw[A0W,A3M f m n,<-A0v];rfl
theorem A4o{f:Nat->Rat}:∀ {n:Nat},(∀i,i<n->0<=f i)->0<=D2 f n
 | 0,_=>by show(0:Rat)<=0;grind
 | n+1,h=>by
  rw[A0W];have h1:=A4o (n:=n) λi hi=>h i (by omega);have h2:=h n (by omega);grind
theorem A7O{f:Nat->Rat}:∀ {n:Nat},(∀i,i<n->0<=f i)->D2 f n<=0->∀i,i<n->f i=0
 | 0,_,_,i,hi=>absurd hi (C0C _)
 | n+1,h,e,i,hi=>by
  rw[A0W]at e;have h1:=A4o (n:=n) λi hi=>h i (by omega);have h2:=h n (by omega);by_cases hn:i=n
  ·subst hn;grind
  ·exact A7O (n:=n) (λi hi=>h i (by omega)) (by grind) i (by omega)
theorem A69(a:Rat):0<=a*a:=by
 rcases (B9a:0<=a\/a<=0)with h|h
 ·exact C0E h h
 ·have:=C0E (a:=-a) (b:=-a) (by grind) (by grind);grind
theorem B2y{a:Rat}(h:a*a=0):a=0:=by
 rcases Rat.mul_eq_zero.1 h with h|h<;>exact h
def E0(r v:Nat->Rat)(L:Nat):Rat:=D2 (λj=>r j*v j) L
def ker(M:Mx)(n L:Nat)(v:Nat->Rat):Prop:=∀i,i<n->E0 (M i) v L=0
theorem A8O{r s v:Nat->Rat}{L:Nat}(h:∀j,j<L->r j=s j):E0 r v L=E0 s v L:=H5 λj hj=>by rw[h j hj]
theorem B4M{M:Mx}{n L a b:Nat}{v:Nat->Rat}(ha:a<n)(hb:b<n):ker (J5 M a b) n L v↔ker M n L v:=by
 constructor
 ·intro h i hi;by_cases ea:i=a
  ·have h1:=h b hb;unfold J5 at h1;by_cases e:b=a
   ·rw[if_pos e]at h1;rw[ea,<-e];exact h1
   ·rw[if_neg e,if_pos rfl]at h1;rw[ea];exact h1
  ·by_cases eb:i=b
   ·have h1:=h a ha;unfold J5 at h1;rw[if_pos rfl]at h1;rw[eb];exact h1
   ·have h1:=h i hi;unfold J5 at h1;rw[if_neg ea,if_neg eb]at h1;exact h1
 ·intro h i hi;unfold J5;split
  ·exact h b hb
  ·split
   ·exact h a ha
   ·exact h i hi
theorem B0i{M:Mx}{t L:Nat}{k:Rat}{v:Nat->Rat}:E0 (I8 M t k L t) v L=k*E0 (M t) v L:=by
 unfold E0;rw[<-S5];refine H5 λj hj=>?_;unfold I8 C3;rw[if_pos ⟨rfl,hj⟩];grind
theorem A4C{M:Mx}{t L i:Nat}{k:Rat}(h:i≠t):I8 M t k L i=M i:=by
 funext j;unfold I8;rw[if_neg λe=>h e.1]
theorem B5P{M:Mx}{n L t:Nat}{k:Rat}{v:Nat->Rat}(hk:k≠0)(ht:t<n):ker (I8 M t k L) n L v↔ker M n L v:=by
 constructor
 ·intro h i hi;by_cases e:i=t
  ·have h1:=h t ht;rw[B0i]at h1;rw[e];rcases Rat.mul_eq_zero.1 h1 with h2|h2
   ·exact absurd h2 hk
   ·exact h2
  ·have h1:=h i hi;rw[A4C e]at h1;exact h1
 ·intro h i hi;by_cases e:i=t
  ·rw[e,B0i,h t ht];grind
  ·rw[A4C e];exact h i hi
theorem B3L{M:Mx}{i t L:Nat}{k:Rat}{v:Nat->Rat}:E0 (I4 M i t k L i) v L=E0 (M i) v L-k*E0 (M t) v L:=by
 unfold E0;rw[<-S5,<-A2a];refine H5 λj hj=>?_;unfold I4 G0 C3;rw[if_pos ⟨rfl,hj⟩];grind
theorem A3b{M:Mx}{i t L i':Nat}{k:Rat}(h:i'≠i):I4 M i t k L i'=M i':=by
 funext j;unfold I4;rw[if_neg λe=>h e.1]
theorem B3E{M:Mx}{n L i t:Nat}{k:Rat}{v:Nat->Rat}(hi:i<n)(ht:t<n)(hne:i≠t):ker (I4 M i t k L) n L v↔ker M n L v:=by
 have key:∀h:E0 (M t) v L=0,E0 (I4 M i t k L i) v L=E0 (M i) v L:=λh=>by rw[B3L,h];grind
 constructor
 ·intro h j hj;have h0:=h t ht;rw[A3b (λe=>hne e.symm)]at h0;by_cases e:j=i
  ·rw[e,<-key h0];exact h i hi
  ·have h1:=h j hj;rw[A3b e]at h1;exact h1
 ·intro h j hj;by_cases e:j=i
  ·rw[e,key (h t ht)];exact h i hi
  ·rw[A3b e];exact h j hj
theorem B0N{M:Mx}{n L t c:Nat}{v:Nat->Rat}(ht:t<n):∀m,m<=n->(ker (H9 M t c L m) n L v↔ker M n L v)
 | 0,_=>Iff.rfl
 | m+1,hm=>by
  have ih:=B0N (M:=M) (L:=L) (c:=c) (v:=v) ht m (by omega);unfold H9;by_cases e:m=t
  ·rw[if_pos e];exact ih
  ·rw[if_neg e];exact(B3E (by omega) ht e).trans ih
theorem B5c{a:Rat}(h:a≠0):Q9 (B9 1) a≠0:=λe=>by
 have h1:(1:Rat)/a*a=1:=C0F h;have h2:(1:Rat)/a=0:=e;rw[h2]at h1;grind
theorem A5M{M:Mx}{a b:Nat}:J5 M a b a=M b:=by
 unfold J5;rw[if_pos rfl]
theorem B1y{n L col:Nat}{s:Gs}{v:Nat->Rat}:ker (L0 n L s col).1 n L v↔ker s.1 n L v:=by
 unfold L0;split
 ·rename_i hp;have h1:=(A0s s.1 n s.2.length col).1 hp;have ht:s.2.length<n:=by
   have:K8 s.1 n s.2.length col<n:=hp;omega
  refine(B0N ht n (K2 _)).trans ?_;unfold A0x;refine(B5P (B5c ?_) ht).trans (B4M ht hp);rw[A5M];exact h1.2
 ·exact Iff.rfl
theorem A41{n L:Nat}{s:Gs}{v:Nat->Rat}:∀c,(ker (C0 n L s c).1 n L v↔ker s.1 n L v)
 | 0=>Iff.rfl
 | c+1=>(B1y (s:=C0 n L s c)).trans (A41 c)
def Ech(n:Nat)(s:Gs):Prop:=s.2.length<=n/\∀k,k<s.2.length->∀i,i<n->s.1 i (nx s.2 k)=if i=k then 1 else 0
theorem B6U{l:List Nat}{c k:Nat}(h:k<l.length):nx (l++[c]) k=nx l k:=by
 unfold nx;rw[B9u h]
theorem B6g(l:List Nat)(c:Nat):nx (l++[c]) l.length=c:=by
 unfold nx;rw[B9v (K2 _),B8g];rfl
theorem A4F{M:Mx}{t c L:Nat}(hc:c<L)(h1:M t c=1):∀m i,i<m->i≠t->∀j,j<L->H9 M t c L m i j=M i j-M i c*M t j
 | 0,i,hi,_,_,_=>absurd hi (C0C _)
 | m+1,i,hi,hn,j,hj=>by
  unfold H9;by_cases e:m=t
  ·rw[if_pos e];exact A4F hc h1 m i (by omega) hn j hj
  ·rw[if_neg e];by_cases e2:i=m
   ·subst e2;unfold I4 G0 C3;rw[if_pos ⟨rfl,hj⟩,A3n i i (K2 _),A1x]
   ·rw[A3b e2];exact A4F hc h1 m i (by omega) hn j hj
theorem B4y{n L col:Nat}{s:Gs}(h:Ech n s)(hs:∀x∈s.2,x<col)(hc:col<L):Ech n (L0 n L s col):=by
 unfold L0;split
 ·rename_i hp;obtain⟨h0,hne⟩:=(A0s s.1 n s.2.length col).1 hp;have ht:s.2.length<n:=by
   have:K8 s.1 n s.2.length col<n:=hp;omega
  have hs0:s.2.length<=A0F n s col:=h0;have hpn:A0F n s col<n:=hp;have hne':s.1 (A0F n s col) col≠0:=hne;obtain⟨p,hpe⟩:∃p,p=A0F n s col:=⟨_,rfl⟩
  obtain⟨t,hte⟩:∃t,t=s.2.length:=⟨_,rfl⟩
  rw[<-hpe]at hs0 hpn hne';rw[<-hte]at ht hs0;have hgt:∀j,j<L->A0x n L s col t j=s.1 p j*(1/s.1 p col):=λj hj=>by
   unfold A0x I8;rw[<-hte,<-hpe,if_pos ⟨rfl,hj⟩,A5M];rfl
  have hgo:∀i,i≠t->A0x n L s col i=J5 s.1 t p i:=λi hi=>by
   unfold A0x;rw[<-hte,<-hpe];exact A4C hi
  have g1:A0x n L s col t col=1:=by
   rw[hgt col hc];have:=C0F (a:=1) hne';grind
  refine⟨by rw[List.length_append,List.length_singleton,<-hte];omega,λk hk i hi=>?_⟩;rw[List.length_append,List.length_singleton,<-hte]at hk;show H9 (A0x n L s col) s.2.length col L n i (nx (s.2++[col]) k)=_;rw[<-hte];by_cases ek:k=t
  ·have e1:nx (s.2++[col]) k=col:=by rw[ek,hte];exact B6g _ _
   rw[e1];by_cases ei:i=t
   ·rw[ei,A1x,g1,if_pos ek.symm]
   ·rw[A4F hc g1 n i hi ei col hc,g1,if_neg (by omega)];grind
  ·have hkt:k<t:=by omega
   have e1:nx (s.2++[col]) k=nx s.2 k:=B6U (by omega);have hl:nx s.2 k<L:=by
    have:=hs _ (O3 (l:=s.2) (i:=k) (by omega));omega
   rw[e1];have hrow:=λi hi=>h.2 k (by omega) i hi;have gt0:A0x n L s col t (nx s.2 k)=0:=by
    rw[hgt _ hl,hrow p hpn,if_neg (by omega)];grind
   by_cases ei:i=t
   ·rw[ei,A1x,gt0,if_neg (by omega)]
   ·rw[A4F hc g1 n i hi ei _ hl,gt0,hgo i ei];unfold J5;rw[if_neg ei];by_cases ep:i=p
    ·rw[if_pos ep,hrow t ht,if_neg (by omega),if_neg (by omega)];grind
    ·rw[if_neg ep,hrow i hi];grind
 ·exact h
theorem A4M{n L:Nat}(M:Mx):∀c,c<=L->Ech n (C0 n L (M,[]) c)
 | 0,_=>⟨B8k _,λk hk=>absurd hk (C0C _)⟩
 | c+1,hc=>B4y (s:=C0 n L (M,[]) c) (A4M M c (by omega)) (A5b n L M c).2 (by omega)
theorem B2l:∀ {l:List Nat} {m:Nat},l.Pairwise (· < ·)->(∀x∈l,x<m)->l.length=m->l=List.range m:=by
 intro l m
 induction m generalizing l with
 | zero=>intro _ _ h;rw[List.length_eq_zero_iff.1 h];rfl
 | succ m ih =>
  intro h1 h2 h3;have hne:l≠[]:=λe=>by rw[e]at h3;cases h3
  have hd:=List.dropLast_concat_getLast hne;rw[<-hd]at h1 h2 h3⊢;obtain⟨p1,-,p3⟩:=List.pairwise_append.1 h1;have hlast:l.getLast hne<m+1:=h2 _ (by simp);have hlen:l.dropLast.length=m:=by simpa using h3
  have:=ih p1 (λx hx=>by have:=p3 x hx (l.getLast hne) (by simp);omega) hlen;rw[B9J,this];congr 1;have hle:m<=l.getLast hne:=by
   rcases B73 (l.getLast hne) m with h|h
   ·have:l.getLast hne∈l.dropLast:=by rw[this];exact List.mem_range.2 h
    have:=p3 _ this (l.getLast hne) (by simp);omega
   ·exact h
  congr 1;omega
theorem A26{m k:Nat}(h:k<m):nx (List.range m) k=k:=by
 unfold nx;rw[B98 h];rfl
theorem B2z{n L:Nat}{M:Mx}(h:(C0 n L (M,[]) L).2.length=L){v:Nat->Rat}(hv:ker M n L v):∀j,j<L->v j=0:=λj hj=>by
 obtain⟨s1,s2⟩:=A5b n L M L;have hr:=B2l s1 s2 h;obtain⟨e1,e2⟩:=A4M (n:=n) (L:=L) M L (K2 _);have hk:=(A41 (s:=(M,[])) L).2 hv;have h3:=hk j (by omega);unfold E0 at h3
 rw[A1Q hj λi hi hne=>by
  have:=e2 i (by omega) j (by omega);rw[hr,A26 hi,if_neg (λe=>hne e.symm)]at this
  rw[this];grind]at h3
 have h4:=e2 j (by omega) j (by omega);rw[hr,A26 hj,if_pos rfl]at h4;rw[h4]at h3;grind
theorem A9F{n L m:Nat}{M:Mx}(hm:m<=L)(h:∀v,(∀j,m<=j->v j=0)->ker M n L v->∀j,j<m->v j=0):∀c,c<=m->(C0 n L (M,[]) c).2=List.range c
 | 0,_=>rfl
 | c+1,hc=>by
  have ih:=A9F hm h c (by omega);obtain⟨e1,e2⟩:=A4M (n:=n) (L:=L) M c (by omega);show(L0 n L (C0 n L (M,[]) c) c).2=_;unfold L0;by_cases hp:A0F n (C0 n L (M,[]) c) c<n
  ·rw[if_pos hp,B9J,ih]
  ·exfalso;obtain⟨s,hs⟩:∃s,s=C0 n L (M,[]) c:=⟨_,rfl⟩
   rw[<-hs]at ih e1 e2 hp;have hlen:s.2.length=c:=by rw[ih];simp
   have hz:∀i,c<=i->i<n->s.1 i c=0:=λi h1 h2=>(A0s s.1 n s.2.length c).2 i (by omega) (by
    have:A0F n s c=K8 s.1 n s.2.length c:=rfl
    omega)
   have hv:ker s.1 n L (λj=>if j<c then-s.1 j c else if j=c then 1 else 0):=λi hi=>by
    have hcol:∀j,j<c->s.1 i j=if i=j then 1 else 0:=λj hj=>by
     have:=e2 j (by omega) i hi;rw[ih,A26 hj]at this;exact this
    have hsplit:E0 (s.1 i) (λj=>if j<c then-s.1 j c else if j=c then 1 else 0) L=D2 (λj=>(if j=i then(if i<c then-s.1 i c else 0)else 0)+(if j=c then s.1 i c else 0)) L:=H5 λj hj=>by
     simp only;by_cases h1:j<c
     ·rw[if_pos h1,hcol j h1,if_neg (show ¬j=c by omega)];by_cases h2:j=i
      ·subst h2;rw[if_pos rfl,if_pos rfl,if_pos h1];grind
      ·rw[if_neg h2,if_neg (λe=>h2 e.symm)];grind
     ·rw[if_neg h1];by_cases h2:j=c
      ·rw[if_pos h2,if_pos h2,h2];by_cases h3:c=i
       ·rw[if_pos h3,if_neg (by omega)];grind
       ·rw[if_neg h3];grind
      ·rw[if_neg h2,if_neg h2];by_cases h3:j=i
       ·rw[if_pos h3,if_neg (by omega)];grind
       ·rw[if_neg h3];grind
    rw[hsplit,A0v];have hB:D2 (λj=>if j=c then s.1 i c else 0) L=s.1 i c:=by
     rw[A1Q (k:=c) (by omega) λj hj hne=>if_neg hne,if_pos rfl]
    rw[hB];by_cases h1:i<c
    ·rw[A1Q (k:=i) (by omega) λj hj hne=>if_neg hne,if_pos rfl,if_pos h1];grind
    ·rw[hz i (by omega) hi,A0j λj hj=>by split<;>first|rfl|exact if_neg h1];grind
   rw[hs]at hv;have h9:=h _ (λj hj=>by rw[if_neg (by omega),if_neg (by omega)]) ((A41 (s:=(M,[])) c).1 hv) c (by omega);rw[if_neg (Nat.lt_irrefl c),if_pos rfl]at h9;exact absurd h9 (by decide)
def frm(G:Mx)(n:Nat)(x y:Nat->Rat):Rat:=D2 (λi=>x i*E0 (G i) y n) n
def lin(c x:Nat->Rat)(n:Nat):Rat:=D2 (λi=>c i*x i) n
def H7(a:Rat):Rat:=if 0<=a then a else -a
def obj(G:Mx)(n:Nat)(p:Nat->Rat)(a:Rat)(x:Nat->Rat):Rat:=frm G n x x-2*lin p x n+2*a*D2 (λi=>H7 (x i)) n
def N8(G:Mx)(n:Nat)(p:Nat->Rat)(a:Rat)(s:Nat->Int)(x:Nat->Rat):Rat:=frm G n x x-2*lin p x n+2*a*lin (λi=>(s i:Rat)) x n
theorem A4L(r x d:Nat->Rat)(t:Rat)(n:Nat):E0 r (λi=>x i+t*d i) n=E0 r x n+t*E0 r d n:=by
 unfold E0;rw[<-S5,<-A0v];exact H5 λi _=>by grind
theorem A6H(c x d:Nat->Rat)(t:Rat)(n:Nat):lin c (λi=>x i+t*d i) n=lin c x n+t*lin c d n:=by
 unfold lin;rw[<-S5,<-A0v];exact H5 λi _=>by grind
section
variable {G:Mx} {n:Nat}
theorem B5e(hG:∀i,i<n->∀j,j<n->G i j=G j i)(x y:Nat->Rat):frm G n x y=frm G n y x:=by
 have e1:frm G n x y=D2 (λi=>D2 (λj=>x i*G i j*y j) n) n:=H5 λi _=>by
  show x i*D2 _ n=_;rw[<-S5];exact H5 λj _=>by grind
 have e2:frm G n y x=D2 (λi=>D2 (λj=>x j*G j i*y i) n) n:=H5 λi hi=>by
  show y i*D2 _ n=_;rw[<-S5];exact H5 λj hj=>by rw[hG j hj i hi];grind
 rw[e1,e2,A3M]
theorem A7U(hG:∀i,i<n->∀j,j<n->G i j=G j i)(x d:Nat->Rat)(t:Rat):frm G n (λi=>x i+t*d i) (λi=>x i+t*d i)=frm G n x x+2*t*frm G n d x+t*t*frm G n d d:=by
 have e:frm G n (λi=>x i+t*d i) (λi=>x i+t*d i)=D2 (λi=>(x i*E0 (G i) x n+t*(x i*E0 (G i) d n))+(t*(d i*E0 (G i) x n)+t*t*(d i*E0 (G i) d n))) n:=H5 λi _=>by
  show(x i+t*d i)*E0 (G i) (λi=>x i+t*d i) n=_;rw[A4L];grind
 rw[e,A0v,A0v,A0v,S5,S5,S5];have h:=B5e hG x d;unfold frm at h⊢;rw[h];grind
theorem A9y(hG:∀i,i<n->∀j,j<n->G i j=G j i)(p:Nat->Rat)(a:Rat)(s:Nat->Int)(x d:Nat->Rat)(t:Rat) :
  N8 G n p a s (λi=>x i+t*d i)=N8 G n p a s x+2*t*D2 (λi=>d i*(E0 (G i) x n-p i+a*(s i:Rat))) n+t*t*frm G n d d:=by
 unfold N8;rw[A7U hG,A6H,A6H];have e:D2 (λi=>d i*(E0 (G i) x n-p i+a*(s i:Rat))) n=frm G n d x-lin p d n+a*lin (λi=>(s i:Rat)) d n:=by
  unfold frm lin;rw[<-S5,<-A2a,<-A0v];exact H5 λi _=>by grind
 rw[e];grind
structure SolW(G:Mx)(n:Nat)(p:Nat->Rat)(a:Rat)(s:Nat->Int)(w:Nat->Rat):Prop where
 on:∀i,i<n->s i≠0->E0 (G i) w n=p i-a*(s i:Rat)
 off:∀i,i<n->s i=0->w i=0
def A0P(n:Nat)(s:Nat->Int)(x:Nat->Rat):Prop:=∀i,i<n->0<=(s i:Rat)*x i/\(s i=0->x i=0)
def Sgn(n:Nat)(s:Nat->Int):Prop:=∀i,i<n->s i = -1\/s i=0\/s i=1
theorem B3k{s:Nat->Int}{x:Nat->Rat}(hs:Sgn n s)(h:A0P n s x):∀i,i<n->H7 (x i)=(s i:Rat)*x i:=λi hi=>by
 obtain⟨h1,h2⟩:=h i hi;unfold H7;rcases hs i hi with e|e|e
 ·rw[e]at h1⊢;have e1:((-1:Int):Rat) = -1:=rfl;rw[e1]at h1⊢;split<;>grind
 ·rw[h2 e,e,if_pos (by grind)];grind
 ·rw[e]at h1⊢;have e1:((1:Int):Rat)=1:=rfl;rw[e1]at h1⊢;split<;>grind
theorem A1V{p:Nat->Rat}{a:Rat}{s:Nat->Int}{x:Nat->Rat}(hs:Sgn n s)(h:A0P n s x):obj G n p a x=N8 G n p a s x:=by
 unfold obj N8 lin;rw[H5 (B3k hs h)]
theorem A3d{p:Nat->Rat}{a:Rat}{s:Nat->Int}{x y:Nat->Rat}(h:∀i,i<n->x i=y i):N8 G n p a s x=N8 G n p a s y:=by
 unfold N8 frm lin E0;rw[H5 (λi hi=>by rw[h i hi,H5 (λj hj=>by rw[h j hj])]:∀i,i<n->x i*D2 (λj=>G i j*x j) n=y i*D2 (λj=>G i j*y j) n),H5 (λi hi=>by rw[h i hi]:∀i,i<n->p i*x i=p i*y i),H5 (λi hi=>by rw[h i hi]:∀i,i<n->(s i:Rat)*x i=(s i:Rat)*y i)]
theorem A7V(hG:∀i,i<n->∀j,j<n->G i j=G j i)(hP:∀x,0<=frm G n x x){p:Nat->Rat}{a:Rat}{s:Nat->Int}{w x:Nat->Rat}(hw:SolW G n p a s w)(hx:∀i,i<n->s i=0->x i=0)(r:Rat)(h0:0<=r)(h1:r<=1) :
  N8 G n p a s (λi=>x i+r*(w i-x i))<=N8 G n p a s x:=by
 have key:∀t,N8 G n p a s (λi=>w i+t*(x i-w i))=N8 G n p a s w+t*t*frm G n (λi=>x i-w i) (λi=>x i-w i):=λt=>by
  rw[A9y hG,A0j λi hi=>?_]
  ·grind
  ·by_cases e:s i=0
   ·rw[hw.off i hi e,hx i hi e];grind
   ·rw[hw.on i hi e];grind
 have e1:N8 G n p a s x=N8 G n p a s (λi=>w i+1*(x i-w i)):=A3d λi _=>by grind
 have e2:N8 G n p a s (λi=>x i+r*(w i-x i))=N8 G n p a s (λi=>w i+(1-r)*(x i-w i)):=A3d λi _=>by grind
 rw[e2,e1,key,key];have h2:=hP λi=>x i-w i;have h3:0<=r*(2-r):=C0E h0 (by grind);have h4:=C0E h3 h2;grind
theorem A6Y(P:Nat->Prop)(f:Nat->Rat):∀m,(∃i,i<m/\P i)->∃j,j<m/\P j/\∀i,i<m->P i->f j<=f i
 | 0,h=>by obtain⟨i,hi,-⟩:=h;exact absurd hi (C0C _)
 | m+1,h=>by
  by_cases h1:∃i,i<m/\P i
  ·obtain⟨j,hj,hp,hm⟩:=A6Y P f m h1;by_cases h2:P m/\f m<f j
   ·exact⟨m,C0G _,h2.1,λi hi hpi=>by
     by_cases e:i=m
     ·rw[e];exact C0D
     ·have:=hm i (by omega) hpi;have:=h2.2
      grind⟩
   ·exact⟨j,by omega,hp,λi hi hpi=>by
     by_cases e:i=m
     ·subst e;have:¬f i<f j:=λh=>h2 ⟨hpi,h⟩;grind
     ·exact hm i (by omega) hpi⟩
  ·obtain⟨i,hi,hp⟩:=h;have e:i=m:=by
    rcases B73 i m with h|h
    ·exact absurd ⟨i,h,hp⟩ h1
    ·omega
   subst e
   exact⟨i,C0G _,hp,λk hk hpk=>by
    by_cases e:k=i
    ·rw[e];exact C0D
    ·exact absurd ⟨k,by omega,hpk⟩ h1⟩
theorem A7I{a b:Rat}(h:0<=a)(hb:0<b):0<=a/b:=by
 rcases (B9a:0<=a/b\/a/b<=0)with h1|h1
 ·exact h1
 ·have e:a/b*b=a:=C0F (λe=>by grind);have:=C0E (a:=-(a/b)) (b:=b) (by grind) (Rat.le_of_lt hb);have h2:a=0:=by grind
  rw[h2,Rat.div_def,Rat.zero_mul];exact C0D
def A18(s:Nat->Int):Nat->Nat
 | 0=>0
 | n+1=>A18 s n+if s n≠0 then 1 else 0
def A1q(s:Nat->Int)(j:Nat):Nat->Int:=λi=>if i=j then 0 else s i
theorem B0J(s:Nat->Int)(j:Nat):∀n,A18 (A1q s j) n+(if j<n/\s j≠0 then 1 else 0)=A18 s n
 | 0=>by simp[A18]
 | n+1=>by
  have ih:=B0J s j n;unfold A18 A1q;unfold A1q at ih;by_cases e:n=j
  ·subst e;rw[if_neg (by omega)]at ih;by_cases h:s n≠0
   ·simp[h];omega
   ·simp[h];omega
  ·rw[if_neg e];by_cases h1:j<n/\s j≠0
   ·rw[if_pos h1]at ih;rw[if_pos (c:=j<n+1/\s j≠0) ⟨by omega,h1.2⟩];omega
   ·rw[if_neg h1]at ih;rw[if_neg (c:=j<n+1/\s j≠0) λh2=>h1 ⟨by omega,h2.2⟩];omega
theorem B7Z(hG:∀i,i<n->∀j,j<n->G i j=G j i)(hP:∀x,0<=frm G n x x){p:Nat->Rat}{a:Rat}(hW:∀s,Sgn n s->∃w,SolW G n p a s w) :
  ∀m s u,Sgn n s->A0P n s u->A18 s n<=m->∃s' w,Sgn n s'/\SolW G n p a s' w/\A0P n s' w/\obj G n p a w<=obj G n p a u:=by
 intro m
 induction m using Nat.strongRecOn with
 | _ m ih =>
  intro s u hs hu hm;obtain⟨w,hw⟩:=hW s hs;by_cases hc:∃i,i<n/\(s i:Rat)*w i<0
  ·obtain⟨j,hj,hjn,hmin⟩:=A6Y (λi=>(s i:Rat)*w i<0) (λi=>(s i:Rat)*u i/((s i:Rat)*u i-(s i:Rat)*w i)) n hc;have hpos:∀i,i<n->(s i:Rat)*w i<0->0<(s i:Rat)*u i-(s i:Rat)*w i:=λi hi h=>by
    have:=(hu i hi).1;grind
   obtain⟨r,hr⟩:∃r,r=(s j:Rat)*u j/((s j:Rat)*u j-(s j:Rat)*w j):=⟨_,rfl⟩
   have hrm:r*((s j:Rat)*u j-(s j:Rat)*w j)=(s j:Rat)*u j:=by
    rw[hr];exact C0F (λe=>by have:=hpos j hj hjn;grind)
   have h0:0<=r:=by
    rw[hr];exact A7I (hu j hj).1 (hpos j hj hjn)
   have h1:r<=1:=by
    have hd:=hpos j hj hjn;rcases (B9a:r<=1\/1<=r)with h|h
    ·exact h
    ·have:=C0E (a:=r-1) (b:=(s j:Rat)*u j-(s j:Rat)*w j) (by grind) (Rat.le_of_lt hd);grind
   have hsj:s j≠0:=λe=>by rw[e]at hjn;simp at hjn
   have hcone:A0P n s (λi=>u i+r*(w i-u i)):=λi hi=>by
    refine⟨?_,λe=>by show u i+r*(w i-u i)=0;rw[hw.off i hi e,(hu i hi).2 e];grind⟩;have hui:=(hu i hi).1;by_cases hn:(s i:Rat)*w i<0
    ·have h2:r<=(s i:Rat)*u i/((s i:Rat)*u i-(s i:Rat)*w i):=by rw[hr];exact hmin i hi hn
     have hd:=hpos i hi hn;have h3:=C0E (a:=(s i:Rat)*u i/((s i:Rat)*u i-(s i:Rat)*w i)-r) (b:=(s i:Rat)*u i-(s i:Rat)*w i) (by grind) (Rat.le_of_lt hd);have h4:(s i:Rat)*u i/((s i:Rat)*u i-(s i:Rat)*w i)*((s i:Rat)*u i-(s i:Rat)*w i)=(s i:Rat)*u i:=C0F (λe=>by grind);grind
    ·have h2:=C0E (a:=1-r) (b:=(s i:Rat)*u i) (by grind) hui;have h3:=C0E (a:=r) (b:=(s i:Rat)*w i) h0 (by grind);grind
   have hj0:u j+r*(w j-u j)=0:=by
    have e:(s j:Rat)*(u j+r*(w j-u j))=0:=by grind
    rcases Rat.mul_eq_zero.1 e with e|e
    ·exact absurd (by exact_mod_cast e) hsj
    ·exact e
   have hud:=B0J s j n;rw[if_pos ⟨hj,hsj⟩]at hud
   obtain⟨s',w',g1,g2,g3,g4⟩:=ih (A18 (A1q s j) n) (by omega) (A1q s j) (λi=>u i+r*(w i-u i)) (λi hi=>by
     unfold A1q;split
     ·exact .inr (.inl rfl)
     ·exact hs i hi) (λi hi=>by
     unfold A1q;by_cases e:i=j
     ·subst e;rw[if_pos rfl];exact⟨by show 0<=((0:Int):Rat)*(u i+r*(w i-u i));rw[hj0];grind,λ_=>hj0⟩
     ·rw[if_neg e];exact hcone i hi) (K2 _)
   refine⟨s',w',g1,g2,g3,Rat.le_trans g4 ?_⟩;rw[A1V hs hcone,A1V hs hu];exact A7V hG hP hw (λi hi e=>(hu i hi).2 e) r h0 h1
  ·have hcone:A0P n s w:=λi hi=>⟨by
    have:¬(s i:Rat)*w i<0:=λh=>hc ⟨i,hi,h⟩
    grind,hw.off i hi⟩
   refine⟨s,w,hs,hw,hcone,?_⟩;rw[A1V hs hcone,A1V hs hu];have h:=A7V hG hP hw (x:=u) (λi hi e=>(hu i hi).2 e) 1 (by decide) (by decide);have e1:N8 G n p a s (λi=>u i+1*(w i-u i))=N8 G n p a s w:=A3d λi _=>by grind
   rw[e1]at h;exact h
def Kkt(G:Mx)(n:Nat)(p:Nat->Rat)(a:Rat)(w:Nat->Rat):Prop:=∀i,i<n->S9 (p i-E0 (G i) w n) (w i) a=true
def A6Z(G:Mx)(n:Nat)(p:Nat->Rat)(a:Rat)(s:Nat->Int)(w:Nat->Rat):Prop:=∀i,i<n->if s i≠0 then 0<=(s i:Rat)*w i else H7 (p i-E0 (G i) w n)<=a
theorem A9N{p:Nat->Rat}{a:Rat}{s:Nat->Int}{x:Nat->Rat}:obj G n p a x=N8 G n p a s x+2*a*(D2 (λi=>H7 (x i)) n-lin (λi=>(s i:Rat)) x n):=by
 unfold obj N8;grind
theorem B3K{q a:Rat}(h:a<H7 q):∃c:Int,(c = -1\/c=1)/\(c:Rat)*q=H7 q/\(c:Rat)*(c:Rat)=1:=by
 unfold H7 at h⊢;by_cases h0:0<=q
 ·rw[if_pos h0];exact⟨1,.inr rfl,by have:((1:Int):Rat)=1:=rfl;grind,by have:((1:Int):Rat)=1:=rfl;grind⟩
 ·rw[if_neg h0];exact⟨-1,.inl rfl,by have:((-1:Int):Rat) = -1:=rfl;grind,by have:((-1:Int):Rat) = -1:=rfl;grind⟩
theorem B43(hG:∀i,i<n->∀j,j<n->G i j=G j i)(hD:∀x,frm G n x x<=0->∀j,j<n->x j=0){p:Nat->Rat}{a:Rat}{s:Nat->Int}{w:Nat->Rat}(hs:Sgn n s)(hc:A0P n s w){i:Nat}(hi:i<n)(h0:s i=0)(hq:a<H7 (p i-E0 (G i) w n)) :
  ∃s' u,Sgn n s'/\A0P n s' u/\obj G n p a u<obj G n p a w:=by
 obtain⟨c,hc1,hcq,hcc⟩:=B3K hq
 obtain⟨d,hd⟩:∃d:Nat->Rat,d=λj=>if j=i then(c:Rat)else 0:=⟨_,rfl⟩
 have hdi:d i=(c:Rat):=by rw[hd];exact if_pos rfl
 have hdo:∀j,j≠i->d j=0:=λj hj=>by rw[hd];exact if_neg hj
 obtain⟨s',hs'⟩:∃s':Nat->Int,s'=λj=>if j=i then c else s j:=⟨_,rfl⟩
 have hsi:s' i=c:=by rw[hs'];exact if_pos rfl
 have hso:∀j,j≠i->s' j=s j:=λj hj=>by rw[hs'];exact if_neg hj
 have hS:Sgn n s':=λj hj=>by
  by_cases e:j=i
  ·rw[e,hsi];rcases hc1 with h|h
   ·exact .inl h
   ·exact .inr (.inr h)
  ·rw[hso j e];exact hs j hj
 obtain⟨D,hDe⟩:∃D,D=frm G n d d:=⟨_,rfl⟩
 have hDp:0<D:=by
  rcases (B9a:D<=0\/0<=D)with h|h
  ·have:=hD d (hDe ▸ h) i hi;rw[hdi]at this;rw[this]at hcc;exact absurd hcc (by grind)
  ·rcases Rat.le_iff_lt_or_eq.1 h with h|h
   ·exact h
   ·have:=hD d (by rw[<-hDe,<-h];exact C0D) i hi;rw[hdi]at this;rw[this]at hcc;exact absurd hcc (by grind)
 obtain⟨δ,hδ⟩:∃δ,δ=H7 (p i-E0 (G i) w n)-a:=⟨_,rfl⟩
 have hδp:0<δ:=by grind
 obtain⟨t,ht⟩:∃t,t=δ/D:=⟨_,rfl⟩
 have htD:t*D=δ:=by rw[ht];exact C0F (λe=>by grind)
 have ht0:0<=t:=by rw[ht];exact A7I (Rat.le_of_lt hδp) hDp
 have htp:0<t:=by
  rcases Rat.le_iff_lt_or_eq.1 ht0 with h|h
  ·exact h
  ·rw[<-h]at htD;grind
 have hwi:=(hc i hi).2 h0;have hcone:A0P n s' w:=λj hj=>by
  by_cases e:j=i
  ·rw[e,hwi];exact⟨by grind,λ_=>rfl⟩
  ·rw[hso j e];exact hc j hj
 have hcu:A0P n s' (λj=>w j+t*d j):=λj hj=>by
  show 0<=(s' j:Rat)*(w j+t*d j)/\(s' j=0->w j+t*d j=0);by_cases e:j=i
  ·rw[e,hwi,hdi,hsi];refine⟨by rw[show(c:Rat)*(0+t*(c:Rat))=t*((c:Rat)*(c:Rat))by grind,hcc];grind,λh=>?_⟩;rw[h];have:((0:Int):Rat)=0:=rfl;grind
  ·rw[hdo j e,hso j e];have h1:=hc j hj;refine⟨by grind,λh=>?_⟩;have:=h1.2 h;grind
 refine⟨s',_,hS,hcu,?_⟩;rw[A1V hS hcu,A1V hS hcone,A9y hG,A1Q hi λj hj hne=>by rw[hdo j hne];grind,hdi,hsi,<-hDe];have e1:(c:Rat)*(E0 (G i) w n-p i+a*(c:Rat)) = - δ:=by grind
 have e2:t*t*D=t*δ:=by grind
 rw[e1,e2];have h1:=Rat.mul_pos htp hδp;grind
theorem B3N(hG:∀i,i<n->∀j,j<n->G i j=G j i)(hP:∀x,0<=frm G n x x)(hD:∀x,frm G n x x<=0->∀j,j<n->x j=0){p:Nat->Rat}{a:Rat}(K:Nat)(S:Nat->Nat->Int)(W:Nat->Nat->Rat)(hS:∀k,k<K->Sgn n (S k))(hW:∀k,k<K->SolW G n p a (S k) (W k))(hU:∀s,Sgn n s->∃k,k<K/\∀i,i<n->S k i=s i) :
  ∃k,k<K/\A6Z G n p a (S k) (W k):=by
 have hU':∀s,Sgn n s->∃w,SolW G n p a s w:=λs hs=>by
  obtain⟨k,hk,he⟩:=hU s hs;exact⟨W k,λi hi h=>by rw[<-he i hi]at h⊢;exact(hW k hk).on i hi h,λi hi h=>by rw[<-he i hi]at h;exact(hW k hk).off i hi h⟩
 have uniq:∀s w w',SolW G n p a s w->SolW G n p a s w'->∀i,i<n->w i=w' i:=λs w w' h h' i hi=>by
  have e:=hD (λi=>w i+(-1)*w' i) (by
   unfold frm;rw[A0j λj hj=>?_]
   ·exact C0D
   ·rw[A4L];show(w j + -1*w' j)*_=_;by_cases e:s j=0
    ·rw[h.off j hj e,h'.off j hj e];grind
    ·rw[h.on j hj e,h'.on j hj e];grind) i hi
  grind
 obtain⟨k0,hk0,he0⟩:=hU (λ_=>0) (λi hi=>.inr (.inl rfl))
 obtain⟨k,hk,hc,hmin⟩:=A6Y (λk=>A0P n (S k) (W k)) (λk=>obj G n p a (W k)) K ⟨k0,hk0,λi hi=>by
  have e:S k0 i=0:=he0 i hi;have e2:=(hW k0 hk0).off i hi e;rw[e2]
  exact⟨by grind,λ_=>rfl⟩⟩
 refine⟨k,hk,λi hi=>?_⟩;by_cases hs:S k i≠0
 ·rw[if_pos hs];exact(hc i hi).1
 ·rw[if_neg hs];have hs0:S k i=0:=Decidable.not_not.1 hs;rcases (B9a:H7 (p i-E0 (G i) (W k) n)<=a\/a<=H7 (p i-E0 (G i) (W k) n))with h|h
  ·exact h
  ·rcases Rat.le_iff_lt_or_eq.1 h with h|h
   ·exfalso;obtain⟨s',u,g1,g2,g3⟩:=B43 hG hD (hS k hk) hc hi hs0 h;obtain⟨s2,w2,g4,g5,g6,g7⟩:=B7Z hG hP hU' _ s' u g1 g2 (K2 _);obtain⟨k2,hk2,he2⟩:=hU s2 g4;have hw2:SolW G n p a s2 (W k2):=⟨λi hi h=>by rw[<-he2 i hi]at h⊢;exact(hW k2 hk2).on i hi h,λi hi h=>by rw[<-he2 i hi]at h;exact(hW k2 hk2).off i hi h⟩
    have e2:=uniq s2 w2 (W k2) g5 hw2;have c2:A0P n (S k2) (W k2):=λi hi=>by
     rw[he2 i hi,<-e2 i hi];exact g6 i hi
    have o2:obj G n p a (W k2)=obj G n p a w2:=by
     rw[A1V (hS k2 hk2) c2,A1V g4 g6,A3d λi hi=>(e2 i hi).symm];unfold N8;rw[show lin (λi=>(S k2 i:Rat)) w2 n=lin (λi=>(s2 i:Rat)) w2 n from H5 λi hi=>by simp only;rw[he2 i hi]]
    have h3:=hmin k2 hk2 c2;grind
   ·rw[<-h];exact C0D
end
end Go.Proofs.YtgpglgbcobeogaaGreatDoor
