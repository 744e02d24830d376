import Derived.Test.YtgpglgbcobeogaaGreatDoorW34
set_option linter.unusedSimpArgs false
set_option linter.unusedVariables false
namespace Go.Proofs.YtgpglgbcobeogaaGreatDoor
open Go Go.RowKit
theorem A0U(f:Nat→Rat)(n:Nat):C6 f (n+1)=C6 f n+f n:=rfl
theorem A0o{f:Nat→Rat}:∀ {n:Nat},(∀i,i<n→f i=0)→C6 f n=0
 | 0,_=>rfl
 | n+1,h=>by
  rw[A0U,A0o (fun i hi=>h i (by omega)),h n (by omega)];grind
theorem A0q(f g:Nat→Rat):∀n,C6 (fun i=>f i+g i) n=C6 f n+C6 g n
 | 0=>by show(0:Rat)=0+0;grind
 | n+1=>by
  simp only[A0U];rw[A0q f g n];grind
theorem R5(c:Rat)(f:Nat→Rat):∀n,C6 (fun i=>c*f i) n=c*C6 f n
 | 0=>by show(0:Rat)=c*0;grind
 | n+1=>by
  simp only[A0U];rw[R5 c f n];grind
theorem A2N(f g:Nat→Rat)(n:Nat):C6 (fun i=>f i-g i) n=C6 f n-C6 g n:=by
 have h:=A0q (fun i=>f i-g i) g n;have e:C6 (fun i=>f i-g i+g i) n=C6 f n:=G4 fun i _=>by grind
 rw[e]at h;grind
theorem A1M{f:Nat→Rat}{k:Nat}:∀ {n:Nat},k<n→(∀i,i<n→i≠k→f i=0)→C6 f n=f k
 | 0,hk,_=>absurd hk (C1R _)
 | n+1,hk,h=>by
  rw[A0U];by_cases e:k=n
  ·subst e;rw[A0o fun i hi=>h i (by omega) (by omega)];grind
  ·rw[A1M (by omega) fun i hi hn=>h i (by omega) hn,h n (by omega) (by omega)];grind
theorem A3A(f:Nat→Nat→Rat)(m:Nat):∀n,C6 (fun i=>C6 (f i) m) n=C6 (fun j=>C6 (fun i=>f i j) n) m
 | 0=>(A0o fun i _=>rfl).symm
 | n+1=>by
  rw[A0U,A3A f m n,←A0q];rfl
theorem A4F{f:Nat→Rat}:∀ {n:Nat},(∀i,i<n→0≤f i)→0≤C6 f n
 | 0,_=>by show(0:Rat)≤0;grind
 | n+1,h=>by
  rw[A0U];have h1:=A4F (n:=n) fun i hi=>h i (by omega);have h2:=h n (by omega);grind
theorem A9D{f:Nat→Rat}:∀ {n:Nat},(∀i,i<n→0≤f i)→C6 f n≤0→∀i,i<n→f i=0
 | 0,_,_,i,hi=>absurd hi (C1R _)
 | n+1,h,e,i,hi=>by
  rw[A0U]at e;have h1:=A4F (n:=n) fun i hi=>h i (by omega);have h2:=h n (by omega);by_cases hn:i=n
  ·subst hn;grind
  ·exact A9D (n:=n) (fun i hi=>h i (by omega)) (by grind) i (by omega)
theorem A8R(a:Rat):0≤a*a:=by
 rcases (C0o:0≤a∨a≤0)with h|h
 ·exact C1U h h
 ·have:=C1U (a:=-a) (b:=-a) (by grind) (by grind);grind
theorem B6X{a:Rat}(h:a*a=0):a=0:=by
 rcases Rat.mul_eq_zero.1 h with h|h<;>exact h
def C7(r v:Nat→Rat)(L:Nat):Rat:=C6 (fun j=>r j*v j) L
def ker(M:Mx)(n L:Nat)(v:Nat→Rat):Prop:=∀i,i<n→C7 (M i) v L=0
theorem A8s{r s v:Nat→Rat}{L:Nat}(h:∀j,j<L→r j=s j):C7 r v L=C7 s v L:=G4 fun j hj=>by rw[h j hj]
theorem B5A{M:Mx}{n L a b:Nat}{v:Nat→Rat}(ha:a<n)(hb:b<n):ker (M6 M a b) n L v↔ker M n L v:=by
 constructor
 ·intro h i hi;by_cases ea:i=a
  ·have h1:=h b hb;unfold M6 at h1;by_cases e:b=a
   ·rw[if_pos e]at h1;rw[ea,←e];exact h1
   ·rw[if_neg e,if_pos rfl]at h1;rw[ea];exact h1
  ·by_cases eb:i=b
   ·have h1:=h a ha;unfold M6 at h1;rw[if_pos rfl]at h1;rw[eb];exact h1
   ·have h1:=h i hi;unfold M6 at h1;rw[if_neg ea,if_neg eb]at h1;exact h1
 ·intro h i hi;unfold M6;split
  ·exact h b hb
  ·split
   ·exact h a ha
   ·exact h i hi
theorem A8w{M:Mx}{t L:Nat}{k:Rat}{v:Nat→Rat}:C7 (N6 M t k L t) v L=k*C7 (M t) v L:=by
 unfold C7;rw[←R5];refine G4 fun j hj=>?_;unfold N6 D8;rw[if_pos ⟨rfl,hj⟩];grind
theorem A5h{M:Mx}{t L i:Nat}{k:Rat}(h:i≠t):N6 M t k L i=M i:=by
 funext j;unfold N6;rw[if_neg fun e=>h e.1]
theorem B4Z{M:Mx}{n L t:Nat}{k:Rat}{v:Nat→Rat}(hk:k≠0)(ht:t<n):ker (N6 M t k L) n L v↔ker M n L v:=by
 constructor
 ·intro h i hi;by_cases e:i=t
  ·have h1:=h t ht;rw[A8w]at h1;rw[e];rcases Rat.mul_eq_zero.1 h1 with h2|h2
   ·exact absurd h2 hk
   ·exact h2
  ·have h1:=h i hi;rw[A5h e]at h1;exact h1
 ·intro h i hi;by_cases e:i=t
  ·rw[e,A8w,h t ht];grind
  ·rw[A5h e];exact h i hi
theorem B2R{M:Mx}{i t L:Nat}{k:Rat}{v:Nat→Rat}:C7 (J4 M i t k L i) v L=C7 (M i) v L-k*C7 (M t) v L:=by
 unfold C7;rw[←R5,←A2N];refine G4 fun j hj=>?_;unfold J4 F8 D8;rw[if_pos ⟨rfl,hj⟩];grind
theorem A3s{M:Mx}{i t L i':Nat}{k:Rat}(h:i'≠i):J4 M i t k L i'=M i':=by
 funext j;unfold J4;rw[if_neg fun e=>h e.1]
theorem B6Y{M:Mx}{n L i t:Nat}{k:Rat}{v:Nat→Rat}(hi:i<n)(ht:t<n)(hne:i≠t):ker (J4 M i t k L) n L v↔ker M n L v:=by
 have key:∀h:C7 (M t) v L=0,C7 (J4 M i t k L i) v L=C7 (M i) v L:=fun h=>by rw[B2R,h];grind
 constructor
 ·intro h j hj;have h0:=h t ht;rw[A3s (fun e=>hne e.symm)]at h0;by_cases e:j=i
  ·rw[e,←key h0];exact h i hi
  ·have h1:=h j hj;rw[A3s e]at h1;exact h1
 ·intro h j hj;by_cases e:j=i
  ·rw[e,key (h t ht)];exact h i hi
  ·rw[A3s e];exact h j hj
theorem A7m{M:Mx}{n L t c:Nat}{v:Nat→Rat}(ht:t<n):∀m,m≤n→(ker (K3 M t c L m) n L v↔ker M n L v)
 | 0,_=>Iff.rfl
 | m+1,hm=>by
  have ih:=A7m (M:=M) (L:=L) (c:=c) (v:=v) ht m (by omega);unfold K3;by_cases e:m=t
  ·rw[if_pos e];exact ih
  ·rw[if_neg e];exact(B6Y (by omega) ht e).trans ih
theorem B1e{a:Rat}(h:a≠0):I8 (C1 1) a≠0:=fun e=>by
 have h1:(1:Rat)/a*a=1:=C1V h;have h2:(1:Rat)/a=0:=e;rw[h2]at h1;grind
theorem A93{M:Mx}{a b:Nat}:M6 M a b a=M b:=by
 unfold M6;rw[if_pos rfl]
theorem B2S{n L col:Nat}{s:Gs}{v:Nat→Rat}:ker (O4 n L s col).1 n L v↔ker s.1 n L v:=by
 unfold O4;split
 ·rename_i hp;have h1:=(A1j s.1 n s.2.length col).1 hp;have ht:s.2.length<n:=by
   have:L7 s.1 n s.2.length col<n:=hp;omega
  refine(A7m ht n (B9G _)).trans ?_;unfold A0s;refine(B4Z (B1e ?_) ht).trans (B5A ht hp);rw[A93];exact h1.2
 ·exact Iff.rfl
theorem A32{n L:Nat}{s:Gs}{v:Nat→Rat}:∀c,(ker (C9 n L s c).1 n L v↔ker s.1 n L v)
 | 0=>Iff.rfl
 | c+1=>(B2S (s:=C9 n L s c)).trans (A32 c)
def Ech(n:Nat)(s:Gs):Prop:=s.2.length≤n∧∀k,k<s.2.length→∀i,i<n→s.1 i (nx s.2 k)=if i=k then 1 else 0
theorem B7r{l:List Nat}{c k:Nat}(h:k<l.length):nx (l++[c]) k=nx l k:=by
 unfold nx;rw[C08 h]
theorem B15(l:List Nat)(c:Nat):nx (l++[c]) l.length=c:=by
 unfold nx;rw[C09 (B9G _),B9u];rfl
theorem A3t{M:Mx}{t c L:Nat}(hc:c<L)(h1:M t c=1):∀m i,i<m→i≠t→∀j,j<L→K3 M t c L m i j=M i j-M i c*M t j
 | 0,i,hi,_,_,_=>absurd hi (C1R _)
 | m+1,i,hi,hn,j,hj=>by
  unfold K3;by_cases e:m=t
  ·rw[if_pos e];exact A3t hc h1 m i (by omega) hn j hj
  ·rw[if_neg e];by_cases e2:i=m
   ·subst e2;unfold J4 F8 D8;rw[if_pos ⟨rfl,hj⟩,A5L i i (B9G _),A2n]
   ·rw[A3s e2];exact A3t hc h1 m i (by omega) hn j hj
theorem B9A{n L col:Nat}{s:Gs}(h:Ech n s)(hs:∀x∈s.2,x<col)(hc:col<L):Ech n (O4 n L s col):=by
 unfold O4;split
 ·rename_i hp;obtain⟨h0,hne⟩:=(A1j s.1 n s.2.length col).1 hp;have ht:s.2.length<n:=by
   have:L7 s.1 n s.2.length col<n:=hp;omega
  have hs0:s.2.length≤A0B n s col:=h0;have hpn:A0B n s col<n:=hp;have hne':s.1 (A0B n s col) col≠0:=hne;obtain⟨p,hpe⟩:∃p,p=A0B n s col:=⟨_,rfl⟩
  obtain⟨t,hte⟩:∃t,t=s.2.length:=⟨_,rfl⟩
  rw[←hpe]at hs0 hpn hne';rw[←hte]at ht hs0;have hgt:∀j,j<L→A0s n L s col t j=s.1 p j*(1/s.1 p col):=fun j hj=>by
   unfold A0s N6;rw[←hte,←hpe,if_pos ⟨rfl,hj⟩,A93];rfl
  have hgo:∀i,i≠t→A0s n L s col i=M6 s.1 t p i:=fun i hi=>by
   unfold A0s;rw[←hte,←hpe];exact A5h hi
  have g1:A0s n L s col t col=1:=by
   rw[hgt col hc];have:=C1V (a:=1) hne';grind
  refine⟨by rw[List.length_append,List.length_singleton,←hte];omega,fun k hk i hi=>?_⟩;rw[List.length_append,List.length_singleton,←hte]at hk;show K3 (A0s n L s col) s.2.length col L n i (nx (s.2++[col]) k)=_;rw[←hte];by_cases ek:k=t
  ·have e1:nx (s.2++[col]) k=col:=by rw[ek,hte];exact B15 _ _
   rw[e1];by_cases ei:i=t
   ·rw[ei,A2n,g1,if_pos ek.symm]
   ·rw[A3t hc g1 n i hi ei col hc,g1,if_neg (by omega)];grind
  ·have hkt:k<t:=by omega
   have e1:nx (s.2++[col]) k=nx s.2 k:=B7r (by omega);have hl:nx s.2 k<L:=by
    have:=hs _ (P4 (l:=s.2) (i:=k) (by omega));omega
   rw[e1];have hrow:=fun i hi=>h.2 k (by omega) i hi;have gt0:A0s n L s col t (nx s.2 k)=0:=by
    rw[hgt _ hl,hrow p hpn,if_neg (by omega)];grind
   by_cases ei:i=t
   ·rw[ei,A2n,gt0,if_neg (by omega)]
   ·rw[A3t hc g1 n i hi ei _ hl,gt0,hgo i ei];unfold M6;rw[if_neg ei];by_cases ep:i=p
    ·rw[if_pos ep,hrow t ht,if_neg (by omega),if_neg (by omega)];grind
    ·rw[if_neg ep,hrow i hi];grind
 ·exact h
theorem A43{n L:Nat}(M:Mx):∀c,c≤L→Ech n (C9 n L (M,[]) c)
 | 0,_=>⟨B9y _,fun k hk=>absurd hk (C1R _)⟩
 | c+1,hc=>B9A (s:=C9 n L (M,[]) c) (A43 M c (by omega)) (A8K n L M c).2 (by omega)
theorem B1J:∀ {l:List Nat} {m:Nat},l.Pairwise (· < ·)→(∀x∈l,x<m)→l.length=m→l=List.range m:=by
 intro l m
 induction m generalizing l with
 | zero=>intro _ _ h;rw[List.length_eq_zero_iff.1 h];rfl
 | succ m ih =>
  intro h1 h2 h3;have hne:l≠[]:=fun e=>by rw[e]at h3;cases h3
  have hd:=List.dropLast_concat_getLast hne;rw[←hd]at h1 h2 h3⊢;obtain⟨p1,-,p3⟩:=List.pairwise_append.1 h1;have hlast:l.getLast hne<m+1:=h2 _ (by simp);have hlen:l.dropLast.length=m:=by simpa using h3
  have:=ih p1 (fun x hx=>by have:=p3 x hx (l.getLast hne) (by simp);omega) hlen;rw[C0X,this];congr 1;have hle:m≤l.getLast hne:=by
   rcases B9H (l.getLast hne) m with h|h
   ·have:l.getLast hne∈l.dropLast:=by rw[this];exact List.mem_range.2 h
    have:=p3 _ this (l.getLast hne) (by simp);omega
   ·exact h
  congr 1;omega
theorem A4O{m k:Nat}(h:k<m):nx (List.range m) k=k:=by
 unfold nx;rw[C1N h];rfl
theorem B8b{n L:Nat}{M:Mx}(h:(C9 n L (M,[]) L).2.length=L){v:Nat→Rat}(hv:ker M n L v):∀j,j<L→v j=0:=fun j hj=>by
 obtain⟨s1,s2⟩:=A8K n L M L;have hr:=B1J s1 s2 h;obtain⟨e1,e2⟩:=A43 (n:=n) (L:=L) M L (B9G _);have hk:=(A32 (s:=(M,[])) L).2 hv;have h3:=hk j (by omega);unfold C7 at h3
 rw[A1M hj fun i hi hne=>by
  have:=e2 i (by omega) j (by omega);rw[hr,A4O hi,if_neg (fun e=>hne e.symm)]at this
  rw[this];grind]at h3
 have h4:=e2 j (by omega) j (by omega);rw[hr,A4O hj,if_pos rfl]at h4;rw[h4]at h3;grind
theorem A6r{n L m:Nat}{M:Mx}(hm:m≤L)(h:∀v,(∀j,m≤j→v j=0)→ker M n L v→∀j,j<m→v j=0):∀c,c≤m→(C9 n L (M,[]) c).2=List.range c
 | 0,_=>rfl
 | c+1,hc=>by
  have ih:=A6r hm h c (by omega);obtain⟨e1,e2⟩:=A43 (n:=n) (L:=L) M c (by omega);show(O4 n L (C9 n L (M,[]) c) c).2=_;unfold O4;by_cases hp:A0B n (C9 n L (M,[]) c) c<n
  ·rw[if_pos hp,C0X,ih]
  ·exfalso;obtain⟨s,hs⟩:∃s,s=C9 n L (M,[]) c:=⟨_,rfl⟩
   rw[←hs]at ih e1 e2 hp;have hlen:s.2.length=c:=by rw[ih];simp
   have hz:∀i,c≤i→i<n→s.1 i c=0:=fun i h1 h2=>(A1j s.1 n s.2.length c).2 i (by omega) (by
    have:A0B n s c=L7 s.1 n s.2.length c:=rfl
    omega)
   have hv:ker s.1 n L (fun j=>if j<c then-s.1 j c else if j=c then 1 else 0):=fun i hi=>by
    have hcol:∀j,j<c→s.1 i j=if i=j then 1 else 0:=fun j hj=>by
     have:=e2 j (by omega) i hi;rw[ih,A4O hj]at this;exact this
    have hsplit:C7 (s.1 i) (fun j=>if j<c then-s.1 j c else if j=c then 1 else 0) L=C6 (fun j=>(if j=i then(if i<c then-s.1 i c else 0)else 0)+(if j=c then s.1 i c else 0)) L:=G4 fun j hj=>by
     simp only;by_cases h1:j<c
     ·rw[if_pos h1,hcol j h1,if_neg (show ¬j=c by omega)];by_cases h2:j=i
      ·subst h2;rw[if_pos rfl,if_pos rfl,if_pos h1];grind
      ·rw[if_neg h2,if_neg (fun e=>h2 e.symm)];grind
     ·rw[if_neg h1];by_cases h2:j=c
      ·rw[if_pos h2,if_pos h2,h2];by_cases h3:c=i
       ·rw[if_pos h3,if_neg (by omega)];grind
       ·rw[if_neg h3];grind
      ·rw[if_neg h2,if_neg h2];by_cases h3:j=i
       ·rw[if_pos h3,if_neg (by omega)];grind
       ·rw[if_neg h3];grind
    rw[hsplit,A0q];have hB:C6 (fun j=>if j=c then s.1 i c else 0) L=s.1 i c:=by
     rw[A1M (k:=c) (by omega) fun j hj hne=>if_neg hne,if_pos rfl]
    rw[hB];by_cases h1:i<c
    ·rw[A1M (k:=i) (by omega) fun j hj hne=>if_neg hne,if_pos rfl,if_pos h1];grind
    ·rw[hz i (by omega) hi,A0o fun j hj=>by split<;>first|rfl|exact if_neg h1];grind
   rw[hs]at hv;have h9:=h _ (fun j hj=>by rw[if_neg (by omega),if_neg (by omega)]) ((A32 (s:=(M,[])) c).1 hv) c (by omega);rw[if_neg (Nat.lt_irrefl c),if_pos rfl]at h9;exact absurd h9 (by decide)
def frm(G:Mx)(n:Nat)(x y:Nat→Rat):Rat:=C6 (fun i=>x i*C7 (G i) y n) n
def lin(c x:Nat→Rat)(n:Nat):Rat:=C6 (fun i=>c i*x i) n
def G3(a:Rat):Rat:=if 0≤a then a else -a
def obj(G:Mx)(n:Nat)(p:Nat→Rat)(a:Rat)(x:Nat→Rat):Rat:=frm G n x x-2*lin p x n+2*a*C6 (fun i=>G3 (x i)) n
def O0(G:Mx)(n:Nat)(p:Nat→Rat)(a:Rat)(s:Nat→Int)(x:Nat→Rat):Rat:=frm G n x x-2*lin p x n+2*a*lin (fun i=>(s i:Rat)) x n
theorem A3x(r x d:Nat→Rat)(t:Rat)(n:Nat):C7 r (fun i=>x i+t*d i) n=C7 r x n+t*C7 r d n:=by
 unfold C7;rw[←R5,←A0q];exact G4 fun i _=>by grind
theorem A6d(c x d:Nat→Rat)(t:Rat)(n:Nat):lin c (fun i=>x i+t*d i) n=lin c x n+t*lin c d n:=by
 unfold lin;rw[←R5,←A0q];exact G4 fun i _=>by grind
section
variable {G:Mx} {n:Nat}
theorem B2D(hG:∀i,i<n→∀j,j<n→G i j=G j i)(x y:Nat→Rat):frm G n x y=frm G n y x:=by
 have e1:frm G n x y=C6 (fun i=>C6 (fun j=>x i*G i j*y j) n) n:=G4 fun i _=>by
  show x i*C6 _ n=_;rw[←R5];exact G4 fun j _=>by grind
 have e2:frm G n y x=C6 (fun i=>C6 (fun j=>x j*G j i*y i) n) n:=G4 fun i hi=>by
  show y i*C6 _ n=_;rw[←R5];exact G4 fun j hj=>by rw[hG j hj i hi];grind
 rw[e1,e2,A3A]
theorem A9B(hG:∀i,i<n→∀j,j<n→G i j=G j i)(x d:Nat→Rat)(t:Rat):frm G n (fun i=>x i+t*d i) (fun i=>x i+t*d i)=frm G n x x+2*t*frm G n d x+t*t*frm G n d d:=by
 have e:frm G n (fun i=>x i+t*d i) (fun i=>x i+t*d i)=C6 (fun i=>(x i*C7 (G i) x n+t*(x i*C7 (G i) d n))+(t*(d i*C7 (G i) x n)+t*t*(d i*C7 (G i) d n))) n:=G4 fun i _=>by
  show(x i+t*d i)*C7 (G i) (fun i=>x i+t*d i) n=_;rw[A3x];grind
 rw[e,A0q,A0q,A0q,R5,R5,R5];have h:=B2D hG x d;unfold frm at h⊢;rw[h];grind
theorem A9P(hG:∀i,i<n→∀j,j<n→G i j=G j i)(p:Nat→Rat)(a:Rat)(s:Nat→Int)(x d:Nat→Rat)(t:Rat) :
  O0 G n p a s (fun i=>x i+t*d i)=O0 G n p a s x+2*t*C6 (fun i=>d i*(C7 (G i) x n-p i+a*(s i:Rat))) n+t*t*frm G n d d:=by
 unfold O0;rw[A9B hG,A6d,A6d];have e:C6 (fun i=>d i*(C7 (G i) x n-p i+a*(s i:Rat))) n=frm G n d x-lin p d n+a*lin (fun i=>(s i:Rat)) d n:=by
  unfold frm lin;rw[←R5,←A2N,←A0q];exact G4 fun i _=>by grind
 rw[e];grind
structure SolW(G:Mx)(n:Nat)(p:Nat→Rat)(a:Rat)(s:Nat→Int)(w:Nat→Rat):Prop where
 on:∀i,i<n→s i≠0→C7 (G i) w n=p i-a*(s i:Rat)
 off:∀i,i<n→s i=0→w i=0
def A0G(n:Nat)(s:Nat→Int)(x:Nat→Rat):Prop:=∀i,i<n→0≤(s i:Rat)*x i∧(s i=0→x i=0)
def Sgn(n:Nat)(s:Nat→Int):Prop:=∀i,i<n→s i = -1∨s i=0∨s i=1
theorem B6o{s:Nat→Int}{x:Nat→Rat}(hs:Sgn n s)(h:A0G n s x):∀i,i<n→G3 (x i)=(s i:Rat)*x i:=fun i hi=>by
 obtain⟨h1,h2⟩:=h i hi;unfold G3;rcases hs i hi with e|e|e
 ·rw[e]at h1⊢;have e1:((-1:Int):Rat) = -1:=rfl;rw[e1]at h1⊢;split<;>grind
 ·rw[h2 e,e,if_pos (by grind)];grind
 ·rw[e]at h1⊢;have e1:((1:Int):Rat)=1:=rfl;rw[e1]at h1⊢;split<;>grind
theorem A1e{p:Nat→Rat}{a:Rat}{s:Nat→Int}{x:Nat→Rat}(hs:Sgn n s)(h:A0G n s x):obj G n p a x=O0 G n p a s x:=by
 unfold obj O0 lin;rw[G4 (B6o hs h)]
theorem A28{p:Nat→Rat}{a:Rat}{s:Nat→Int}{x y:Nat→Rat}(h:∀i,i<n→x i=y i):O0 G n p a s x=O0 G n p a s y:=by
 unfold O0 frm lin C7;rw[G4 (fun i hi=>by rw[h i hi,G4 (fun j hj=>by rw[h j hj])]:∀i,i<n→x i*C6 (fun j=>G i j*x j) n=y i*C6 (fun j=>G i j*y j) n),G4 (fun i hi=>by rw[h i hi]:∀i,i<n→p i*x i=p i*y i),G4 (fun i hi=>by rw[h i hi]:∀i,i<n→(s i:Rat)*x i=(s i:Rat)*y i)]
theorem A9p(hG:∀i,i<n→∀j,j<n→G i j=G j i)(hP:∀x,0≤frm G n x x){p:Nat→Rat}{a:Rat}{s:Nat→Int}{w x:Nat→Rat}(hw:SolW G n p a s w)(hx:∀i,i<n→s i=0→x i=0)(r:Rat)(h0:0≤r)(h1:r≤1) :
  O0 G n p a s (fun i=>x i+r*(w i-x i))≤O0 G n p a s x:=by
 have key:∀t,O0 G n p a s (fun i=>w i+t*(x i-w i))=O0 G n p a s w+t*t*frm G n (fun i=>x i-w i) (fun i=>x i-w i):=fun t=>by
  rw[A9P hG,A0o fun i hi=>?_]
  ·grind
  ·by_cases e:s i=0
   ·rw[hw.off i hi e,hx i hi e];grind
   ·rw[hw.on i hi e];grind
 have e1:O0 G n p a s x=O0 G n p a s (fun i=>w i+1*(x i-w i)):=A28 fun i _=>by grind
 have e2:O0 G n p a s (fun i=>x i+r*(w i-x i))=O0 G n p a s (fun i=>w i+(1-r)*(x i-w i)):=A28 fun i _=>by grind
 rw[e2,e1,key,key];have h2:=hP fun i=>x i-w i;have h3:0≤r*(2-r):=C1U h0 (by grind);have h4:=C1U h3 h2;grind
theorem A5w(P:Nat→Prop)(f:Nat→Rat):∀m,(∃i,i<m∧P i)→∃j,j<m∧P j∧∀i,i<m→P i→f j≤f i
 | 0,h=>by obtain⟨i,hi,-⟩:=h;exact absurd hi (C1R _)
 | m+1,h=>by
  by_cases h1:∃i,i<m∧P i
  ·obtain⟨j,hj,hp,hm⟩:=A5w P f m h1;by_cases h2:P m∧f m<f j
   ·exact⟨m,C1W _,h2.1,fun i hi hpi=>by
     by_cases e:i=m
     ·rw[e];exact C1S
     ·have:=hm i (by omega) hpi;have:=h2.2
      grind⟩
   ·exact⟨j,by omega,hp,fun i hi hpi=>by
     by_cases e:i=m
     ·subst e;have:¬f i<f j:=fun h=>h2 ⟨hpi,h⟩;grind
     ·exact hm i (by omega) hpi⟩
  ·obtain⟨i,hi,hp⟩:=h;have e:i=m:=by
    rcases B9H i m with h|h
    ·exact absurd ⟨i,h,hp⟩ h1
    ·omega
   subst e
   exact⟨i,C1W _,hp,fun k hk hpk=>by
    by_cases e:k=i
    ·rw[e];exact C1S
    ·exact absurd ⟨k,by omega,hpk⟩ h1⟩
theorem A9r{a b:Rat}(h:0≤a)(hb:0<b):0≤a/b:=by
 rcases (C0o:0≤a/b∨a/b≤0)with h1|h1
 ·exact h1
 ·have e:a/b*b=a:=C1V (fun e=>by grind);have:=C1U (a:=-(a/b)) (b:=b) (by grind) (Rat.le_of_lt hb);have h2:a=0:=by grind
  rw[h2,Rat.div_def,Rat.zero_mul];exact C1S
def A1t(s:Nat→Int):Nat→Nat
 | 0=>0
 | n+1=>A1t s n+if s n≠0 then 1 else 0
def A2F(s:Nat→Int)(j:Nat):Nat→Int:=fun i=>if i=j then 0 else s i
theorem B0K(s:Nat→Int)(j:Nat):∀n,A1t (A2F s j) n+(if j<n∧s j≠0 then 1 else 0)=A1t s n
 | 0=>by simp[A1t]
 | n+1=>by
  have ih:=B0K s j n;unfold A1t A2F;unfold A2F at ih;by_cases e:n=j
  ·subst e;rw[if_neg (by omega)]at ih;by_cases h:s n≠0
   ·simp[h];omega
   ·simp[h];omega
  ·rw[if_neg e];by_cases h1:j<n∧s j≠0
   ·rw[if_pos h1]at ih;rw[if_pos (c:=j<n+1∧s j≠0) ⟨by omega,h1.2⟩];omega
   ·rw[if_neg h1]at ih;rw[if_neg (c:=j<n+1∧s j≠0) fun h2=>h1 ⟨by omega,h2.2⟩];omega
theorem B7X(hG:∀i,i<n→∀j,j<n→G i j=G j i)(hP:∀x,0≤frm G n x x){p:Nat→Rat}{a:Rat}(hW:∀s,Sgn n s→∃w,SolW G n p a s w) :
  ∀m s u,Sgn n s→A0G n s u→A1t s n≤m→∃s' w,Sgn n s'∧SolW G n p a s' w∧A0G n s' w∧obj G n p a w≤obj G n p a u:=by
 intro m
 induction m using Nat.strongRecOn with
 | _ m ih =>
  intro s u hs hu hm;obtain⟨w,hw⟩:=hW s hs;by_cases hc:∃i,i<n∧(s i:Rat)*w i<0
  ·obtain⟨j,hj,hjn,hmin⟩:=A5w (fun i=>(s i:Rat)*w i<0) (fun i=>(s i:Rat)*u i/((s i:Rat)*u i-(s i:Rat)*w i)) n hc;have hpos:∀i,i<n→(s i:Rat)*w i<0→0<(s i:Rat)*u i-(s i:Rat)*w i:=fun i hi h=>by
    have:=(hu i hi).1;grind
   obtain⟨r,hr⟩:∃r,r=(s j:Rat)*u j/((s j:Rat)*u j-(s j:Rat)*w j):=⟨_,rfl⟩
   have hrm:r*((s j:Rat)*u j-(s j:Rat)*w j)=(s j:Rat)*u j:=by
    rw[hr];exact C1V (fun e=>by have:=hpos j hj hjn;grind)
   have h0:0≤r:=by
    rw[hr];exact A9r (hu j hj).1 (hpos j hj hjn)
   have h1:r≤1:=by
    have hd:=hpos j hj hjn;rcases (C0o:r≤1∨1≤r)with h|h
    ·exact h
    ·have:=C1U (a:=r-1) (b:=(s j:Rat)*u j-(s j:Rat)*w j) (by grind) (Rat.le_of_lt hd);grind
   have hsj:s j≠0:=fun e=>by rw[e]at hjn;simp at hjn
   have hcone:A0G n s (fun i=>u i+r*(w i-u i)):=fun i hi=>by
    refine⟨?_,fun e=>by show u i+r*(w i-u i)=0;rw[hw.off i hi e,(hu i hi).2 e];grind⟩;have hui:=(hu i hi).1;by_cases hn:(s i:Rat)*w i<0
    ·have h2:r≤(s i:Rat)*u i/((s i:Rat)*u i-(s i:Rat)*w i):=by rw[hr];exact hmin i hi hn
     have hd:=hpos i hi hn;have h3:=C1U (a:=(s i:Rat)*u i/((s i:Rat)*u i-(s i:Rat)*w i)-r) (b:=(s i:Rat)*u i-(s i:Rat)*w i) (by grind) (Rat.le_of_lt hd);have h4:(s i:Rat)*u i/((s i:Rat)*u i-(s i:Rat)*w i)*((s i:Rat)*u i-(s i:Rat)*w i)=(s i:Rat)*u i:=C1V (fun e=>by grind);grind
    ·have h2:=C1U (a:=1-r) (b:=(s i:Rat)*u i) (by grind) hui;have h3:=C1U (a:=r) (b:=(s i:Rat)*w i) h0 (by grind);grind
   have hj0:u j+r*(w j-u j)=0:=by
    have e:(s j:Rat)*(u j+r*(w j-u j))=0:=by grind
    rcases Rat.mul_eq_zero.1 e with e|e
    ·exact absurd (by exact_mod_cast e) hsj
    ·exact e
   have hud:=B0K s j n;rw[if_pos ⟨hj,hsj⟩]at hud
   obtain⟨s',w',g1,g2,g3,g4⟩:=ih (A1t (A2F s j) n) (by omega) (A2F s j) (fun i=>u i+r*(w i-u i)) (fun i hi=>by
     unfold A2F;split
     ·exact .inr (.inl rfl)
     ·exact hs i hi) (fun i hi=>by
     unfold A2F;by_cases e:i=j
     ·subst e;rw[if_pos rfl];exact⟨by show 0≤((0:Int):Rat)*(u i+r*(w i-u i));rw[hj0];grind,fun _=>hj0⟩
     ·rw[if_neg e];exact hcone i hi) (B9G _)
   refine⟨s',w',g1,g2,g3,C1T g4 ?_⟩;rw[A1e hs hcone,A1e hs hu];exact A9p hG hP hw (fun i hi e=>(hu i hi).2 e) r h0 h1
  ·have hcone:A0G n s w:=fun i hi=>⟨by
    have:¬(s i:Rat)*w i<0:=fun h=>hc ⟨i,hi,h⟩
    grind,hw.off i hi⟩
   refine⟨s,w,hs,hw,hcone,?_⟩;rw[A1e hs hcone,A1e hs hu];have h:=A9p hG hP hw (x:=u) (fun i hi e=>(hu i hi).2 e) 1 (by decide) (by decide);have e1:O0 G n p a s (fun i=>u i+1*(w i-u i))=O0 G n p a s w:=A28 fun i _=>by grind
   rw[e1]at h;exact h
def Kkt(G:Mx)(n:Nat)(p:Nat→Rat)(a:Rat)(w:Nat→Rat):Prop:=∀i,i<n→A2u (p i-C7 (G i) w n) (w i) a=true
def A5Z(G:Mx)(n:Nat)(p:Nat→Rat)(a:Rat)(s:Nat→Int)(w:Nat→Rat):Prop:=∀i,i<n→if s i≠0 then 0≤(s i:Rat)*w i else G3 (p i-C7 (G i) w n)≤a
theorem A96{p:Nat→Rat}{a:Rat}{s:Nat→Int}{x:Nat→Rat}:obj G n p a x=O0 G n p a s x+2*a*(C6 (fun i=>G3 (x i)) n-lin (fun i=>(s i:Rat)) x n):=by
 unfold obj O0;grind
theorem B3I{q a:Rat}(h:a<G3 q):∃c:Int,(c = -1∨c=1)∧(c:Rat)*q=G3 q∧(c:Rat)*(c:Rat)=1:=by
 unfold G3 at h⊢;by_cases h0:0≤q
 ·rw[if_pos h0];exact⟨1,.inr rfl,by have:((1:Int):Rat)=1:=rfl;grind,by have:((1:Int):Rat)=1:=rfl;grind⟩
 ·rw[if_neg h0];exact⟨-1,.inl rfl,by have:((-1:Int):Rat) = -1:=rfl;grind,by have:((-1:Int):Rat) = -1:=rfl;grind⟩
theorem B2y(hG:∀i,i<n→∀j,j<n→G i j=G j i)(hD:∀x,frm G n x x≤0→∀j,j<n→x j=0){p:Nat→Rat}{a:Rat}{s:Nat→Int}{w:Nat→Rat}(hs:Sgn n s)(hc:A0G n s w){i:Nat}(hi:i<n)(h0:s i=0)(hq:a<G3 (p i-C7 (G i) w n)) :
  ∃s' u,Sgn n s'∧A0G n s' u∧obj G n p a u<obj G n p a w:=by
 obtain⟨c,hc1,hcq,hcc⟩:=B3I hq
 obtain⟨d,hd⟩:∃d:Nat→Rat,d=fun j=>if j=i then(c:Rat)else 0:=⟨_,rfl⟩
 have hdi:d i=(c:Rat):=by rw[hd];exact if_pos rfl
 have hdo:∀j,j≠i→d j=0:=fun j hj=>by rw[hd];exact if_neg hj
 obtain⟨s',hs'⟩:∃s':Nat→Int,s'=fun j=>if j=i then c else s j:=⟨_,rfl⟩
 have hsi:s' i=c:=by rw[hs'];exact if_pos rfl
 have hso:∀j,j≠i→s' j=s j:=fun j hj=>by rw[hs'];exact if_neg hj
 have hS:Sgn n s':=fun j hj=>by
  by_cases e:j=i
  ·rw[e,hsi];rcases hc1 with h|h
   ·exact .inl h
   ·exact .inr (.inr h)
  ·rw[hso j e];exact hs j hj
 obtain⟨D,hDe⟩:∃D,D=frm G n d d:=⟨_,rfl⟩
 have hDp:0<D:=by
  rcases (C0o:D≤0∨0≤D)with h|h
  ·have:=hD d (hDe ▸ h) i hi;rw[hdi]at this;rw[this]at hcc;exact absurd hcc (by grind)
  ·rcases Rat.le_iff_lt_or_eq.1 h with h|h
   ·exact h
   ·have:=hD d (by rw[←hDe,←h];exact C1S) i hi;rw[hdi]at this;rw[this]at hcc;exact absurd hcc (by grind)
 obtain⟨δ,hδ⟩:∃δ,δ=G3 (p i-C7 (G i) w n)-a:=⟨_,rfl⟩
 have hδp:0<δ:=by grind
 obtain⟨t,ht⟩:∃t,t=δ/D:=⟨_,rfl⟩
 have htD:t*D=δ:=by rw[ht];exact C1V (fun e=>by grind)
 have ht0:0≤t:=by rw[ht];exact A9r (Rat.le_of_lt hδp) hDp
 have htp:0<t:=by
  rcases Rat.le_iff_lt_or_eq.1 ht0 with h|h
  ·exact h
  ·rw[←h]at htD;grind
 have hwi:=(hc i hi).2 h0;have hcone:A0G n s' w:=fun j hj=>by
  by_cases e:j=i
  ·rw[e,hwi];exact⟨by grind,fun _=>rfl⟩
  ·rw[hso j e];exact hc j hj
 have hcu:A0G n s' (fun j=>w j+t*d j):=fun j hj=>by
  show 0≤(s' j:Rat)*(w j+t*d j)∧(s' j=0→w j+t*d j=0);by_cases e:j=i
  ·rw[e,hwi,hdi,hsi];refine⟨by rw[show(c:Rat)*(0+t*(c:Rat))=t*((c:Rat)*(c:Rat))by grind,hcc];grind,fun h=>?_⟩;rw[h];have:((0:Int):Rat)=0:=rfl;grind
  ·rw[hdo j e,hso j e];have h1:=hc j hj;refine⟨by grind,fun h=>?_⟩;have:=h1.2 h;grind
 refine⟨s',_,hS,hcu,?_⟩;rw[A1e hS hcu,A1e hS hcone,A9P hG,A1M hi fun j hj hne=>by rw[hdo j hne];grind,hdi,hsi,←hDe];have e1:(c:Rat)*(C7 (G i) w n-p i+a*(c:Rat)) = - δ:=by grind
 have e2:t*t*D=t*δ:=by grind
 rw[e1,e2];have h1:=Rat.mul_pos htp hδp;grind
theorem B1O(hG:∀i,i<n→∀j,j<n→G i j=G j i)(hP:∀x,0≤frm G n x x)(hD:∀x,frm G n x x≤0→∀j,j<n→x j=0){p:Nat→Rat}{a:Rat}(K:Nat)(S:Nat→Nat→Int)(W:Nat→Nat→Rat)(hS:∀k,k<K→Sgn n (S k))(hW:∀k,k<K→SolW G n p a (S k) (W k))(hU:∀s,Sgn n s→∃k,k<K∧∀i,i<n→S k i=s i) :
  ∃k,k<K∧A5Z G n p a (S k) (W k):=by
 have hU':∀s,Sgn n s→∃w,SolW G n p a s w:=fun s hs=>by
  obtain⟨k,hk,he⟩:=hU s hs;exact⟨W k,fun i hi h=>by rw[←he i hi]at h⊢;exact(hW k hk).on i hi h,fun i hi h=>by rw[←he i hi]at h;exact(hW k hk).off i hi h⟩
 have uniq:∀s w w',SolW G n p a s w→SolW G n p a s w'→∀i,i<n→w i=w' i:=fun s w w' h h' i hi=>by
  have e:=hD (fun i=>w i+(-1)*w' i) (by
   unfold frm;rw[A0o fun j hj=>?_]
   ·exact C1S
   ·rw[A3x];show(w j + -1*w' j)*_=_;by_cases e:s j=0
    ·rw[h.off j hj e,h'.off j hj e];grind
    ·rw[h.on j hj e,h'.on j hj e];grind) i hi
  grind
 obtain⟨k0,hk0,he0⟩:=hU (fun _=>0) (fun i hi=>.inr (.inl rfl))
 obtain⟨k,hk,hc,hmin⟩:=A5w (fun k=>A0G n (S k) (W k)) (fun k=>obj G n p a (W k)) K ⟨k0,hk0,fun i hi=>by
  have e:S k0 i=0:=he0 i hi;have e2:=(hW k0 hk0).off i hi e;rw[e2]
  exact⟨by grind,fun _=>rfl⟩⟩
 refine⟨k,hk,fun i hi=>?_⟩;by_cases hs:S k i≠0
 ·rw[if_pos hs];exact(hc i hi).1
 ·rw[if_neg hs];have hs0:S k i=0:=Decidable.not_not.1 hs;rcases (C0o:G3 (p i-C7 (G i) (W k) n)≤a∨a≤G3 (p i-C7 (G i) (W k) n))with h|h
  ·exact h
  ·rcases Rat.le_iff_lt_or_eq.1 h with h|h
   ·exfalso;obtain⟨s',u,g1,g2,g3⟩:=B2y hG hD (hS k hk) hc hi hs0 h;obtain⟨s2,w2,g4,g5,g6,g7⟩:=B7X hG hP hU' _ s' u g1 g2 (B9G _);obtain⟨k2,hk2,he2⟩:=hU s2 g4;have hw2:SolW G n p a s2 (W k2):=⟨fun i hi h=>by rw[←he2 i hi]at h⊢;exact(hW k2 hk2).on i hi h,fun i hi h=>by rw[←he2 i hi]at h;exact(hW k2 hk2).off i hi h⟩
    have e2:=uniq s2 w2 (W k2) g5 hw2;have c2:A0G n (S k2) (W k2):=fun i hi=>by
     rw[he2 i hi,←e2 i hi];exact g6 i hi
    have o2:obj G n p a (W k2)=obj G n p a w2:=by
     rw[A1e (hS k2 hk2) c2,A1e g4 g6,A28 fun i hi=>(e2 i hi).symm];unfold O0;rw[show lin (fun i=>(S k2 i:Rat)) w2 n=lin (fun i=>(s2 i:Rat)) w2 n from G4 fun i hi=>by simp only;rw[he2 i hi]]
    have h3:=hmin k2 hk2 c2;grind
   ·rw[←h];exact C1S
end
end Go.Proofs.YtgpglgbcobeogaaGreatDoor
