import Derived.Test.YtgpglgbcobeogaaGreatDoorK41
set_option linter.unusedSimpArgs false
set_option linter.unusedVariables false
namespace Go.Proofs.YtgpglgbcobeogaaGreatDoor
open Go Go.RowKit
def A0j(a b:Rat):Rat:=if b<a then b else a
theorem A3f{a b x:Rat}:U9 a b<=x↔a<=x/\b<=x:=by
 unfold U9;split
 ·constructor
  ·intro h;constructor<;>grind
  ·intro h;exact h.2
 ·constructor
  ·intro h;constructor<;>grind
  ·intro h;exact h.1
theorem A6y{a b x:Rat}:x<=A0j a b↔x<=a/\x<=b:=by
 unfold A0j;split
 ·constructor
  ·intro h;constructor<;>grind
  ·intro h;exact h.2
 ·constructor
  ·intro h;constructor<;>grind
  ·intro h;exact h.1
def L8:List Lm->Rat->Rat->Option (Rat×Rat)
 | [],lo,hi=>if lo<=hi then some (lo,hi)else none
 | c::t,lo,hi=>if c.1=0 then(if c.2<0 then none else L8 t lo hi)else if 0<c.1 then L8 t (U9 lo (I3 (K5 c.2) c.1)) hi else L8 t lo (A0j hi (I3 (K5 c.2) c.1))
theorem B0Y{a:Rat}{c:Lm}(h:c.1=0):Y8 a c=true↔¬c.2<0:=by
 unfold Y8 H9 D5;rw[C1u,h,Rat.zero_mul,Rat.zero_add]
theorem A85{a:Rat}{c:Lm}(h:0<c.1):Y8 a c=true↔I3 (K5 c.2) c.1<=a:=by
 unfold Y8 H9 D5 I3 K5;rw[C1u];have e : -c.2/c.1*c.1 = -c.2:=C1j (λe=>by grind);obtain⟨x,hx⟩:∃x,x = -c.2/c.1:=⟨_,rfl⟩
 rw[<-hx]at e⊢;constructor
 ·intro h1;rcases (C01:x<=a\/a<=x)with h2|h2
  ·exact h2
  ·have h3:=C1i (a:=x-a) (b:=c.1) (by grind) (Rat.le_of_lt h);have h4:(x-a)*c.1=0:=by grind
   rcases Rat.mul_eq_zero.1 h4 with h5|h5<;>grind
 ·intro h1;have h3:=C1i (a:=a-x) (b:=c.1) (by grind) (Rat.le_of_lt h);grind
theorem A9I{a:Rat}{c:Lm}(h:c.1<0):Y8 a c=true↔a<=I3 (K5 c.2) c.1:=by
 unfold Y8 H9 D5 I3 K5;rw[C1u];have e : -c.2/c.1*c.1 = -c.2:=C1j (λe=>by grind);obtain⟨x,hx⟩:∃x,x = -c.2/c.1:=⟨_,rfl⟩
 rw[<-hx]at e⊢;constructor
 ·intro h1;rcases (C01:a<=x\/x<=a)with h2|h2
  ·exact h2
  ·have h3:=C1i (a:=a-x) (b:=-c.1) (by grind) (by grind);have h4:(a-x) * -c.1=0:=by grind
   rcases Rat.mul_eq_zero.1 h4 with h5|h5<;>grind
 ·intro h1;have h3:=C1i (a:=x-a) (b:=-c.1) (by grind) (by grind);grind
theorem A4T(a:Rat)(c:Lm)(t:List Lm):H3 a (c::t)=true↔Y8 a c=true/\H3 a t=true:=by
 unfold H3;rw[List.all_cons,Bool.and_eq_true]
theorem A2Q:∀ {l:List Lm} {lo hi lo' hi':Rat},L8 l lo hi=some (lo',hi')->lo<=lo'/\hi'<=hi/\lo'<=hi'/\∀a,(lo'<=a/\a<=hi')↔(lo<=a/\a<=hi/\H3 a l=true)
 | [],lo,hi,lo',hi',h=>by
  unfold L8 at h;split at h
  ·rename_i h1;cases h;exact⟨C1g,C1g,h1,λa=>⟨λh=>⟨h.1,h.2,rfl⟩,λh=>⟨h.1,h.2.1⟩⟩⟩
  ·cases h
 | c::t,lo,hi,lo',hi',h=>by
  unfold L8 at h;by_cases h0:c.1=0
  ·rw[if_pos h0]at h;by_cases h1:c.2<0
   ·rw[if_pos h1]at h;cases h
   ·rw[if_neg h1]at h;obtain⟨g1,g2,g3,g4⟩:=A2Q h;exact⟨g1,g2,g3,λa=>by rw[g4 a,A4T,B0Y h0];exact⟨λh=>⟨h.1,h.2.1,h1,h.2.2⟩,λh=>⟨h.1,h.2.1,h.2.2.2⟩⟩⟩
  ·rw[if_neg h0]at h;by_cases h1:0<c.1
   ·rw[if_pos h1]at h;obtain⟨g1,g2,g3,g4⟩:=A2Q h;obtain⟨k1,k2⟩:=A3f.1 g1
    exact⟨k1,g2,g3,λa=>by
     rw[g4 a,A4T,A85 h1,A3f]
     exact⟨λh=>⟨h.1.1,h.2.1,h.1.2,h.2.2⟩,λh=>⟨⟨h.1,h.2.2.1⟩,h.2.1,h.2.2.2⟩⟩⟩
   ·rw[if_neg h1]at h;have h2:c.1<0:=by grind
    obtain⟨g1,g2,g3,g4⟩:=A2Q h;obtain⟨k1,k2⟩:=A6y.1 g2
    exact⟨g1,k1,g3,λa=>by
     rw[g4 a,A4T,A9I h2,A6y]
     exact⟨λh=>⟨h.1,h.2.1.1,h.2.1.2,h.2.2⟩,λh=>⟨h.1,⟨h.2.1,h.2.2.1⟩,h.2.2.2⟩⟩⟩
theorem A3l:∀ {l:List Lm} {lo hi:Rat},L8 l lo hi=none->∀a,¬(lo<=a/\a<=hi/\H3 a l=true)
 | [],lo,hi,h,a=>by
  unfold L8 at h;split at h
  ·cases h
  ·rintro⟨g1,g2,-⟩;grind
 | c::t,lo,hi,h,a=>by
  unfold L8 at h;rw[A4T];by_cases h0:c.1=0
  ·rw[if_pos h0]at h;rw[B0Y h0];by_cases h1:c.2<0
   ·rintro⟨-,-,h2,-⟩;exact h2 h1
   ·rw[if_neg h1]at h;rintro⟨g1,g2,-,g3⟩;exact A3l h a ⟨g1,g2,g3⟩
  ·rw[if_neg h0]at h;by_cases h1:0<c.1
   ·rw[if_pos h1]at h;rw[A85 h1];rintro⟨g1,g2,g3,g4⟩;exact A3l h a ⟨A3f.2 ⟨g1,g3⟩,g2,g4⟩
   ·rw[if_neg h1]at h;have h2:c.1<0:=by grind
    rw[A9I h2];rintro⟨g1,g2,g3,g4⟩;exact A3l h a ⟨g1,A6y.2 ⟨g2,g3⟩,g4⟩
abbrev Pc:=Nat×Rat×Rat
def A1U(LM:Nat->List Lm)(top:Rat)(k:Nat):List Pc:=match L8 (LM k) 0 top with
 | some (lo,hi)=>[(k,lo,hi)]
 | none=>[]
def Q4(LM:Nat->List Lm)(top:Rat)(K:Nat):List Pc:=(List.range K).flatMap (A1U LM top)
theorem A37(LM:Nat->List Lm)(top:Rat)(K:Nat):Q4 LM top (K+1)=Q4 LM top K++A1U LM top K:=by
 unfold Q4;rw[C0k,C1Y];simp
def H4(LM:Nat->List Lm)(top:Rat)(K:Nat):List Rat:=[0,top]++(Q4 LM top K).flatMap λp=>[p.2.1,p.2.2]
theorem A5o(LM:Nat->List Lm)(top:Rat)(K:Nat):H4 LM top (K+1)=H4 LM top K++(A1U LM top K).flatMap λp=>[p.2.1,p.2.2]:=by
 unfold H4;rw[A37,C1Y,B95]
theorem A3K{LM:Nat->List Lm}{top:Rat}{K:Nat}{p:Pc}:p∈Q4 LM top K↔p.1<K/\L8 (LM p.1) 0 top=some (p.2.1,p.2.2):=by
 unfold Q4;rw[List.mem_flatMap];constructor
 ·rintro⟨k,hk,hp⟩;have hk:=List.mem_range.1 hk;unfold A1U at hp;split at hp
  ·rename_i lo hi e;rw[List.mem_singleton]at hp;subst hp;exact⟨hk,e⟩
  ·cases hp
 ·rintro⟨h1,h2⟩;refine⟨p.1,List.mem_range.2 h1,?_⟩;unfold A1U;rw[h2];exact List.mem_singleton.2 rfl
def A1Q(l:List Pc)(a:Rat):Option Pc:=l.find? λp=>decide (p.2.1<=a)&&decide (a<=p.2.2)
theorem B1U{LM:Nat->List Lm}{top a:Rat}{K:Nat}{p:Pc}(h:A1Q (Q4 LM top K) a=some p):p.1<K/\0<=a/\a<=top/\H3 a (LM p.1)=true:=by
 have h1:=List.mem_of_find?_eq_some h;have h2:=List.find?_some h;rw[Bool.and_eq_true,C1u,C1u]at h2;obtain⟨h3,h4⟩:=A3K.1 h1;obtain⟨-,-,-,g4⟩:=A2Q h4;obtain⟨k1,k2,k3⟩:=(g4 a).1 h2;exact⟨h3,k1,k2,k3⟩
theorem B3e{LM:Nat->List Lm}{top a:Rat}{K k:Nat}(h0:0<=a)(h1:a<=top)(hk:k<K)(hh:H3 a (LM k)=true):∃p,A1Q (Q4 LM top K) a=some p:=by
 cases hb:L8 (LM k) 0 top with
 | none=>exact absurd ⟨h0,h1,hh⟩ (A3l hb a)
 | some q =>
  obtain⟨lo,hi⟩:=q;obtain⟨-,-,-,g4⟩:=A2Q hb;obtain⟨k1,k2⟩:=(g4 a).2 ⟨h0,h1,hh⟩
  cases hf:A1Q (Q4 LM top K) a with
  | some p=>exact⟨p,rfl⟩
  | none =>
   have h5:=List.find?_eq_none.1 hf (k,lo,hi) (A3K.2 ⟨hk,hb⟩);simp[k1,k2]at h5
def Q3(l:List Rat)(i:Nat):Bool:=decide (i=0)||decide (gq l i≠gq l (i-1))
def H5(l:List Rat)(i:Nat):List Rat:=((List.range i).filter (Q3 l)).map (gq l)
theorem A5T(l:List Rat)(i:Nat):H5 l (i+1)=if Q3 l i then H5 l i++[gq l i]else H5 l i:=by
 unfold H5;rw[C0k,List.filter_append,List.map_append];by_cases h:Q3 l i=true
 ·rw[if_pos h];simp[h]
 ·rw[if_neg h];simp[h]
theorem A4r(l:List Rat)(i:Nat):(H5 l i).length<=i:=by
 unfold H5;rw[List.length_map];have:=C1t (Q3 l) (List.range i)
 simpa using this
theorem A8I{l:List Rat}(h:l.Pairwise (· <= ·)){i j:Nat}(hij:i<=j)(hj:j<l.length):gq l i<=gq l j:=by
 rcases C1a hij with e|e
 ·rw[e];exact C1g
 ·have h1:=List.pairwise_iff_getElem.1 h i j (by omega) hj e;unfold gq;rw[B99 (by omega),B99 hj];exact h1
theorem B7O{l:List Rat}(h:l.Pairwise (· <= ·)):(H5 l l.length).Pairwise (· < ·):=by
 unfold H5;rw[List.pairwise_map];have h1:((List.range l.length).filter (Q3 l)).Pairwise (λi j=>i<j/\j<l.length/\Q3 l j=true):=by
  have h2:(List.range l.length).Pairwise (λi j=>i<j/\j<l.length):=List.Pairwise.imp_of_mem (λ_ hb h=>⟨h,List.mem_range.1 hb⟩) List.pairwise_lt_range;refine List.Pairwise.imp_of_mem (λ_ hb h=>⟨h.1,h.2,(List.mem_filter.1 hb).2⟩) (List.Pairwise.filter _ h2)
 refine h1.imp fun {i j} ⟨g1,g2,g3⟩=>?_;unfold Q3 at g3;rw[Bool.or_eq_true,C1u,C1u]at g3;rcases g3 with g3|g3
 ·omega
 ·have k1:=A8I h (i:=i) (j:=j-1) (by omega) (by omega);have k2:=A8I h (i:=j-1) (j:=j) (by omega) g2;grind
theorem A9v{l:List Rat}{x:Rat}:x∈H5 l l.length↔x∈l:=by
 unfold H5;rw[List.mem_map];constructor
 ·rintro⟨i,hi,rfl⟩;have hi:=List.mem_range.1 (List.mem_filter.1 hi).1;unfold gq;rw[B99 hi];exact B9h hi
 ·intro hx;obtain⟨i,hi,e⟩:=C1N hx;have key:∀i,i<l.length->gq l i=x->∃j,j∈(List.range l.length).filter (Q3 l)/\gq l j=x:=by
   intro i
   induction i with
   | zero=>exact λh1 h2=>⟨0,List.mem_filter.2 ⟨List.mem_range.2 h1,rfl⟩,h2⟩
   | succ i ih =>
    intro h1 h2;by_cases h3:Q3 l (i+1)=true
    ·exact⟨i+1,List.mem_filter.2 ⟨List.mem_range.2 h1,h3⟩,h2⟩
    ·unfold Q3 at h3;rw[Bool.or_eq_true,C1u,C1u]at h3;have h4:gq l (i+1)=gq l i:=Decidable.not_not.1 λh=>h3 (.inr h);exact ih (by omega) (by rw[<-h4];exact h2)
  exact key i hi (by unfold gq;rw[B99 hi,e];rfl)
def knX(l:List Kn)(i:Nat):Kn:=l.getD i (0,[])
def N5(l:List Kn)(m i:Nat):Bool:=decide (i=0)||decide (l.length<=i+1)||decide (I1 (knX l (i-1)) (knX l i) m≠I1 (knX l i) (knX l (i+1)) m)
def K4(l:List Kn)(m n:Nat):List Nat:=(List.range n).filter (N5 l m)
def R5(l:List Kn)(m n:Nat):List Kn:=(K4 l m n).map (knX l)
theorem A5S(l:List Kn)(m n:Nat):(K4 l m n).Pairwise (· < ·):=List.Pairwise.filter _ List.pairwise_lt_range
theorem A00{l:List Kn}{m n i:Nat}:i∈K4 l m n↔i<n/\N5 l m i=true:=by
 unfold K4;rw[List.mem_filter,List.mem_range]
theorem A3Z{U:List Nat}(hU:U.Pairwise (· < ·)){i j:Nat}(hij:i<j)(hj:j<U.length):nx U i<nx U j:=by
 have h1:=List.pairwise_iff_getElem.1 hU i j (by omega) hj hij;unfold nx;rw[B99 (by omega),B99 hj];exact h1
theorem A8w{U:List Nat}(hU:U.Pairwise (· < ·)){i j:Nat}(hi:i<U.length)(hj:j<U.length)(h:nx U i<nx U j):i<j:=by
 rcases C0W i j with h1|h1|h1
 ·exact h1
 ·rw[h1]at h;omega
 ·have:=A3Z hU h1 hi;omega
theorem B0r{l:List Kn}{m n t i:Nat}(ht:t+1<(K4 l m n).length)(h1:nx (K4 l m n) t<i)(h2:i<nx (K4 l m n) (t+1)):N5 l m i=false:=by
 cases hb:N5 l m i
 ·rfl
 ·have hn:=(A00.1 (N4 ht)).1;obtain⟨k,hk,e⟩:=A3X (A00.2 ⟨show i<n by omega,hb⟩);have hs:=A5S l m n;rw[<-e]at h1 h2;have k1:=A8w hs (by omega) hk h1;have k2:=A8w hs hk ht h2;omega
theorem A8i{l:List Kn}{m n:Nat}(hn:1<=n):1<=(K4 l m n).length/\nx (K4 l m n) 0=0:=by
 obtain⟨k,hk,e⟩:=A3X (A00.2 ⟨show 0<n by omega,show N5 l m 0=true from rfl⟩);refine⟨by omega,?_⟩;rcases B9n k with h|h
 ·rw[h]at e;exact e
 ·have:=A3Z (A5S l m n) h hk;omega
theorem B41{l:List Kn}{m:Nat}(hn:1<=l.length):nx (K4 l m l.length) ((K4 l m l.length).length-1)=l.length-1:=by
 have hb:N5 l m (l.length-1)=true:=by
  unfold N5;rw[C0Y (show l.length<=l.length-1+1 by omega)];simp
 obtain⟨k,hk,e⟩:=A3X (A00.2 ⟨show l.length-1<l.length by omega,hb⟩);rcases B9U k ((K4 l m l.length).length-1)with h|h
 ·have h1:=A3Z (A5S l m l.length) h (by omega);have h2:=(A00.1 (N4 (l:=K4 l m l.length) (i:=(K4 l m l.length).length-1) (by omega))).1;omega
 ·rw[show(K4 l m l.length).length-1=k by omega];exact e
theorem B13(l:List Kn)(m n:Nat):(R5 l m n).length=(K4 l m n).length:=by unfold R5;rw[List.length_map]
theorem A5G{l:List Kn}{m n t:Nat}(ht:t<(K4 l m n).length):knQ (R5 l m n) t=knQ l (nx (K4 l m n) t)/\knW (R5 l m n) t=knW l (nx (K4 l m n) t):=by
 have e:(R5 l m n)[t]?=some (knX l (nx (K4 l m n) t)):=by
  unfold R5 nx;rw[List.getElem?_map,B99 ht];rfl
 unfold knQ knW;rw[e];exact⟨rfl,rfl⟩
structure Straight(l:List Kn)(m:Nat)(f:Rat->Nat->Rat):Prop where
 is:∀i,i<l.length->∀j,j<m->gq (knW l i) j=f (knQ l i) j
 falls:∀i,i+1<l.length->knQ l (i+1)<knQ l i
 way:∀i,i+1<l.length->∀s,knQ l (i+1)<=s->s<=knQ l i->∀j,j<m->f s j=f (knQ l (i+1)) j+gq (I1 (knX l i) (knX l (i+1)) m) j*(s-knQ l (i+1))
section
variable {l:List Kn} {m:Nat} {f:Rat->Nat->Rat} (H:Straight l m f)
include H
theorem B02{i j:Nat}(hij:i<=j)(hj:j<l.length):knQ l j<=knQ l i:=by
 induction j with
 | zero=>rw[show i=0 by omega];exact C1g
 | succ j ih =>
  rcases C1a hij with e|e
  ·rw[e];exact C1g
  ·have h1:=ih (by omega) (by omega);have h2:=H.falls j hj;grind
theorem A6b{i j:Nat}(hij:i<j)(hj:j<l.length):knQ l j<knQ l i:=by
 have h1:=B02 H (i:=i+1) (j:=j) hij hj;have h2:=H.falls i (by omega);grind
omit H in
theorem B1f{u:Nat}:∀v,u<v->v<l.length->(∀i,u<i->i<v->N5 l m i=false)->∀i,u<=i->i<v->I1 (knX l i) (knX l (i+1)) m=I1 (knX l u) (knX l (u+1)) m:=by
 intro v huv hv hb i
 induction i with
 | zero=>intro h1 _;rw[show u=0 by omega]
 | succ i ih =>
  intro h1 h2;rcases C1a h1 with e|e
  ·rw[e]
  ·have h3:=ih (by omega) (by omega);have h4:=hb (i+1) (by omega) h2;unfold N5 at h4;rw[Bool.or_eq_false_iff,Bool.or_eq_false_iff,decide_eq_false_iff_not,decide_eq_false_iff_not,decide_eq_false_iff_not]at h4;have h5:=Decidable.not_not.1 h4.2;rw[show i+1-1=i by omega]at h5;rw[<-h5,h3]
theorem B5H{u:Nat}:∀v,u<v->v<l.length->(∀i,u<i->i<v->N5 l m i=false)->∀s,knQ l v<=s->s<=knQ l u->∀j,j<m->f s j=f (knQ l v) j+gq (I1 (knX l u) (knX l (u+1)) m) j*(s-knQ l v):=by
 intro v
 induction v with
 | zero=>intro h;exact absurd h (C1f _)
 | succ v ih =>
  intro huv hv hb s h1 h2 j hj;have hs:=B1f (v+1) huv hv hb v (by omega) (by omega);rcases C1a (show u<=v by omega)with e|e
  ·subst e;exact H.way u hv s h1 h2 j hj
  ·have hw:=H.way v hv;rcases (C01:s<=knQ l v\/knQ l v<=s)with h3|h3
   ·rw[<-hs];exact hw s h1 h3 j hj
   ·have k1:=ih e (by omega) (λi g1 g2=>hb i g1 (by omega)) s h3 h2 j hj;have k2:=hw (knQ l v) (Rat.le_of_lt (H.falls v hv)) C1g j hj;rw[hs]at k2;rw[k1,k2];grind
theorem A8f{u v:Nat}(huv:u<v)(hv:v<l.length)(hb:∀i,u<i->i<v->N5 l m i=false){j:Nat}(hj:j<m):gq (I1 (knX l u) (knX l v) m) j=gq (I1 (knX l u) (knX l (u+1)) m) j:=by
 have h1:=B5H H v huv hv hb (knQ l u) (B02 H (B9c huv) hv) C1g j hj;have h2:=A6b H huv hv;rw[show gq (I1 (knX l u) (knX l v) m) j=I3 (C4 (gq (knW l v) j) (gq (knW l u) j)) (C4 (knQ l v) (knQ l u))from S9 _ hj,H.is v hv j hj,H.is u (by omega) j hj,h1];unfold I3 C4;obtain⟨x,hx⟩:∃x,x=gq (I1 (knX l u) (knX l (u+1)) m) j:=⟨_,rfl⟩
 rw[<-hx];have h3:knQ l v-knQ l u≠0:=λe=>by grind
 have e1:=C1j (a:=f (knQ l v) j-(f (knQ l v) j+x*(knQ l u-knQ l v))) h3;have e2:((f (knQ l v) j-(f (knQ l v) j+x*(knQ l u-knQ l v)))/(knQ l v-knQ l u)-x)*(knQ l v-knQ l u)=0:=by grind
 rcases Rat.mul_eq_zero.1 e2 with e3|e3
 ·grind
 ·exact absurd e3 h3
theorem B8j{t:Nat}(h1:1<=t)(h2:t+1<(K4 l m l.length).length):∃j,j<m /\
  (gq (knW (R5 l m l.length) t) j-gq (knW (R5 l m l.length) (t-1)) j)*(knQ (R5 l m l.length) t-knQ (R5 l m l.length) (t+1))≠(gq (knW (R5 l m l.length) (t+1)) j-gq (knW (R5 l m l.length) t) j)*(knQ (R5 l m l.length) (t-1)-knQ (R5 l m l.length) t):=by
 obtain⟨a1,a2⟩:=A5G (l:=l) (m:=m) (n:=l.length) (t:=t-1) (by omega);obtain⟨b1,b2⟩:=A5G (l:=l) (m:=m) (n:=l.length) (t:=t) (by omega);obtain⟨c1,c2⟩:=A5G (l:=l) (m:=m) (n:=l.length) h2;rw[a1,a2,b1,b2,c1,c2];have hs:=A5S l m l.length;obtain⟨u,hu⟩:∃u,u=nx (K4 l m l.length) (t-1):=⟨_,rfl⟩
 obtain⟨v,hv⟩:∃v,v=nx (K4 l m l.length) t:=⟨_,rfl⟩
 obtain⟨w,hw⟩:∃w,w=nx (K4 l m l.length) (t+1):=⟨_,rfl⟩
 have huv:u<v:=by rw[hu,hv];exact A3Z hs (by omega) (by omega)
 have hvw:v<w:=by rw[hv,hw];exact A3Z hs (by omega) h2
 have hwl:w<l.length:=by rw[hw];exact(A00.1 (N4 h2)).1
 have hbv:N5 l m v=true:=by rw[hv];exact(A00.1 (N4 (l:=K4 l m l.length) (i:=t) (by omega))).2
 have n1:∀i,u<i->i<v->N5 l m i=false:=λi g1 g2=>B0r (n:=l.length) (t:=t-1) (by omega) (by rw[<-hu];exact g1) (by rw[show t-1+1=t by omega,<-hv];exact g2);have n2:∀i,v<i->i<w->N5 l m i=false:=λi g1 g2=>B0r (n:=l.length) (t:=t) h2 (by rw[<-hv];exact g1) (by rw[<-hw];exact g2);rw[<-hu,<-hv,<-hw];have hne:I1 (knX l (v-1)) (knX l v) m≠I1 (knX l v) (knX l (v+1)) m:=by
  unfold N5 at hbv;rw[Bool.or_eq_true,Bool.or_eq_true,C1u,C1u,C1u]at hbv;rcases hbv with(h|h)|h
  ·omega
  ·omega
  ·exact h
 have hst:=B1f v huv (by omega) n1 (v-1) (by omega) (by omega);rw[show v-1+1=v by omega]at hst;rw[hst]at hne;have hex:∃j,j<m/\gq (I1 (knX l u) (knX l (u+1)) m) j≠gq (I1 (knX l v) (knX l (v+1)) m) j:=by
  rcases Classical.em (∃j,j<m/\gq (I1 (knX l u) (knX l (u+1)) m) j≠gq (I1 (knX l v) (knX l (v+1)) m) j)with h|h
  ·exact h
  ·refine absurd (A95 (n:=m) (by unfold I1;simp) (by unfold I1;simp) λi hi=>?_) hne;exact Decidable.not_not.1 λh'=>h ⟨i,hi,h'⟩
 obtain⟨j,hj,hj2⟩:=hex;rw[<-A8f H huv (by omega) n1 hj,<-A8f H hvw hwl n2 hj]at hj2;refine⟨j,hj,λe=>hj2 ?_⟩;rw[show gq (I1 (knX l u) (knX l v) m) j=I3 (C4 (gq (knW l v) j) (gq (knW l u) j)) (C4 (knQ l v) (knQ l u))from S9 _ hj,show gq (I1 (knX l v) (knX l w) m) j=I3 (C4 (gq (knW l w) j) (gq (knW l v) j)) (C4 (knQ l w) (knQ l v))from S9 _ hj];unfold I3 C4;have f1:=A6b H huv (by omega);have f2:=A6b H hvw hwl;have g1:knQ l v-knQ l u≠0:=λe=>by grind
 have g2:knQ l w-knQ l v≠0:=λe=>by grind
 have e1:=C1j (a:=gq (knW l v) j-gq (knW l u) j) g1;have e2:=C1j (a:=gq (knW l w) j-gq (knW l v) j) g2;obtain⟨x,hx⟩:∃x,x=(gq (knW l v) j-gq (knW l u) j)/(knQ l v-knQ l u):=⟨_,rfl⟩
 obtain⟨y,hy⟩:∃y,y=(gq (knW l w) j-gq (knW l v) j)/(knQ l w-knQ l v):=⟨_,rfl⟩
 rw[<-hx]at e1⊢;rw[<-hy]at e2⊢;rw[<-e1,<-e2]at e;have e3:(x-y)*((knQ l v-knQ l u)*(knQ l w-knQ l v))=0:=by grind
 rcases Rat.mul_eq_zero.1 e3 with e4|e4
 ·grind
 ·rcases Rat.mul_eq_zero.1 e4 with e5|e5
  ·exact absurd e5 g1
  ·exact absurd e5 g2
end
def I5(l:List Rat):List Rat:=(H5 (W5 l) (W5 l).length).reverse
theorem A0M{l:List Rat}{x:Rat}:x∈I5 l↔x∈l:=by
 unfold I5;rw[List.mem_reverse,A9v,(A2Y l).mem_iff]
theorem B3P(l:List Rat):(I5 l).Pairwise (λa b=>b<a):=by
 unfold I5;rw[List.pairwise_reverse];exact B7O (B0F l)
theorem A6u{l:List Rat}{i j:Nat}(hij:i<j)(hj:j<(I5 l).length):gq (I5 l) j<gq (I5 l) i:=by
 have h1:=List.pairwise_iff_getElem.1 (B3P l) i j (by omega) hj hij;unfold gq;rw[B99 (show i<(I5 l).length by omega),B99 hj];exact h1
theorem A22{l:List Rat}{i j:Nat}(hij:i<=j)(hj:j<(I5 l).length):gq (I5 l) j<=gq (I5 l) i:=by
 rcases C1a hij with e|e
 ·rw[e];exact C1g
 ·exact Rat.le_of_lt (A6u e hj)
theorem A1o{l:List Rat}{i:Nat}(h:i<l.length):gq l i∈l:=by
 unfold gq;rw[B99 h];exact B9h h
theorem A4M{l:List Rat}{x:Rat}(h:x∈l):∃i,i<l.length/\gq l i=x:=by
 obtain⟨i,hi,e⟩:=C1N h;exact⟨i,hi,by unfold gq;rw[B99 hi];exact e⟩
theorem B8z{l:List Rat}{top:Rat}(h0:(0:Rat)∈l)(h1:top∈l)(hb:∀x∈l,0<=x/\x<=top):1<=(I5 l).length/\gq (I5 l) 0=top/\gq (I5 l) ((I5 l).length-1)=0:=by
 obtain⟨i,hi,ei⟩:=A4M (A0M.2 h0);obtain⟨j,hj,ej⟩:=A4M (A0M.2 h1);refine⟨by omega,?_,?_⟩
 ·have k1:=A22 (l:=l) (C0B j) hj;have k2:=(hb _ (A0M.1 (A1o (l:=I5 l) (i:=0) (by omega)))).2;grind
 ·have k1:=A22 (l:=l) (show i<=(I5 l).length-1 by omega) (by omega);have k2:=(hb _ (A0M.1 (A1o (l:=I5 l) (i:=(I5 l).length-1) (by omega)))).1;grind
def H8(X:List (List Rat))(y:List Rat)(N L:Nat):List Kn:=(I5 (H4 (J6 X y N L) (J5 X y N L) (3^L))).map λa=>(a,N6 X y N L a)
def I8(X:List (List Rat))(y:List Rat)(N L:Nat):List Kn:=R5 (H8 X y N L) L (H8 X y N L).length
theorem B0s(p:List Rat):∀n,0<=X4 p n/\(∀j,j<n->G6 (gq p j)<=X4 p n)/\∀x,0<=x->(∀j,j<n->G6 (gq p j)<=x)->X4 p n<=x
 | 0=>⟨C1g,λj hj=>absurd hj (C1f _),λx hx _=>hx⟩
 | n+1=>by
  obtain⟨h1,h2,h3⟩:=B0s p n;have hm:X4 p n<=X4 p (n+1)/\Z7 (gq p n)<=X4 p (n+1):=A3f.1 (C1g:U9 (X4 p n) (Z7 (gq p n))<=X4 p (n+1));rw[A5R]at hm;refine⟨C1h h1 hm.1,λj hj=>?_,λx hx hj=>?_⟩
  ·by_cases e:j=n
   ·rw[e];exact hm.2
   ·exact C1h (h2 j (by omega)) hm.1
  ·exact A3f.2 ⟨h3 x hx λj hj'=>hj j (by omega),by rw[A5R];exact hj n (by omega)⟩
theorem B1W(X:List (List Rat))(y:List Rat)(N L:Nat){j:Nat}(hj:j<L):gq (X9 X y (T8 L) N L) j=gq (I6 X y N L) j:=by
 rw[A7i X y (T8 L) N L hj];have e:D0 (M4 X N j) (gq (T8 L)) L=0:=A0w λk _=>by rw[B1L];grind
 rw[e];grind
theorem A94(X:List (List Rat))(y:List Rat)(N L:Nat):0<=J5 X y N L/\∀j,j<L->G6 (gq (I6 X y N L) j)<=J5 X y N L:=by
 obtain⟨h1,h2,-⟩:=B0s (X9 X y (T8 L) N L) L;exact⟨h1,λj hj=>by rw[<-B1W X y N L hj];exact h2 j hj⟩
section
variable {X:List (List Rat)} {y:List Rat} {N L:Nat} (hF:A2W X N L)
include hF
theorem B2p{s:Rat}(hs:J5 X y N L<=s):∀i,i<L->gq (N6 X y N L s) i=0:=λi hi=>by
 obtain⟨h1,h2⟩:=A94 X y N L;have hk:Kkt (M4 X N) L (gq (I6 X y N L)) s (λ_=>0):=λj hj=>by
  have e:D0 (M4 X N j) (λ_=>0) L=0:=A0w λk _=>by grind
  rw[e];refine A7h (.inr (.inr ⟨rfl,?_⟩));have h3:=h2 j hj;rw[show gq (I6 X y N L) j-0=gq (I6 X y N L) j by grind];grind
 exact(A9U hF y (by grind) hk i hi).symm
theorem A79{s:Rat}(h0:0<=s){k:Nat}(hh:H3 s (J6 X y N L k)=true):A1h X y N L s k=N6 X y N L s :=
 A95 (n:=L) (by unfold A1h J9;simp) (A41 _ _ _ _ _) λi hi=>A9U hF y h0 (B1d (A5d L k) h0 (A6t hF y s k) ((A5f y s k).1 hh)) i hi
omit hF in
theorem A3P{x:Rat}(h:x∈H4 (J6 X y N L) (J5 X y N L) (3^L)):0<=x/\x<=J5 X y N L:=by
 have ht:=(A94 X y N L).1;unfold H4 at h;rcases List.mem_append.1 h with h|h
 ·simp only[List.mem_cons,List.not_mem_nil,or_false]at h;rcases h with rfl|rfl
  ·exact⟨C1g,ht⟩
  ·exact⟨ht,C1g⟩
 ·obtain⟨p,hp,hx⟩:=List.mem_flatMap.1 h;obtain⟨-,hb⟩:=A3K.1 hp;obtain⟨g1,g2,g3,-⟩:=A2Q hb;simp only[List.mem_cons,List.not_mem_nil,or_false]at hx;rcases hx with rfl|rfl
  ·exact⟨g1,C1h g3 g2⟩
  ·exact⟨C1h g1 g3,g2⟩
omit hF in
theorem A7T:1<=(I5 (H4 (J6 X y N L) (J5 X y N L) (3^L))).length/\gq (I5 (H4 (J6 X y N L) (J5 X y N L) (3^L))) 0=J5 X y N L/\gq (I5 (H4 (J6 X y N L) (J5 X y N L) (3^L))) ((I5 (H4 (J6 X y N L) (J5 X y N L) (3^L))).length-1)=0 :=
 B8z (by unfold H4;simp) (by unfold H4;simp) λx hx=>A3P hx
omit hF in
theorem A04:(H8 X y N L).length=(I5 (H4 (J6 X y N L) (J5 X y N L) (3^L))).length:=by unfold H8;rw[List.length_map]
omit hF in
theorem A1G{i:Nat}(h:i<(H8 X y N L).length):knQ (H8 X y N L) i=gq (I5 (H4 (J6 X y N L) (J5 X y N L) (3^L))) i/\knW (H8 X y N L) i=N6 X y N L (gq (I5 (H4 (J6 X y N L) (J5 X y N L) (3^L))) i):=by
 have h':=h;rw[A04]at h';have e:(H8 X y N L)[i]?=some (gq (I5 (H4 (J6 X y N L) (J5 X y N L) (3^L))) i,N6 X y N L (gq (I5 (H4 (J6 X y N L) (J5 X y N L) (3^L))) i)):=by
  unfold H8 gq;rw[List.getElem?_map,B99 h'];rfl
 unfold knQ knW;rw[e];exact⟨rfl,rfl⟩
theorem B6l:Straight (H8 X y N L) L (λs j=>gq (N6 X y N L s) j):=by
 refine⟨λi hi j hj=>?_,λi hi=>?_,λi hi s h1 h2 j hj=>?_⟩
 ·obtain⟨e1,e2⟩:=A1G hi;rw[e2,e1]
 ·rw[(A1G hi).1,(A1G (show i<(H8 X y N L).length by omega)).1];rw[A04]at hi;exact A6u (C1k i) hi
 ·obtain⟨a1,a2⟩:=A1G (X:=X) (y:=y) (N:=N) (L:=L) (show i<(H8 X y N L).length by omega);obtain⟨b1,b2⟩:=A1G hi;have hlen:=A04 (X:=X) (y:=y) (N:=N) (L:=L);obtain⟨P,hP⟩:∃P,P=H4 (J6 X y N L) (J5 X y N L) (3^L):=⟨_,rfl⟩
  rw[<-hP]at a1 a2 b1 b2 hlen;obtain⟨A,hA⟩:∃A,A=gq (I5 P) i:=⟨_,rfl⟩
  obtain⟨B,hB⟩:∃B,B=gq (I5 P) (i+1):=⟨_,rfl⟩
  rw[<-hA]at a1 a2;rw[<-hB]at b1 b2;rw[b1]at h1⊢;rw[a1]at h2;have hBA:B<A:=by rw[hA,hB];exact A6u (C1k i) (by omega)
  have hAm:A∈P:=by rw[hA];exact A0M.1 (A1o (by omega))
  have hBm:B∈P:=by rw[hB];exact A0M.1 (A1o (by omega))
  have hA1:=A3P (hP ▸ hAm);have hB1:=A3P (hP ▸ hBm);obtain⟨mid,hmid⟩:∃m,m=(A+B)/2:=⟨_,rfl⟩
  have hm2:mid*2=A+B:=by rw[hmid];exact C1j (by decide)
  have hmA:mid<A:=by grind
  have hmB:B<mid:=by grind
  obtain⟨k1,k2,-⟩:=A6X hF y mid;obtain⟨k,hk⟩:∃k,k=S5 X y N L mid:=⟨_,rfl⟩
  rw[<-hk]at k1 k2;have hreach:H3 A (J6 X y N L k)=true/\H3 B (J6 X y N L k)=true/\H3 s (J6 X y N L k)=true:=by
   cases hb:L8 (J6 X y N L k) 0 (J5 X y N L)with
   | none=>exact absurd ⟨by grind,by grind,k2⟩ (A3l hb mid)
   | some q =>
    obtain⟨lo,hi'⟩:=q;obtain⟨g1,g2,g3,g4⟩:=A2Q hb;obtain⟨m1,m2⟩:=(g4 mid).2 ⟨by grind,by grind,k2⟩;have hp:(k,lo,hi')∈Q4 (J6 X y N L) (J5 X y N L) (3^L):=A3K.2 ⟨k1,hb⟩;have hlo:lo∈P:=by
     rw[hP];unfold H4;exact List.mem_append.2 (.inr (List.mem_flatMap.2 ⟨_,hp,by simp⟩))
    have hhi:hi'∈P:=by
     rw[hP];unfold H4;exact List.mem_append.2 (.inr (List.mem_flatMap.2 ⟨_,hp,by simp⟩))
    have hloB:lo<=B:=by
     obtain⟨t,ht,et⟩:=A4M (A0M.2 hlo);rcases B9U i t with h|h
     ·have:=A22 (l:=P) (show i+1<=t by omega) ht;rw[<-hB,et]at this;exact this
     ·have:=A22 (l:=P) h (by omega);rw[<-hA,et]at this;grind
    have hhiA:A<=hi':=by
     obtain⟨t,ht,et⟩:=A4M (A0M.2 hhi);rcases B9U i t with h|h
     ·have:=A22 (l:=P) (show i+1<=t by omega) ht;rw[<-hB,et]at this;grind
     ·have:=A22 (l:=P) h (by omega);rw[<-hA,et]at this;exact this
    exact⟨((g4 A).1 ⟨by grind,hhiA⟩).2.2,((g4 B).1 ⟨hloB,by grind⟩).2.2,((g4 s).1 ⟨by grind,by grind⟩).2.2⟩
  have hw:∀x,0<=x->H3 x (J6 X y N L k)=true->gq (N6 X y N L x) j=gq (R4 X y N L k) j+gq (R6 X N L k) j*x:=λx hx hh=>by
   rw[<-A79 hF hx hh];exact S9 _ hj
  rw[hw s (by grind) hreach.2.2,hw B hB1.1 hreach.2.1];rw[show gq (I1 (knX (H8 X y N L) i) (knX (H8 X y N L) (i+1)) L) j=I3 (C4 (gq (knW (H8 X y N L) (i+1)) j) (gq (knW (H8 X y N L) i) j)) (C4 (knQ (H8 X y N L) (i+1)) (knQ (H8 X y N L) i))from S9 _ hj];rw[a1,a2,b1,b2,hw A hA1.1 hreach.1,hw B hB1.1 hreach.2.1];unfold I3 C4;have h3:B-A≠0:=λe=>by grind
  obtain⟨F,hF'⟩:∃F,F=gq (R4 X y N L k) j:=⟨_,rfl⟩
  obtain⟨C,hC⟩:∃C,C=gq (R6 X N L k) j:=⟨_,rfl⟩
  rw[<-hF',<-hC];have e1:=C1j (a:=F+C*B-(F+C*A)) h3;obtain⟨z,hz⟩:∃z,z=(F+C*B-(F+C*A))/(B-A):=⟨_,rfl⟩
  rw[<-hz]at e1⊢;have e2:(z-C)*(B-A)=0:=by grind
  rcases Rat.mul_eq_zero.1 e2 with e3|e3
  ·have:z=C:=by grind
   rw[this];grind
  ·exact absurd e3 h3
end
theorem B27(LM:Nat->List Lm)(top:Rat)(k:Nat):(A1U LM top k).length<=1:=by
 unfold A1U;split<;>simp
theorem A4C(LM:Nat->List Lm)(top:Rat):∀K,(Q4 LM top K).length<=K
 | 0=>by simp[Q4]
 | K+1=>by
  rw[A37,List.length_append];have:=A4C LM top K;have:=B27 LM top K;omega
theorem A4q(LM:Nat->List Lm)(top:Rat):∀K,(H4 LM top K).length=2+2*(Q4 LM top K).length
 | 0=>by simp[H4,Q4]
 | K+1=>by
  rw[A5o,A37,List.length_append,List.length_append,A4q LM top K];unfold A1U;split<;>simp<;>omega
theorem B2x(l:List Rat):(I5 l).length<=l.length:=by
 unfold I5;rw[C0P];have:=A4r (W5 l) (W5 l).length;rw[(A2Y l).length_eq]at this;rw[(A2Y l).length_eq];exact this
theorem B2V{X:List (List Rat)}{y:List Rat}{N L:Nat}(hL:L<=5):(H8 X y N L).length<=1000:=by
 rw[A04];have h1:=B2x (H4 (J6 X y N L) (J5 X y N L) (3^L));rw[A4q]at h1;have h2:=A4C (J6 X y N L) (J5 X y N L) (3^L);have h3:3^L<=3^5:=B90 (by omega) hL;omega
section
variable {X:List (List Rat)} {y:List Rat} {N L:Nat} (hF:A2W X N L)
theorem A3b:1<=(I8 X y N L).length/\(I8 X y N L).length<=(H8 X y N L).length/\(I8 X y N L).length=(K4 (H8 X y N L) L (H8 X y N L).length).length:=by
 have h1:=(A7T (X:=X) (y:=y) (N:=N) (L:=L)).1;rw[<-A04]at h1;have h2:=(A8i (l:=H8 X y N L) (m:=L) h1).1;have h3:=B13 (H8 X y N L) L (H8 X y N L).length;unfold I8;refine⟨by omega,?_,h3⟩;rw[h3];unfold K4;have:=C1t (N5 (H8 X y N L) L) (List.range (H8 X y N L).length)
 simpa using this
theorem A42{t:Nat}(ht:t<(I8 X y N L).length):∃i,i<(H8 X y N L).length/\i=nx (K4 (H8 X y N L) L (H8 X y N L).length) t/\knQ (I8 X y N L) t=knQ (H8 X y N L) i/\knW (I8 X y N L) t=N6 X y N L (knQ (I8 X y N L) t)/\0<=knQ (I8 X y N L) t:=by
 have ht':=ht;rw[A3b.2.2]at ht';have hi:=(A00.1 (N4 ht')).1;obtain⟨e1,e2⟩:=A5G (l:=H8 X y N L) (m:=L) (n:=(H8 X y N L).length) ht';obtain⟨k1,k2⟩:=A1G hi;refine⟨_,hi,rfl,e1,?_,?_⟩
 ·show knW (I8 X y N L) t=_;unfold I8;rw[e2,k2,e1,k1]
 ·show 0<=knQ (I8 X y N L) t;unfold I8;rw[e1,k1];exact(A3P (A0M.1 (A1o (by rw[<-A04];exact hi)))).1
theorem B4J:knQ (I8 X y N L) 0=J5 X y N L/\knQ (I8 X y N L) ((I8 X y N L).length-1)=0:=by
 have h1:=A7T (X:=X) (y:=y) (N:=N) (L:=L);have hn:1<=(H8 X y N L).length:=by rw[A04];exact h1.1
 have h2:=A8i (l:=H8 X y N L) (m:=L) hn;have h3:=B41 (l:=H8 X y N L) (m:=L) hn;have h4:=A3b (X:=X) (y:=y) (N:=N) (L:=L);obtain⟨i,hi,ei,e1,-⟩:=A42 (X:=X) (y:=y) (N:=N) (L:=L) (t:=0) (by omega);obtain⟨j,hj,ej,f1,-⟩:=A42 (X:=X) (y:=y) (N:=N) (L:=L) (t:=(I8 X y N L).length-1) (by omega);rw[h2.2]at ei;rw[h4.2.2,h3]at ej;refine⟨by rw[e1,ei,(A1G (by omega)).1];exact h1.2.1,?_⟩;rw[f1,ej,(A1G (by omega)).1,A04];exact h1.2.2
include hF
theorem B7c{t:Nat}(h1:1<=t)(h2:t+1<(I8 X y N L).length):∃j,j<L /\
  (gq (knW (I8 X y N L) t) j-gq (knW (I8 X y N L) (t-1)) j)*(knQ (I8 X y N L) t-knQ (I8 X y N L) (t+1))≠(gq (knW (I8 X y N L) (t+1)) j-gq (knW (I8 X y N L) t) j)*(knQ (I8 X y N L) (t-1)-knQ (I8 X y N L) t):=by
 rw[A3b.2.2]at h2;exact B8j (B6l hF (y:=y)) h1 h2
end
def knA(F B:Nat->List Rat)(L:Nat)(l:List Pc)(a:Rat):List Kn:=match A1Q l a with
 | some p=>[(a,J9 (F p.1) (B p.1) L a)]
 | none=>[]
def A1s(F B:Nat->List Rat)(LM:Nat->List Lm)(top:Rat)(L K:Nat):List Kn:=(I5 (H4 LM top K)).flatMap (knA F B L (Q4 LM top K))
theorem A9u{α β:Type}{f:α->List β}{g:α->β}:∀ {l:List α},(∀x∈l,f x=[g x])->l.flatMap f=l.map g
 | [],_=>rfl
 | a::t,h=>by
  rw[List.flatMap_cons,List.map_cons,h a (by simp),A9u λx hx=>h x (by simp[hx])];rfl
theorem B1q{X:List (List Rat)}{y:List Rat}{N L:Nat}(hF:A2W X N L):A1s (R4 X y N L) (R6 X N L) (J6 X y N L) (J5 X y N L) L (3^L)=H8 X y N L:=by
 unfold A1s H8;refine A9u λa ha=>?_;obtain⟨h0,h1⟩:=A3P (A0M.1 ha);obtain⟨k1,k2,-⟩:=A6X hF y a;obtain⟨p,hp⟩:=B3e h0 h1 k1 k2;obtain⟨g1,-,-,g4⟩:=B1U hp;unfold knA;rw[hp];have:=A79 hF (y:=y) h0 g4;unfold A1h at this;simp only;rw[this]
end Go.Proofs.YtgpglgbcobeogaaGreatDoor
