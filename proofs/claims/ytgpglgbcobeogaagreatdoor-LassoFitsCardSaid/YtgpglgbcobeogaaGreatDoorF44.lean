import Derived.Test.YtgpglgbcobeogaaGreatDoorF43
set_option linter.unusedSimpArgs false
set_option linter.unusedVariables false
namespace Go.Proofs.YtgpglgbcobeogaaGreatDoor
open Go Go.RowKit
def A0k(a b:Rat):Rat:=if b<a then b else a
theorem A36{a b x:Rat}:V5 a b<=x↔a<=x/\b<=x:=by
 unfold V5;split
 ·constructor
  ·intro h;constructor<;>grind
  ·intro h;exact h.2
 ·constructor
  ·intro h;constructor<;>grind
  ·intro h;exact h.1
theorem A7m{a b x:Rat}:x<=A0k a b↔x<=a/\x<=b:=by
 unfold A0k;split
 ·constructor
  ·intro h;constructor<;>grind
  ·intro h;exact h.2
 ·constructor
  ·intro h;constructor<;>grind
  ·intro h;exact h.1
def L9:List Lm->Rat->Rat->Option (Rat×Rat)
 | [],lo,hi=>if lo<=hi then some (lo,hi)else none
 | c::t,lo,hi=>if c.1=0 then(if c.2<0 then none else L9 t lo hi)else if 0<c.1 then L9 t (V5 lo (G9 (J7 c.2) c.1)) hi else L9 t lo (A0k hi (G9 (J7 c.2) c.1))
theorem B1c{a:Rat}{c:Lm}(h:c.1=0):A0A a c=true↔¬c.2<0:=by
 unfold A0A G6 C9;rw[C2T,h,Rat.zero_mul,Rat.zero_add]
theorem A90{a:Rat}{c:Lm}(h:0<c.1):A0A a c=true↔G9 (J7 c.2) c.1<=a:=by
 unfold A0A G6 C9 G9 J7;rw[C2T];have e : -c.2/c.1*c.1 = -c.2:=C2H (λe=>by grind);obtain⟨x,hx⟩:∃x,x = -c.2/c.1:=⟨_,rfl⟩
 rw[<-hx]at e⊢;constructor
 ·intro h1;rcases (C1X:x<=a\/a<=x)with h2|h2
  ·exact h2
  ·have h3:=C2G (a:=x-a) (b:=c.1) (by grind) (Rat.le_of_lt h);have h4:(x-a)*c.1=0:=by grind
   rcases Rat.mul_eq_zero.1 h4 with h5|h5<;>grind
 ·intro h1;have h3:=C2G (a:=a-x) (b:=c.1) (by grind) (Rat.le_of_lt h);grind
theorem B1J{a:Rat}{c:Lm}(h:c.1<0):A0A a c=true↔a<=G9 (J7 c.2) c.1:=by
 unfold A0A G6 C9 G9 J7;rw[C2T];have e : -c.2/c.1*c.1 = -c.2:=C2H (λe=>by grind);obtain⟨x,hx⟩:∃x,x = -c.2/c.1:=⟨_,rfl⟩
 rw[<-hx]at e⊢;constructor
 ·intro h1;rcases (C1X:a<=x\/x<=a)with h2|h2
  ·exact h2
  ·have h3:=C2G (a:=a-x) (b:=-c.1) (by grind) (by grind);have h4:(a-x) * -c.1=0:=by grind
   rcases Rat.mul_eq_zero.1 h4 with h5|h5<;>grind
 ·intro h1;have h3:=C2G (a:=x-a) (b:=-c.1) (by grind) (by grind);grind
theorem A4g(a:Rat)(c:Lm)(t:List Lm):H7 a (c::t)=true↔A0A a c=true/\H7 a t=true:=by
 unfold H7;rw[List.all_cons,Bool.and_eq_true]
theorem A2k:∀ {l:List Lm} {lo hi lo' hi':Rat},L9 l lo hi=some (lo',hi')->lo<=lo'/\hi'<=hi/\lo'<=hi'/\∀a,(lo'<=a/\a<=hi')↔(lo<=a/\a<=hi/\H7 a l=true)
 | [],lo,hi,lo',hi',h=>by
  unfold L9 at h;split at h
  ·rename_i h1;cases h;exact⟨C2E,C2E,h1,λa=>⟨λh=>⟨h.1,h.2,rfl⟩,λh=>⟨h.1,h.2.1⟩⟩⟩
  ·cases h
 | c::t,lo,hi,lo',hi',h=>by
  unfold L9 at h;by_cases h0:c.1=0
  ·rw[if_pos h0]at h;by_cases h1:c.2<0
   ·rw[if_pos h1]at h;cases h
   ·rw[if_neg h1]at h;obtain⟨g1,g2,g3,g4⟩:=A2k h;exact⟨g1,g2,g3,λa=>by rw[g4 a,A4g,B1c h0];exact⟨λh=>⟨h.1,h.2.1,h1,h.2.2⟩,λh=>⟨h.1,h.2.1,h.2.2.2⟩⟩⟩
  ·rw[if_neg h0]at h;by_cases h1:0<c.1
   ·rw[if_pos h1]at h;obtain⟨g1,g2,g3,g4⟩:=A2k h;obtain⟨k1,k2⟩:=A36.1 g1
    exact⟨k1,g2,g3,λa=>by
     rw[g4 a,A4g,A90 h1,A36]
     exact⟨λh=>⟨h.1.1,h.2.1,h.1.2,h.2.2⟩,λh=>⟨⟨h.1,h.2.2.1⟩,h.2.1,h.2.2.2⟩⟩⟩
   ·rw[if_neg h1]at h;have h2:c.1<0:=by grind
    obtain⟨g1,g2,g3,g4⟩:=A2k h;obtain⟨k1,k2⟩:=A7m.1 g2
    exact⟨g1,k1,g3,λa=>by
     rw[g4 a,A4g,B1J h2,A7m]
     exact⟨λh=>⟨h.1,h.2.1.1,h.2.1.2,h.2.2⟩,λh=>⟨h.1,⟨h.2.1,h.2.2.1⟩,h.2.2.2⟩⟩⟩
theorem A30:∀ {l:List Lm} {lo hi:Rat},L9 l lo hi=none->∀a,¬(lo<=a/\a<=hi/\H7 a l=true)
 | [],lo,hi,h,a=>by
  unfold L9 at h;split at h
  ·cases h
  ·rintro⟨g1,g2,-⟩;grind
 | c::t,lo,hi,h,a=>by
  unfold L9 at h;rw[A4g];by_cases h0:c.1=0
  ·rw[if_pos h0]at h;rw[B1c h0];by_cases h1:c.2<0
   ·rintro⟨-,-,h2,-⟩;exact h2 h1
   ·rw[if_neg h1]at h;rintro⟨g1,g2,-,g3⟩;exact A30 h a ⟨g1,g2,g3⟩
  ·rw[if_neg h0]at h;by_cases h1:0<c.1
   ·rw[if_pos h1]at h;rw[A90 h1];rintro⟨g1,g2,g3,g4⟩;exact A30 h a ⟨A36.2 ⟨g1,g3⟩,g2,g4⟩
   ·rw[if_neg h1]at h;have h2:c.1<0:=by grind
    rw[B1J h2];rintro⟨g1,g2,g3,g4⟩;exact A30 h a ⟨g1,A7m.2 ⟨g2,g3⟩,g4⟩
abbrev Pc:=Nat×Rat×Rat
def A1X(LM:Nat->List Lm)(top:Rat)(k:Nat):List Pc:=match L9 (LM k) 0 top with
 | some (lo,hi)=>[(k,lo,hi)]
 | none=>[]
def R0(LM:Nat->List Lm)(top:Rat)(K:Nat):List Pc:=(List.range K).flatMap (A1X LM top)
theorem A3o(LM:Nat->List Lm)(top:Rat)(K:Nat):R0 LM top (K+1)=R0 LM top K++A1X LM top K:=by
 unfold R0;rw[C1G,C15];simp
def H8(LM:Nat->List Lm)(top:Rat)(K:Nat):List Rat:=[0,top]++(R0 LM top K).flatMap λp=>[p.2.1,p.2.2]
theorem A6d(LM:Nat->List Lm)(top:Rat)(K:Nat):H8 LM top (K+1)=H8 LM top K++(A1X LM top K).flatMap λp=>[p.2.1,p.2.2]:=by
 unfold H8;rw[A3o,C15,C0b]
theorem A2p{LM:Nat->List Lm}{top:Rat}{K:Nat}{p:Pc}:p∈R0 LM top K↔p.1<K/\L9 (LM p.1) 0 top=some (p.2.1,p.2.2):=by
 unfold R0;rw[List.mem_flatMap];constructor
 ·rintro⟨k,hk,hp⟩;have hk:=List.mem_range.1 hk;unfold A1X at hp;split at hp
  ·rename_i lo hi e;rw[List.mem_singleton]at hp;subst hp;exact⟨hk,e⟩
  ·cases hp
 ·rintro⟨h1,h2⟩;refine⟨p.1,List.mem_range.2 h1,?_⟩;unfold A1X;rw[h2];exact List.mem_singleton.2 rfl
def A1V(l:List Pc)(a:Rat):Option Pc:=l.find? λp=>decide (p.2.1<=a)&&decide (a<=p.2.2)
theorem A8q{LM:Nat->List Lm}{top a:Rat}{K:Nat}{p:Pc}(h:A1V (R0 LM top K) a=some p):p.1<K/\0<=a/\a<=top/\H7 a (LM p.1)=true:=by
 have h1:=List.mem_of_find?_eq_some h;have h2:=List.find?_some h;rw[Bool.and_eq_true,C2T,C2T]at h2;obtain⟨h3,h4⟩:=A2p.1 h1;obtain⟨-,-,-,g4⟩:=A2k h4;obtain⟨k1,k2,k3⟩:=(g4 a).1 h2;exact⟨h3,k1,k2,k3⟩
theorem B44{LM:Nat->List Lm}{top a:Rat}{K k:Nat}(h0:0<=a)(h1:a<=top)(hk:k<K)(hh:H7 a (LM k)=true):∃p,A1V (R0 LM top K) a=some p:=by
 cases hb:L9 (LM k) 0 top with
 | none=>exact absurd ⟨h0,h1,hh⟩ (A30 hb a)
 | some q =>
  obtain⟨lo,hi⟩:=q;obtain⟨-,-,-,g4⟩:=A2k hb;obtain⟨k1,k2⟩:=(g4 a).2 ⟨h0,h1,hh⟩
  cases hf:A1V (R0 LM top K) a with
  | some p=>exact⟨p,rfl⟩
  | none =>
   have h5:=List.find?_eq_none.1 hf (k,lo,hi) (A2p.2 ⟨hk,hb⟩);simp[k1,k2]at h5
def R4(l:List Rat)(i:Nat):Bool:=decide (i=0)||decide (gq l i≠gq l (i-1))
def H9(l:List Rat)(i:Nat):List Rat:=((List.range i).filter (R4 l)).map (gq l)
theorem A5v(l:List Rat)(i:Nat):H9 l (i+1)=if R4 l i then H9 l i++[gq l i]else H9 l i:=by
 unfold H9;rw[C1G,List.filter_append,List.map_append];by_cases h:R4 l i=true
 ·rw[if_pos h];simp[h]
 ·rw[if_neg h];simp[h]
theorem A4Y(l:List Rat)(i:Nat):(H9 l i).length<=i:=by
 unfold H9;rw[List.length_map];have:=C2S (R4 l) (List.range i)
 simpa using this
theorem B0S{l:List Rat}(h:l.Pairwise (· <= ·)){i j:Nat}(hij:i<=j)(hj:j<l.length):gq l i<=gq l j:=by
 rcases C17 hij with e|e
 ·rw[e];exact C2E
 ·have h1:=List.pairwise_iff_getElem.1 h i j (by omega) hj e;unfold gq;rw[C0f (by omega),C0f hj];exact h1
theorem B7m{l:List Rat}(h:l.Pairwise (· <= ·)):(H9 l l.length).Pairwise (· < ·):=by
 unfold H9;rw[List.pairwise_map];have h1:((List.range l.length).filter (R4 l)).Pairwise (λi j=>i<j/\j<l.length/\R4 l j=true):=by
  have h2:(List.range l.length).Pairwise (λi j=>i<j/\j<l.length):=List.Pairwise.imp_of_mem (λ_ hb h=>⟨h,List.mem_range.1 hb⟩) List.pairwise_lt_range;refine List.Pairwise.imp_of_mem (λ_ hb h=>⟨h.1,h.2,(List.mem_filter.1 hb).2⟩) (List.Pairwise.filter _ h2)
 refine h1.imp fun {i j} ⟨g1,g2,g3⟩=>?_;unfold R4 at g3;rw[Bool.or_eq_true,C2T,C2T]at g3;rcases g3 with g3|g3
 ·omega
 ·have k1:=B0S h (i:=i) (j:=j-1) (by omega) (by omega);have k2:=B0S h (i:=j-1) (j:=j) (by omega) g2;grind
theorem B1h{l:List Rat}{x:Rat}:x∈H9 l l.length↔x∈l:=by
 unfold H9;rw[List.mem_map];constructor
 ·rintro⟨i,hi,rfl⟩;have hi:=List.mem_range.1 (List.mem_filter.1 hi).1;unfold gq;rw[C0f hi];exact C0D hi
 ·intro hx;obtain⟨i,hi,e⟩:=C1t hx;have key:∀i,i<l.length->gq l i=x->∃j,j∈(List.range l.length).filter (R4 l)/\gq l j=x:=by
   intro i
   induction i with
   | zero=>exact λh1 h2=>⟨0,List.mem_filter.2 ⟨List.mem_range.2 h1,rfl⟩,h2⟩
   | succ i ih =>
    intro h1 h2;by_cases h3:R4 l (i+1)=true
    ·exact⟨i+1,List.mem_filter.2 ⟨List.mem_range.2 h1,h3⟩,h2⟩
    ·unfold R4 at h3;rw[Bool.or_eq_true,C2T,C2T]at h3;have h4:gq l (i+1)=gq l i:=Decidable.not_not.1 λh=>h3 (.inr h);exact ih (by omega) (by rw[<-h4];exact h2)
  exact key i hi (by unfold gq;rw[C0f hi,e];rfl)
def knX(l:List Kn)(i:Nat):Kn:=l.getD i (0,[])
def P9(l:List Kn)(m i:Nat):Bool:=decide (i=0)||decide (l.length<=i+1)||decide (I6 (knX l (i-1)) (knX l i) m≠I6 (knX l i) (knX l (i+1)) m)
def L6(l:List Kn)(m n:Nat):List Nat:=(List.range n).filter (P9 l m)
def N5(l:List Kn)(m n:Nat):List Kn:=(L6 l m n).map (knX l)
theorem A33(l:List Kn)(m n:Nat):(L6 l m n).Pairwise (· < ·):=List.Pairwise.filter _ List.pairwise_lt_range
theorem A1A{l:List Kn}{m n i:Nat}:i∈L6 l m n↔i<n/\P9 l m i=true:=by
 unfold L6;rw[List.mem_filter,List.mem_range]
theorem A3g{U:List Nat}(hU:U.Pairwise (· < ·)){i j:Nat}(hij:i<j)(hj:j<U.length):nx U i<nx U j:=by
 have h1:=List.pairwise_iff_getElem.1 hU i j (by omega) hj hij;unfold nx;rw[C0f (by omega),C0f hj];exact h1
theorem A9z{U:List Nat}(hU:U.Pairwise (· < ·)){i j:Nat}(hi:i<U.length)(hj:j<U.length)(h:nx U i<nx U j):i<j:=by
 rcases C02 i j with h1|h1|h1
 ·exact h1
 ·rw[h1]at h;omega
 ·have:=A3g hU h1 hi;omega
theorem B4i{l:List Kn}{m n t i:Nat}(ht:t+1<(L6 l m n).length)(h1:nx (L6 l m n) t<i)(h2:i<nx (L6 l m n) (t+1)):P9 l m i=false:=by
 cases hb:P9 l m i
 ·rfl
 ·have hn:=(A1A.1 (N3 ht)).1;obtain⟨k,hk,e⟩:=A4E (A1A.2 ⟨show i<n by omega,hb⟩);have hs:=A33 l m n;rw[<-e]at h1 h2;have k1:=A9z hs (by omega) hk h1;have k2:=A9z hs hk ht h2;omega
theorem A4G{l:List Kn}{m n:Nat}(hn:1<=n):1<=(L6 l m n).length/\nx (L6 l m n) 0=0:=by
 obtain⟨k,hk,e⟩:=A4E (A1A.2 ⟨show 0<n by omega,show P9 l m 0=true from rfl⟩);refine⟨by omega,?_⟩;rcases C0J k with h|h
 ·rw[h]at e;exact e
 ·have:=A3g (A33 l m n) h hk;omega
theorem B3u{l:List Kn}{m:Nat}(hn:1<=l.length):nx (L6 l m l.length) ((L6 l m l.length).length-1)=l.length-1:=by
 have hb:P9 l m (l.length-1)=true:=by
  unfold P9;rw[C04 (show l.length<=l.length-1+1 by omega)];simp
 obtain⟨k,hk,e⟩:=A4E (A1A.2 ⟨show l.length-1<l.length by omega,hb⟩);rcases B90 k ((L6 l m l.length).length-1)with h|h
 ·have h1:=A3g (A33 l m l.length) h (by omega);have h2:=(A1A.1 (N3 (l:=L6 l m l.length) (i:=(L6 l m l.length).length-1) (by omega))).1;omega
 ·rw[show(L6 l m l.length).length-1=k by omega];exact e
theorem A96(l:List Kn)(m n:Nat):(N5 l m n).length=(L6 l m n).length:=by unfold N5;rw[List.length_map]
theorem A5P{l:List Kn}{m n t:Nat}(ht:t<(L6 l m n).length):knQ (N5 l m n) t=knQ l (nx (L6 l m n) t)/\knW (N5 l m n) t=knW l (nx (L6 l m n) t):=by
 have e:(N5 l m n)[t]?=some (knX l (nx (L6 l m n) t)):=by
  unfold N5 nx;rw[List.getElem?_map,C0f ht];rfl
 unfold knQ knW;rw[e];exact⟨rfl,rfl⟩
structure Straight(l:List Kn)(m:Nat)(f:Rat->Nat->Rat):Prop where
 is:∀i,i<l.length->∀j,j<m->gq (knW l i) j=f (knQ l i) j
 falls:∀i,i+1<l.length->knQ l (i+1)<knQ l i
 way:∀i,i+1<l.length->∀s,knQ l (i+1)<=s->s<=knQ l i->∀j,j<m->f s j=f (knQ l (i+1)) j+gq (I6 (knX l i) (knX l (i+1)) m) j*(s-knQ l (i+1))
section
variable {l:List Kn} {m:Nat} {f:Rat->Nat->Rat} (H:Straight l m f)
include H
theorem A8S{i j:Nat}(hij:i<=j)(hj:j<l.length):knQ l j<=knQ l i:=by
 induction j with
 | zero=>rw[show i=0 by omega];exact C2E
 | succ j ih =>
  rcases C17 hij with e|e
  ·rw[e];exact C2E
  ·have h1:=ih (by omega) (by omega);have h2:=H.falls j hj;grind
theorem B0y{i j:Nat}(hij:i<j)(hj:j<l.length):knQ l j<knQ l i:=by
 have h1:=A8S H (i:=i+1) (j:=j) hij hj;have h2:=H.falls i (by omega);grind
omit H in
theorem B9j{u:Nat}:∀v,u<v->v<l.length->(∀i,u<i->i<v->P9 l m i=false)->∀i,u<=i->i<v->I6 (knX l i) (knX l (i+1)) m=I6 (knX l u) (knX l (u+1)) m:=by
 intro v huv hv hb i
 induction i with
 | zero=>intro h1 _;rw[show u=0 by omega]
 | succ i ih =>
  intro h1 h2;rcases C17 h1 with e|e
  ·rw[e]
  ·have h3:=ih (by omega) (by omega);have h4:=hb (i+1) (by omega) h2;unfold P9 at h4;rw[Bool.or_eq_false_iff,Bool.or_eq_false_iff,decide_eq_false_iff_not,decide_eq_false_iff_not,decide_eq_false_iff_not]at h4;have h5:=Decidable.not_not.1 h4.2;rw[show i+1-1=i by omega]at h5;rw[<-h5,h3]
theorem B1R{u:Nat}:∀v,u<v->v<l.length->(∀i,u<i->i<v->P9 l m i=false)->∀s,knQ l v<=s->s<=knQ l u->∀j,j<m->f s j=f (knQ l v) j+gq (I6 (knX l u) (knX l (u+1)) m) j*(s-knQ l v):=by
 intro v
 induction v with
 | zero=>intro h;exact absurd h (C2D _)
 | succ v ih =>
  intro huv hv hb s h1 h2 j hj;have hs:=B9j (v+1) huv hv hb v (by omega) (by omega);rcases C17 (show u<=v by omega)with e|e
  ·subst e;exact H.way u hv s h1 h2 j hj
  ·have hw:=H.way v hv;rcases (C1X:s<=knQ l v\/knQ l v<=s)with h3|h3
   ·rw[<-hs];exact hw s h1 h3 j hj
   ·have k1:=ih e (by omega) (λi g1 g2=>hb i g1 (by omega)) s h3 h2 j hj;have k2:=hw (knQ l v) (Rat.le_of_lt (H.falls v hv)) C2E j hj;rw[hs]at k2;rw[k1,k2];grind
theorem B8e{u v:Nat}(huv:u<v)(hv:v<l.length)(hb:∀i,u<i->i<v->P9 l m i=false){j:Nat}(hj:j<m):gq (I6 (knX l u) (knX l v) m) j=gq (I6 (knX l u) (knX l (u+1)) m) j:=by
 have h1:=B1R H v huv hv hb (knQ l u) (A8S H (B98 huv) hv) C2E j hj;have h2:=B0y H huv hv;rw[show gq (I6 (knX l u) (knX l v) m) j=G9 (D3 (gq (knW l v) j) (gq (knW l u) j)) (D3 (knQ l v) (knQ l u))from Q5 _ hj,H.is v hv j hj,H.is u (by omega) j hj,h1];unfold G9 D3;obtain⟨x,hx⟩:∃x,x=gq (I6 (knX l u) (knX l (u+1)) m) j:=⟨_,rfl⟩
 rw[<-hx];have h3:knQ l v-knQ l u≠0:=λe=>by grind
 have e1:=C2H (a:=f (knQ l v) j-(f (knQ l v) j+x*(knQ l u-knQ l v))) h3;have e2:((f (knQ l v) j-(f (knQ l v) j+x*(knQ l u-knQ l v)))/(knQ l v-knQ l u)-x)*(knQ l v-knQ l u)=0:=by grind
 rcases Rat.mul_eq_zero.1 e2 with e3|e3
 ·grind
 ·exact absurd e3 h3
theorem B8U(hn:1<=l.length){s:Rat}(hW:∀i,i<l.length->(knW l i).length=m)(sh:ShapeK (N5 l m l.length))(od:OrderK (N5 l m l.length))(h0:0<=s)(htop:∀j,j<m->knQ l 0<=s->f s j=f (knQ l 0) j) :
  (A3Q (N5 l m l.length) s).length=m/\∀j,j<m->gq (A3Q (N5 l m l.length) s) j=f s j:=by
 obtain⟨K1,K2,K3⟩:=A9V sh od h0;have hm0:(knW (N5 l m l.length) 0).length=m:=by
  rw[(A5P (by have:=(A4G (l:=l) (m:=m) hn).1;omega)).2];exact hW _ (A1A.1 (N3 (by have:=(A4G (l:=l) (m:=m) hn).1;omega))).1
 have hlen:=A96 l m l.length;obtain⟨z1,z2⟩:=A4G (l:=l) (m:=m) hn;unfold A3Q;rw[hm0];obtain⟨K,hK⟩:∃K,K=atI (N5 l m l.length) s:=⟨_,rfl⟩
 rw[<-hK]at K1 K2 K3⊢;rw[hlen]at K1;have hv:=(A1A.1 (N3 K1)).1;obtain⟨b1,b2⟩:=A5P (l:=l) (m:=m) (n:=l.length) K1;by_cases hc:K=0\/s=knQ (N5 l m l.length) K
 ·rw[if_pos hc,b2];refine⟨hW _ hv,λj hj=>?_⟩;rw[H.is _ hv j hj];rcases hc with hc|hc
  ·rw[hc,z2];refine(htop j hj ?_).symm;rw[b1,hc,z2]at K3;grind
  ·rw[hc,b1]
 ·rw[if_neg hc];refine⟨by simp,λj hj=>?_⟩;have hK0:K≠0:=λe=>hc (.inl e);have K1':K-1<(L6 l m l.length).length:=by omega
  obtain⟨c1,c2⟩:=A5P (l:=l) (m:=m) (n:=l.length) K1';rw[Q5 _ hj];obtain⟨u,hu⟩:∃u,u=nx (L6 l m l.length) (K-1):=⟨_,rfl⟩
  obtain⟨v,hve⟩:∃v,v=nx (L6 l m l.length) K:=⟨_,rfl⟩
  rw[<-hve]at hv b1 b2;rw[<-hu]at c1 c2;have huv:u<v:=by rw[hu,hve];exact A3g (A33 l m l.length) (by omega) K1
  have hb:∀i,u<i->i<v->P9 l m i=false:=λi g1 g2=>B4i (n:=l.length) (t:=K-1) (by omega) (by rw[<-hu];exact g1) (by rw[show K-1+1=K by omega,<-hve];exact g2);have e1:(N5 l m l.length).getD (K-1) (0,[])=knX l u:=by
   show(knQ (N5 l m l.length) (K-1),knW (N5 l m l.length) (K-1))=_;rw[c1,c2];rfl
  have e2:(N5 l m l.length).getD K (0,[])=knX l v:=by
   show(knQ (N5 l m l.length) K,knW (N5 l m l.length) K)=_;rw[b1,b2];rfl
  rw[e1,e2,B8e H huv hv hb hj,b1,b2,H.is v hv j hj];have k1:knQ l v<=s:=by
   rw[b1]at K3;grind
  have k2:s<=knQ l u:=by
   have:=K2 (K-1) (by omega);rw[c1]at this;exact Rat.le_of_lt this
  rw[B1R H v huv hv hb s k1 k2 j hj];rfl
end
def I4(l:List Rat):List Rat:=(H9 (W5 l) (W5 l).length).reverse
theorem A0H{l:List Rat}{x:Rat}:x∈I4 l↔x∈l:=by
 unfold I4;rw[List.mem_reverse,B1h,(A2Z l).mem_iff]
theorem B32(l:List Rat):(I4 l).Pairwise (λa b=>b<a):=by
 unfold I4;rw[List.pairwise_reverse];exact B7m (A9E l)
theorem A7q{l:List Rat}{i j:Nat}(hij:i<j)(hj:j<(I4 l).length):gq (I4 l) j<gq (I4 l) i:=by
 have h1:=List.pairwise_iff_getElem.1 (B32 l) i j (by omega) hj hij;unfold gq;rw[C0f (show i<(I4 l).length by omega),C0f hj];exact h1
theorem A3F{l:List Rat}{i j:Nat}(hij:i<=j)(hj:j<(I4 l).length):gq (I4 l) j<=gq (I4 l) i:=by
 rcases C17 hij with e|e
 ·rw[e];exact C2E
 ·exact Rat.le_of_lt (A7q e hj)
theorem A1t{l:List Rat}{i:Nat}(h:i<l.length):gq l i∈l:=by
 unfold gq;rw[C0f h];exact C0D h
theorem A5q{l:List Rat}{x:Rat}(h:x∈l):∃i,i<l.length/\gq l i=x:=by
 obtain⟨i,hi,e⟩:=C1t h;exact⟨i,hi,by unfold gq;rw[C0f hi];exact e⟩
theorem B9N{l:List Rat}{top:Rat}(h0:(0:Rat)∈l)(h1:top∈l)(hb:∀x∈l,0<=x/\x<=top):1<=(I4 l).length/\gq (I4 l) 0=top/\gq (I4 l) ((I4 l).length-1)=0:=by
 obtain⟨i,hi,ei⟩:=A5q (A0H.2 h0);obtain⟨j,hj,ej⟩:=A5q (A0H.2 h1);refine⟨by omega,?_,?_⟩
 ·have k1:=A3F (l:=l) (C0h j) hj;have k2:=(hb _ (A0H.1 (A1t (l:=I4 l) (i:=0) (by omega)))).2;grind
 ·have k1:=A3F (l:=l) (show i<=(I4 l).length-1 by omega) (by omega);have k2:=(hb _ (A0H.1 (A1t (l:=I4 l) (i:=(I4 l).length-1) (by omega)))).1;grind
def H4(X:List (List Rat))(y:List Rat)(N L:Nat):List Kn:=(I4 (H8 (I0 X y N L) (I9 X y N L) (3^L))).map λa=>(a,J6 X y N L a)
def J5(X:List (List Rat))(y:List Rat)(N L:Nat):List Kn:=N5 (H4 X y N L) L (H4 X y N L).length
theorem B11(p:List Rat):∀n,0<=X6 p n/\(∀j,j<n->G7 (gq p j)<=X6 p n)/\∀x,0<=x->(∀j,j<n->G7 (gq p j)<=x)->X6 p n<=x
 | 0=>⟨C2E,λj hj=>absurd hj (C2D _),λx hx _=>hx⟩
 | n+1=>by
  obtain⟨h1,h2,h3⟩:=B11 p n;have hm:X6 p n<=X6 p (n+1)/\Q0 (gq p n)<=X6 p (n+1):=A36.1 (C2E:V5 (X6 p n) (Q0 (gq p n))<=X6 p (n+1));rw[A3E]at hm;refine⟨C2F h1 hm.1,λj hj=>?_,λx hx hj=>?_⟩
  ·by_cases e:j=n
   ·rw[e];exact hm.2
   ·exact C2F (h2 j (by omega)) hm.1
  ·exact A36.2 ⟨h3 x hx λj hj'=>hj j (by omega),by rw[A3E];exact hj n (by omega)⟩
theorem B0p(X:List (List Rat))(y:List Rat)(N L:Nat){j:Nat}(hj:j<L):gq (W4 X y (U5 L) N L) j=gq (H5 X y N L) j:=by
 rw[A7n X y (U5 L) N L hj];have e:C6 (K5 X N j) (gq (U5 L)) L=0:=A00 λk _=>by rw[A8Q];grind
 rw[e];grind
theorem B18(X:List (List Rat))(y:List Rat)(N L:Nat):0<=I9 X y N L/\∀j,j<L->G7 (gq (H5 X y N L) j)<=I9 X y N L:=by
 obtain⟨h1,h2,-⟩:=B11 (W4 X y (U5 L) N L) L;exact⟨h1,λj hj=>by rw[<-B0p X y N L hj];exact h2 j hj⟩
section
variable {X:List (List Rat)} {y:List Rat} {N L:Nat} (hF:A13 X N L)
include hF
theorem A6X{s:Rat}(hs:I9 X y N L<=s):∀i,i<L->gq (J6 X y N L s) i=0:=λi hi=>by
 obtain⟨h1,h2⟩:=B18 X y N L;have hk:Kkt (K5 X N) L (gq (H5 X y N L)) s (λ_=>0):=λj hj=>by
  have e:C6 (K5 X N j) (λ_=>0) L=0:=A00 λk _=>by grind
  rw[e];refine B0U (.inr (.inr ⟨rfl,?_⟩));have h3:=h2 j hj;rw[show gq (H5 X y N L) j-0=gq (H5 X y N L) j by grind];grind
 exact(A7s hF y (by grind) hk i hi).symm
theorem A9j{s:Rat}(h0:0<=s){k:Nat}(hh:H7 s (I0 X y N L k)=true):A1T X y N L s k=J6 X y N L s :=
 A5I (n:=L) (by unfold A1T J9;simp) (A12 _ _ _ _ _) λi hi=>A7s hF y h0 (A9S (A4q L k) h0 (A7D hF y s k) ((A7h y s k).1 hh)) i hi
omit hF in
theorem A3p{x:Rat}(h:x∈H8 (I0 X y N L) (I9 X y N L) (3^L)):0<=x/\x<=I9 X y N L:=by
 have ht:=(B18 X y N L).1;unfold H8 at h;rcases List.mem_append.1 h with h|h
 ·simp only[List.mem_cons,List.not_mem_nil,or_false]at h;rcases h with rfl|rfl
  ·exact⟨C2E,ht⟩
  ·exact⟨ht,C2E⟩
 ·obtain⟨p,hp,hx⟩:=List.mem_flatMap.1 h;obtain⟨-,hb⟩:=A2p.1 hp;obtain⟨g1,g2,g3,-⟩:=A2k hb;simp only[List.mem_cons,List.not_mem_nil,or_false]at hx;rcases hx with rfl|rfl
  ·exact⟨g1,C2F g3 g2⟩
  ·exact⟨C2F g1 g3,g2⟩
omit hF in
theorem A37:1<=(I4 (H8 (I0 X y N L) (I9 X y N L) (3^L))).length/\gq (I4 (H8 (I0 X y N L) (I9 X y N L) (3^L))) 0=I9 X y N L/\gq (I4 (H8 (I0 X y N L) (I9 X y N L) (3^L))) ((I4 (H8 (I0 X y N L) (I9 X y N L) (3^L))).length-1)=0 :=
 B9N (by unfold H8;simp) (by unfold H8;simp) λx hx=>A3p hx
omit hF in
theorem A0x:(H4 X y N L).length=(I4 (H8 (I0 X y N L) (I9 X y N L) (3^L))).length:=by unfold H4;rw[List.length_map]
omit hF in
theorem A06{i:Nat}(h:i<(H4 X y N L).length):knQ (H4 X y N L) i=gq (I4 (H8 (I0 X y N L) (I9 X y N L) (3^L))) i/\knW (H4 X y N L) i=J6 X y N L (gq (I4 (H8 (I0 X y N L) (I9 X y N L) (3^L))) i):=by
 have h':=h;rw[A0x]at h';have e:(H4 X y N L)[i]?=some (gq (I4 (H8 (I0 X y N L) (I9 X y N L) (3^L))) i,J6 X y N L (gq (I4 (H8 (I0 X y N L) (I9 X y N L) (3^L))) i)):=by
  unfold H4 gq;rw[List.getElem?_map,C0f h'];rfl
 unfold knQ knW;rw[e];exact⟨rfl,rfl⟩
theorem B0G:Straight (H4 X y N L) L (λs j=>gq (J6 X y N L s) j):=by
 refine⟨λi hi j hj=>?_,λi hi=>?_,λi hi s h1 h2 j hj=>?_⟩
 ·obtain⟨e1,e2⟩:=A06 hi;rw[e2,e1]
 ·rw[(A06 hi).1,(A06 (show i<(H4 X y N L).length by omega)).1];rw[A0x]at hi;exact A7q (C2I i) hi
 ·obtain⟨a1,a2⟩:=A06 (X:=X) (y:=y) (N:=N) (L:=L) (show i<(H4 X y N L).length by omega);obtain⟨b1,b2⟩:=A06 hi;have hlen:=A0x (X:=X) (y:=y) (N:=N) (L:=L);obtain⟨P,hP⟩:∃P,P=H8 (I0 X y N L) (I9 X y N L) (3^L):=⟨_,rfl⟩
  rw[<-hP]at a1 a2 b1 b2 hlen;obtain⟨A,hA⟩:∃A,A=gq (I4 P) i:=⟨_,rfl⟩
  obtain⟨B,hB⟩:∃B,B=gq (I4 P) (i+1):=⟨_,rfl⟩
  rw[<-hA]at a1 a2;rw[<-hB]at b1 b2;rw[b1]at h1⊢;rw[a1]at h2;have hBA:B<A:=by rw[hA,hB];exact A7q (C2I i) (by omega)
  have hAm:A∈P:=by rw[hA];exact A0H.1 (A1t (by omega))
  have hBm:B∈P:=by rw[hB];exact A0H.1 (A1t (by omega))
  have hA1:=A3p (hP ▸ hAm);have hB1:=A3p (hP ▸ hBm);obtain⟨mid,hmid⟩:∃m,m=(A+B)/2:=⟨_,rfl⟩
  have hm2:mid*2=A+B:=by rw[hmid];exact C2H (by decide)
  have hmA:mid<A:=by grind
  have hmB:B<mid:=by grind
  obtain⟨k1,k2,-⟩:=A5Z hF y mid;obtain⟨k,hk⟩:∃k,k=S6 X y N L mid:=⟨_,rfl⟩
  rw[<-hk]at k1 k2;have hreach:H7 A (I0 X y N L k)=true/\H7 B (I0 X y N L k)=true/\H7 s (I0 X y N L k)=true:=by
   cases hb:L9 (I0 X y N L k) 0 (I9 X y N L)with
   | none=>exact absurd ⟨by grind,by grind,k2⟩ (A30 hb mid)
   | some q =>
    obtain⟨lo,hi'⟩:=q;obtain⟨g1,g2,g3,g4⟩:=A2k hb;obtain⟨m1,m2⟩:=(g4 mid).2 ⟨by grind,by grind,k2⟩;have hp:(k,lo,hi')∈R0 (I0 X y N L) (I9 X y N L) (3^L):=A2p.2 ⟨k1,hb⟩;have hlo:lo∈P:=by
     rw[hP];unfold H8;exact List.mem_append.2 (.inr (List.mem_flatMap.2 ⟨_,hp,by simp⟩))
    have hhi:hi'∈P:=by
     rw[hP];unfold H8;exact List.mem_append.2 (.inr (List.mem_flatMap.2 ⟨_,hp,by simp⟩))
    have hloB:lo<=B:=by
     obtain⟨t,ht,et⟩:=A5q (A0H.2 hlo);rcases B90 i t with h|h
     ·have:=A3F (l:=P) (show i+1<=t by omega) ht;rw[<-hB,et]at this;exact this
     ·have:=A3F (l:=P) h (by omega);rw[<-hA,et]at this;grind
    have hhiA:A<=hi':=by
     obtain⟨t,ht,et⟩:=A5q (A0H.2 hhi);rcases B90 i t with h|h
     ·have:=A3F (l:=P) (show i+1<=t by omega) ht;rw[<-hB,et]at this;grind
     ·have:=A3F (l:=P) h (by omega);rw[<-hA,et]at this;exact this
    exact⟨((g4 A).1 ⟨by grind,hhiA⟩).2.2,((g4 B).1 ⟨hloB,by grind⟩).2.2,((g4 s).1 ⟨by grind,by grind⟩).2.2⟩
  have hw:∀x,0<=x->H7 x (I0 X y N L k)=true->gq (J6 X y N L x) j=gq (O0 X y N L k) j+gq (O6 X N L k) j*x:=λx hx hh=>by
   rw[<-A9j hF hx hh];exact Q5 _ hj
  rw[hw s (by grind) hreach.2.2,hw B hB1.1 hreach.2.1];rw[show gq (I6 (knX (H4 X y N L) i) (knX (H4 X y N L) (i+1)) L) j=G9 (D3 (gq (knW (H4 X y N L) (i+1)) j) (gq (knW (H4 X y N L) i) j)) (D3 (knQ (H4 X y N L) (i+1)) (knQ (H4 X y N L) i))from Q5 _ hj];rw[a1,a2,b1,b2,hw A hA1.1 hreach.1,hw B hB1.1 hreach.2.1];unfold G9 D3;have h3:B-A≠0:=λe=>by grind
  obtain⟨F,hF'⟩:∃F,F=gq (O0 X y N L k) j:=⟨_,rfl⟩
  obtain⟨C,hC⟩:∃C,C=gq (O6 X N L k) j:=⟨_,rfl⟩
  rw[<-hF',<-hC];have e1:=C2H (a:=F+C*B-(F+C*A)) h3;obtain⟨z,hz⟩:∃z,z=(F+C*B-(F+C*A))/(B-A):=⟨_,rfl⟩
  rw[<-hz]at e1⊢;have e2:(z-C)*(B-A)=0:=by grind
  rcases Rat.mul_eq_zero.1 e2 with e3|e3
  ·have:z=C:=by grind
   rw[this];grind
  ·exact absurd e3 h3
omit hF in
theorem B3V{i:Nat}(h:i<(H4 X y N L).length):(knW (H4 X y N L) i).length=L:=by
 rw[(A06 h).2];exact A12 _ _ _ _ _
end
theorem B9e(LM:Nat->List Lm)(top:Rat)(k:Nat):(A1X LM top k).length<=1:=by
 unfold A1X;split<;>simp
theorem A32(LM:Nat->List Lm)(top:Rat):∀K,(R0 LM top K).length<=K
 | 0=>by simp[R0]
 | K+1=>by
  rw[A3o,List.length_append];have:=A32 LM top K;have:=B9e LM top K;omega
theorem A5L(LM:Nat->List Lm)(top:Rat):∀K,(H8 LM top K).length=2+2*(R0 LM top K).length
 | 0=>by simp[H8,R0]
 | K+1=>by
  rw[A6d,A3o,List.length_append,List.length_append,A5L LM top K];unfold A1X;split<;>simp<;>omega
theorem B4Z(l:List Rat):(I4 l).length<=l.length:=by
 unfold I4;rw[C0v];have:=A4Y (W5 l) (W5 l).length;rw[(A2Z l).length_eq]at this;rw[(A2Z l).length_eq];exact this
theorem B3Z{X:List (List Rat)}{y:List Rat}{N L:Nat}(hL:L<=5):(H4 X y N L).length<=1000:=by
 rw[A0x];have h1:=B4Z (H8 (I0 X y N L) (I9 X y N L) (3^L));rw[A5L]at h1;have h2:=A32 (I0 X y N L) (I9 X y N L) (3^L);have h3:3^L<=3^5:=C0W (by omega) hL;omega
section
variable {X:List (List Rat)} {y:List Rat} {N L:Nat} (hF:A13 X N L)
theorem A40:1<=(J5 X y N L).length/\(J5 X y N L).length<=(H4 X y N L).length/\(J5 X y N L).length=(L6 (H4 X y N L) L (H4 X y N L).length).length:=by
 have h1:=(A37 (X:=X) (y:=y) (N:=N) (L:=L)).1;rw[<-A0x]at h1;have h2:=(A4G (l:=H4 X y N L) (m:=L) h1).1;have h3:=A96 (H4 X y N L) L (H4 X y N L).length;unfold J5;refine⟨by omega,?_,h3⟩;rw[h3];unfold L6;have:=C2S (P9 (H4 X y N L) L) (List.range (H4 X y N L).length)
 simpa using this
theorem A1k{t:Nat}(ht:t<(J5 X y N L).length):∃i,i<(H4 X y N L).length/\i=nx (L6 (H4 X y N L) L (H4 X y N L).length) t/\knQ (J5 X y N L) t=knQ (H4 X y N L) i/\knW (J5 X y N L) t=J6 X y N L (knQ (J5 X y N L) t)/\0<=knQ (J5 X y N L) t:=by
 have ht':=ht;rw[A40.2.2]at ht';have hi:=(A1A.1 (N3 ht')).1;obtain⟨e1,e2⟩:=A5P (l:=H4 X y N L) (m:=L) (n:=(H4 X y N L).length) ht';obtain⟨k1,k2⟩:=A06 hi;refine⟨_,hi,rfl,e1,?_,?_⟩
 ·show knW (J5 X y N L) t=_;unfold J5;rw[e2,k2,e1,k1]
 ·show 0<=knQ (J5 X y N L) t;unfold J5;rw[e1,k1];exact(A3p (A0H.1 (A1t (by rw[<-A0x];exact hi)))).1
theorem B1D:knQ (J5 X y N L) 0=I9 X y N L/\knQ (J5 X y N L) ((J5 X y N L).length-1)=0:=by
 have h1:=A37 (X:=X) (y:=y) (N:=N) (L:=L);have hn:1<=(H4 X y N L).length:=by rw[A0x];exact h1.1
 have h2:=A4G (l:=H4 X y N L) (m:=L) hn;have h3:=B3u (l:=H4 X y N L) (m:=L) hn;have h4:=A40 (X:=X) (y:=y) (N:=N) (L:=L);obtain⟨i,hi,ei,e1,-⟩:=A1k (X:=X) (y:=y) (N:=N) (L:=L) (t:=0) (by omega);obtain⟨j,hj,ej,f1,-⟩:=A1k (X:=X) (y:=y) (N:=N) (L:=L) (t:=(J5 X y N L).length-1) (by omega);rw[h2.2]at ei;rw[h4.2.2,h3]at ej;refine⟨by rw[e1,ei,(A06 (by omega)).1];exact h1.2.1,?_⟩;rw[f1,ej,(A06 (by omega)).1,A0x];exact h1.2.2
include hF
theorem B1j(hL1:1<=L)(hL:L<=5):ShapeK (J5 X y N L)/\OrderK (J5 X y N L):=by
 have h4:=A40 (X:=X) (y:=y) (N:=N) (L:=L);have hw:∀i,i<(J5 X y N L).length->(knW (J5 X y N L) i).length=L:=λi hi=>by
  obtain⟨-,-,-,-,e,-⟩:=A1k hi;rw[e];exact A12 _ _ _ _ _
 have hw0:=hw 0 (by omega);refine⟨⟨h4.1,C0H h4.2.1 (B3Z hL),by omega,by omega,λi hi=>by rw[hw i hi,hw0]⟩,λj hj=>?_,λi h1 h2=>?_,B1D.2⟩
 ·obtain⟨-,-,-,-,e,-⟩:=A1k (X:=X) (y:=y) (N:=N) (L:=L) (t:=0) (by omega);rw[e,B1D.1];exact A6X hF C2E j (by omega)
 ·obtain⟨u,hu,eu,e1,-⟩:=A1k (X:=X) (y:=y) (N:=N) (L:=L) (t:=i-1) (by omega);obtain⟨v,hv,ev,e2,-⟩:=A1k h2;rw[e1,e2];refine B0y (B0G hF) ?_ hv;rw[eu,ev];exact A3g (A33 _ _ _) (by omega) (by rw[<-h4.2.2];exact h2)
theorem B3h(hL1:1<=L)(hL:L<=5){s:Rat}(hs:0<=s):A3Q (J5 X y N L) s=J6 X y N L s:=by
 obtain⟨sh,od⟩:=B1j hF (y:=y) hL1 hL;have hn:1<=(H4 X y N L).length:=by rw[A0x];exact(A37 (X:=X) (y:=y) (N:=N) (L:=L)).1
 obtain⟨h1,h2⟩:=B8U (B0G hF (y:=y)) hn (s:=s) (λi hi=>B3V hi) sh od hs (λj hj h=>by
  rw[(A06 (by omega)).1,(A37 (X:=X) (y:=y) (N:=N) (L:=L)).2.1]at h⊢;show gq (J6 X y N L s) j=gq (J6 X y N L (I9 X y N L)) j
  rw[A6X hF h j hj,A6X hF C2E j hj])
 exact A5I h1 (A12 _ _ _ _ _) h2
end
theorem B13(X:List (List Rat))(y w:List Rat)(N L:Nat)(a:Rat):2*S5 X y w N L a=obj (K5 X N) L (gq (H5 X y N L)) a (gq w)+C5 (λr=>gq y r*gq y r) N:=by
 have e1:E4 (R9 X y w N L) (R9 X y w N L) N=C5 (λr=>gq y r*gq y r+((-2)*(gq y r*C6 (D7 X r) (gq w) L)+C6 (D7 X r) (gq w) L*C6 (D7 X r) (gq w) L)) N:=by
  unfold E4;refine G3 λr hr=>?_;rw[A6p X y w N L hr,A6l w];unfold C9 D3;rw[show E4 (B7 X r) w L=C6 (D7 X r) (gq w) L from rfl];grind
 have e2:lin (gq (H5 X y N L)) (gq w) L=C5 (λr=>gq y r*C6 (D7 X r) (gq w) L) N:=by
  have e3:lin (gq (H5 X y N L)) (gq w) L=C5 (λj=>C5 (λr=>gq y r*(D7 X r j*gq w j)) N) L:=by
   refine G3 λj hj=>?_;rw[show gq (H5 X y N L) j=E4 (I8 X j N) y N from Q5 _ hj,Rat.mul_comm];unfold E4;rw[<-O9];refine G3 λr hr=>?_;rw[A1Y X j N hr];unfold C9;rw[show D7 X r j=gq (B7 X r) j from rfl];grind
  rw[e3,A3O];refine G3 λr _=>?_;unfold C6;rw[<-O9]
 have e4:A1P w L=C5 (λi=>G7 (gq w i)) L:=G3 λi _=>A3E _;unfold S5 obj;rw[e1,e2,e4,A7i,A0b,A0b,O9];unfold G6 C9 G9;have e5:C1 2=2:=rfl;rw[e5];obtain⟨D,hD⟩:∃D,D=C5 (λr=>gq y r*gq y r) N+(-2*C5 (λr=>gq y r*C6 (D7 X r) (gq w) L) N+C5 (λr=>C6 (D7 X r) (gq w) L*C6 (D7 X r) (gq w) L) N):=⟨_,rfl⟩
 rw[<-hD];have e6:D/2*2=D:=C2H (by decide);grind
def knA(F B:Nat->List Rat)(L:Nat)(l:List Pc)(a:Rat):List Kn:=match A1V l a with
 | some p=>[(a,J9 (F p.1) (B p.1) L a)]
 | none=>[]
def A1p(F B:Nat->List Rat)(LM:Nat->List Lm)(top:Rat)(L K:Nat):List Kn:=(I4 (H8 LM top K)).flatMap (knA F B L (R0 LM top K))
theorem B0m{α β:Type}{f:α->List β}{g:α->β}:∀ {l:List α},(∀x∈l,f x=[g x])->l.flatMap f=l.map g
 | [],_=>rfl
 | a::t,h=>by
  rw[List.flatMap_cons,List.map_cons,h a (by simp),B0m λx hx=>h x (by simp[hx])];rfl
theorem B2H{X:List (List Rat)}{y:List Rat}{N L:Nat}(hF:A13 X N L):A1p (O0 X y N L) (O6 X N L) (I0 X y N L) (I9 X y N L) L (3^L)=H4 X y N L:=by
 unfold A1p H4;refine B0m λa ha=>?_;obtain⟨h0,h1⟩:=A3p (A0H.1 ha);obtain⟨k1,k2,-⟩:=A5Z hF y a;obtain⟨p,hp⟩:=B44 h0 h1 k1 k2;obtain⟨g1,-,-,g4⟩:=A8q hp;unfold knA;rw[hp];have:=A9j hF (y:=y) h0 g4;unfold A1T at this;simp only;rw[this]
end Go.Proofs.YtgpglgbcobeogaaGreatDoor
