import Derived.Test.YtgpglgbcobeogaaGreatDoorN42
set_option linter.unusedSimpArgs false
set_option linter.unusedVariables false
namespace Go.Proofs.YtgpglgbcobeogaaGreatDoor
open Go Go.RowKit
def A0W(a b:Rat):Rat:=if b<a then b else a
theorem A3K{a b x:Rat}:R9 a b<=x↔a<=x/\b<=x:=by
 unfold R9;split
 ·constructor
  ·intro h;constructor<;>grind
  ·intro h;exact h.2
 ·constructor
  ·intro h;constructor<;>grind
  ·intro h;exact h.1
theorem A6N{a b x:Rat}:x<=A0W a b↔x<=a/\x<=b:=by
 unfold A0W;split
 ·constructor
  ·intro h;constructor<;>grind
  ·intro h;exact h.2
 ·constructor
  ·intro h;constructor<;>grind
  ·intro h;exact h.1
def K6:List Lm->Rat->Rat->Option (Rat×Rat)
 | [],lo,hi=>if lo<=hi then some (lo,hi)else none
 | c::t,lo,hi=>if c.1=0 then(if c.2<0 then none else K6 t lo hi)else if 0<c.1 then K6 t (R9 lo (H9 (I4 c.2) c.1)) hi else K6 t lo (A0W hi (H9 (I4 c.2) c.1))
theorem B0V{a:Rat}{c:Lm}(h:c.1=0):W4 a c=true↔¬c.2<0:=by
 unfold W4 G5 D5;rw[C1J,h,Rat.zero_mul,Rat.zero_add]
theorem A9I{a:Rat}{c:Lm}(h:0<c.1):W4 a c=true↔H9 (I4 c.2) c.1<=a:=by
 unfold W4 G5 D5 H9 I4;rw[C1J];have e : -c.2/c.1*c.1 = -c.2:=C07 (λe=>by grind);obtain⟨x,hx⟩:∃x,x = -c.2/c.1:=⟨_,rfl⟩
 rw[<-hx]at e⊢;constructor
 ·intro h1;rcases (C0Q:x<=a\/a<=x)with h2|h2
  ·exact h2
  ·have h3:=C06 (a:=x-a) (b:=c.1) (by grind) (Rat.le_of_lt h);have h4:(x-a)*c.1=0:=by grind
   rcases Rat.mul_eq_zero.1 h4 with h5|h5<;>grind
 ·intro h1;have h3:=C06 (a:=a-x) (b:=c.1) (by grind) (Rat.le_of_lt h);grind
theorem A85{a:Rat}{c:Lm}(h:c.1<0):W4 a c=true↔a<=H9 (I4 c.2) c.1:=by
 unfold W4 G5 D5 H9 I4;rw[C1J];have e : -c.2/c.1*c.1 = -c.2:=C07 (λe=>by grind);obtain⟨x,hx⟩:∃x,x = -c.2/c.1:=⟨_,rfl⟩
 rw[<-hx]at e⊢;constructor
 ·intro h1;rcases (C0Q:a<=x\/x<=a)with h2|h2
  ·exact h2
  ·have h3:=C06 (a:=a-x) (b:=-c.1) (by grind) (by grind);have h4:(a-x) * -c.1=0:=by grind
   rcases Rat.mul_eq_zero.1 h4 with h5|h5<;>grind
 ·intro h1;have h3:=C06 (a:=x-a) (b:=-c.1) (by grind) (by grind);grind
theorem A4I(a:Rat)(c:Lm)(t:List Lm):H7 a (c::t)=true↔W4 a c=true/\H7 a t=true:=by
 unfold H7;rw[List.all_cons,Bool.and_eq_true]
theorem A2U:∀ {l:List Lm} {lo hi lo' hi':Rat},K6 l lo hi=some (lo',hi')->lo<=lo'/\hi'<=hi/\lo'<=hi'/\∀a,(lo'<=a/\a<=hi')↔(lo<=a/\a<=hi/\H7 a l=true)
 | [],lo,hi,lo',hi',h=>by
  unfold K6 at h;split at h
  ·rename_i h1;cases h;exact⟨C04,C04,h1,λa=>⟨λh=>⟨h.1,h.2,rfl⟩,λh=>⟨h.1,h.2.1⟩⟩⟩
  ·cases h
 | c::t,lo,hi,lo',hi',h=>by
  unfold K6 at h;by_cases h0:c.1=0
  ·rw[if_pos h0]at h;by_cases h1:c.2<0
   ·rw[if_pos h1]at h;cases h
   ·rw[if_neg h1]at h;obtain⟨g1,g2,g3,g4⟩:=A2U h;exact⟨g1,g2,g3,λa=>by rw[g4 a,A4I,B0V h0];exact⟨λh=>⟨h.1,h.2.1,h1,h.2.2⟩,λh=>⟨h.1,h.2.1,h.2.2.2⟩⟩⟩
  ·rw[if_neg h0]at h;by_cases h1:0<c.1
   ·rw[if_pos h1]at h;obtain⟨g1,g2,g3,g4⟩:=A2U h;obtain⟨k1,k2⟩:=A3K.1 g1
    exact⟨k1,g2,g3,λa=>by
     rw[g4 a,A4I,A9I h1,A3K]
     exact⟨λh=>⟨h.1.1,h.2.1,h.1.2,h.2.2⟩,λh=>⟨⟨h.1,h.2.2.1⟩,h.2.1,h.2.2.2⟩⟩⟩
   ·rw[if_neg h1]at h;have h2:c.1<0:=by grind
    obtain⟨g1,g2,g3,g4⟩:=A2U h;obtain⟨k1,k2⟩:=A6N.1 g2
    exact⟨g1,k1,g3,λa=>by
     rw[g4 a,A4I,A85 h2,A6N]
     exact⟨λh=>⟨h.1,h.2.1.1,h.2.1.2,h.2.2⟩,λh=>⟨h.1,⟨h.2.1,h.2.2.1⟩,h.2.2.2⟩⟩⟩
theorem A4X:∀ {l:List Lm} {lo hi:Rat},K6 l lo hi=none->∀a,¬(lo<=a/\a<=hi/\H7 a l=true)
 | [],lo,hi,h,a=>by
  unfold K6 at h;split at h
  ·cases h
  ·rintro⟨g1,g2,-⟩;grind
 | c::t,lo,hi,h,a=>by
  unfold K6 at h;rw[A4I];by_cases h0:c.1=0
  ·rw[if_pos h0]at h;rw[B0V h0];by_cases h1:c.2<0
   ·rintro⟨-,-,h2,-⟩;exact h2 h1
   ·rw[if_neg h1]at h;rintro⟨g1,g2,-,g3⟩;exact A4X h a ⟨g1,g2,g3⟩
  ·rw[if_neg h0]at h;by_cases h1:0<c.1
   ·rw[if_pos h1]at h;rw[A9I h1];rintro⟨g1,g2,g3,g4⟩;exact A4X h a ⟨A3K.2 ⟨g1,g3⟩,g2,g4⟩
   ·rw[if_neg h1]at h;have h2:c.1<0:=by grind
    rw[A85 h2];rintro⟨g1,g2,g3,g4⟩;exact A4X h a ⟨g1,A6N.2 ⟨g2,g3⟩,g4⟩
abbrev Pc:=Nat×Rat×Rat
def A00(LM:Nat->List Lm)(top:Rat)(k:Nat):List Pc:=match K6 (LM k) 0 top with
 | some (lo,hi)=>[(k,lo,hi)]
 | none=>[]
def O8(LM:Nat->List Lm)(top:Rat)(K:Nat):List Pc:=(List.range K).flatMap (A00 LM top)
theorem A25(LM:Nat->List Lm)(top:Rat)(K:Nat):O8 LM top (K+1)=O8 LM top K++A00 LM top K:=by
 unfold O8;rw[B99,C0v];simp
def I3(LM:Nat->List Lm)(top:Rat)(K:Nat):List Rat:=[0,top]++(O8 LM top K).flatMap λp=>[p.2.1,p.2.2]
theorem A59(LM:Nat->List Lm)(top:Rat)(K:Nat):I3 LM top (K+1)=I3 LM top K++(A00 LM top K).flatMap λp=>[p.2.1,p.2.2]:=by
 unfold I3;rw[A25,C0v,B9U]
theorem A3a{LM:Nat->List Lm}{top:Rat}{K:Nat}{p:Pc}:p∈O8 LM top K↔p.1<K/\K6 (LM p.1) 0 top=some (p.2.1,p.2.2):=by
 unfold O8;rw[List.mem_flatMap];constructor
 ·rintro⟨k,hk,hp⟩;have hk:=List.mem_range.1 hk;unfold A00 at hp;split at hp
  ·rename_i lo hi e;rw[List.mem_singleton]at hp;subst hp;exact⟨hk,e⟩
  ·cases hp
 ·rintro⟨h1,h2⟩;refine⟨p.1,List.mem_range.2 h1,?_⟩;unfold A00;rw[h2];exact List.mem_singleton.2 rfl
def A09(l:List Pc)(a:Rat):Option Pc:=l.find? λp=>decide (p.2.1<=a)&&decide (a<=p.2.2)
theorem A9j{LM:Nat->List Lm}{top a:Rat}{K:Nat}{p:Pc}(h:A09 (O8 LM top K) a=some p):p.1<K/\0<=a/\a<=top/\H7 a (LM p.1)=true:=by
 have h1:=List.mem_of_find?_eq_some h;have h2:=List.find?_some h;rw[Bool.and_eq_true,C1J,C1J]at h2;obtain⟨h3,h4⟩:=A3a.1 h1;obtain⟨-,-,-,g4⟩:=A2U h4;obtain⟨k1,k2,k3⟩:=(g4 a).1 h2;exact⟨h3,k1,k2,k3⟩
theorem B3p{LM:Nat->List Lm}{top a:Rat}{K k:Nat}(h0:0<=a)(h1:a<=top)(hk:k<K)(hh:H7 a (LM k)=true):∃p,A09 (O8 LM top K) a=some p:=by
 cases hb:K6 (LM k) 0 top with
 | none=>exact absurd ⟨h0,h1,hh⟩ (A4X hb a)
 | some q =>
  obtain⟨lo,hi⟩:=q;obtain⟨-,-,-,g4⟩:=A2U hb;obtain⟨k1,k2⟩:=(g4 a).2 ⟨h0,h1,hh⟩
  cases hf:A09 (O8 LM top K) a with
  | some p=>exact⟨p,rfl⟩
  | none =>
   have h5:=List.find?_eq_none.1 hf (k,lo,hi) (A3a.2 ⟨hk,hb⟩);simp[k1,k2]at h5
def O5(l:List Rat)(i:Nat):Bool:=decide (i=0)||decide (gq l i≠gq l (i-1))
def H4(l:List Rat)(i:Nat):List Rat:=((List.range i).filter (O5 l)).map (gq l)
theorem A4Z(l:List Rat)(i:Nat):H4 l (i+1)=if O5 l i then H4 l i++[gq l i]else H4 l i:=by
 unfold H4;rw[B99,List.filter_append,List.map_append];by_cases h:O5 l i=true
 ·rw[if_pos h];simp[h]
 ·rw[if_neg h];simp[h]
theorem A6g(l:List Rat)(i:Nat):(H4 l i).length<=i:=by
 unfold H4;rw[List.length_map];have:=C1I (O5 l) (List.range i)
 simpa using this
theorem A9i{l:List Rat}(h:l.Pairwise (· <= ·)){i j:Nat}(hij:i<=j)(hj:j<l.length):gq l i<=gq l j:=by
 rcases C0x hij with e|e
 ·rw[e];exact C04
 ·have h1:=List.pairwise_iff_getElem.1 h i j (by omega) hj e;unfold gq;rw[B9Y (by omega),B9Y hj];exact h1
theorem B8U{l:List Rat}(h:l.Pairwise (· <= ·)):(H4 l l.length).Pairwise (· < ·):=by
 unfold H4;rw[List.pairwise_map];have h1:((List.range l.length).filter (O5 l)).Pairwise (λi j=>i<j/\j<l.length/\O5 l j=true):=by
  have h2:(List.range l.length).Pairwise (λi j=>i<j/\j<l.length):=List.Pairwise.imp_of_mem (λ_ hb h=>⟨h,List.mem_range.1 hb⟩) List.pairwise_lt_range;refine List.Pairwise.imp_of_mem (λ_ hb h=>⟨h.1,h.2,(List.mem_filter.1 hb).2⟩) (List.Pairwise.filter _ h2)
 refine h1.imp fun {i j} ⟨g1,g2,g3⟩=>?_;unfold O5 at g3;rw[Bool.or_eq_true,C1J,C1J]at g3;rcases g3 with g3|g3
 ·omega
 ·have k1:=A9i h (i:=i) (j:=j-1) (by omega) (by omega);have k2:=A9i h (i:=j-1) (j:=j) (by omega) g2;grind
theorem A67{l:List Rat}{x:Rat}:x∈H4 l l.length↔x∈l:=by
 unfold H4;rw[List.mem_map];constructor
 ·rintro⟨i,hi,rfl⟩;have hi:=List.mem_range.1 (List.mem_filter.1 hi).1;unfold gq;rw[B9Y hi];exact B86 hi
 ·intro hx;obtain⟨i,hi,e⟩:=C0m hx;have key:∀i,i<l.length->gq l i=x->∃j,j∈(List.range l.length).filter (O5 l)/\gq l j=x:=by
   intro i
   induction i with
   | zero=>exact λh1 h2=>⟨0,List.mem_filter.2 ⟨List.mem_range.2 h1,rfl⟩,h2⟩
   | succ i ih =>
    intro h1 h2;by_cases h3:O5 l (i+1)=true
    ·exact⟨i+1,List.mem_filter.2 ⟨List.mem_range.2 h1,h3⟩,h2⟩
    ·unfold O5 at h3;rw[Bool.or_eq_true,C1J,C1J]at h3;have h4:gq l (i+1)=gq l i:=Decidable.not_not.1 λh=>h3 (.inr h);exact ih (by omega) (by rw[<-h4];exact h2)
  exact key i hi (by unfold gq;rw[B9Y hi,e];rfl)
def knX(l:List Kn)(i:Nat):Kn:=l.getD i (0,[])
def A0x(l:List Kn)(m i:Nat):Bool:=decide (i=0)||decide (l.length<=i+1)||decide (L0 (knX l (i-1)) (knX l i) m≠L0 (knX l i) (knX l (i+1)) m)
def A2q(l:List Kn)(m n:Nat):List Nat:=(List.range n).filter (A0x l m)
def A4q(l:List Kn)(m n:Nat):List Kn:=(A2q l m n).map (knX l)
theorem A9g{l:List Kn}{m n i:Nat}:i∈A2q l m n↔i<n/\A0x l m i=true:=by
 unfold A2q;rw[List.mem_filter,List.mem_range]
def J6(l:List Rat):List Rat:=(H4 (W9 l) (W9 l).length).reverse
theorem A1a{l:List Rat}{x:Rat}:x∈J6 l↔x∈l:=by
 unfold J6;rw[List.mem_reverse,A67,(A3X l).mem_iff]
theorem A8v(l:List Rat):(J6 l).Pairwise (λa b=>b<a):=by
 unfold J6;rw[List.pairwise_reverse];exact B8U (A7t l)
theorem B1I{l:List Rat}{i j:Nat}(hij:i<j)(hj:j<(J6 l).length):gq (J6 l) j<gq (J6 l) i:=by
 have h1:=List.pairwise_iff_getElem.1 (A8v l) i j (by omega) hj hij;unfold gq;rw[B9Y (show i<(J6 l).length by omega),B9Y hj];exact h1
theorem A7i{l:List Rat}{i j:Nat}(hij:i<=j)(hj:j<(J6 l).length):gq (J6 l) j<=gq (J6 l) i:=by
 rcases C0x hij with e|e
 ·rw[e];exact C04
 ·exact Rat.le_of_lt (B1I e hj)
theorem A3y{l:List Rat}{i:Nat}(h:i<l.length):gq l i∈l:=by
 unfold gq;rw[B9Y h];exact B86 h
theorem A8P{l:List Rat}{x:Rat}(h:x∈l):∃i,i<l.length/\gq l i=x:=by
 obtain⟨i,hi,e⟩:=C0m h;exact⟨i,hi,by unfold gq;rw[B9Y hi];exact e⟩
theorem B40{l:List Rat}{top:Rat}(h0:(0:Rat)∈l)(h1:top∈l)(hb:∀x∈l,0<=x/\x<=top):1<=(J6 l).length/\gq (J6 l) 0=top/\gq (J6 l) ((J6 l).length-1)=0:=by
 obtain⟨i,hi,ei⟩:=A8P (A1a.2 h0);obtain⟨j,hj,ej⟩:=A8P (A1a.2 h1);refine⟨by omega,?_,?_⟩
 ·have k1:=A7i (l:=l) (B9a j) hj;have k2:=(hb _ (A1a.1 (A3y (l:=J6 l) (i:=0) (by omega)))).2;grind
 ·have k1:=A7i (l:=l) (show i<=(J6 l).length-1 by omega) (by omega);have k2:=(hb _ (A1a.1 (A3y (l:=J6 l) (i:=(J6 l).length-1) (by omega)))).1;grind
def A1K(X:List (List Rat))(y:List Rat)(N L:Nat):List Kn:=(J6 (I3 (M4 X y N L) (M5 X y N L) (3^L))).map λa=>(a,A1A X y N L a)
def A5C(X:List (List Rat))(y:List Rat)(N L:Nat):List Kn:=A4q (A1K X y N L) L (A1K X y N L).length
theorem A7f(p:List Rat):∀n,0<=U5 p n/\(∀j,j<n->G4 (gq p j)<=U5 p n)/\∀x,0<=x->(∀j,j<n->G4 (gq p j)<=x)->U5 p n<=x
 | 0=>⟨C04,λj hj=>absurd hj (C03 _),λx hx _=>hx⟩
 | n+1=>by
  obtain⟨h1,h2,h3⟩:=A7f p n;have hm:U5 p n<=U5 p (n+1)/\Q5 (gq p n)<=U5 p (n+1):=A3K.1 (C04:R9 (U5 p n) (Q5 (gq p n))<=U5 p (n+1));rw[A3v]at hm;refine⟨C05 h1 hm.1,λj hj=>?_,λx hx hj=>?_⟩
  ·by_cases e:j=n
   ·rw[e];exact hm.2
   ·exact C05 (h2 j (by omega)) hm.1
  ·exact A3K.2 ⟨h3 x hx λj hj'=>hj j (by omega),by rw[A3v];exact hj n (by omega)⟩
theorem B0Q(X:List (List Rat))(y:List Rat)(N L:Nat){j:Nat}(hj:j<L):gq (R3 X y (S7 L) N L) j=gq (J5 X y N L) j:=by
 rw[B55 X y (S7 L) N L hj];have e:D1 (L6 X N j) (gq (S7 L)) L=0:=A0n λk _=>by rw[B0O];grind
 rw[e];grind
theorem B13(X:List (List Rat))(y:List Rat)(N L:Nat):0<=M5 X y N L/\∀j,j<L->G4 (gq (J5 X y N L) j)<=M5 X y N L:=by
 obtain⟨h1,h2,-⟩:=A7f (R3 X y (S7 L) N L) L;exact⟨h1,λj hj=>by rw[<-B0Q X y N L hj];exact h2 j hj⟩
section
variable {X:List (List Rat)} {y:List Rat} {N L:Nat} (hF:A1v X N L)
include hF
theorem B5h{s:Rat}(h0:0<=s){k:Nat}(hh:H7 s (M4 X y N L k)=true):A1J X y N L s k=A1A X y N L s :=
 B1c (n:=L) (by unfold A1J I6;simp) (B3V _ _ _ _ _) λi hi=>B2s hF y h0 (A7v (A3z L k) h0 (A50 hF y s k) ((A6G y s k).1 hh)) i hi
omit hF in
theorem A9Q{x:Rat}(h:x∈I3 (M4 X y N L) (M5 X y N L) (3^L)):0<=x/\x<=M5 X y N L:=by
 have ht:=(B13 X y N L).1;unfold I3 at h;rcases List.mem_append.1 h with h|h
 ·simp only[List.mem_cons,List.not_mem_nil,or_false]at h;rcases h with rfl|rfl
  ·exact⟨C04,ht⟩
  ·exact⟨ht,C04⟩
 ·obtain⟨p,hp,hx⟩:=List.mem_flatMap.1 h;obtain⟨-,hb⟩:=A3a.1 hp;obtain⟨g1,g2,g3,-⟩:=A2U hb;simp only[List.mem_cons,List.not_mem_nil,or_false]at hx;rcases hx with rfl|rfl
  ·exact⟨g1,C05 g3 g2⟩
  ·exact⟨C05 g1 g3,g2⟩
omit hF in
theorem B2H:1<=(J6 (I3 (M4 X y N L) (M5 X y N L) (3^L))).length/\gq (J6 (I3 (M4 X y N L) (M5 X y N L) (3^L))) 0=M5 X y N L/\gq (J6 (I3 (M4 X y N L) (M5 X y N L) (3^L))) ((J6 (I3 (M4 X y N L) (M5 X y N L) (3^L))).length-1)=0 :=
 B40 (by unfold I3;simp) (by unfold I3;simp) λx hx=>A9Q hx
omit hF in
theorem B3l:(A1K X y N L).length=(J6 (I3 (M4 X y N L) (M5 X y N L) (3^L))).length:=by unfold A1K;rw[List.length_map]
end
theorem B7k(LM:Nat->List Lm)(top:Rat)(k:Nat):(A00 LM top k).length<=1:=by
 unfold A00;split<;>simp
theorem A30(LM:Nat->List Lm)(top:Rat):∀K,(O8 LM top K).length<=K
 | 0=>by simp[O8]
 | K+1=>by
  rw[A25,List.length_append];have:=A30 LM top K;have:=B7k LM top K;omega
theorem A53(LM:Nat->List Lm)(top:Rat):∀K,(I3 LM top K).length=2+2*(O8 LM top K).length
 | 0=>by simp[I3,O8]
 | K+1=>by
  rw[A59,A25,List.length_append,List.length_append,A53 LM top K];unfold A00;split<;>simp<;>omega
def knA(F B:Nat->List Rat)(L:Nat)(l:List Pc)(a:Rat):List Kn:=match A09 l a with
 | some p=>[(a,I6 (F p.1) (B p.1) L a)]
 | none=>[]
def A1b(F B:Nat->List Rat)(LM:Nat->List Lm)(top:Rat)(L K:Nat):List Kn:=(J6 (I3 LM top K)).flatMap (knA F B L (O8 LM top K))
theorem A71{α β:Type}{f:α->List β}{g:α->β}:∀ {l:List α},(∀x∈l,f x=[g x])->l.flatMap f=l.map g
 | [],_=>rfl
 | a::t,h=>by
  rw[List.flatMap_cons,List.map_cons,h a (by simp),A71 λx hx=>h x (by simp[hx])];rfl
theorem B2k{X:List (List Rat)}{y:List Rat}{N L:Nat}(hF:A1v X N L):A1b (V9 X y N L) (Z0 X N L) (M4 X y N L) (M5 X y N L) L (3^L)=A1K X y N L:=by
 unfold A1b A1K;refine A71 λa ha=>?_;obtain⟨h0,h1⟩:=A9Q (A1a.1 ha);obtain⟨k1,k2,-⟩:=B0P hF y a;obtain⟨p,hp⟩:=B3p h0 h1 k1 k2;obtain⟨g1,-,-,g4⟩:=A9j hp;unfold knA;rw[hp];have:=B5h hF (y:=y) h0 g4;unfold A1J at this;simp only;rw[this]
end Go.Proofs.YtgpglgbcobeogaaGreatDoor
