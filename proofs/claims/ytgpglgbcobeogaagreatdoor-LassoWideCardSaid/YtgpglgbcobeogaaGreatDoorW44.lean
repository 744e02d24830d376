import Derived.Test.YtgpglgbcobeogaaGreatDoorW43
set_option linter.unusedSimpArgs false
set_option linter.unusedVariables false
set_option maxHeartbeats 4000000
set_option maxRecDepth 100000
namespace Go.Proofs.YtgpglgbcobeogaaGreatDoor
open Go Go.RowKit
def A0g(a b:Rat):Rat:=if b<a then b else a
theorem A3l{a b x:Rat}:S8 a b≤x↔a≤x∧b≤x:=by
 unfold S8;split
 ·constructor
  ·intro h;constructor<;>grind
  ·intro h;exact h.2
 ·constructor
  ·intro h;constructor<;>grind
  ·intro h;exact h.1
theorem A6L{a b x:Rat}:x≤A0g a b↔x≤a∧x≤b:=by
 unfold A0g;split
 ·constructor
  ·intro h;constructor<;>grind
  ·intro h;exact h.2
 ·constructor
  ·intro h;constructor<;>grind
  ·intro h;exact h.1
def K7:List Lm→Rat→Rat→Option (Rat×Rat)
 | [],lo,hi=>if lo≤hi then some (lo,hi)else none
 | c::t,lo,hi=>if c.1=0 then(if c.2<0 then none else K7 t lo hi)else if 0<c.1 then K7 t (S8 lo (I8 (I7 c.2) c.1)) hi else K7 t lo (A0g hi (I8 (I7 c.2) c.1))
theorem B0E{a:Rat}{c:Lm}(h:c.1=0):X0 a c=true↔¬c.2<0:=by
 unfold X0 H5 D8;rw[C1g,h,Rat.zero_mul,Rat.zero_add]
theorem B08{a:Rat}{c:Lm}(h:0<c.1):X0 a c=true↔I8 (I7 c.2) c.1≤a:=by
 unfold X0 H5 D8 I8 I7;rw[C1g];have e : -c.2/c.1*c.1 = -c.2:=C1V (fun e=>by grind);obtain⟨x,hx⟩:∃x,x = -c.2/c.1:=⟨_,rfl⟩
 rw[←hx]at e⊢;constructor
 ·intro h1;rcases (C0o:x≤a∨a≤x)with h2|h2
  ·exact h2
  ·have h3:=C1U (a:=x-a) (b:=c.1) (by grind) (Rat.le_of_lt h);have h4:(x-a)*c.1=0:=by grind
   rcases Rat.mul_eq_zero.1 h4 with h5|h5<;>grind
 ·intro h1;have h3:=C1U (a:=a-x) (b:=c.1) (by grind) (Rat.le_of_lt h);grind
theorem A8M{a:Rat}{c:Lm}(h:c.1<0):X0 a c=true↔a≤I8 (I7 c.2) c.1:=by
 unfold X0 H5 D8 I8 I7;rw[C1g];have e : -c.2/c.1*c.1 = -c.2:=C1V (fun e=>by grind);obtain⟨x,hx⟩:∃x,x = -c.2/c.1:=⟨_,rfl⟩
 rw[←hx]at e⊢;constructor
 ·intro h1;rcases (C0o:a≤x∨x≤a)with h2|h2
  ·exact h2
  ·have h3:=C1U (a:=a-x) (b:=-c.1) (by grind) (by grind);have h4:(a-x) * -c.1=0:=by grind
   rcases Rat.mul_eq_zero.1 h4 with h5|h5<;>grind
 ·intro h1;have h3:=C1U (a:=x-a) (b:=-c.1) (by grind) (by grind);grind
theorem A39(a:Rat)(c:Lm)(t:List Lm):H3 a (c::t)=true↔X0 a c=true∧H3 a t=true:=by
 unfold H3;rw[List.all_cons,Bool.and_eq_true]
theorem A2x:∀ {l:List Lm} {lo hi lo' hi':Rat},K7 l lo hi=some (lo',hi')→lo≤lo'∧hi'≤hi∧lo'≤hi'∧∀a,(lo'≤a∧a≤hi')↔(lo≤a∧a≤hi∧H3 a l=true)
 | [],lo,hi,lo',hi',h=>by
  unfold K7 at h;split at h
  ·rename_i h1;cases h;exact⟨C1S,C1S,h1,fun a=>⟨fun h=>⟨h.1,h.2,rfl⟩,fun h=>⟨h.1,h.2.1⟩⟩⟩
  ·cases h
 | c::t,lo,hi,lo',hi',h=>by
  unfold K7 at h;by_cases h0:c.1=0
  ·rw[if_pos h0]at h;by_cases h1:c.2<0
   ·rw[if_pos h1]at h;cases h
   ·rw[if_neg h1]at h;obtain⟨g1,g2,g3,g4⟩:=A2x h;exact⟨g1,g2,g3,fun a=>by rw[g4 a,A39,B0E h0];exact⟨fun h=>⟨h.1,h.2.1,h1,h.2.2⟩,fun h=>⟨h.1,h.2.1,h.2.2.2⟩⟩⟩
  ·rw[if_neg h0]at h;by_cases h1:0<c.1
   ·rw[if_pos h1]at h;obtain⟨g1,g2,g3,g4⟩:=A2x h;obtain⟨k1,k2⟩:=A3l.1 g1
    exact⟨k1,g2,g3,fun a=>by
     rw[g4 a,A39,B08 h1,A3l]
     exact⟨fun h=>⟨h.1.1,h.2.1,h.1.2,h.2.2⟩,fun h=>⟨⟨h.1,h.2.2.1⟩,h.2.1,h.2.2.2⟩⟩⟩
   ·rw[if_neg h1]at h;have h2:c.1<0:=by grind
    obtain⟨g1,g2,g3,g4⟩:=A2x h;obtain⟨k1,k2⟩:=A6L.1 g2
    exact⟨g1,k1,g3,fun a=>by
     rw[g4 a,A39,A8M h2,A6L]
     exact⟨fun h=>⟨h.1,h.2.1.1,h.2.1.2,h.2.2⟩,fun h=>⟨h.1,⟨h.2.1,h.2.2.1⟩,h.2.2.2⟩⟩⟩
theorem A4c:∀ {l:List Lm} {lo hi:Rat},K7 l lo hi=none→∀a,¬(lo≤a∧a≤hi∧H3 a l=true)
 | [],lo,hi,h,a=>by
  unfold K7 at h;split at h
  ·cases h
  ·rintro⟨g1,g2,-⟩;grind
 | c::t,lo,hi,h,a=>by
  unfold K7 at h;rw[A39];by_cases h0:c.1=0
  ·rw[if_pos h0]at h;rw[B0E h0];by_cases h1:c.2<0
   ·rintro⟨-,-,h2,-⟩;exact h2 h1
   ·rw[if_neg h1]at h;rintro⟨g1,g2,-,g3⟩;exact A4c h a ⟨g1,g2,g3⟩
  ·rw[if_neg h0]at h;by_cases h1:0<c.1
   ·rw[if_pos h1]at h;rw[B08 h1];rintro⟨g1,g2,g3,g4⟩;exact A4c h a ⟨A3l.2 ⟨g1,g3⟩,g2,g4⟩
   ·rw[if_neg h1]at h;have h2:c.1<0:=by grind
    rw[A8M h2];rintro⟨g1,g2,g3,g4⟩;exact A4c h a ⟨g1,A6L.2 ⟨g2,g3⟩,g4⟩
abbrev Pc:=Nat×Rat×Rat
def A1L(LM:Nat→List Lm)(top:Rat)(k:Nat):List Pc:=match K7 (LM k) 0 top with
 | some (lo,hi)=>[(k,lo,hi)]
 | none=>[]
def P6(LM:Nat→List Lm)(top:Rat)(K:Nat):List Pc:=(List.range K).flatMap (A1L LM top)
theorem A27(LM:Nat→List Lm)(top:Rat)(K:Nat):P6 LM top (K+1)=P6 LM top K++A1L LM top K:=by
 unfold P6;rw[C0X,C1K];simp
def I4(LM:Nat→List Lm)(top:Rat)(K:Nat):List Rat:=[0,top]++(P6 LM top K).flatMap fun p=>[p.2.1,p.2.2]
theorem A6n(LM:Nat→List Lm)(top:Rat)(K:Nat):I4 LM top (K+1)=I4 LM top K++(A1L LM top K).flatMap fun p=>[p.2.1,p.2.2]:=by
 unfold I4;rw[A27,C1K,B9s]
theorem A3b{LM:Nat→List Lm}{top:Rat}{K:Nat}{p:Pc}:p∈P6 LM top K↔p.1<K∧K7 (LM p.1) 0 top=some (p.2.1,p.2.2):=by
 unfold P6;rw[List.mem_flatMap];constructor
 ·rintro⟨k,hk,hp⟩;have hk:=List.mem_range.1 hk;unfold A1L at hp;split at hp
  ·rename_i lo hi e;rw[List.mem_singleton]at hp;subst hp;exact⟨hk,e⟩
  ·cases hp
 ·rintro⟨h1,h2⟩;refine⟨p.1,List.mem_range.2 h1,?_⟩;unfold A1L;rw[h2];exact List.mem_singleton.2 rfl
def A1E(l:List Pc)(a:Rat):Option Pc:=l.find? fun p=>decide (p.2.1≤a)&&decide (a≤p.2.2)
theorem B0X{LM:Nat→List Lm}{top a:Rat}{K:Nat}{p:Pc}(h:A1E (P6 LM top K) a=some p):p.1<K∧0≤a∧a≤top∧H3 a (LM p.1)=true:=by
 have h1:=List.mem_of_find?_eq_some h;have h2:=List.find?_some h;rw[Bool.and_eq_true,C1g,C1g]at h2;obtain⟨h3,h4⟩:=A3b.1 h1;obtain⟨-,-,-,g4⟩:=A2x h4;obtain⟨k1,k2,k3⟩:=(g4 a).1 h2;exact⟨h3,k1,k2,k3⟩
theorem B7V{LM:Nat→List Lm}{top a:Rat}{K k:Nat}(h0:0≤a)(h1:a≤top)(hk:k<K)(hh:H3 a (LM k)=true):∃p,A1E (P6 LM top K) a=some p:=by
 cases hb:K7 (LM k) 0 top with
 | none=>exact absurd ⟨h0,h1,hh⟩ (A4c hb a)
 | some q =>
  obtain⟨lo,hi⟩:=q;obtain⟨-,-,-,g4⟩:=A2x hb;obtain⟨k1,k2⟩:=(g4 a).2 ⟨h0,h1,hh⟩
  cases hf:A1E (P6 LM top K) a with
  | some p=>exact⟨p,rfl⟩
  | none =>
   have h5:=List.find?_eq_none.1 hf (k,lo,hi) (A3b.2 ⟨hk,hb⟩);simp[k1,k2]at h5
def O6(l:List Rat)(i:Nat):Bool:=decide (i=0)||decide (gq l i≠gq l (i-1))
def G7(l:List Rat)(i:Nat):List Rat:=((List.range i).filter (O6 l)).map (gq l)
theorem A4h(l:List Rat)(i:Nat):G7 l (i+1)=if O6 l i then G7 l i++[gq l i]else G7 l i:=by
 unfold G7;rw[C0X,List.filter_append,List.map_append];by_cases h:O6 l i=true
 ·rw[if_pos h];simp[h]
 ·rw[if_neg h];simp[h]
theorem A6s(l:List Rat)(i:Nat):(G7 l i).length≤i:=by
 unfold G7;rw[List.length_map];have:=C1f (O6 l) (List.range i)
 simpa using this
theorem B0N{l:List Rat}(h:l.Pairwise (· ≤ ·)){i j:Nat}(hij:i≤j)(hj:j<l.length):gq l i≤gq l j:=by
 rcases C1M hij with e|e
 ·rw[e];exact C1S
 ·have h1:=List.pairwise_iff_getElem.1 h i j (by omega) hj e;unfold gq;rw[B9w (by omega),B9w hj];exact h1
theorem B4B{l:List Rat}(h:l.Pairwise (· ≤ ·)):(G7 l l.length).Pairwise (· < ·):=by
 unfold G7;rw[List.pairwise_map];have h1:((List.range l.length).filter (O6 l)).Pairwise (fun i j=>i<j∧j<l.length∧O6 l j=true):=by
  have h2:(List.range l.length).Pairwise (fun i j=>i<j∧j<l.length):=List.Pairwise.imp_of_mem (fun _ hb h=>⟨h,List.mem_range.1 hb⟩) List.pairwise_lt_range;refine List.Pairwise.imp_of_mem (fun _ hb h=>⟨h.1,h.2,(List.mem_filter.1 hb).2⟩) (List.Pairwise.filter _ h2)
 refine h1.imp fun {i j} ⟨g1,g2,g3⟩=>?_;unfold O6 at g3;rw[Bool.or_eq_true,C1g,C1g]at g3;rcases g3 with g3|g3
 ·omega
 ·have k1:=B0N h (i:=i) (j:=j-1) (by omega) (by omega);have k2:=B0N h (i:=j-1) (j:=j) (by omega) g2;grind
theorem A9J{l:List Rat}{x:Rat}:x∈G7 l l.length↔x∈l:=by
 unfold G7;rw[List.mem_map];constructor
 ·rintro⟨i,hi,rfl⟩;have hi:=List.mem_range.1 (List.mem_filter.1 hi).1;unfold gq;rw[B9w hi];exact B9U hi
 ·intro hx;obtain⟨i,hi,e⟩:=C1A hx;have key:∀i,i<l.length→gq l i=x→∃j,j∈(List.range l.length).filter (O6 l)∧gq l j=x:=by
   intro i
   induction i with
   | zero=>exact fun h1 h2=>⟨0,List.mem_filter.2 ⟨List.mem_range.2 h1,rfl⟩,h2⟩
   | succ i ih =>
    intro h1 h2;by_cases h3:O6 l (i+1)=true
    ·exact⟨i+1,List.mem_filter.2 ⟨List.mem_range.2 h1,h3⟩,h2⟩
    ·unfold O6 at h3;rw[Bool.or_eq_true,C1g,C1g]at h3;have h4:gq l (i+1)=gq l i:=Decidable.not_not.1 fun h=>h3 (.inr h);exact ih (by omega) (by rw[←h4];exact h2)
  exact key i hi (by unfold gq;rw[B9w hi,e];rfl)
abbrev Kn:=Rat×List Rat
def knQ(l:List Kn)(i:Nat):Rat:=((l[i]?).getD (0,[])).1
def knW(l:List Kn)(i:Nat):List Rat:=((l[i]?).getD (0,[])).2
structure ShapeK(l:List Kn):Prop where
 one:1≤l.length
 most:l.length≤1000
 some:1≤(knW l 0).length
 cols:(knW l 0).length≤20
 all:∀i,i<l.length→(knW l i).length=(knW l 0).length
structure OrderK(l:List Kn):Prop where
 zero:∀j,j<(knW l 0).length→gq (knW l 0) j=0
 falls:∀i,1≤i→i<l.length→knQ l i<knQ l (i-1)
 last:knQ l (l.length-1)=0
def A22(l:List Kn)(e:Int):Prop:=(¬ShapeK l∧e=5)∨(ShapeK l∧¬OrderK l∧e=1)∨(ShapeK l∧OrderK l∧e=0)
theorem A22.five{l:List Kn}{e:Int}(h:A22 l e)(h1:¬ShapeK l):e=5:=by
 rcases h with⟨-,h⟩|⟨h2,-⟩|⟨h2,-⟩
 ·exact h
 ·exact absurd h2 h1
 ·exact absurd h2 h1
theorem A22.one{l:List Kn}{e:Int}(h:A22 l e)(h0:ShapeK l)(h1:¬OrderK l):e=1:=by
 rcases h with⟨h2,-⟩|⟨-,-,h⟩|⟨-,h2,-⟩
 ·exact absurd h0 h2
 ·exact h
 ·exact absurd h2 h1
theorem A22.zero{l:List Kn}{e:Int}(h:A22 l e)(he:e=0):ShapeK l∧OrderK l:=by
 rcases h with⟨-,h⟩|⟨-,-,h⟩|⟨h1,h2,-⟩
 ·omega
 ·omega
 ·exact⟨h1,h2⟩
abbrev Kq:=Rat×Ax×List Rat
def kqL(x:Kq):List Value:=qL x.1++[.slice x.2.1.1 x.2.2.length x.2.1.2]
theorem A7L(x:Kq):(kqL x).length=6:=rfl
abbrev F9(x:Kq):Kn:=(x.1,x.2.2)
def Lk(u:World)(A:Option Addr)(l:List Kq):Prop:=Le kqL 6 u A l∧∀x∈l,Lq u x.2.1.1 x.2.2
theorem Lk.grow{u u':World}{A:Option Addr}{l:List Kq}(h:Lk u A l)(hg:A4 u u'):Lk u' A l:=⟨h.1.grow hg,fun x hx=>(h.2 x hx).grow hg⟩
theorem Lk.at{u:World}{A:Option Addr}{l:List Kq}(h:Lk u A l){i:Nat}(hi:i<l.length):∃(b o:Nat) (P:Ax),A=some ⟨b,o,none⟩∧∀W,A4 u W→(Cq W b (o+i*6) (knQ (l.map F9) i)∧W.cell? ⟨b,o+i*6+5,none⟩=some (.slice P.1 (knW (l.map F9) i).length P.2))∧Lq W P.1 (knW (l.map F9) i):=by
 obtain⟨b,o,e,hc⟩:=h.1.at hi;have e1:knQ (l.map F9) i=l[i].1:=by unfold knQ;rw[List.getElem?_map,B9w hi];rfl
 have e2:knW (l.map F9) i=l[i].2.2:=by unfold knW;rw[List.getElem?_map,B9w hi];rfl
 rw[e1,e2];exact⟨b,o,l[i].2.1,e,fun W hg=>⟨⟨⟨hc W hg 0 _ rfl,hc W hg 1 _ rfl,hc W hg 2 _ rfl,hc W hg 3 _ rfl,hc W hg 4 _ rfl⟩,hc W hg 5 _ rfl⟩,(h.2 _ (B9U hi)).grow hg⟩⟩
theorem A3W(d:Option Tmp)(ty:TypeId)(pos:String)(af:Array Edge)(gd:Option (Nat×Bool)):M8 Tryz.prog ⟨d,.alloc 84,ty,pos,af,gd⟩ = .cells #[.bool false,.int .u64 0,.string ⟨#[]⟩,.int .u64 0,.string ⟨#[]⟩,.slice none 0 0] 84:=by kernel_rfl
theorem X8:∀t∈[44,46,48,84],O1 Tryz.prog t:=by
 intro t ht;simp only[List.mem_cons,List.not_mem_nil,or_false]at ht;rcases ht with rfl|rfl|rfl|rfl
 ·exact fun _ _ _ _ _ _=>by rw[M3];kernel_rfl
 ·exact fun _ _ _ _ _ _=>by rw[A2f];kernel_rfl
 ·exact fun _ _ _ _ _ _=>by rw[J5];kernel_rfl
 ·exact fun _ _ _ _ _ _=>by rw[A3W];kernel_rfl
def R4(a b:Kn)(m:Nat):List Rat:=(List.range m).map fun i=>I8 (F8 (gq b.2 i) (gq a.2 i)) (F8 b.1 a.1)
abbrev knV(q:Rat)(P:Ax)(m:Nat):Value:=.agg #[.bool (D6 q.num),.int .u64 (B8 q.num.natAbs),.string (B6 q.num.natAbs),.int .u64 (B8 (G9 q.den)),.string (B6 (G9 q.den)),.slice P.1 m P.2]
theorem B1R(qa qb:Rat)(A B:Ax)(la lb:List Rat)(m:Nat)(ha:la.length=m)(hb:lb.length=m)(hm:m≤1000)(s:Nat)(hqa:qs qa≤s)(hqb:qs qb≤s)(hs:∀i,i<m→qs (gq la i)≤s)(hs2:∀i,i<m→qs (gq lb i)≤s)(hBz:5*s+10≤BIG)(w:World)(h:Lq w A.1 la)(h2:Lq w B.1 lb)(HT:Tab w) :
  Calls Tryz.prog 111 #[knV qa A m,knV qb B m] w (G1 (fun x:Nat=>.slice (some ⟨x,0,none⟩) m m) (fun x W=>W.ownsRow w.heap.size 48 5 (.slice (some ⟨x,0,none⟩) m m) m ((R4 (qa,la) (qb,lb) m).flatMap qL)) w):=by
 have hBm:=K5;have hat:∀i,i<m→∃(b1 o1 b4 o4:Nat) (X Y:Rat),A.1=some ⟨b1,o1,none⟩∧B.1=some ⟨b4,o4,none⟩∧(∀W,A4 w W→Cq W b1 (o1+i*5) X∧Cq W b4 (o4+i*5) Y)∧(∀W,Tab W→Calls Tryz.prog 50 #[qV Y,qV X] W fun e w'=>e = .returned (qV (F8 Y X))∧A4 W w')∧F8 Y X=F8 (gq lb i) (gq la i)∧qs (F8 Y X)≤2*s+1:=fun i hi=>by
  obtain⟨b1,o1,e1⟩:=h.addr (by omega);obtain⟨b4,o4,e4⟩:=h2.addr (by omega);rw[e1]at h;rw[e4]at h2;have z1:=hs i hi;have z2:=hs2 i hi;have z3:=A01 (gq lb i) (gq la i);exact⟨b1,o1,b4,o4,gq la i,gq lb i,e1,e4,fun W hg=>⟨(h.grow hg).read (by omega),(h2.grow hg).read (by omega)⟩,fun W hT=>A2R _ _ W (by omega) hT,rfl,by unfold F8;omega⟩
 unfold R4;have hdd:=fun W hT=>A2R qb qa W (by omega) hT;have zD:qs (F8 qb qa)≤2*s+1:=by have:=A01 qb qa;unfold F8;omega
 obtain⟨D,hD⟩:∃D,D=F8 qb qa:=⟨_,rfl⟩
 rw[←hD]at zD;simp only[←hD]at hdd;obtain⟨f,hfe⟩:∃f:Nat→Rat,f=fun i=>I8 (F8 (gq lb i) (gq la i)) D:=⟨_,rfl⟩
 have hfi:∀i,f i=I8 (F8 (gq lb i) (gq la i)) D:=by rw[hfe];exact fun _=>rfl
 simp only[←hD];rw[←hfe];have hmk:=A08 m (by omega) (m:Int) rfl;obtain⟨A,c1⟩:=A;obtain⟨B,c2⟩:=B;simp only at hat;have Hat:=B9g hat;have Hmk:=B9g hmk;have Hdd:=B9g hdd;have Hfi:=B9g hfi;clear hat hmk hfe hfi hdd hD h h2 hs hs2 ha hb hqa hqb;go_enter Tryz.func111,Tryz.ntmps111;refine en2 ?_;intro u hG b3 b2 hB hF;refine B9b ?_;have hmk:=Hmk.out;have r:=hB.r;simp only[BxR]at r;refine L8 ?_;intro K hN;go_wp2_with fail;clear r;generalize hv:World.alloc u _=v;have hrow:=A0t hG.sz (by omega) hv;have hgv:A4 u v:=hv ▸ A4.alloc u _;have hG2:=hG.trans hgv;have hB2:=hB.grow hgv;have hg2:u.heap.size≠b2:=C0j hB.head.lt;have hg3:u.heap.size≠b3:=C0j hB.tail.head.lt;have h2w:=hF.1 b2 (by simp);have h3w:=hF.1 b3 (by simp);have h23:b2≠b3:=fun e=>by
  have:=hF.2;simp[e]at this
 clear hv hG hB hmk hgv;rw[←A2D f m]at hrow;generalize u.heap.size=g at hrow hg2 hg3⊢;have Ho:=B9g hrow;have hG:=hG2;have hB:=hB2;clear hrow hG2 hB2;obtain⟨u,rfl⟩:=exQ v;refine NoK.norm (hN _ _ ?_);clear hN K;refine A6 ?_;refine B9b ?_;refine r0T ?_;refine B99 ?_;clear hF;go_loopw [13] (fun s0 wr=>∃i:Nat,i≤m∧s0 = .int .i64 i∧wr.ownsRow w.heap.size 48 5 (.slice (some ⟨g,0,none⟩) m m) m ((K6 f m i).flatMap qL)∧Bx wr [(b2,84,#[.bool (D6 qa.num),.int .u64 (B8 qa.num.natAbs),.string (B6 qa.num.natAbs),.int .u64 (B8 (G9 qa.den)),.string (B6 (G9 qa.den)),.slice A m c1]),(b3,84,#[.bool (D6 qb.num),.int .u64 (B8 qb.num.natAbs),.string (B6 qb.num.natAbs),.int .u64 (B8 (G9 qb.den)),.string (B6 (G9 qb.den)),.slice B m c2])]∧A4 w wr) (fun s0 _=>m-(intOf s0).toNat)
 case atStart=>exact⟨0,B9y _,rfl,Ho.out,hB,hG⟩
 case round =>
  clear hG Ho hB;obtain⟨i,hi,rfl,ho,hB,hG⟩:=hrel;obtain⟨u,rfl⟩:=exQ wr;have Ho:=B9g ho
  have hF:Fr w [b2,b3]:=⟨fun b hb=>by
   simp only[List.mem_cons,List.not_mem_nil,or_false]at hb;rcases hb with rfl|rfl
   ·exact h2w
   ·exact h3w,by simp;exact h23⟩
  clear ho;rcases B9H i m with hlt|hge
  ·have hdec:decide ((i:Int)<(m:Int))=true:=by simp;omega
   have hin:(i:Int)<(m:Int):=by omega
   have hst:=A1w (f:=f) hlt;obtain⟨b1,o1,b4,o4,X,Y,e1,e4,hrd,hsb,eQ,zE⟩:=Hat.out i hlt;rw[Hfi.out i,←eQ]at hst;subst e1 e4;obtain⟨E,hE⟩:∃q,q=F8 Y X:=⟨_,rfl⟩
   rw[←hE]at hst zE;simp only[←hE]at hsb;have hdv:=fun W hT=>A6k E D W (by omega) hT;obtain⟨Q,hQ⟩:∃q,q=I8 E D:=⟨_,rfl⟩
   rw[←hQ]at hst;simp only[←hQ]at hdv;have Hst:=B9g hst;have Hrd:=B9g hrd;have Hsb:=B9g hsb;have Hdv:=B9g hdv;clear hst hrd hsb hdv hQ hE eQ;refine r0T ?_;refine B9b ?_;refine B9j (rfl) ?_;refine B9i ?_;refine A6 ?_;refine B9b ?_;refine B99 ?_;refine r0T ?_;refine rdC X8 [21] [(0,0),(0,1),(0,2),(0,3),(0,4),(0,5),(0,6),(0,7),(0,8),(0,9),(0,10),(0,11),(0,13),(0,14),(0,15),(0,16),(1,12),(1,17),(1,18),(0,19),(0,20),(0,21),(0,22)] hB hG fun K L hN hL=>?_
   repeat first|refine gya ?_|refine gyr ?_|refine gna ?_|refine gyb (by(rintro v ⟨hgu,hB,hG,-⟩ N hN;have r:=hB.r;simp only[BxR]at r;obtain⟨⟨y1,y2,y3,y4,y5⟩,x1,x2,x3,x4,x5⟩:=Hrd.out v hG;go_simp;exact hN)) ?_
   refine gmd (C:=fun v ⟨hgu,hB,hG,_⟩=>Hsb.out _ (HT.grow hG)) ?_;refine gmd (C:=fun v ⟨hgu,hB,hG,_⟩=>Hdd.out _ (HT.grow hG)) ?_;refine gmd (C:=fun v ⟨hgu,hB,hG,_⟩=>Hdv.out _ (HT.grow hG)) ?_;refine gs ?_;refine geC hL ?_;clear hB hG hL L;rintro u ⟨hgu,hB,hG,-⟩;have Ho2:=B9g (B9 Ho.out hgu);clear Ho;have Ho:=Ho2;clear Ho2;obtain⟨z0,z1,z2,z3,z4,o0,o1,o2,o3,o4,hfz⟩:=A0C (enc:=qL) (fun _=>rfl) Ho.out (N2 f m i).symm i (by rw[N2];exact hlt);clear hgu;refine gt ?_;clear hN K;clear o0 o1 o2 o3 o4 hfz;generalize hu0:World.setCell (World.setCell (World.setCell (World.setCell (World.setCell u _ _) _ _) _ _) _ _) _ _=u0;have hu1:C2 u g (i*5) (qL Q)=u0:=hu0;have hP:=O7 (enc:=qL) (size:=5) (ps:=K6 f m i) (fun _=>rfl) Ho.out i Q (by rw[N2];exact hlt);rw[Hst.out,hu1]at hP;have hG2:=N7 Ho.out hG hP.2
   have hB2:=hB.grown_ hP.2 (fun e he hxe=>by
    have e2:=B9M hxe;simp only[List.mem_cons,List.not_mem_nil,or_false]at he;rcases he with rfl|rfl
    ·exact hg2 e2.symm
    ·exact hg3 e2.symm)
   have Ho2:=B9g hP.1;clear hG hB Ho hP hu1 hu0;have hG:=hG2;have hB:=hB2;have Ho:=Ho2;clear hG2 Ho2 hB2;obtain⟨u,rfl⟩:=exQ u0;refine C8 ?_;refine A6 ?_;refine r0E ?_;refine A6 ?_;go_roundw
   case rel=>exact⟨i+1,by omega,by go_num,Ho.out,hB,hG⟩
   case measure=>simp[intOf];omega
  ·obtain rfl:m=i:=by omega
   have hdec:decide ((m:Int)<(m:Int))=false:=by simp
   have ho:=Ho.out;rw[A1v]at ho;have HL:=B9g ho;clear ho Ho;refine r0T ?_;refine B9b ?_;refine B9h (rfl) ?_;refine C0B ?_;refine C0 ?_;refine C0 ?_;refine E4 ?_;refine A6 ?_;refine r0T ?_;refine rt Tryz.results111 ?_;exact⟨g,rfl,HL.out,hG⟩
def knX(l:List Kn)(i:Nat):Kn:=l.getD i (0,[])
def A0u(l:List Kn)(m i:Nat):Bool:=decide (i=0)||decide (l.length≤i+1)||decide (R4 (knX l (i-1)) (knX l i) m≠R4 (knX l i) (knX l (i+1)) m)
def A2Q(l:List Kn)(m n:Nat):List Nat:=(List.range n).filter (A0u l m)
def A4E(l:List Kn)(m n:Nat):List Kn:=(A2Q l m n).map (knX l)
theorem B02{l:List Kn}{m n i:Nat}:i∈A2Q l m n↔i<n∧A0u l m i=true:=by
 unfold A2Q;rw[List.mem_filter,List.mem_range]
def K4(l:List Rat):List Rat:=(G7 (W9 l) (W9 l).length).reverse
theorem A16{l:List Rat}{x:Rat}:x∈K4 l↔x∈l:=by
 unfold K4;rw[List.mem_reverse,A9J,(A29 l).mem_iff]
theorem B3l(l:List Rat):(K4 l).Pairwise (fun a b=>b<a):=by
 unfold K4;rw[List.pairwise_reverse];exact B4B (A7p l)
theorem B6n{l:List Rat}{i j:Nat}(hij:i<j)(hj:j<(K4 l).length):gq (K4 l) j<gq (K4 l) i:=by
 have h1:=List.pairwise_iff_getElem.1 (B3l l) i j (by omega) hj hij;unfold gq;rw[B9w (show i<(K4 l).length by omega),B9w hj];exact h1
theorem A9N{l:List Rat}{i j:Nat}(hij:i≤j)(hj:j<(K4 l).length):gq (K4 l) j≤gq (K4 l) i:=by
 rcases C1M hij with e|e
 ·rw[e];exact C1S
 ·exact Rat.le_of_lt (B6n e hj)
theorem A4b{l:List Rat}{i:Nat}(h:i<l.length):gq l i∈l:=by
 unfold gq;rw[B9w h];exact B9U h
theorem A81{l:List Rat}{x:Rat}(h:x∈l):∃i,i<l.length∧gq l i=x:=by
 obtain⟨i,hi,e⟩:=C1A h;exact⟨i,hi,by unfold gq;rw[B9w hi];exact e⟩
theorem B8B{l:List Rat}{top:Rat}(h0:(0:Rat)∈l)(h1:top∈l)(hb:∀x∈l,0≤x∧x≤top):1≤(K4 l).length∧gq (K4 l) 0=top∧gq (K4 l) ((K4 l).length-1)=0:=by
 obtain⟨i,hi,ei⟩:=A81 (A16.2 h0);obtain⟨j,hj,ej⟩:=A81 (A16.2 h1);refine⟨by omega,?_,?_⟩
 ·have k1:=A9N (l:=l) (B9y j) hj;have k2:=(hb _ (A16.1 (A4b (l:=K4 l) (i:=0) (by omega)))).2;grind
 ·have k1:=A9N (l:=l) (show i≤(K4 l).length-1 by omega) (by omega);have k2:=(hb _ (A16.1 (A4b (l:=K4 l) (i:=(K4 l).length-1) (by omega)))).1;grind
def A15(X:List (List Rat))(y:List Rat)(N L:Nat):List Kn:=(K4 (I4 (L6 X y N L) (N3 X y N L) (3^L))).map fun a=>(a,A1Z X y N L a)
def A7T(X:List (List Rat))(y:List Rat)(N L:Nat):List Kn:=A4E (A15 X y N L) L (A15 X y N L).length
theorem A7e(p:List Rat):∀n,0≤V8 p n∧(∀j,j<n→G3 (gq p j)≤V8 p n)∧∀x,0≤x→(∀j,j<n→G3 (gq p j)≤x)→V8 p n≤x
 | 0=>⟨C1S,fun j hj=>absurd hj (C1R _),fun x hx _=>hx⟩
 | n+1=>by
  obtain⟨h1,h2,h3⟩:=A7e p n;have hm:V8 p n≤V8 p (n+1)∧Y8 (gq p n)≤V8 p (n+1):=A3l.1 (C1S:S8 (V8 p n) (Y8 (gq p n))≤V8 p (n+1));rw[A4r]at hm;refine⟨C1T h1 hm.1,fun j hj=>?_,fun x hx hj=>?_⟩
  ·by_cases e:j=n
   ·rw[e];exact hm.2
   ·exact C1T (h2 j (by omega)) hm.1
  ·exact A3l.2 ⟨h3 x hx fun j hj'=>hj j (by omega),by rw[A4r];exact hj n (by omega)⟩
theorem A73(X:List (List Rat))(y:List Rat)(N L:Nat){j:Nat}(hj:j<L):gq (A0W X y (M4 L) N L) j=gq (I0 X y N L) j:=by
 rw[B78 X y (M4 L) N L hj];have e:C7 (K8 X N j) (gq (M4 L)) L=0:=A0o fun k _=>by rw[B0P];grind
 rw[e];grind
theorem B3B(X:List (List Rat))(y:List Rat)(N L:Nat):0≤N3 X y N L∧∀j,j<L→G3 (gq (I0 X y N L) j)≤N3 X y N L:=by
 obtain⟨h1,h2,-⟩:=A7e (A0W X y (M4 L) N L) L;exact⟨h1,fun j hj=>by rw[←A73 X y N L hj];exact h2 j hj⟩
section
variable {X:List (List Rat)} {y:List Rat} {N L:Nat} (hF:A1P X N L)
include hF
theorem B76{s:Rat}(h0:0≤s){k:Nat}(hh:H3 s (L6 X y N L k)=true):A1I X y N L s k=A1Z X y N L s :=
 B2h (n:=L) (by unfold A1I I5;simp) (B8E _ _ _ _ _) fun i hi=>B10 hF y h0 (A9u (A4J L k) h0 (A5s hF y s k) ((A5f y s k).1 hh)) i hi
omit hF in
theorem B05{x:Rat}(h:x∈I4 (L6 X y N L) (N3 X y N L) (3^L)):0≤x∧x≤N3 X y N L:=by
 have ht:=(B3B X y N L).1;unfold I4 at h;rcases List.mem_append.1 h with h|h
 ·simp only[List.mem_cons,List.not_mem_nil,or_false]at h;rcases h with rfl|rfl
  ·exact⟨C1S,ht⟩
  ·exact⟨ht,C1S⟩
 ·obtain⟨p,hp,hx⟩:=List.mem_flatMap.1 h;obtain⟨-,hb⟩:=A3b.1 hp;obtain⟨g1,g2,g3,-⟩:=A2x hb;simp only[List.mem_cons,List.not_mem_nil,or_false]at hx;rcases hx with rfl|rfl
  ·exact⟨g1,C1T g3 g2⟩
  ·exact⟨C1T g1 g3,g2⟩
omit hF in
theorem B8i:1≤(K4 (I4 (L6 X y N L) (N3 X y N L) (3^L))).length∧gq (K4 (I4 (L6 X y N L) (N3 X y N L) (3^L))) 0=N3 X y N L∧gq (K4 (I4 (L6 X y N L) (N3 X y N L) (3^L))) ((K4 (I4 (L6 X y N L) (N3 X y N L) (3^L))).length-1)=0 :=
 B8B (by unfold I4;simp) (by unfold I4;simp) fun x hx=>B05 hx
omit hF in
theorem B5Z:(A15 X y N L).length=(K4 (I4 (L6 X y N L) (N3 X y N L) (3^L))).length:=by unfold A15;rw[List.length_map]
end
theorem B1H(LM:Nat→List Lm)(top:Rat)(k:Nat):(A1L LM top k).length≤1:=by
 unfold A1L;split<;>simp
theorem A42(LM:Nat→List Lm)(top:Rat):∀K,(P6 LM top K).length≤K
 | 0=>by simp[P6]
 | K+1=>by
  rw[A27,List.length_append];have:=A42 LM top K;have:=B1H LM top K;omega
theorem A6R(LM:Nat→List Lm)(top:Rat):∀K,(I4 LM top K).length=2+2*(P6 LM top K).length
 | 0=>by simp[I4,P6]
 | K+1=>by
  rw[A6n,A27,List.length_append,List.length_append,A6R LM top K];unfold A1L;split<;>simp<;>omega
abbrev Kz:=Az×Rat×Ax×List Rat
def kzL(x:Kz):List Value:=zrL (x.1,x.2.1)++[.slice x.2.2.1.1 x.2.2.2.length x.2.2.1.2]
theorem B6f(x:Kz):(kzL x).length=4:=rfl
abbrev A1N(x:Kz):Kn:=(x.2.1,x.2.2.2)
def Lkz(u:World)(A:Option Addr)(l:List Kz):Prop:=Le kzL 4 u A l∧∀x∈l,Rz u x.1 x.2.1∧Lz u x.2.2.1.1 x.2.2.2
theorem Lkz.grow{u u':World}{A:Option Addr}{l:List Kz}(h:Lkz u A l)(hg:A4 u u'):Lkz u' A l:=⟨h.1.grow hg,fun x hx=>⟨(h.2 x hx).1.grow hg,(h.2 x hx).2.grow hg⟩⟩
theorem Lkz.at{u:World}{A:Option Addr}{l:List Kz}(h:Lkz u A l){i:Nat}(hi:i<l.length):∃(b o:Nat) (p:Az) (P:Ax),A=some ⟨b,o,none⟩∧∀W,A4 u W→(Cz W b (o+i*4) p (knQ (l.map A1N) i)∧W.cell? ⟨b,o+i*4+3,none⟩=some (.slice P.1 (knW (l.map A1N) i).length P.2))∧Rz W p (knQ (l.map A1N) i)∧Lz W P.1 (knW (l.map A1N) i):=by
 obtain⟨b,o,e,hc⟩:=h.1.at hi;have e1:knQ (l.map A1N) i=l[i].2.1:=by unfold knQ;rw[List.getElem?_map,B9w hi];rfl
 have e2:knW (l.map A1N) i=l[i].2.2.2:=by unfold knW;rw[List.getElem?_map,B9w hi];rfl
 rw[e1,e2];obtain⟨h1,h2⟩:=h.2 _ (B9U hi);exact⟨b,o,l[i].1,l[i].2.2.1,e,fun W hg=>⟨⟨⟨hc W hg 0 _ rfl,hc W hg 1 _ rfl,hc W hg 2 _ rfl⟩,hc W hg 3 _ rfl⟩,h1.grow hg,h2.grow hg⟩⟩
structure KnW(B n:Nat)(vo vp:Value)(zs:List Kz)(qz:List Kq)(W:World):Prop where
 o:W.ownsRow B 82 4 vo n (zs.flatMap kzL)
 p:W.ownsRow B 84 6 vp n (qz.flatMap kqL)
 lz:zs.length=n
 lq:qz.length=n
 az:∀x∈zs,Rz W x.1 x.2.1∧Lzt W x.2.2.1.1 x.2.2.2
 aq:∀x∈qz,Lqt W x.2.1.1 x.2.2
 same:zs.map A1N=qz.map F9
 small:∀x∈qz,qs x.1≤50∧x.2.2.length≤3∧∀y∈x.2.2,qs y≤5
section
variable {B n:Nat} {vo vp v':Value} {zs:List Kz} {qz:List Kq} {u w':World} {o:Obj}
theorem KnW.grow{W:World}(h:KnW B n vo vp zs qz u)(hg:A4 u W):KnW B n vo vp zs qz W :=
 ⟨B9 h.o hg,B9 h.p hg,h.lz,h.lq,fun x hx=>⟨(h.az x hx).1.grow hg,(h.az x hx).2.grow hg⟩,fun x hx=>(h.aq x hx).grow hg,h.same,h.small⟩
theorem KnW.start(B:Nat)(u:World):KnW B 0 (.slice none 0 0) (.slice none 0 0) [] [] u :=
 ⟨C1B _ _ _ _,C1B _ _ _ _,rfl,rfl,fun x hx=>absurd hx List.not_mem_nil,fun x hx=>absurd hx List.not_mem_nil,rfl,fun x hx=>absurd hx List.not_mem_nil⟩
structure KnX(B n:Nat)(vo vp:Value)(zs:List Kz)(qz:List Kq)(x:Kz)(W:World):Prop where
 o:W.ownsRow B 82 4 vo (n+1) (zs.flatMap kzL++kzL x)
 p:W.ownsRow B 84 6 vp n (qz.flatMap kqL)
 lz:zs.length=n
 lq:qz.length=n
 az:∀x∈zs,Rz W x.1 x.2.1∧Lzt W x.2.2.1.1 x.2.2.2
 aq:∀x∈qz,Lqt W x.2.1.1 x.2.2
 same:zs.map A1N=qz.map F9
 small:∀x∈qz,qs x.1≤50∧x.2.2.length≤3∧∀y∈x.2.2,qs y≤5
 new:Rz W x.1 x.2.1∧Lzt W x.2.2.1.1 x.2.2.2
theorem KnX.grow{W:World}{x:Kz}(h:KnX B n vo vp zs qz x u)(hg:A4 u W):KnX B n vo vp zs qz x W :=
 ⟨B9 h.o hg,B9 h.p hg,h.lz,h.lq,fun x hx=>⟨(h.az x hx).1.grow hg,(h.az x hx).2.grow hg⟩,fun x hx=>(h.aq x hx).grow hg,h.same,h.small,⟨h.new.1.grow hg,h.new.2.grow hg⟩⟩
theorem B0S{p:Az}{q:Rat}{size m:Nat}{e:TypeId}{v:Value}{xs:List Value}(h:Rz u p q)(ho:u.ownsRow B e size v m xs)(ht:e≠193)(hg:(u.alloc o).grownBy w' v.ownBlock):Rz w' p q:=⟨h.1.own ho ht hg,h.2.own ho ht hg⟩
theorem KnX.addP{x:Kz}{y:Kq}(h:KnX B n vo vp zs qz x u)(hy:Lqt u y.2.1.1 y.2.2)(he:A1N x=F9 y)(hs:qs y.1≤50∧y.2.2.length≤3∧∀z∈y.2.2,qs z≤5)(h1:w'.ownsRow B 84 6 v' (n+1) (qz.flatMap kqL++kqL y))(hg:(u.alloc o).grownBy w' vp.ownBlock):KnW B (n+1) vo v' (zs++[x]) (qz++[y]) w':=by
 have ho:=A0T h.o (N9 h.p h.o (by decide)) hg;refine⟨by rw[C1K];simpa using ho,by rw[C1K];simpa using h1,by rw[List.length_append,h.lz];rfl,by rw[List.length_append,h.lq];rfl,fun z hz=>?_,fun z hz=>?_,by rw[List.map_append,List.map_append,h.same];simp[he],fun z hz=>?_⟩
 ·rcases List.mem_append.1 hz with hz|hz
  ·exact⟨B0S (h.az z hz).1 h.p (by decide) hg,(h.az z hz).2.stay h.p (by decide) (by decide) hg⟩
  ·rw[List.mem_singleton]at hz;subst hz;exact⟨B0S h.new.1 h.p (by decide) hg,h.new.2.stay h.p (by decide) (by decide) hg⟩
 ·rcases List.mem_append.1 hz with hz|hz
  ·exact(h.aq z hz).stay h.p (by decide) hg
  ·rw[List.mem_singleton]at hz;subst hz;exact hy.stay h.p (by decide) hg
 ·rcases List.mem_append.1 hz with hz|hz
  ·exact h.small z hz
  ·rw[List.mem_singleton]at hz;subst hz;exact hs
theorem KnW.both(h:KnW B n vo vp zs qz u):∃(A:Option Addr) (c:Nat) (A':Option Addr) (c':Nat),vo = .slice A n c∧vp = .slice A' n c'∧Lkz u A zs∧Lk u A' qz:=by
 obtain⟨A,c,e1,-,h1,-⟩:=A1S B6f (by omega) h.o;obtain⟨A',c',e2,-,h2,-⟩:=A1S A7L (by omega) h.p;exact⟨A,c,A',c',e1,e2,⟨h1,fun x hx=>⟨(h.az x hx).1,(h.az x hx).2.lz⟩⟩,h2,fun x hx=>(h.aq x hx).lq⟩
end
theorem A4z:EI 79 84 6 80:=A0l (by kernel_rfl) (by kernel_rfl) (by omega)
theorem A46(q:Rat)(P:Ax)(W:List Rat)(m:Nat)(hm:W.length=m)(w:World):(Instr.buildSlice 79 1 #[(0,.agg #[.bool (D6 q.num),.int .u64 (B8 q.num.natAbs),.string (B6 q.num.natAbs),.int .u64 (B8 (G9 q.den)),.string (B6 (G9 q.den)),.slice P.1 m P.2])]).run Tryz.prog w = .ok (.slice (some ⟨w.heap.size,0,none⟩) 1 1) (w.alloc (.cells (kqL (q,P,W)).toArray 84)):=by
 subst hm;go_simp;rfl
def knA(F B:Nat→List Rat)(L:Nat)(l:List Pc)(a:Rat):List Kn:=match A1E l a with
 | some p=>[(a,I5 (F p.1) (B p.1) L a)]
 | none=>[]
def A1T(F B:Nat→List Rat)(LM:Nat→List Lm)(top:Rat)(L K:Nat):List Kn:=(K4 (I4 LM top K)).flatMap (knA F B L (P6 LM top K))
theorem B07{α β:Type}{f:α→List β}{g:α→β}:∀ {l:List α},(∀x∈l,f x=[g x])→l.flatMap f=l.map g
 | [],_=>rfl
 | a::t,h=>by
  rw[List.flatMap_cons,List.map_cons,h a (by simp),B07 fun x hx=>h x (by simp[hx])];rfl
theorem B3v{X:List (List Rat)}{y:List Rat}{N L:Nat}(hF:A1P X N L):A1T (Q5 X y N L) (R6 X N L) (L6 X y N L) (N3 X y N L) L (3^L)=A15 X y N L:=by
 unfold A1T A15;refine B07 fun a ha=>?_;obtain⟨h0,h1⟩:=B05 (A16.1 ha);obtain⟨k1,k2,-⟩:=A52 hF y a;obtain⟨p,hp⟩:=B7V h0 h1 k1 k2;obtain⟨g1,-,-,g4⟩:=B0X hp;unfold knA;rw[hp];have:=B76 hF (y:=y) h0 g4;unfold A1I at this;simp only;rw[this]
end Go.Proofs.YtgpglgbcobeogaaGreatDoor
