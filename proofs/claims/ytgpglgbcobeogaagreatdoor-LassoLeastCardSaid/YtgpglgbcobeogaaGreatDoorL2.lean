import Derived.Test.YtgpglgbcobeogaaGreatDoorL1
set_option linter.unusedSimpArgs false
set_option linter.unusedVariables false
namespace Go.Proofs.YtgpglgbcobeogaaGreatDoor
def val(B:Nat):List Nat->Nat
 | []=>0
 | x::l=>x+B*val B l
theorem A6k(B:Nat):val B []=0:=rfl
theorem O7(B x:Nat)(l:List Nat):val B (x::l)=x+B*val B l:=rfl
theorem A0O(B:Nat)(l m:List Nat):val B (l++m)=val B l+B^l.length*val B m:=by
 induction l with
 | nil=>simp[val]
 | cons x l ih=>simp[val,ih,Nat.pow_succ];grind
theorem A0g(B:Nat)(l:List Nat)(x:Nat):val B (l++[x])=val B l+B^l.length*x:=by
 rw[A0O];simp[val]
theorem B1E(B:Nat)(l:List Nat)(i:Nat)(h:i<l.length):val B (l.take (i+1))=val B (l.take i)+B^i*l[i]:=by
 rw[B8h h,A0g,List.length_take,B83 (by omega)]
theorem A0H(B:Nat)(l:List Nat)(i:Nat)(h:l.length<=i):val B (l.take i)=val B l:=by
 rw[B8u h]
def Dig(B:Nat)(l:List Nat):Prop:=∀x∈l,x<B
theorem K6{B:Nat}{l:List Nat}(h:Dig B l):val B l<B^l.length:=by
 induction l with
 | nil=>simp[val]
 | cons x l ih =>
  have hx:x<B:=h x (by simp);have hl:=ih (λy hy=>h y (by simp[hy]));simp only[val,List.length_cons,Nat.pow_succ];have:B*(val B l+1)<=B*B^l.length:=B9L _ hl;grind
theorem A1S(B n:Nat):val B (List.replicate n 0)=0:=by
 induction n with
 | zero=>rfl
 | succ n ih=>simp[List.replicate_succ,val,ih]
def W6(l:List Nat):Prop:=l=[]\/l.getLast?≠some 0
def A1v(B:Nat):Nat->Nat->List Nat
 | 0,_=>[]
 | f+1,a=>if a=0 then []else a%B::A1v B f (a/B)
def B4(B a:Nat):List Nat:=A1v B a a
theorem A5h{B:Nat}(hB:2<=B):∀(f a:Nat),a<=f->A1v B f a=if a=0 then []else a%B::A1v B (a/B) (a/B)
 | 0,a,h=>by simp[A1v];omega
 | f+1,a,h=>by
  by_cases ha:a=0
  ·simp[A1v,ha]
  ·have hlt:a/B<a:=Nat.div_lt_self (by omega) (by omega);simp only[A1v,ha,if_false,List.cons.injEq,true_and];rw[A5h hB f (a/B) (by omega),A5h hB (a/B) (a/B) (K2 _)]
theorem A2h(B:Nat):B4 B 0=[]:=rfl
theorem A08{B a:Nat}(hB:2<=B)(ha:a≠0):B4 B a=a%B::B4 B (a/B):=by
 unfold B4;rw[A5h hB a a (K2 _),if_neg ha]
theorem E3{B:Nat}(hB:2<=B)(a:Nat):val B (B4 B a)=a:=by
 induction a using Nat.strongRecOn with
 | ind a ih =>
  by_cases ha:a=0
  ·subst ha;rfl
  ·rw[A08 hB ha,val,ih _ (Nat.div_lt_self (by omega) (by omega)),B9i]
theorem G5{B:Nat}(hB:2<=B)(a:Nat):Dig B (B4 B a):=by
 induction a using Nat.strongRecOn with
 | ind a ih =>
  by_cases ha:a=0
  ·subst ha;intro x hx;simp[A2h]at hx
  ·rw[A08 hB ha];intro x hx;rcases List.mem_cons.1 hx with rfl|hx
   ·exact B8b _ (by omega)
   ·exact ih _ (Nat.div_lt_self (by omega) (by omega)) x hx
theorem A4Y{B:Nat}(hB:2<=B):∀(l:List Nat),Dig B l->W6 l->B4 B (val B l)=l
 | [],_,_=>rfl
 | x::l,hd,ht=>by
  have hx:x<B:=hd x (by simp);have hl:Dig B l:=λy hy=>hd y (by simp[hy]);have htl:W6 l:=by
   rcases l with _|⟨y,l⟩
   ·exact .inl rfl
   ·rcases ht with h|h
    ·cases h
    ·exact .inr (by simpa [B9j]using h)
  have hne:val B (x::l)≠0:=by
   intro h0;simp only[val]at h0;have hx0:x=0:=by omega
   have hv0:val B l=0:=by
    have:B*val B l=0:=by omega
    rcases Nat.mul_eq_zero.1 this with h|h
    ·omega
    ·exact h
   have:=A4Y hB l hl htl;rw[hv0,A2h]at this;subst this;subst hx0;rcases ht with h|h
   ·cases h
   ·simp at h
  rw[A08 hB hne];have e1:val B (x::l)%B=x:=by simp only[val];rw[B9I,Nat.mod_eq_of_lt hx]
  have e2:val B (x::l)/B=val B l:=by simp only[val];rw[B9k _ _ (by omega),B80 hx,Nat.zero_add]
  rw[e1,e2,A4Y hB l hl htl]
theorem A2F{B:Nat}(hB:2<=B)(a:Nat):W6 (B4 B a):=by
 induction a using Nat.strongRecOn with
 | ind a ih =>
  by_cases ha:a=0
  ·subst ha;exact .inl rfl
  ·have h:=ih _ (Nat.div_lt_self (B81 ha) hB);rw[A08 hB ha];by_cases hq:a/B=0
   ·rw[hq,A2h];refine .inr ?_;simp only[List.getLast?_singleton,ne_eq,Option.some.injEq];have:=B9i a B;rw[hq]at this;omega
   ·rw[A08 hB hq]at h⊢;rcases h with h|h
    ·cases h
    ·exact .inr (by simpa [B9j]using h)
theorem A40{B:Nat}{l:List Nat}(hd:Dig B l):W6 l↔(l=[]\/B^(l.length-1)<=val B l):=by
 constructor
 ·intro ht;rcases List.eq_nil_or_concat l with rfl|⟨m,x,rfl⟩
  ·exact .inl rfl
  ·refine .inr ?_;rcases ht with h|h
   ·simp at h
   ·simp at h;simp[A0g];have:B^m.length*1<=B^m.length*x:=B9L _ (by omega);omega
 ·intro h;rcases List.eq_nil_or_concat l with rfl|⟨m,x,rfl⟩
  ·exact .inl rfl
  ·refine .inr ?_;rcases h with h|h
   ·simp at h
   ·simp[A0g]at h⊢;rintro rfl;have:=K6 (l:=m) (λy hy=>hd y (by simp[hy]));simp at h;omega
theorem A3v{B a n:Nat}(hB:2<=B)(h:a<B^n):(B4 B a).length<=n:=by
 by_cases h0:a=0
 ·subst h0;simp[A2h]
 ·have ht:=(A40 (G5 hB a)).1 (A2F hB a);rw[E3 hB]at ht;rcases ht with ht|ht
  ·rw[ht];simp
  ·have hlt:B^((B4 B a).length-1)<B^n:=B8O ht h;have:=(Nat.pow_lt_pow_iff_right (by omega)).1 hlt;omega
theorem A49{B a n:Nat}(hB:2<=B)(h:B^n<=a):n<(B4 B a).length:=by
 have hv:=K6 (G5 hB a);rw[E3 hB]at hv;exact(Nat.pow_lt_pow_iff_right (a:=B) (by omega)).1 (B8O h hv)
theorem B5U{B a b:Nat}(hB:2<=B)(h:B4 B a=B4 B b):a=b:=by
 rw[<-E3 hB a,h,E3 hB]
theorem B48{V2 U3 p vl ul g B:Nat}(_hp:0<p)(_hvl:vl<p)(_hul:ul<p)(hV2:B<=V2)(hg:g<B)(hle:g*V2<=U3) :
  g*(V2*p+vl)<(U3*p+ul)+(V2*p+vl):=by
 have h1:g*V2*p<=U3*p:=B8q _ hle;have h2:g*vl<=g*p:=B9L _ (by omega);have h3:(g+1)*p<=V2*p:=B8q _ (by omega);have e:g*(V2*p+vl)=g*V2*p+g*vl:=by grind
 have e3:(g+1)*p=g*p+p:=by grind
 omega
theorem B18{V2 U3 p vl ul q:Nat}(_hul:ul<p)(hq:q*(V2*p+vl)<=U3*p+ul):q*V2<=U3:=by
 have h:q*V2*p<(U3+1)*p:=by
  have e:q*(V2*p+vl)=q*V2*p+q*vl:=by grind
  have e3:(U3+1)*p=U3*p+p:=by grind
  omega
 have:=B9l h;omega
theorem B1B{U V g:Nat}(hV:0<V)(hlo:U/V<=g)(hhi:g*V<U+V):g=U/V\/(g=U/V+1/\U<g*V):=by
 have h1:U/V*V<=U:=B9m _ _;have h2:U<(U/V+1)*V:=by have:=Nat.lt_div_mul_add hV (a:=U);rw[B9h];omega
 rcases B73 (U/V) g with h|h
 ·right;have:g<U/V+2:=by
   have:g*V<(U/V+2)*V:=by
    have e:(U/V+2)*V=(U/V+1)*V+V:=by grind
    omega
   exact B9l this
  have e:g=U/V+1:=by omega
  exact⟨e,by rw[e];exact h2⟩
 ·left;omega
def dg(l:List Nat)(k:Nat):Nat:=(l[k]?).getD 0
theorem D1{B:Nat}{l:List Nat}(hB:0<B)(h:Dig B l)(k:Nat):dg l k<B:=by
 unfold dg
 cases hk:l[k]? with
 | none=>exact hB
 | some x=>exact h x (B8J hk)
theorem E8{l:List Nat}{k:Nat}(h:k<l.length):dg l k=l[k]:=by
 unfold dg;rw[B8i h];rfl
theorem A0u{l:List Nat}{k:Nat}(h:l.length<=k):dg l k=0:=by
 unfold dg;rw[B9n h];rfl
theorem N2(B:Nat)(l:List Nat)(k:Nat):val B (l.take (k+1))=val B (l.take k)+B^k*dg l k:=by
 rcases B73 k l.length with h|h
 ·rw[B1E B l k h,E8 h]
 ·rw[A0H B l _ (by omega),A0H B l _ h,A0u h];simp
theorem A6F(B p s:Nat):p*(s%B)+s/B*(p*B)=p*s:=by
 have h:=B9i s B
 calc p*(s%B)+s/B*(p*B)=p*(s%B+B*(s/B)):=by grind
  _=p*s:=by rw[h]
theorem A9Q{B:Nat}{zs lx ly:List Nat}{k cy:Nat}(hz:zs.length=k)(h:val B zs+cy*B^k=val B (lx.take k)+val B (ly.take k)) :
  val B (zs++[(dg lx k+dg ly k+cy)%B])+(dg lx k+dg ly k+cy)/B*B^(k+1)=val B (lx.take (k+1))+val B (ly.take (k+1)):=by
 have h1:=A6F B (B^k) (dg lx k+dg ly k+cy);rw[A0g,hz,N2,N2,Nat.pow_succ];have h2:B^k*(dg lx k+dg ly k+cy)=B^k*dg lx k+B^k*dg ly k+cy*B^k:=by grind
 omega
theorem A6P{B:Nat}{zs lx ly:List Nat}{k br:Nat}(hbr:br<=1)(hx:dg lx k<B)(hy:dg ly k<B)(hz:zs.length=k)(h:val B zs+val B (ly.take k)=val B (lx.take k)+br*B^k) :
  val B (zs++[(dg lx k+B-dg ly k-br)%B])+val B (ly.take (k+1))=val B (lx.take (k+1))+(if dg lx k<dg ly k+br then 1 else 0)*B^(k+1):=by
 rw[A0g,hz,N2,N2,Nat.pow_succ];split
 ·rename_i hlt;rw[Nat.mod_eq_of_lt (by omega)];obtain⟨d,hd⟩:∃d,d=dg lx k+B-dg ly k-br:=⟨_,rfl⟩
  rw[<-hd];have h3:d+dg ly k+br=dg lx k+B:=by omega
  have h2:B^k*d+B^k*dg ly k+br*B^k=B^k*dg lx k+B^k*B:=by
   calc B^k*d+B^k*dg ly k+br*B^k=B^k*(d+dg ly k+br):=by grind
    _=B^k*(dg lx k+B):=by rw[h3]
    _=_:=by grind
  omega
 ·rename_i hge;have e:(dg lx k+B-dg ly k-br)%B=dg lx k-dg ly k-br:=by
   rw[show dg lx k+B-dg ly k-br=(dg lx k-dg ly k-br)+B by omega,Nat.add_mod_right,Nat.mod_eq_of_lt (by omega)]
  rw[e];obtain⟨d,hd⟩:∃d,d=dg lx k-dg ly k-br:=⟨_,rfl⟩
  rw[<-hd];have h3:d+dg ly k+br=dg lx k:=by omega
  have h2:B^k*d+B^k*dg ly k+br*B^k=B^k*dg lx k:=by
   calc B^k*d+B^k*dg ly k+br*B^k=B^k*(d+dg ly k+br):=by grind
    _=_:=by rw[h3]
  omega
theorem A2f{B:Nat}{la lb:List Nat}{k:Nat}(ha:Dig B la)(hl:la.length=lb.length)(hk:k<la.length)(hd:la.drop (k+1)=lb.drop (k+1))(h:dg la k<dg lb k):val B la<val B lb:=by
 have e1:la=la.take k++(dg la k::la.drop (k+1)):=by
  rw[E8 hk,<-B9H hk,B8D]
 have e2:lb=lb.take k++(dg lb k::lb.drop (k+1)):=by
  rw[E8 (by omega),<-B9H (by omega),B8D]
 have l1:(la.take k).length=k:=by rw[List.length_take];omega
 have l2:(lb.take k).length=k:=by rw[List.length_take];omega
 have h1:val B (la.take k)<B^k:=by
  have:=K6 (B:=B) (l:=la.take k) (λx hx=>ha x (B8p hx));rw[l1]at this;exact this
 rw[e1,e2,A0O,A0O,l1,l2,O7,O7,hd];have h2:B^k*(dg la k+1)<=B^k*dg lb k:=B9L _ h;rw[B9o,B9o];rw[B9o,B9P]at h2;omega
def G4(a b:Nat):Int:=if a<b then -1 else if b<a then 1 else 0
theorem V4{a b:Nat}(h:a<b):G4 a b = -1:=if_pos h
theorem A0c{a b:Nat}(h:b<a):G4 a b=1:=by unfold G4;rw[if_neg (by omega),if_pos h]
theorem A13{a b:Nat}(h:a=b):G4 a b=0:=by unfold G4;rw[if_neg (by omega),if_neg (by omega)]
theorem Y7(B:Nat):∀(l:List Nat) (k y:Nat),k<l.length->val B (l.set k y)+B^k*dg l k=val B l+B^k*y
 | [],k,_,h=>by simp at h
 | x::l,0,y,_=>by simp[val,dg];omega
 | x::l,k+1,y,h=>by
  have ih:=Y7 B l k y (by simpa using h);have e:dg (x::l) (k+1)=dg l k:=by simp[dg]
  rw[List.set_cons_succ,O7,O7,e,Nat.pow_succ];have h1:B*(val B (l.set k y)+B^k*dg l k)=B*(val B l+B^k*y):=by rw[ih]
  grind
theorem S7{B:Nat}{l:List Nat}(h:Dig B l)(k:Nat){y:Nat}(hy:y<B):Dig B (l.set k y):=λx hx=>by
 rcases List.mem_or_eq_of_mem_set hx with h1|h1
 ·exact h x h1
 ·rw[h1];exact hy
theorem R4(l:List Nat){k j:Nat}(y:Nat)(h:k≠j):dg (l.set k y) j=dg l j:=by
 unfold dg;rw[List.getElem?_set_ne h]
theorem A5C{B x y d c:Nat}(hx:x<B)(hy:y<B)(hd:d<B)(hc:c<B) :
  ((x*y%B+d)%B+c)%B=(x*y+d+c)%B/\x*y/B+(x*y%B+d)/B+((x*y%B+d)%B+c)/B=(x*y+d+c)/B/\(x*y+d+c)/B<B:=by
 have hB:0<B:=by omega
 have h1:=B9i (x*y) B;have h2:=B9i (x*y%B+d) B;have h3:=B9i ((x*y%B+d)%B+c) B;obtain⟨r,hr⟩:∃r,r=((x*y%B+d)%B+c)%B:=⟨_,rfl⟩
 obtain⟨q,hq⟩:∃q,q=x*y/B+(x*y%B+d)/B+((x*y%B+d)%B+c)/B:=⟨_,rfl⟩
 have hrB:r<B:=by rw[hr];exact B8b _ hB
 have ht:x*y+d+c=r+B*q:=by
  rw[hq,B9o,B9o];rw[<-hr]at h3;omega
 have hlt:x*y+d+c<B*B:=by
  have h5:x*y<=(B-1)*(B-1):=B9p (by omega) (by omega);have h6:(B-1)*(B-1)+2*(B-1)+1=B*B:=by
   obtain⟨m,rfl⟩:∃m,B=m+1:=⟨B-1,by omega⟩
   simp only[Nat.add_sub_cancel];grind
  omega
 refine⟨?_,?_,?_⟩
 ·rw[<-hr,ht,B9I,Nat.mod_eq_of_lt hrB]
 ·rw[<-hq,ht,B9k _ _ hB,B80 hrB,Nat.zero_add]
 ·exact B9e hlt
theorem A8N{B:Nat}{zs l2:List Nat}{v0 m i j c:Nat}(hij:i+j<zs.length)
  (h:val B zs+c*B^(i+j)=v0+B^i*(m*val B (l2.take j))) :
  val B (zs.set (i+j) ((m*dg l2 j+dg zs (i+j)+c)%B))+(m*dg l2 j+dg zs (i+j)+c)/B*B^(i+j+1)=v0+B^i*(m*val B (l2.take (j+1))):=by
 have h1:=Y7 B zs (i+j) ((m*dg l2 j+dg zs (i+j)+c)%B) hij;have h2:=A6F B (B^(i+j)) (m*dg l2 j+dg zs (i+j)+c);rw[N2,Nat.pow_succ];have h3:B^(i+j)*(m*dg l2 j+dg zs (i+j)+c)=B^(i+j)*(m*dg l2 j)+B^(i+j)*dg zs (i+j)+c*B^(i+j):=by grind
 have h4:B^i*(m*(val B (l2.take j)+B^j*dg l2 j))=B^i*(m*val B (l2.take j))+B^(i+j)*(m*dg l2 j):=by rw[B8a];grind
 rw[h4];omega
def DG(b y1 y0 u n q r:Nat):Prop:=q*y1+r=u/\u*b+n<(q+1)*(y1*b+y0)/\r<b/\q<=b+1
theorem DG.start{b y1 y0 u n:Nat}(hy1:y1<b)(hb:b<=2*y1)(hy0:y0<b)(hn:n<b)(hu:u<y1*b+y0):DG b y1 y0 u n (u/y1) (u%y1):=by
 have hp:0<y1:=by omega
 have h1:=B9c u y1;have h2:=B8b u hp;rw[B8t]at h1;refine⟨h1,?_,by omega,?_⟩
 ·have h3:u+1<=(u/y1+1)*y1:=by rw[B9h];omega
  calc u*b+n<(u+1)*b:=by rw[B9h];omega
   _<=(u/y1+1)*y1*b:=B8q b h3
   _<=(u/y1+1)*(y1*b+y0):=by rw[B9Q];exact B9L _ (by omega)
 ·rcases B73 (b+1) (u/y1)with h|h
  ·have h3:(b+2)*y1<=u/y1*y1:=B8q y1 h;rw[B9h,B8t b y1]at h3;omega
  ·exact h
theorem DG.much{b y1 y0 u n q r:Nat}(h:DG b y1 y0 u n q r)(hn:n<b)(hu:u<y1*b+y0)(hc:b<=q\/b*r+n<q*y0):0<q/\u*b+n<q*(y1*b+y0):=by
 obtain⟨h1,h2,h3,h4⟩:=h;rcases hc with hc|hc
 ·refine⟨by omega,?_⟩
  calc u*b+n<(u+1)*b:=by rw[B9h];omega
   _<=(y1*b+y0)*b:=B8q b hu
   _<=q*(y1*b+y0):=by rw[B8t];exact B8q _ hc
 ·refine⟨B81 λh0=>by rw[h0,B8s]at hc;omega,?_⟩;rw[<-h1,B9o,<-B9Q,B9h,B8t r b];omega
theorem DG.next{b y1 y0 u n q r:Nat}(h:DG b y1 y0 u n q r)(hn:n<b)(hu:u<y1*b+y0)(hc:b<=q\/b*r+n<q*y0)(hr:r+y1<b):DG b y1 y0 u n (q-1) (r+y1):=by
 obtain⟨hq,hlt⟩:=h.much hn hu hc;obtain⟨h1,h2,h3,h4⟩:=h;obtain⟨q',rfl⟩:∃q',q=q'+1:=⟨q-1,by omega⟩
 refine⟨?_,hlt,hr,by omega⟩;rw[Nat.add_sub_cancel,<-h1,B9h];omega
theorem DG.stop{b y1 y0 u n q r:Nat}(h:DG b y1 y0 u n q r)(hc:q*y0<=b*r+n):(u*b+n)/(y1*b+y0)=q:=by
 obtain⟨h1,h2,h3,h4⟩:=h;refine Nat.div_eq_of_lt_le ?_ h2;rw[<-h1,B9o,<-B9Q,B9h,B8t r b];omega
theorem DG.broke{b y1 y0 u n q r:Nat}(h:DG b y1 y0 u n q r)(hn:n<b)(hy0:y0<b)(hu:u<y1*b+y0)(hc:b<=q\/b*r+n<q*y0)(hr:b<=r+y1):(u*b+n)/(y1*b+y0)=q-1:=by
 obtain⟨hq,hlt⟩:=h.much hn hu hc;obtain⟨h1,h2,h3,h4⟩:=h;obtain⟨q',rfl⟩:∃q',q=q'+1:=⟨q-1,by omega⟩
 rw[Nat.add_sub_cancel];refine Nat.div_eq_of_lt_le ?_ hlt;have h5:q'*y0<=b*b:=B9p (by omega) (by omega);have h6:b*b<=b*(r+y1):=B9L b hr;have h7:u=q'*y1+(r+y1):=by rw[<-h1,B9h];omega
 rw[h7,B9o,<-B9Q,B9h,B8t (r+y1) b];omega
theorem A35(x W p:Nat)(_hp:0<p)(r:Nat)(hW:W=p*r)(_hr:0<r):x*p/W=x/r/\x*p%W=x%r*p:=by
 subst hW;rw[B8t x p,Nat.mul_div_mul_left _ _ _hp,Nat.mul_mod_mul_left,B8t p];exact⟨rfl,rfl⟩
theorem A2s{a b s:Nat}(h:b<2^s)(ha:2^s ∣ a):a ||| b=a+b:=by
 obtain⟨k,rfl⟩:=ha;exact(Nat.two_pow_add_eq_or_of_lt h k).symm
theorem A2Q{a b s:Nat}(h:b<2^s)(ha:2^s ∣ a):b ||| a=a+b:=by
 rw[Nat.or_comm];exact A2s h ha
theorem B7h{X p u n1 n0 y b:Nat}(hp:0<p)(hy:0<y)(h:X*p=(u*b+n1)*b+n0) :
  X/y=(u*b+n1)/(y*p)*b+((u*b+n1)%(y*p)*b+n0)/(y*p)/\X%y=((u*b+n1)%(y*p)*b+n0)%(y*p)/p:=by
 have hY:0<y*p:=B8n hy hp;have e1:=B9c (u*b+n1) (y*p);have e2:=B9c ((u*b+n1)%(y*p)*b+n0) (y*p);have l2:=B8b ((u*b+n1)%(y*p)*b+n0) hY;generalize (u*b+n1)/(y*p)=q1 at *;generalize (u*b+n1)%(y*p)=u2 at *;generalize (u2*b+n0)/(y*p)=q2 at *;generalize (u2*b+n0)%(y*p)=r2 at *;have e3:X*p=(y*p)*(q1*b+q2)+r2:=by rw[h,<-e1];grind
 constructor
 ·rw[<-Nat.mul_div_mul_right X y hp,e3,Nat.mul_add_div hY,B80 l2,Nat.add_zero]
 ·have e4:X%y*p=r2:=by
   rw[<-Nat.mul_mod_mul_right,e3,Nat.mul_add_mod,Nat.mod_eq_of_lt l2]
  rw[<-e4,Nat.mul_div_cancel _ hp]
theorem A3x{u Y b n:Nat}(hu:u<Y)(hn:n<b):(u*b+n)/Y<b:=by
 rw[B9q (by omega)]
 calc u*b+n<(u+1)*b:=by rw[B9h];omega
  _<=Y*b:=B8q b hu
  _=b*Y:=B8t _ _
end Go.Proofs.YtgpglgbcobeogaaGreatDoor
