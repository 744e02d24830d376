import Derived.Test.YtgpglgbcobeogaaGreatDoorN38
import Derived.Test.YtgpglgbcobeogaaGreatDoorN41
set_option linter.unusedSimpArgs false
set_option linter.unusedVariables false
set_option maxHeartbeats 4000000
set_option maxRecDepth 100000
namespace Go.Proofs.YtgpglgbcobeogaaGreatDoor
open Go Go.RowKit
theorem A4b{X:List (List Rat)}{N L i j:Nat}(hi:i<L)(hj:j<L):gq (B7 (K9 X N L) i) j=L6 X N i j:=by
 have e1:B7 (K9 X N L) i=G1 (L6 X N) L i:=A2Y hi;rw[e1];exact W5 _ hj
theorem A7u{n c t:Nat}(h:t<n):gi (F5 n c) t=sgI c t:=by
 unfold gi F5;rw[List.getElem?_map,C0z h];rfl
theorem A3z(n c:Nat):Sgn n (gi (F5 n c)):=λi hi=>by
 rw[A7u hi];unfold sgI;have:c/3^i%3<3:=B9R _ (by omega);omega
theorem A84(s:Nat->Int):∀n,Sgn n s->∃c,c<3^n/\∀t,t<n->sgI c t=s t
 | 0,_=>⟨0,by simp,λt ht=>absurd ht (C03 _)⟩
 | n+1,h=>by
  obtain⟨c,hc,he⟩:=A84 s n λi hi=>h i (by omega);obtain⟨d,hd⟩:∃d:Nat,(d:Int)=s n+1:=⟨(s n+1).toNat,by have:=h n (by omega);omega⟩
  have hd3:d<3:=by have:=h n (by omega);omega
  have h3:d*3^n<=2*3^n:=B9g _ (by omega);refine⟨c+d*3^n,by rw[Nat.pow_succ];omega,λt ht=>?_⟩;by_cases e:t=n
  ·subst e;unfold sgI;have e1:(c+d*3^t)/3^t=d:=by
    rw[Nat.add_mul_div_right _ _ (C0j (by omega)),B9q hc];omega
   rw[e1,Nat.mod_eq_of_lt hd3];omega
  ·have e1:(c+d*3^n)/3^t%3=c/3^t%3:=by
    obtain⟨m,hm⟩:∃m,n=t+(m+1):=⟨n-t-1,by omega⟩
    rw[hm,B9Q,<-C0G,Nat.mul_right_comm,Nat.add_mul_div_right _ _ (C0j (by omega)),Nat.pow_succ,<-C0G,Nat.add_mul_mod_self_right]
   rw[<-he t (by omega)];unfold sgI;rw[e1]
def V9(X:List (List Rat))(y:List Rat)(N L k:Nat):List Rat:=A0k (K9 X N L) (J5 X y N L) (F5 L k) L
def Z0(X:List (List Rat))(N L k:Nat):List Rat:=A0Y (K9 X N L) (F5 L k) L
def M4(X:List (List Rat))(y:List Rat)(N L k:Nat):List Lm:=Y4 (K9 X N L) (J5 X y N L) (V9 X y N L k) (Z0 X N L k) (F5 L k) L L
def A05(X:List (List Rat))(y:List Rat)(N L:Nat)(a:Rat):Nat:=W6 (λk=>!H7 a (M4 X y N L k)) (3^L) 0
def A1J(X:List (List Rat))(y:List Rat)(N L:Nat)(a:Rat)(k:Nat):List Rat:=I6 (V9 X y N L k) (Z0 X N L k) L a
def A1A(X:List (List Rat))(y:List Rat)(N L:Nat)(a:Rat):List Rat:=A1J X y N L a (A05 X y N L a)
def A1v(X:List (List Rat))(N L:Nat):Prop:=(C9 N L (F6 X,[]) L).2.length=L
section
variable {X:List (List Rat)} {N L:Nat} (hF:A1v X N L)
include hF
theorem A50(y:List Rat)(a:Rat)(k:Nat):SolW (L6 X N) L (gq (J5 X y N L)) a (gi (F5 L k)) (gq (A1J X y N L a k)) :=
 B7K (λi hi j hj=>A4b hi hj) (A26 hF) (F5 L k) a
omit hF in
theorem A6G(y:List Rat)(a:Rat)(k:Nat):H7 a (M4 X y N L k)=true↔A6q (L6 X N) L (gq (J5 X y N L)) a (gi (F5 L k)) (gq (A1J X y N L a k)) :=
 A9f (G:=L6 X N) (λi hi j hj=>A4b hi hj) (F5 L k) _ _ a L (B8s _)
theorem B2d(y:List Rat)(a:Rat):∃k,k<3^L/\H7 a (M4 X y N L k)=true:=by
 obtain⟨k,hk,h⟩:=B53 (G:=L6 X N) (n:=L) (p:=gq (J5 X y N L)) (a:=a) (λi _ j _=>B0v X N i j) (A9P X N L) (A26 hF) (3^L) (λk=>gi (F5 L k)) (λk=>gq (A1J X y N L a k)) (λk _=>A3z L k) (λk _=>A50 hF y a k) (λs hs=>by
  obtain⟨c,hc,he⟩:=A84 s L hs
  exact⟨c,hc,λi hi=>by rw[A7u hi];exact he i hi⟩)
 exact⟨k,hk,(A6G y a k).2 h⟩
theorem B0P(y:List Rat)(a:Rat):A05 X y N L a<3^L/\H7 a (M4 X y N L (A05 X y N L a))=true/\∀j,j<A05 X y N L a->H7 a (M4 X y N L j)=false:=by
 obtain⟨h1,h2,h3,h4⟩:=A2e (λk=>!H7 a (M4 X y N L k)) (3^L) 0;have hlt:A05 X y N L a<3^L:=by
  rcases B8t (A05 X y N L a) (3^L)with h|h
  ·exact h
  ·obtain⟨k,hk,hh⟩:=B2d hF y a;have:=h3 k (B9a _) (by unfold A05 at h;omega);simp only[hh]at this;cases this
 refine⟨hlt,?_,λj hj=>?_⟩
 ·have:=h4 (by unfold A05 at hlt;omega)
  simpa [A05]using this
 ·have:=h3 j (B9a _) hj
  simpa using this
theorem B1Q(y:List Rat){a:Rat}(ha:0<=a):Kkt (L6 X N) L (gq (J5 X y N L)) a (gq (A1A X y N L a)) :=
 A7v (A3z L _) ha (A50 hF y a _) ((A6G y a _).1 (B0P hF y a).2.1)
theorem B2s(y:List Rat){a:Rat}(ha:0<=a){w:Nat->Rat}(h:Kkt (L6 X N) L (gq (J5 X y N L)) a w):∀i,i<L->w i=gq (A1A X y N L a) i :=
 B63 (λi _ j _=>B0v X N i j) (A9P X N L) (A26 hF) ha (B1Q hF y ha) h
end
theorem B3V(X:List (List Rat))(y:List Rat)(N L:Nat)(a:Rat):(A1A X y N L a).length=L:=by
 unfold A1A A1J I6;simp
theorem B1c{l m:List Rat}{n:Nat}(h1:l.length=n)(h2:m.length=n)(h:∀i,i<n->gq l i=gq m i):l=m:=by
 apply B88 (by omega);intro i hi hj;have:=h i (by omega);unfold gq at this;rw[B9Y hi,B9Y hj]at this;exact this
theorem R7.row{u u':World}{ps:List Zr}{B size n cap g i:Nat}{xs vs:List Value}(hl:R7 u ps)(h:u.ownsRow B 33 size (.slice (some ⟨g,0,none⟩) n cap) n xs)(hu:C2 u g i vs=u'):R7 u' ps:=by
 obtain⟨h0,h1|⟨g',cap',cur,e1,hb,hh,-⟩⟩:=h
 ·exact absurd h1.1 (by simp)
 ·obtain rfl:g=g':=by cases e1;rfl
  exact hl.put (bl:=[(g,33,cur)]) (Bx.cons hh (Bx.nil u)) 0 rfl (by decide) i vs hu
abbrev Kz:=Az×Rat×Ax×List Rat
def kzL(x:Kz):List Value:=zrL (x.1,x.2.1)++[.slice x.2.2.1.1 x.2.2.2.length x.2.2.1.2]
theorem B4D(x:Kz):(kzL x).length=4:=rfl
abbrev A1I(x:Kz):Kn:=(x.2.1,x.2.2.2)
def Lkz(u:World)(A:Option Addr)(l:List Kz):Prop:=Le kzL 4 u A l/\∀x∈l,Rz u x.1 x.2.1/\Lz u x.2.2.1.1 x.2.2.2
theorem Lkz.grow{u u':World}{A:Option Addr}{l:List Kz}(h:Lkz u A l)(hg:A4 u u'):Lkz u' A l:=⟨h.1.grow hg,λx hx=>⟨(h.2 x hx).1.grow hg,(h.2 x hx).2.grow hg⟩⟩
theorem Lkz.at{u:World}{A:Option Addr}{l:List Kz}(h:Lkz u A l){i:Nat}(hi:i<l.length):∃(b o:Nat) (p:Az) (P:Ax),A=some ⟨b,o,none⟩/\∀W,A4 u W->(Cz W b (o+i*4) p (knQ (l.map A1I) i)/\W.cell? ⟨b,o+i*4+3,none⟩=some (.slice P.1 (knW (l.map A1I) i).length P.2))/\Rz W p (knQ (l.map A1I) i)/\Lz W P.1 (knW (l.map A1I) i):=by
 obtain⟨b,o,e,hc⟩:=h.1.at hi;have e1:knQ (l.map A1I) i=l[i].2.1:=by unfold knQ;rw[List.getElem?_map,B9Y hi];rfl
 have e2:knW (l.map A1I) i=l[i].2.2.2:=by unfold knW;rw[List.getElem?_map,B9Y hi];rfl
 rw[e1,e2];obtain⟨h1,h2⟩:=h.2 _ (B86 hi);exact⟨b,o,l[i].1,l[i].2.2.1,e,λW hg=>⟨⟨⟨hc W hg 0 _ rfl,hc W hg 1 _ rfl,hc W hg 2 _ rfl⟩,hc W hg 3 _ rfl⟩,h1.grow hg,h2.grow hg⟩⟩
section
variable {u w':World} {B:Nat} {e:TypeId} {size n:Nat} {v:Value} {xs:List Value} {o:Obj}
theorem A3x{b:Nat}{cs:Array Value}{T:TypeId}{fr:Nat×Nat}(hb:u.heap[b]?=some (.cells cs T fr))(h:u.ownsRow B e size v n xs)(ht:e≠T)(hg:(u.alloc o).grownBy w' v.ownBlock):w'.heap[b]?=u.heap[b]?:=by
 have hlt:=L7 hb;have h2:(u.alloc o).heap[b]?=u.heap[b]?:=(A4.alloc u o).block b hlt;refine(hg.block b (by rw[I9];omega) λhxe=>?_).trans h2;obtain⟨_,h|⟨g,cap,cur,rfl,hb',hh,hn,hc',hs,ht2⟩⟩:=h
 ·rw[h.1]at hxe;cases hxe
 ·have h1:b=g:=B8y hxe;rw[h1,hh]at hb;injection hb with hb;injection hb with _ h3 _;exact ht h3
structure Lzt(u:World)(A:Option Addr)(l:List Rat):Prop where
 lz:Lz u A l
 ty:∀b off,A=some ⟨b,off,none⟩->∃cs fr,u.heap[b]?=some (.cells cs 33 fr)
structure Lqt(u:World)(A:Option Addr)(l:List Rat):Prop where
 lq:Lq u A l
 ty:∀b off,A=some ⟨b,off,none⟩->∃cs fr,u.heap[b]?=some (.cells cs 48 fr)
theorem Lzt.grow{u u':World}{A:Option Addr}{l:List Rat}(h:Lzt u A l)(hg:A4 u u'):Lzt u' A l:=⟨h.lz.grow hg,λb off hA=>by
 obtain⟨cs,fr,hb⟩:=h.ty b off hA
 exact⟨cs,fr,(hg.block b (L7 hb)).trans hb⟩⟩
theorem Lqt.grow{u u':World}{A:Option Addr}{l:List Rat}(h:Lqt u A l)(hg:A4 u u'):Lqt u' A l:=⟨h.lq.grow hg,λb off hA=>by
 obtain⟨cs,fr,hb⟩:=h.ty b off hA
 exact⟨cs,fr,(hg.block b (L7 hb)).trans hb⟩⟩
theorem cell_of_heap{u u':World}{b:Nat}(h:u'.heap[b]?=u.heap[b]?)(off:Nat):u'.cell? ⟨b,off,none⟩=u.cell? ⟨b,off,none⟩:=by
 unfold World.cell?;rw[h]
theorem Lzt.stay{A:Option Addr}{l:List Rat}(hl:Lzt u A l)(h:u.ownsRow B e size v n xs)(h1:e≠33)(h2:e≠193)(hg:(u.alloc o).grownBy w' v.ownBlock):Lzt w' A l:=by
 refine⟨λhne=>?_,λb off hA=>?_⟩
 ·obtain⟨b,off,eA,hb,hc⟩:=hl.lz hne;obtain⟨cs,fr,hty⟩:=hl.ty b off eA;have hs:=A3x hty h h1 hg;refine⟨b,off,eA,L7 (hs.trans hty),λi hi=>?_⟩;obtain⟨p,g1,g2,g3,g4⟩:=hc i hi;exact⟨p,⟨g1.1.own h h2 hg,g1.2.own h h2 hg⟩,(cell_of_heap hs _).trans g2,(cell_of_heap hs _).trans g3,(cell_of_heap hs _).trans g4⟩
 ·obtain⟨cs,fr,hty⟩:=hl.ty b off hA;exact⟨cs,fr,(A3x hty h h1 hg).trans hty⟩
theorem Lqt.stay{A:Option Addr}{l:List Rat}(hl:Lqt u A l)(h:u.ownsRow B e size v n xs)(h1:e≠48)(hg:(u.alloc o).grownBy w' v.ownBlock):Lqt w' A l:=by
 refine⟨λhne=>?_,λb off hA=>?_⟩
 ·obtain⟨b,off,eA,hb,hc⟩:=hl.lq hne;obtain⟨cs,fr,hty⟩:=hl.ty b off eA;have hs:=A3x hty h h1 hg;exact⟨b,off,eA,L7 (hs.trans hty),λi q hi j v hj=>(cell_of_heap hs _).trans (hc i q hi j v hj)⟩
 ·obtain⟨cs,fr,hty⟩:=hl.ty b off hA;exact⟨cs,fr,(A3x hty h h1 hg).trans hty⟩
end
theorem Lzt.put{u u':World}{A:Option Addr}{l:List Rat}(h:Lzt u A l){bl:List (Nat×TypeId×Array Value)}(hB:Bx u bl)(k:Nat){b:Nat}{t:TypeId}{cs:Array Value}(hk:bl[k]?=some (b,t,cs))(ht1:t≠33)(ht2:t≠193)(i:Nat)(vs:List Value)(hu:C2 u b i vs=u'):Lzt u' A l:=by
 have hb:Blk u b t cs:=hB _ (B89 hk);have hg:u.grownBy u' (some b):=hu ▸ V6 b vs i u;have key:∀(b':Nat) (cs':Array Value) (fr:Nat×Nat),u.heap[b']?=some (Obj.cells cs' 33 fr)->u'.heap[b']?=u.heap[b']?:=λb' cs' fr h'=>hg.block b' (L7 h') λe=>by
  have e:=B8y e;subst e;unfold Blk at hb;rw[hb]at h';injection h' with h';injection h' with _ h3 _;exact ht1 h3
 refine⟨λhne=>?_,λb' off hA=>?_⟩
 ·obtain⟨b',off,eA,hb',hc⟩:=h.lz hne;obtain⟨cs',fr,hty⟩:=h.ty b' off eA;have hs:=key b' cs' fr hty;refine⟨b',off,eA,L7 (hs.trans hty),λj hj=>?_⟩;obtain⟨p,g1,g2,g3,g4⟩:=hc j hj;exact⟨p,⟨g1.1.put hB k hk ht2 i vs hu,g1.2.put hB k hk ht2 i vs hu⟩,(cell_of_heap hs _).trans g2,(cell_of_heap hs _).trans g3,(cell_of_heap hs _).trans g4⟩
 ·obtain⟨cs',fr,hty⟩:=h.ty b' off hA;exact⟨cs',fr,(key b' cs' fr hty).trans hty⟩
theorem A3T{u:World}{B n:Nat}{v:Value}{l:List Rat}(h:u.ownsRow B 48 5 v n (l.flatMap qL)):∃A c,v = .slice A n c/\Lqt u A l/\n=l.length:=by
 obtain⟨A,c,e1,-,-,hL,hk⟩:=K8 h;obtain⟨_,h|⟨g,cap,cur,rfl,hb,hh,hn',hc,hs,ht⟩⟩:=h
 ·obtain⟨rfl,h0⟩:=h;cases e1;exact⟨none,0,rfl,⟨hL,λb off hA=>by cases hA⟩,hk⟩
 ·cases e1;exact⟨_,_,rfl,⟨hL,λb off hA=>by cases hA;exact⟨cur,(0,0),hh⟩⟩,hk⟩
structure KnW(B n:Nat)(vo vp:Value)(zs:List Kz)(qz:List Kq)(W:World):Prop where
 o:W.ownsRow B 82 4 vo n (zs.flatMap kzL)
 p:W.ownsRow B 84 6 vp n (qz.flatMap kqL)
 lz:zs.length=n
 lq:qz.length=n
 az:∀x∈zs,Rz W x.1 x.2.1/\Lzt W x.2.2.1.1 x.2.2.2
 aq:∀x∈qz,Lqt W x.2.1.1 x.2.2
 same:zs.map A1I=qz.map C3
 small:∀x∈qz,qs x.1<=50/\x.2.2.length<=3/\∀y∈x.2.2,qs y<=5
section
variable {B n:Nat} {vo vp v':Value} {zs:List Kz} {qz:List Kq} {u w':World} {o:Obj}
theorem KnW.grow{W:World}(h:KnW B n vo vp zs qz u)(hg:A4 u W):KnW B n vo vp zs qz W :=
 ⟨C0 h.o hg,C0 h.p hg,h.lz,h.lq,λx hx=>⟨(h.az x hx).1.grow hg,(h.az x hx).2.grow hg⟩,λx hx=>(h.aq x hx).grow hg,h.same,h.small⟩
theorem KnW.start(B:Nat)(u:World):KnW B 0 (.slice none 0 0) (.slice none 0 0) [] [] u :=
 ⟨C0n _ _ _ _,C0n _ _ _ _,rfl,rfl,λx hx=>absurd hx List.not_mem_nil,λx hx=>absurd hx List.not_mem_nil,rfl,λx hx=>absurd hx List.not_mem_nil⟩
structure KnX(B n:Nat)(vo vp:Value)(zs:List Kz)(qz:List Kq)(x:Kz)(W:World):Prop where
 o:W.ownsRow B 82 4 vo (n+1) (zs.flatMap kzL++kzL x)
 p:W.ownsRow B 84 6 vp n (qz.flatMap kqL)
 lz:zs.length=n
 lq:qz.length=n
 az:∀x∈zs,Rz W x.1 x.2.1/\Lzt W x.2.2.1.1 x.2.2.2
 aq:∀x∈qz,Lqt W x.2.1.1 x.2.2
 same:zs.map A1I=qz.map C3
 small:∀x∈qz,qs x.1<=50/\x.2.2.length<=3/\∀y∈x.2.2,qs y<=5
 new:Rz W x.1 x.2.1/\Lzt W x.2.2.1.1 x.2.2.2
theorem KnX.grow{W:World}{x:Kz}(h:KnX B n vo vp zs qz x u)(hg:A4 u W):KnX B n vo vp zs qz x W :=
 ⟨C0 h.o hg,C0 h.p hg,h.lz,h.lq,λx hx=>⟨(h.az x hx).1.grow hg,(h.az x hx).2.grow hg⟩,λx hx=>(h.aq x hx).grow hg,h.same,h.small,⟨h.new.1.grow hg,h.new.2.grow hg⟩⟩
theorem A9e{p:Az}{q:Rat}{size m:Nat}{e:TypeId}{v:Value}{xs:List Value}(h:Rz u p q)(ho:u.ownsRow B e size v m xs)(ht:e≠193)(hg:(u.alloc o).grownBy w' v.ownBlock):Rz w' p q:=⟨h.1.own ho ht hg,h.2.own ho ht hg⟩
theorem KnX.addP{x:Kz}{y:Kq}(h:KnX B n vo vp zs qz x u)(hy:Lqt u y.2.1.1 y.2.2)(he:A1I x=C3 y)(hs:qs y.1<=50/\y.2.2.length<=3/\∀z∈y.2.2,qs z<=5)(h1:w'.ownsRow B 84 6 v' (n+1) (qz.flatMap kqL++kqL y))(hg:(u.alloc o).grownBy w' vp.ownBlock):KnW B (n+1) vo v' (zs++[x]) (qz++[y]) w':=by
 have ho:=A0j h.o (N7 h.p h.o (by decide)) hg;refine⟨by rw[C0v];simpa using ho,by rw[C0v];simpa using h1,by rw[List.length_append,h.lz];rfl,by rw[List.length_append,h.lq];rfl,λz hz=>?_,λz hz=>?_,by rw[List.map_append,List.map_append,h.same];simp[he],λz hz=>?_⟩
 ·rcases List.mem_append.1 hz with hz|hz
  ·exact⟨A9e (h.az z hz).1 h.p (by decide) hg,(h.az z hz).2.stay h.p (by decide) (by decide) hg⟩
  ·rw[List.mem_singleton]at hz;subst hz;exact⟨A9e h.new.1 h.p (by decide) hg,h.new.2.stay h.p (by decide) (by decide) hg⟩
 ·rcases List.mem_append.1 hz with hz|hz
  ·exact(h.aq z hz).stay h.p (by decide) hg
  ·rw[List.mem_singleton]at hz;subst hz;exact hy.stay h.p (by decide) hg
 ·rcases List.mem_append.1 hz with hz|hz
  ·exact h.small z hz
  ·rw[List.mem_singleton]at hz;subst hz;exact hs
theorem KnW.both(h:KnW B n vo vp zs qz u):∃(A:Option Addr) (c:Nat) (A':Option Addr) (c':Nat),vo = .slice A n c/\vp = .slice A' n c'/\Lkz u A zs/\Lk u A' qz:=by
 obtain⟨A,c,e1,-,h1,-⟩:=A01 B4D (by omega) h.o;obtain⟨A',c',e2,-,h2,-⟩:=A01 A6D (by omega) h.p;exact⟨A,c,A',c',e1,e2,⟨h1,λx hx=>⟨(h.az x hx).1,(h.az x hx).2.lz⟩⟩,h2,λx hx=>(h.aq x hx).lq⟩
end
theorem A4D:EI 79 84 6 80:=A10 (by kernel_rfl) (by kernel_rfl) (by omega)
theorem A4o(q:Rat)(P:Ax)(W:List Rat)(m:Nat)(hm:W.length=m)(w:World):(Instr.buildSlice 79 1 #[(0,.agg #[.bool (E0 q.num),.int .u64 (B8 q.num.natAbs),.string (B6 q.num.natAbs),.int .u64 (B8 (H6 q.den)),.string (B6 (H6 q.den)),.slice P.1 m P.2])]).run Tryz.prog w = .ok (.slice (some ⟨w.heap.size,0,none⟩) 1 1) (w.alloc (.cells (kqL (q,P,W)).toArray 84)):=by
 subst hm;go_simp;rfl
theorem B0N(x:Int)(h1 : -1<=x)(h2:x<=1):qs (B4 x)<=1:=by
 have:x = -1\/x=0\/x=1:=by omega
 rcases this with rfl|rfl|rfl<;>decide
theorem B6l(n c:Nat):(F5 n c).length=n:=by unfold F5;simp
theorem A5M{n c i:Nat}(hi:i<n) : -1<=gi (F5 n c) i/\gi (F5 n c) i<=1:=by
 have:=A3z n c i hi;omega
theorem B2B{X:List (List Rat)}{y:List Rat}{N L g:Nat}(hg1:1<=g)(hL:L<=6)(hG:∀i,i<L->∀j,j<L->qs (gq (B7 (K9 X N L) i) j)<=g)(hP:∀i,i<L->qs (gq (J5 X y N L) i)<=g)(k:Nat) :
  (∀i,qs (gq (V9 X y N L k) i)<=g*10^(L+1))/\(∀i,qs (gq (Z0 X N L k) i)<=g*10^(L+1))/\∀x∈M4 X y N L k,qs x.1<=20*(g*10^(L+1))/\qs x.2<=20*(g*10^(L+1)):=by
 obtain⟨Z,hZ⟩:∃Z,Z=g*10^(L+1):=⟨_,rfl⟩
 have hgZ:10*g<=Z:=by
  rw[hZ,Nat.pow_succ,B9j (10^L) 10,<-C0G,B9j g 10];exact C0E _ (C0j (by omega))
 have hv1:=A4g (y:=V3 (J5 X y N L) (F8 (F5 L k) L)) (U:=F8 (F5 L k) L) (n:=L) A1Y (A4T _ _) hG hg1 (λj hj=>by unfold V3;rw[A1x hj];exact hP _ (A1Y _ (Q3 hj)))
 have hv2:=A4g (y:=U6 (F5 L k) (F8 (F5 L k) L)) (U:=F8 (F5 L k) L) (n:=L) A1Y (A4T _ _) hG hg1 (λj hj=>by
  unfold U6;rw[A1x hj];obtain⟨h1,h2⟩:=A5M (c:=k) (A1Y _ (Q3 hj))
  exact B9A (B0N _ (by omega) (by omega)) hg1)
 rw[<-hZ]at hv1 hv2⊢;have hF:∀i,qs (gq (V9 X y N L k) i)<=Z:=λi=>A3k hv1 (by omega) _ (B8s _) i;have hB:∀i,qs (gq (Z0 X N L k) i)<=Z:=λi=>A3k hv2 (by omega) _ (B8s _) i;refine⟨hF,hB,λx hx=>?_⟩;unfold M4 Y4 at hx;obtain⟨i,hi,hx⟩:=List.mem_flatMap.1 hx;have hi:=List.mem_range.1 hi;obtain⟨h1,h2⟩:=A5M (c:=k) hi;have q1:=B0N _ h1 h2;have q2:qs (B4 1)<=1:=by decide
 unfold Y9 at hx;split at hx
 ·rw[List.mem_singleton]at hx;subst hx;have z1:=Z8 (gq (Z0 X N L k) i) (B4 (gi (F5 L k) i));have z2:=Z8 (gq (V9 X y N L k) i) (B4 (gi (F5 L k) i));have z3:=hF i;have z4:=hB i;unfold D5;exact⟨by simp only;omega,by simp only;omega⟩
 ·have hd:=λ(W:List Rat) (hW:∀i,qs (gq W i)<=Z)=>A1m (a:=B7 (K9 X N L) i) (b:=W) (n:=L) (s:=g) (t:=Z) (λj hj=>hG i hi j hj) (λj _=>hW j) L (B8s _);have d1:=hd _ hF;have d2:=hd _ hB;have d3:L*(g+Z+1)<=6*(g+Z+1):=B9g _ hL;have z5:=hP i hi;have z1:=A0G (B4 1) (E7 (B7 (K9 X N L) i) (Z0 X N L k) L);have z2:=A0G (gq (J5 X y N L) i) (E7 (B7 (K9 X N L) i) (V9 X y N L k) L);have z3:=A3i (B4 1) (E7 (B7 (K9 X N L) i) (Z0 X N L k) L);simp only[List.mem_cons,List.not_mem_nil,or_false]at hx;rcases hx with rfl|rfl
  ·unfold D9;exact⟨by simp only;omega,by simp only;omega⟩
  ·have z4:qs (I4 (D9 (gq (J5 X y N L) i) (E7 (B7 (K9 X N L) i) (V9 X y N L k) L)))=qs (D9 (gq (J5 X y N L) i) (E7 (B7 (K9 X N L) i) (V9 X y N L k) L)):=A2X _;simp only;rw[z4];unfold D9 G5;exact⟨by omega,by omega⟩
theorem B46(X:List (List Rat))(y:List Rat)(N L k:Nat)(hL:L<=6):(V9 X y N L k).length=L/\(Z0 X N L k).length=L/\(M4 X y N L k).length<=1000 :=
 ⟨A0F _ _ _ _,A0F _ _ _ _,B9A (A5o L) (by omega)⟩
theorem B34(X:List (List Rat))(N L:Nat):(K9 X N L).length=L/\∀r∈K9 X N L,r.length=L:=by
 refine⟨by unfold K9;simp,λr hr=>?_⟩;unfold K9 at hr;obtain⟨i,-,rfl⟩:=List.mem_map.1 hr;unfold G1;simp
theorem B2h{X:List (List Rat)}{y:List Rat}{N L g:Nat}(hF:A1v X N L)(hL1:1<=L)(hL:L<=6)(hg1:1<=g)(hG:∀i,i<L->∀j,j<L->qs (gq (B7 (K9 X N L) i) j)<=g)(hP:∀i,i<L->qs (gq (J5 X y N L) i)<=g)(hBz:100*(g*10^(L+1))<=BIG)(k:Nat) :
  A2j L (K9 X N L) (J5 X y N L) (F5 L k) (V9 X y N L k) (Z0 X N L k) (M4 X y N L k):=by
 obtain⟨g1,g2⟩:=B34 X N L
 exact A7L L hL1 hL _ _ _ g1 g2 (by unfold J5;simp) (B6l L k) (λi hi=>A5M hi) g hg1 hG hP hBz
  (A5i (A58 _ _) A1Y (λi hi j hj=>A4b hi hj) (A26 hF) _) (A5i (A58 _ _) A1Y (λi hi j hj=>A4b hi hj) (A26 hF) _)
theorem B2W(A Y:Option Addr)(N M c d:Nat)(a:Rat)(ha:a<0)(haz:qs a<=BIG)(w:World)(hs:∀W,A4 w W->Calls Tryz.prog 57 #[.slice A N c,.slice Y M d] W λe w'=>e = .returned (.bool true)/\A4 W w') :
  Calls Tryz.prog 14 #[.slice A N c,.slice Y M d,qV a] w λe w'=>e = .returned (.tuple #[.slice none 0 0,.int .i64 1])/\A4 w w':=by
 have hfs:=λ(W:World)=>M8 a (by have:=G3 a;have:=J7;omega) W;rw[A2C.2 ha]at hfs;have Hs:=B9I hs;have Hfs:=B9I hfs;clear hs hfs ha haz;go_enter Tryz.func14,Tryz.ntmps14;refine en3 ?_;intro u hG b7 b6 b5 hB hF;refine B9D ?_;refine B9D (rsE C4 [0,0,1,0] hB hG λL hL=>?_);refine gs ?_;refine gmd (C:=λv ⟨hgu,hB,hG,_⟩=>Hs.out _ hG) ?_;refine gs ?_;refine geT hL ?_;clear hB hG hL L;rintro u ⟨-,hB,hG,-⟩;refine B9J (rfl) ?_;refine B9K ?_;refine A6 ?_;refine B9D ?_;refine B9D (rsE C4 [0,1,0] hB hG λL hL=>?_);refine gs ?_;refine gmw (C:=λv=>Hfs.out _) ?_;refine gs ?_;refine geT hL ?_;clear hB hG hL L;rintro u ⟨-,hB,hG,-⟩;refine B9L (rfl) ?_;have hD:b6≠b7/\b7≠b6:=⟨hF.ne 1 2 rfl rfl (by decide),hF.ne 2 1 rfl rfl (by decide)⟩
 refine r0T ?_;clear hD;refine st2 hB hF hG 1 0 [_] 2 0 [_] ?_;clear hB hG;intro u hB hG;refine rt Tryz.results14 ?_;exact⟨rfl,hG⟩
theorem B01(A Y:Option Addr)(N M c d:Nat)(a:Rat)(ha:0<=a)(haz:qs a<=BIG)(z:Int)(hz:(z != 0)=true)(w:World)(hs:∀W,A4 w W->Calls Tryz.prog 57 #[.slice A N c,.slice Y M d] W λe w'=>e = .returned (.bool true)/\A4 W w')
  (hu:∀W,A4 w W->Calls Tryz.prog 58 #[.slice A N c] W λe w'=>e = .returned (.int .i64 z)/\A4 W w') :
  Calls Tryz.prog 14 #[.slice A N c,.slice Y M d,qV a] w λe w'=>e = .returned (.tuple #[.slice none 0 0,.int .i64 z])/\A4 w w':=by
 have hfs:=λ(W:World)=>M8 a (by have:=G3 a;have:=J7;omega) W;have hsg:decide (a.num.sign<0)=false:=by
  have h1:¬a<0:=by grind
  have h2:=@A2C a;rcases A2V a with e|e|e
  ·rw[e];rfl
  ·exact absurd (h2.1 e) h1
  ·rw[e];rfl
 obtain⟨S,hS⟩:∃S,S=a.num.sign:=⟨_,rfl⟩
 rw[<-hS]at hsg;simp only[<-hS]at hfs;have Hs:=B9I hs;have Hu:=B9I hu;have Hfs:=B9I hfs;clear hs hu hfs ha haz hS;go_enter Tryz.func14,Tryz.ntmps14;refine en3 ?_;intro u hG b7 b6 b5 hB hF;refine B9D ?_;refine B9D (rsE C4 [0,0,1,0] hB hG λL hL=>?_);refine gs ?_;refine gmd (C:=λv ⟨hgu,hB,hG,_⟩=>Hs.out _ hG) ?_;refine gs ?_;refine geT hL ?_;clear hB hG hL L;rintro u ⟨-,hB,hG,-⟩;refine B9J (rfl) ?_;refine B9K ?_;refine A6 ?_;refine B9D ?_;refine B9D (rsE C4 [0,1,0] hB hG λL hL=>?_);refine gs ?_;refine gmw (C:=λv=>Hfs.out _) ?_;refine gs ?_;refine geT hL ?_;clear hB hG hL L;rintro u ⟨-,hB,hG,-⟩;refine B9J (rfl) ?_;refine B9K ?_;refine A6 ?_;refine B9D ?_;refine B9D (rsE C4 [0,1,0] hB hG λL hL=>?_);refine gs ?_;refine gmd (C:=λv ⟨hgu,hB,hG,_⟩=>Hu.out _ hG) ?_;refine gs ?_;refine geT hL ?_;clear hB hG hL L;rintro u ⟨-,hB,hG,-⟩;refine r0T ?_;refine B9L (rfl) ?_;have hD:b6≠b7/\b7≠b6:=⟨hF.ne 1 2 rfl rfl (by decide),hF.ne 2 1 rfl rfl (by decide)⟩
 refine r0T ?_;clear hD;refine st2 hB hF hG 1 0 [_] 2 0 [_] ?_;clear hB hG;intro u hB hG;refine rt Tryz.results14 ?_;exact⟨rfl,hG⟩
def A2k:List (List Rat):=[[B4 1],[B4 1]]
def knY:List Rat:=[B4 3,B4 1]
def knG:List (List Rat):=K9 A2k 2 1
def knP:List Rat:=J5 A2k knY 2 1
def knF(k:Nat):List Rat:=A0k knG knP (F5 1 k) 1
def knB(k:Nat):List Rat:=A0Y knG (F5 1 k) 1
def knL(k:Nat):List Lm:=Y4 knG knP (knF k) (knB k) (F5 1 k) 1 1
theorem B7i:M5 A2k knY 2 1=D0 4 1:=by decide +kernel
theorem B4q:(C9 2 1 (F6 A2k,[]) 1).2.length=1:=by decide +kernel
theorem B6j:I6 (knF 2) (knB 2) 1 (B4 2)=[D0 1 1]:=by decide +kernel
theorem A6A:H7 (B4 2) (knL 2)=true/\H7 (B4 2) (knL 0)=false/\H7 (B4 2) (knL 1)=false:=by decide +kernel
theorem B7n:∀k,k<3->(1<=(F8 (F5 1 k) 1).length->(C9 (F8 (F5 1 k) 1).length ((F8 (F5 1 k) 1).length+1) (F6 (aug (X0 knG (F8 (F5 1 k) 1)) (V3 knP (F8 (F5 1 k) 1)) (F8 (F5 1 k) 1).length),[]) ((F8 (F5 1 k) 1).length+1)).2=List.range (F8 (F5 1 k) 1).length):=by decide +kernel
theorem B7J:∀k,k<3->(1<=(F8 (F5 1 k) 1).length->(C9 (F8 (F5 1 k) 1).length ((F8 (F5 1 k) 1).length+1) (F6 (aug (X0 knG (F8 (F5 1 k) 1)) (U6 (F5 1 k) (F8 (F5 1 k) 1)) (F8 (F5 1 k) 1).length),[]) ((F8 (F5 1 k) 1).length+1)).2=List.range (F8 (F5 1 k) 1).length):=by decide +kernel
theorem A5z:∀k,k<3->(knF k).length=1/\(knB k).length=1/\(knL k).length<=1000/\qs (gq (knF k) 0)<=50/\qs (gq (knB k) 0)<=50/\(knL k).all (λx=>decide (qs x.1<=50)&&decide (qs x.2<=50))=true/\(F5 1 k).length=1 /\ -1<=gi (F5 1 k) 0/\gi (F5 1 k) 0<=1:=by decide +kernel
theorem A6y:knG.length=1/\(knG.all λr=>decide (r.length=1))=true/\knP.length=1/\qs (gq (B7 knG 0) 0)<=50/\qs (gq knP 0)<=50/\qs (gq (B7 A2k 0) 0)<=50/\qs (gq (B7 A2k 1) 0)<=50/\qs (gq knY 0)<=50/\qs (gq knY 1)<=50/\qs (B4 2)<=50:=by decide +kernel
theorem A3n(w:World)(rs:List Rq)(h:∀r∈rs,Lq w r.1 r.2.2):Lrq (w.alloc (.cells (rs.map λr=>Value.slice r.1 r.2.2.length r.2.1).toArray 35)) (some ⟨w.heap.size,0,none⟩) rs:=λ_ =>
 ⟨w.heap.size,0,rfl,by rw[I9];omega,λi r hi=>⟨by
  rw[Nat.zero_add,Blk.cell (Blk.new w 35 _) i]
  simp[hi],(h r (B89 hi)).grow (A4.alloc _ _)⟩⟩
theorem A7D(n d:Int)(h0:0<=n)(h1:n<=4)(h2:d=1)(hz:qs (D0 n d)<=10)(W:World):Calls Tryz.prog 52 #[qV (D0 n d),.int .i64 n,.int .i64 d] W λe w'=>e = .returned (.bool true)/\A4 W w' :=
 A7P n d (by omega) (by omega) (by omega) (by omega) (by omega) (B9A hz (by unfold LIM;omega)) W
theorem B8V(k:Nat)(hk:k<3):A2j 1 knG knP (F5 1 k) (knF k) (knB k) (knL k):=by
 obtain⟨h1,h2,h3,h4,h5,h6,h7,h8,h9⟩:=A5z k hk;obtain⟨g1,g2,g3,g4,g5,-⟩:=A6y;have e0:∀i,i<1->i=0:=λi hi=>by omega
 exact A7L 1 (by omega) (by omega) knG knP (F5 1 k) g1 (λr hr=>by
  have:=List.all_eq_true.1 g2 r hr
  simpa using this) g3 h7 (λi hi=>by rw[e0 i hi];exact⟨h8,h9⟩) 50 (by omega) (λi hi j hj=>by rw[e0 i hi,e0 j hj];exact g4) (λi hi=>by rw[e0 i hi];exact g5) (by unfold BIG;omega) (B7n k hk) (B7J k hk)
theorem B8S(A Y:Option Addr)(x y:Ax)(W:World)(h:Lrq W A [(x.1,x.2,[B4 1]),(y.1,y.2,[B4 1])])(h2:Lq W Y knY)(HT:Tab W):Calls Tryz.prog 35 #[.slice A 2 2,.slice Y 2 2] W λe w'=>e = .returned (.tuple #[qV (D0 4 1),.int .i64 0])/\A4 W w':=by
 obtain⟨-,-,-,-,-,g6,g7,g8,g9,-⟩:=A6y
 have h3:=A7E A Y [(x.1,x.2,[B4 1]),(y.1,y.2,[B4 1])] knY 2 1 2 2 rfl (by omega) (by omega) (λr hr=>by
  simp only[List.mem_cons,List.not_mem_nil,or_false]at hr;rcases hr with rfl|rfl<;>rfl) rfl (by omega) (by omega) 50 (by omega) (by omega) (λi hi j hj=>by
  obtain rfl:j=0:=by omega
  have:i=0\/i=1:=by omega
  rcases this with rfl|rfl
  ·exact g6
  ·exact g7) (λi hi=>by
  have:i=0\/i=1:=by omega
  rcases this with rfl|rfl
  ·exact g8
  ·exact g9) W h h2 HT
 have e:M5 ([(x.1,x.2,[B4 1]),(y.1,y.2,[B4 1])].map (·.2.2)) knY 2 1=D0 4 1:=B7i;rw[e]at h3;exact h3
theorem B1a(A:Option Addr)(Y:Ax)(x y:Ax)(W:World)(h:Lrq W A [(x.1,x.2,[B4 1]),(y.1,y.2,[B4 1])])(h2:Lq W Y.1 knY)(HT:Tab W):Calls Tryz.prog 14 #[.slice A 2 2,.slice Y.1 2 Y.2,qV (B4 2)] W (G9 (λx:Ax=>.tuple #[.slice x.1 1 x.2,.int .i64 0]) (λx W=>Lq W x.1 [D0 1 1]) W):=by
 obtain⟨-,-,-,-,-,g6,g7,g8,g9,g10⟩:=A6y
 have h3:=B5M A [(x.1,x.2,[B4 1]),(y.1,y.2,[B4 1])] 2 1 2 Y knY rfl (by omega) (by omega) (by omega) (by omega) (λr hr=>by
  simp only[List.mem_cons,List.not_mem_nil,or_false]at hr;rcases hr with rfl|rfl<;>rfl) rfl 50 (by omega) (by omega) (λi hi j hj=>by
  obtain rfl:j=0:=by omega
  have:i=0\/i=1:=by omega
  rcases this with rfl|rfl
  ·exact g6
  ·exact g7) (λi hi=>by
  have:i=0\/i=1:=by omega
  rcases this with rfl|rfl
  ·exact g8
  ·exact g9) (B4 2) (by decide +kernel) B4q knF knB knL 50 g10 (by unfold BIG;omega) (λk hk=>by
  obtain⟨h1,h2,h3,-⟩:=A5z k hk;exact⟨h1,h2,h3⟩) (λk hk=>by
  obtain⟨h1,h2,h3,h4,h5,h6,-⟩:=A5z k hk;refine⟨λi hi=>?_,λi hi=>?_,λx hx=>?_⟩
  ·obtain rfl:i=0:=by omega
   exact h4
  ·obtain rfl:i=0:=by omega
   exact h5
  ·have:=List.all_eq_true.1 h6 x hx
   simpa using this) (λk hk=>B8V k hk) 2 (by decide) A6A.1 (λj hj=>by
  have:j=0\/j=1:=by omega
  rcases this with rfl|rfl
  ·exact A6A.2.1
  ·exact A6A.2.2) W h h2 HT
 rw[B6j]at h3;exact h3
theorem B6O(w:World)(HT:Tab w):Calls Tryz.prog 19 #[] w λe w'=>e = .returned (.bool true)/\A4 w w':=by
 have z41:qs (D0 4 1)<=10:=by decide +kernel
 have z11:qs (D0 1 1)<=10:=by decide +kernel
 go_enter Tryz.func19,Tryz.ntmps19;refine en0 ?_;intro u hG hB hF;refine B9D (rsE C4 [1,1,1,1,1,0] hB hG λL hL=>?_);refine gmw (C:=λv=>I5 1 (by omega) (by omega) _) ?_;refine gx Nat (λb=>.slice (some ⟨b,0,none⟩) 1 1) (λb W=>Lq W (some ⟨b,0,none⟩) [B4 1]) (λ_ _ _ hg h=>h.grow hg) rfl ?_ (λx8=>?_)
 ·(rintro v ⟨hgu,hB,hG,-⟩ N hN;go_simp;exact hN v.heap.size _ (A0D v [B4 1]) (A4.alloc _ _))
 refine okf (by simp only[Act.put,List.setIfInBounds_toArray,List.set_cons_succ,List.set_cons_zero];exact rfl) ?_;refine gmw (C:=λv=>I5 1 (by omega) (by omega) _) ?_;refine gx Nat (λb=>.slice (some ⟨b,0,none⟩) 1 1) (λb W=>Lq W (some ⟨b,0,none⟩) [B4 1]) (λ_ _ _ hg h=>h.grow hg) rfl ?_ (λx10=>?_)
 ·(rintro v ⟨⟨hgu,hB,hG,-⟩,hx8⟩ N hN;go_simp;exact hN v.heap.size _ (A0D v [B4 1]) (A4.alloc _ _))
 refine okf (by simp only[Act.put,List.setIfInBounds_toArray,List.set_cons_succ,List.set_cons_zero];exact rfl) ?_;refine gx Nat (λb=>.slice (some ⟨b,0,none⟩) 2 2) (λb W=>Lrq W (some ⟨b,0,none⟩) [(some ⟨x8,0,none⟩,1,[B4 1]),(some ⟨x10,0,none⟩,1,[B4 1])]) (λ_ _ _ hg h=>h.grow hg) rfl ?_ (λx11=>?_)
 ·(rintro v ⟨⟨⟨hgu,hB,hG,-⟩,hx8⟩,hx10⟩ N hN;go_simp;exact hN v.heap.size _ (A3n v [(some ⟨x8,0,none⟩,1,[B4 1]),(some ⟨x10,0,none⟩,1,[B4 1])] (λr hr=>by simp only[List.mem_cons,List.not_mem_nil,or_false]at hr;rcases hr with rfl|rfl<;>first|exact hx8|exact hx10)) (A4.alloc _ _))
 refine okf (by simp only[Act.put,List.setIfInBounds_toArray,List.set_cons_succ,List.set_cons_zero];exact rfl) ?_;refine gs ?_;refine geT hL ?_;clear hB hG hL L;rintro u ⟨⟨⟨⟨hgu,hB,hG,-⟩,hx8⟩,hx10⟩,hx11⟩;obtain⟨w1,hw1⟩:=exQ u;have HX:=B9I (show Lrq w1 (some ⟨x11,0,none⟩) [(some ⟨x8,0,none⟩,1,[B4 1]),(some ⟨x10,0,none⟩,1,[B4 1])]from hw1 ▸ hx11);have hG1:A4 w1 u:=hw1 ▸ A4.refl u;clear hx8 hx10 hx11 hw1;clear hgu;refine B9D (rsE C4 [1,1,1,0] hB hG λL hL=>?_);refine gmw (C:=λv=>I5 3 (by omega) (by omega) _) ?_;refine gmw (C:=λv=>I5 1 (by omega) (by omega) _) ?_;refine gx Nat (λb=>.slice (some ⟨b,0,none⟩) 2 2) (λb W=>Lq W (some ⟨b,0,none⟩) knY) (λ_ _ _ hg h=>Lq.grow h hg) rfl ?_ (λx14=>?_)
 ·(rintro v ⟨hgu,hB,hG,-⟩ N hN;go_simp;exact hN v.heap.size _ (A0D v knY) (A4.alloc _ _))
 refine okf (by simp only[Act.put,List.setIfInBounds_toArray,List.set_cons_succ,List.set_cons_zero];exact rfl) ?_;refine gs ?_;refine geT hL ?_;clear hB hG hL L;rintro u ⟨⟨hgu,hB,hG,-⟩,hx14⟩;replace hG1:=hG1.trans hgu;obtain⟨w2,hw2⟩:=exQ u;have HY:=B9I (show Lq w2 (some ⟨x14,0,none⟩) knY from hw2 ▸ hx14);have hG2:A4 w2 u:=hw2 ▸ A4.refl u;clear hx14 hw2;clear hgu;refine B9D (rsC C4 [0,0,1,0,0,0,2] hB hG λK L hN hL=>?_);refine gs ?_;refine gmd (C:=λv ⟨hgu,hB,hG,_⟩=>B8S _ _ (some ⟨x8,0,none⟩,1) (some ⟨x10,0,none⟩,1) _ (HX.out.grow (hG1.trans hgu)) (HY.out.grow (hG2.trans hgu)) (HT.grow hG)) ?_;refine gs ?_;refine gaa (G6 _ _ _ _ _) λb3 hb3 hn3=>?_;replace hF:=hF.n1 [] hB hG hb3 hn3;refine geC hL ?_;clear hB hG hL L;rintro u ⟨⟨hgu,hB,hG,-⟩,h3⟩;replace hB:=hB.cons' h3;clear h3;have hw31:w1.heap.size<=b3:=B9A hG1.size hb3;have hw32:w2.heap.size<=b3:=B9A hG2.size hb3;replace hG1:=hG1.trans hgu;replace hG2:=hG2.trans hgu;clear hb3 hn3;clear hgu;refine gtT ?_;clear hN K;refine sv hB hF hG 0 0 [_,_,_,_,_] ?_;intro u hu hBG;replace hG1:=P9 hG1 hw31 hu;replace hG2:=P9 hG2 hw32 hu;clear hB hG hu;obtain⟨hB,hG⟩:=hBG;refine B9D (rsE C4 [0,0,1,1,0,0,0,0,0] hB hG λL hL=>?_);refine gs ?_;refine gmw (C:=λv=>I5 2 (by omega) (by omega) _) ?_;refine gxd (X:=Ax) (λx:Ax=>.tuple #[.slice x.1 1 x.2,.int .i64 0]) (λx W=>Lq W x.1 [D0 1 1]) (λx u u' hg h=>Lq.grow h hg) (λx25=>?_) (C:=by(rintro v ⟨hgu,hB,hG,-⟩;exact B1a _ (some ⟨x14,0,none⟩,2) (some ⟨x8,0,none⟩,1) (some ⟨x10,0,none⟩,1) _ (HX.out.grow (hG1.trans hgu)) (HY.out.grow (hG2.trans hgu)) (HT.grow hG)));refine gs ?_;refine geT hL ?_;clear hB hG hL L;rintro u ⟨⟨hgu,hB,hG,-⟩,hx25⟩;obtain⟨xa,xc⟩:=x25;have HL:=B9I (λW (hg:A4 u W)=>Lq.grow (show Lq u xa [D0 1 1]from hx25) hg);obtain⟨bq,oq,rfl⟩:∃b o,xa=some ⟨b,o,none⟩:=Lq.addr (show Lq u xa [D0 1 1]from hx25) (by simp);have hcq:∀W,A4 u W->Cq W bq oq (D0 1 1):=λW hg=>by
  have h:=(HL.out W hg).read (i:=0) (by simp);rw[B9i,Nat.add_zero]at h;exact h
 have HC:=B9I hcq;clear hx25 HL hcq;clear hgu;refine B9D (rsE C4 [0,0,0,0,1,0,0,0,0,0,0,0,0,0,0,0,0,0,0,1,0,0] hB hG λL hL=>?_)
 repeat first|refine gya ?_|refine gyr ?_|refine gna ?_|refine gyb (by(rintro v ⟨hgu,hB,hG,-⟩ N hN;have r:=hB.r;simp only[BxR]at r;obtain⟨y1,y2,y3,y4,y5⟩:=HC.out v hgu;go_simp;exact hN)) ?_
 first|refine gmw (C:=λv=>A7D 4 1 (by omega) (by omega) rfl z41 _) ?_|refine I0 ?_
 repeat first|refine gya ?_|refine gyr ?_|refine gna ?_|refine gyb (by(rintro v ⟨hgu,hB,hG,-⟩ N hN;have r:=hB.r;simp only[BxR]at r;obtain⟨y1,y2,y3,y4,y5⟩:=HC.out v hgu;go_simp;exact hN)) ?_
 first|refine gmw (C:=λv=>A7D 1 1 (by omega) (by omega) rfl z11 _) ?_|refine I0 ?_
 refine gs ?_;refine geT hL ?_;clear hB hG hL L;rintro u ⟨-,hB,hG,-⟩;refine rt Tryz.results19 ?_;exact⟨rfl,hG⟩
end Go.Proofs.YtgpglgbcobeogaaGreatDoor
