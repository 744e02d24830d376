import Derived.Test.YtgpglgbcobeogaaGreatDoorF39
import Derived.Test.YtgpglgbcobeogaaGreatDoorF42
set_option linter.unusedSimpArgs false
set_option linter.unusedVariables false
set_option maxHeartbeats 4000000
set_option maxRecDepth 100000
namespace Go.Proofs.YtgpglgbcobeogaaGreatDoor
open Go Go.RowKit
theorem A3r{X:List (List Rat)}{N L i j:Nat}(hi:i<L)(hj:j<L):gq (B7 (L7 X N L) i) j=K5 X N i j:=by
 have e1:B7 (L7 X N L) i=G5 (K5 X N) L i:=A3Z hi;rw[e1];exact Q5 _ hj
theorem A83{n c t:Nat}(h:t<n):gi (F5 n c) t=sgI c t:=by
 unfold gi F5;rw[List.getElem?_map,C19 h];rfl
theorem A4q(n c:Nat):Sgn n (gi (F5 n c)):=λi hi=>by
 rw[A83 hi];unfold sgI;have:c/3^i%3<3:=C0Y _ (by omega);omega
theorem B1Z(s:Nat->Int):∀n,Sgn n s->∃c,c<3^n/\∀t,t<n->sgI c t=s t
 | 0,_=>⟨0,by simp,λt ht=>absurd ht (C2D _)⟩
 | n+1,h=>by
  obtain⟨c,hc,he⟩:=B1Z s n λi hi=>h i (by omega);obtain⟨d,hd⟩:∃d:Nat,(d:Int)=s n+1:=⟨(s n+1).toNat,by have:=h n (by omega);omega⟩
  have hd3:d<3:=by have:=h n (by omega);omega
  have h3:d*3^n<=2*3^n:=C0n _ (by omega);refine⟨c+d*3^n,by rw[Nat.pow_succ];omega,λt ht=>?_⟩;by_cases e:t=n
  ·subst e;unfold sgI;have e1:(c+d*3^t)/3^t=d:=by
    rw[Nat.add_mul_div_right _ _ (C1q (by omega)),C0x hc];omega
   rw[e1,Nat.mod_eq_of_lt hd3];omega
  ·have e1:(c+d*3^n)/3^t%3=c/3^t%3:=by
    obtain⟨m,hm⟩:∃m,n=t+(m+1):=⟨n-t-1,by omega⟩
    rw[hm,C0X,<-C1N,Nat.mul_right_comm,Nat.add_mul_div_right _ _ (C1q (by omega)),Nat.pow_succ,<-C1N,Nat.add_mul_mod_self_right]
   rw[<-he t (by omega)];unfold sgI;rw[e1]
def O0(X:List (List Rat))(y:List Rat)(N L k:Nat):List Rat:=A0z (L7 X N L) (H5 X y N L) (F5 L k) L
def O6(X:List (List Rat))(N L k:Nat):List Rat:=A01 (L7 X N L) (F5 L k) L
def I0(X:List (List Rat))(y:List Rat)(N L k:Nat):List Lm:=A0K (L7 X N L) (H5 X y N L) (O0 X y N L k) (O6 X N L k) (F5 L k) L L
def S6(X:List (List Rat))(y:List Rat)(N L:Nat)(a:Rat):Nat:=Z8 (λk=>!H7 a (I0 X y N L k)) (3^L) 0
def A1T(X:List (List Rat))(y:List Rat)(N L:Nat)(a:Rat)(k:Nat):List Rat:=J9 (O0 X y N L k) (O6 X N L k) L a
def J6(X:List (List Rat))(y:List Rat)(N L:Nat)(a:Rat):List Rat:=A1T X y N L a (S6 X y N L a)
def A13(X:List (List Rat))(N L:Nat):Prop:=(D1 N L (D7 X,[]) L).2.length=L
section
variable {X:List (List Rat)} {N L:Nat} (hF:A13 X N L)
include hF
theorem A7D(y:List Rat)(a:Rat)(k:Nat):SolW (K5 X N) L (gq (H5 X y N L)) a (gi (F5 L k)) (gq (A1T X y N L a k)) :=
 B6t (λi hi j hj=>A3r hi hj) (A2y hF) (F5 L k) a
omit hF in
theorem A7h(y:List Rat)(a:Rat)(k:Nat):H7 a (I0 X y N L k)=true↔A7c (K5 X N) L (gq (H5 X y N L)) a (gi (F5 L k)) (gq (A1T X y N L a k)) :=
 B1z (G:=K5 X N) (λi hi j hj=>A3r hi hj) (F5 L k) _ _ a L (B9z _)
theorem B9n(y:List Rat)(a:Rat):∃k,k<3^L/\H7 a (I0 X y N L k)=true:=by
 obtain⟨k,hk,h⟩:=B4B (G:=K5 X N) (n:=L) (p:=gq (H5 X y N L)) (a:=a) (λi _ j _=>A4R X N i j) (A7C X N L) (A2y hF) (3^L) (λk=>gi (F5 L k)) (λk=>gq (A1T X y N L a k)) (λk _=>A4q L k) (λk _=>A7D hF y a k) (λs hs=>by
  obtain⟨c,hc,he⟩:=B1Z s L hs
  exact⟨c,hc,λi hi=>by rw[A83 hi];exact he i hi⟩)
 exact⟨k,hk,(A7h y a k).2 h⟩
theorem A5Z(y:List Rat)(a:Rat):S6 X y N L a<3^L/\H7 a (I0 X y N L (S6 X y N L a))=true/\∀j,j<S6 X y N L a->H7 a (I0 X y N L j)=false:=by
 obtain⟨h1,h2,h3,h4⟩:=A3H (λk=>!H7 a (I0 X y N L k)) (3^L) 0;have hlt:S6 X y N L a<3^L:=by
  rcases B90 (S6 X y N L a) (3^L)with h|h
  ·exact h
  ·obtain⟨k,hk,hh⟩:=B9n hF y a;have:=h3 k (C0h _) (by unfold S6 at h;omega);simp only[hh]at this;cases this
 refine⟨hlt,?_,λj hj=>?_⟩
 ·have:=h4 (by unfold S6 at hlt;omega)
  simpa [S6]using this
 ·have:=h3 j (C0h _) hj
  simpa using this
theorem A77(y:List Rat){a:Rat}(ha:0<=a):Kkt (K5 X N) L (gq (H5 X y N L)) a (gq (J6 X y N L a)) :=
 A9S (A4q L _) ha (A7D hF y a _) ((A7h y a _).1 (A5Z hF y a).2.1)
theorem A7s(y:List Rat){a:Rat}(ha:0<=a){w:Nat->Rat}(h:Kkt (K5 X N) L (gq (H5 X y N L)) a w):∀i,i<L->w i=gq (J6 X y N L a) i :=
 B8k (λi _ j _=>A4R X N i j) (A7C X N L) (A2y hF) ha (A77 hF y ha) h
end
theorem A12(X:List (List Rat))(y:List Rat)(N L:Nat)(a:Rat):(J6 X y N L a).length=L:=by
 unfold J6 A1T J9;simp
theorem A6Q{X:List (List Rat)}{y w:List Rat}{N L:Nat}{a:Rat}:Q7 X y w N L a=L↔Kkt (K5 X N) L (gq (H5 X y N L)) a (gq w):=by
 obtain⟨h1,h2,h3⟩:=A8T X y w N L a;constructor
 ·intro h i hi;have:=h2 i (by omega)
  rwa [A7n X y w N L hi]at this
 ·intro h;rcases B90 (Q7 X y w N L a) L with h4|h4
  ·have h5:=h3 h4;rw[A7n X y w N L h4,h _ h4]at h5;cases h5
  ·omega
theorem A5I{l m:List Rat}{n:Nat}(h1:l.length=n)(h2:m.length=n)(h:∀i,i<n->gq l i=gq m i):l=m:=by
 apply C0F (by omega);intro i hi hj;have:=h i (by omega);unfold gq at this;rw[C0f hi,C0f hj]at this;exact this
theorem B2W{w:World}{A:Option Addr}{rs:List Rq}{N L:Nat}(hn:rs.length=N)(hrl:∀r∈rs,r.2.2.length=L)(h:Lrz w A rs){i:Nat}(hi:i<N):∃(bb ob:Nat) (P:Ax),A=some ⟨bb,ob,none⟩/\(∀W,A4 w W->W.cell? ⟨bb,ob+i,none⟩=some (.slice P.1 L P.2)/\Lz W P.1 (B7 (rs.map (·.2.2)) i))/\(B7 (rs.map (·.2.2)) i).length=L:=by
 obtain⟨bb,ob,rfl⟩:=h.addr (by omega);have hil:i<rs.length:=by omega
 have e:B7 (rs.map (·.2.2)) i=rs[i].2.2:=by unfold B7;rw[List.getElem?_map,C0f hil];rfl
 refine⟨bb,ob,(rs[i].1,rs[i].2.1),rfl,λW hg=>?_,by rw[e];exact hrl _ (C0D hil)⟩;have h3:=(h.grow hg).read (C0f hil);rw[hrl _ (C0D hil)]at h3;rw[e];exact⟨h3.1,h3.2⟩
theorem B0P{l:List Rat}{n s:Nat}(hl:l.length=n)(h:∀i,i<n->qs (gq l i)<=s):∀x∈l,qs x<=s:=λx hx=>by
 obtain⟨i,hi,e⟩:=C1t hx;have h1:=h i (by omega);have h2:=A1D hi;rw[C0f hi]at h2;injection h2 with h2;rw[<-h2,e]at h1;exact h1
theorem N2.row{u u':World}{ps:List Zr}{B size n cap g i:Nat}{xs vs:List Value}(hl:N2 u ps)(h:u.ownsRow B 33 size (.slice (some ⟨g,0,none⟩) n cap) n xs)(hu:C3 u g i vs=u'):N2 u' ps:=by
 obtain⟨h0,h1|⟨g',cap',cur,e1,hb,hh,-⟩⟩:=h
 ·exact absurd h1.1 (by simp)
 ·obtain rfl:g=g':=by cases e1;rfl
  exact hl.put (bl:=[(g,33,cur)]) (Bx.cons hh (Bx.nil u)) 0 rfl (by decide) i vs hu
abbrev Kz:=Az×Rat×Ax×List Rat
def kzL(x:Kz):List Value:=zrL (x.1,x.2.1)++[.slice x.2.2.1.1 x.2.2.2.length x.2.2.1.2]
theorem B5o(x:Kz):(kzL x).length=4:=rfl
abbrev A1L(x:Kz):Kn:=(x.2.1,x.2.2.2)
def Lkz(u:World)(A:Option Addr)(l:List Kz):Prop:=Le kzL 4 u A l/\∀x∈l,Rz u x.1 x.2.1/\Lz u x.2.2.1.1 x.2.2.2
theorem Lkz.grow{u u':World}{A:Option Addr}{l:List Kz}(h:Lkz u A l)(hg:A4 u u'):Lkz u' A l:=⟨h.1.grow hg,λx hx=>⟨(h.2 x hx).1.grow hg,(h.2 x hx).2.grow hg⟩⟩
theorem Lkz.at{u:World}{A:Option Addr}{l:List Kz}(h:Lkz u A l){i:Nat}(hi:i<l.length):∃(b o:Nat) (p:Az) (P:Ax),A=some ⟨b,o,none⟩/\∀W,A4 u W->(Cz W b (o+i*4) p (knQ (l.map A1L) i)/\W.cell? ⟨b,o+i*4+3,none⟩=some (.slice P.1 (knW (l.map A1L) i).length P.2))/\Rz W p (knQ (l.map A1L) i)/\Lz W P.1 (knW (l.map A1L) i):=by
 obtain⟨b,o,e,hc⟩:=h.1.at hi;have e1:knQ (l.map A1L) i=l[i].2.1:=by unfold knQ;rw[List.getElem?_map,C0f hi];rfl
 have e2:knW (l.map A1L) i=l[i].2.2.2:=by unfold knW;rw[List.getElem?_map,C0f hi];rfl
 rw[e1,e2];obtain⟨h1,h2⟩:=h.2 _ (C0D hi);exact⟨b,o,l[i].1,l[i].2.2.1,e,λW hg=>⟨⟨⟨hc W hg 0 _ rfl,hc W hg 1 _ rfl,hc W hg 2 _ rfl⟩,hc W hg 3 _ rfl⟩,h1.grow hg,h2.grow hg⟩⟩
section
variable {u w':World} {B:Nat} {e:TypeId} {size n:Nat} {v:Value} {xs:List Value} {o:Obj}
theorem A4Z{b:Nat}{cs:Array Value}{T:TypeId}{fr:Nat×Nat}(hb:u.heap[b]?=some (.cells cs T fr))(h:u.ownsRow B e size v n xs)(ht:e≠T)(hg:(u.alloc o).grownBy w' v.ownBlock):w'.heap[b]?=u.heap[b]?:=by
 have hlt:=M3 hb;have h2:(u.alloc o).heap[b]?=u.heap[b]?:=(A4.alloc u o).block b hlt;refine(hg.block b (by rw[K9];omega) λhxe=>?_).trans h2;obtain⟨_,h|⟨g,cap,cur,rfl,hb',hh,hn,hc',hs,ht2⟩⟩:=h
 ·rw[h.1]at hxe;cases hxe
 ·have h1:b=g:=B95 hxe;rw[h1,hh]at hb;injection hb with hb;injection hb with _ h3 _;exact ht h3
structure Lzt(u:World)(A:Option Addr)(l:List Rat):Prop where
 lz:Lz u A l
 ty:∀b off,A=some ⟨b,off,none⟩->∃cs fr,u.heap[b]?=some (.cells cs 33 fr)
structure Lqt(u:World)(A:Option Addr)(l:List Rat):Prop where
 lq:Lq u A l
 ty:∀b off,A=some ⟨b,off,none⟩->∃cs fr,u.heap[b]?=some (.cells cs 48 fr)
theorem Lzt.grow{u u':World}{A:Option Addr}{l:List Rat}(h:Lzt u A l)(hg:A4 u u'):Lzt u' A l:=⟨h.lz.grow hg,λb off hA=>by
 obtain⟨cs,fr,hb⟩:=h.ty b off hA
 exact⟨cs,fr,(hg.block b (M3 hb)).trans hb⟩⟩
theorem Lqt.grow{u u':World}{A:Option Addr}{l:List Rat}(h:Lqt u A l)(hg:A4 u u'):Lqt u' A l:=⟨h.lq.grow hg,λb off hA=>by
 obtain⟨cs,fr,hb⟩:=h.ty b off hA
 exact⟨cs,fr,(hg.block b (M3 hb)).trans hb⟩⟩
theorem cell_of_heap{u u':World}{b:Nat}(h:u'.heap[b]?=u.heap[b]?)(off:Nat):u'.cell? ⟨b,off,none⟩=u.cell? ⟨b,off,none⟩:=by
 unfold World.cell?;rw[h]
theorem Lzt.stay{A:Option Addr}{l:List Rat}(hl:Lzt u A l)(h:u.ownsRow B e size v n xs)(h1:e≠33)(h2:e≠193)(hg:(u.alloc o).grownBy w' v.ownBlock):Lzt w' A l:=by
 refine⟨λhne=>?_,λb off hA=>?_⟩
 ·obtain⟨b,off,eA,hb,hc⟩:=hl.lz hne;obtain⟨cs,fr,hty⟩:=hl.ty b off eA;have hs:=A4Z hty h h1 hg;refine⟨b,off,eA,M3 (hs.trans hty),λi hi=>?_⟩;obtain⟨p,g1,g2,g3,g4⟩:=hc i hi;exact⟨p,⟨g1.1.own h h2 hg,g1.2.own h h2 hg⟩,(cell_of_heap hs _).trans g2,(cell_of_heap hs _).trans g3,(cell_of_heap hs _).trans g4⟩
 ·obtain⟨cs,fr,hty⟩:=hl.ty b off hA;exact⟨cs,fr,(A4Z hty h h1 hg).trans hty⟩
theorem Lqt.stay{A:Option Addr}{l:List Rat}(hl:Lqt u A l)(h:u.ownsRow B e size v n xs)(h1:e≠48)(hg:(u.alloc o).grownBy w' v.ownBlock):Lqt w' A l:=by
 refine⟨λhne=>?_,λb off hA=>?_⟩
 ·obtain⟨b,off,eA,hb,hc⟩:=hl.lq hne;obtain⟨cs,fr,hty⟩:=hl.ty b off eA;have hs:=A4Z hty h h1 hg;exact⟨b,off,eA,M3 (hs.trans hty),λi q hi j v hj=>(cell_of_heap hs _).trans (hc i q hi j v hj)⟩
 ·obtain⟨cs,fr,hty⟩:=hl.ty b off hA;exact⟨cs,fr,(A4Z hty h h1 hg).trans hty⟩
end
theorem Lzt.put{u u':World}{A:Option Addr}{l:List Rat}(h:Lzt u A l){bl:List (Nat×TypeId×Array Value)}(hB:Bx u bl)(k:Nat){b:Nat}{t:TypeId}{cs:Array Value}(hk:bl[k]?=some (b,t,cs))(ht1:t≠33)(ht2:t≠193)(i:Nat)(vs:List Value)(hu:C3 u b i vs=u'):Lzt u' A l:=by
 have hb:Blk u b t cs:=hB _ (C0G hk);have hg:u.grownBy u' (some b):=hu ▸ Y7 b vs i u;have key:∀(b':Nat) (cs':Array Value) (fr:Nat×Nat),u.heap[b']?=some (Obj.cells cs' 33 fr)->u'.heap[b']?=u.heap[b']?:=λb' cs' fr h'=>hg.block b' (M3 h') λe=>by
  have e:=B95 e;subst e;unfold Blk at hb;rw[hb]at h';injection h' with h';injection h' with _ h3 _;exact ht1 h3
 refine⟨λhne=>?_,λb' off hA=>?_⟩
 ·obtain⟨b',off,eA,hb',hc⟩:=h.lz hne;obtain⟨cs',fr,hty⟩:=h.ty b' off eA;have hs:=key b' cs' fr hty;refine⟨b',off,eA,M3 (hs.trans hty),λj hj=>?_⟩;obtain⟨p,g1,g2,g3,g4⟩:=hc j hj;exact⟨p,⟨g1.1.put hB k hk ht2 i vs hu,g1.2.put hB k hk ht2 i vs hu⟩,(cell_of_heap hs _).trans g2,(cell_of_heap hs _).trans g3,(cell_of_heap hs _).trans g4⟩
 ·obtain⟨cs',fr,hty⟩:=h.ty b' off hA;exact⟨cs',fr,(key b' cs' fr hty).trans hty⟩
theorem A4M{u:World}{B n:Nat}{v:Value}{l:List Rat}(h:u.ownsRow B 48 5 v n (l.flatMap qL)):∃A c,v = .slice A n c/\Lqt u A l/\n=l.length:=by
 obtain⟨A,c,e1,-,-,hL,hk⟩:=K6 h;obtain⟨_,h|⟨g,cap,cur,rfl,hb,hh,hn',hc,hs,ht⟩⟩:=h
 ·obtain⟨rfl,h0⟩:=h;cases e1;exact⟨none,0,rfl,⟨hL,λb off hA=>by cases hA⟩,hk⟩
 ·cases e1;exact⟨_,_,rfl,⟨hL,λb off hA=>by cases hA;exact⟨cur,(0,0),hh⟩⟩,hk⟩
structure KnW(B n:Nat)(vo vp:Value)(zs:List Kz)(qz:List Kq)(W:World):Prop where
 o:W.ownsRow B 82 4 vo n (zs.flatMap kzL)
 p:W.ownsRow B 84 6 vp n (qz.flatMap kqL)
 lz:zs.length=n
 lq:qz.length=n
 az:∀x∈zs,Rz W x.1 x.2.1/\Lzt W x.2.2.1.1 x.2.2.2
 aq:∀x∈qz,Lqt W x.2.1.1 x.2.2
 same:zs.map A1L=qz.map D0
 small:∀x∈qz,qs x.1<=50/\x.2.2.length<=3/\∀y∈x.2.2,qs y<=5
section
variable {B n:Nat} {vo vp v':Value} {zs:List Kz} {qz:List Kq} {u w':World} {o:Obj}
theorem KnW.grow{W:World}(h:KnW B n vo vp zs qz u)(hg:A4 u W):KnW B n vo vp zs qz W :=
 ⟨C0 h.o hg,C0 h.p hg,h.lz,h.lq,λx hx=>⟨(h.az x hx).1.grow hg,(h.az x hx).2.grow hg⟩,λx hx=>(h.aq x hx).grow hg,h.same,h.small⟩
theorem KnW.start(B:Nat)(u:World):KnW B 0 (.slice none 0 0) (.slice none 0 0) [] [] u :=
 ⟨C1u _ _ _ _,C1u _ _ _ _,rfl,rfl,λx hx=>absurd hx List.not_mem_nil,λx hx=>absurd hx List.not_mem_nil,rfl,λx hx=>absurd hx List.not_mem_nil⟩
structure KnX(B n:Nat)(vo vp:Value)(zs:List Kz)(qz:List Kq)(x:Kz)(W:World):Prop where
 o:W.ownsRow B 82 4 vo (n+1) (zs.flatMap kzL++kzL x)
 p:W.ownsRow B 84 6 vp n (qz.flatMap kqL)
 lz:zs.length=n
 lq:qz.length=n
 az:∀x∈zs,Rz W x.1 x.2.1/\Lzt W x.2.2.1.1 x.2.2.2
 aq:∀x∈qz,Lqt W x.2.1.1 x.2.2
 same:zs.map A1L=qz.map D0
 small:∀x∈qz,qs x.1<=50/\x.2.2.length<=3/\∀y∈x.2.2,qs y<=5
 new:Rz W x.1 x.2.1/\Lzt W x.2.2.1.1 x.2.2.2
theorem KnX.grow{W:World}{x:Kz}(h:KnX B n vo vp zs qz x u)(hg:A4 u W):KnX B n vo vp zs qz x W :=
 ⟨C0 h.o hg,C0 h.p hg,h.lz,h.lq,λx hx=>⟨(h.az x hx).1.grow hg,(h.az x hx).2.grow hg⟩,λx hx=>(h.aq x hx).grow hg,h.same,h.small,⟨h.new.1.grow hg,h.new.2.grow hg⟩⟩
theorem A8r{p:Az}{q:Rat}{size m:Nat}{e:TypeId}{v:Value}{xs:List Value}(h:Rz u p q)(ho:u.ownsRow B e size v m xs)(ht:e≠193)(hg:(u.alloc o).grownBy w' v.ownBlock):Rz w' p q:=⟨h.1.own ho ht hg,h.2.own ho ht hg⟩
theorem KnX.addP{x:Kz}{y:Kq}(h:KnX B n vo vp zs qz x u)(hy:Lqt u y.2.1.1 y.2.2)(he:A1L x=D0 y)(hs:qs y.1<=50/\y.2.2.length<=3/\∀z∈y.2.2,qs z<=5)(h1:w'.ownsRow B 84 6 v' (n+1) (qz.flatMap kqL++kqL y))(hg:(u.alloc o).grownBy w' vp.ownBlock):KnW B (n+1) vo v' (zs++[x]) (qz++[y]) w':=by
 have ho:=A05 h.o (Q3 h.p h.o (by decide)) hg;refine⟨by rw[C15];simpa using ho,by rw[C15];simpa using h1,by rw[List.length_append,h.lz];rfl,by rw[List.length_append,h.lq];rfl,λz hz=>?_,λz hz=>?_,by rw[List.map_append,List.map_append,h.same];simp[he],λz hz=>?_⟩
 ·rcases List.mem_append.1 hz with hz|hz
  ·exact⟨A8r (h.az z hz).1 h.p (by decide) hg,(h.az z hz).2.stay h.p (by decide) (by decide) hg⟩
  ·rw[List.mem_singleton]at hz;subst hz;exact⟨A8r h.new.1 h.p (by decide) hg,h.new.2.stay h.p (by decide) (by decide) hg⟩
 ·rcases List.mem_append.1 hz with hz|hz
  ·exact(h.aq z hz).stay h.p (by decide) hg
  ·rw[List.mem_singleton]at hz;subst hz;exact hy.stay h.p (by decide) hg
 ·rcases List.mem_append.1 hz with hz|hz
  ·exact h.small z hz
  ·rw[List.mem_singleton]at hz;subst hz;exact hs
theorem KnW.both(h:KnW B n vo vp zs qz u):∃(A:Option Addr) (c:Nat) (A':Option Addr) (c':Nat),vo = .slice A n c/\vp = .slice A' n c'/\Lkz u A zs/\Lk u A' qz:=by
 obtain⟨A,c,e1,-,h1,-⟩:=A1K B5o (by omega) h.o;obtain⟨A',c',e2,-,h2,-⟩:=A1K A7S (by omega) h.p;exact⟨A,c,A',c',e1,e2,⟨h1,λx hx=>⟨(h.az x hx).1,(h.az x hx).2.lz⟩⟩,h2,λx hx=>(h.aq x hx).lq⟩
end
theorem A42:EI 79 84 6 80:=A1G (by kernel_rfl) (by kernel_rfl) (by omega)
theorem A4u(q:Rat)(P:Ax)(W:List Rat)(m:Nat)(hm:W.length=m)(w:World):(Instr.buildSlice 79 1 #[(0,.agg #[.bool (E5 q.num),.int .u64 (B9 q.num.natAbs),.string (B6 q.num.natAbs),.int .u64 (B9 (I3 q.den)),.string (B6 (I3 q.den)),.slice P.1 m P.2])]).run Tryz.prog w = .ok (.slice (some ⟨w.heap.size,0,none⟩) 1 1) (w.alloc (.cells (kqL (q,P,W)).toArray 84)):=by
 subst hm;go_simp;rfl
section
variable {X:List (List Rat)} {y:List Rat} {N L s g:Nat} (hN:N<=300) (hX:∀i,i<N->∀j,j<L->qs (gq (B7 X i) j)<=s) (hys:∀i,i<N->qs (gq y i)<=s) (hg:N*(s+s+1)+1<=g)
include hX hg
theorem A6n{i j:Nat}(hi:i<L)(hj:j<L):qs (gq (B7 (L7 X N L) i) j)<=g:=by
 rw[A3r hi hj];have h1:=A1I (a:=I8 X i N) (b:=I8 X j N) (n:=N) (s:=s) (t:=s) (λr hr=>by rw[A1Y X i N hr];exact hX r hr i hi) (λr hr=>by rw[A1Y X j N hr];exact hX r hr j hj) N (B9z _);exact C0H h1 hg
include hys
theorem A6x{i:Nat}(hi:i<L):qs (gq (H5 X y N L) i)<=g:=by
 rw[show gq (H5 X y N L) i=E4 (I8 X i N) y N from Q5 _ hi];have h1:=A1I (a:=I8 X i N) (b:=y) (n:=N) (s:=s) (t:=s) (λr hr=>by rw[A1Y X i N hr];exact hX r hr i hi) hys N (B9z _);exact C0H h1 hg
end
theorem B1p(x:Int)(h1 : -1<=x)(h2:x<=1):qs (C1 x)<=1:=by
 have:x = -1\/x=0\/x=1:=by omega
 rcases this with rfl|rfl|rfl<;>decide
theorem B3X(n c:Nat):(F5 n c).length=n:=by unfold F5;simp
theorem A6O{n c i:Nat}(hi:i<n) : -1<=gi (F5 n c) i/\gi (F5 n c) i<=1:=by
 have:=A4q n c i hi;omega
theorem A4S{X:List (List Rat)}{y:List Rat}{N L g:Nat}(hg1:1<=g)(hL:L<=6)(hG:∀i,i<L->∀j,j<L->qs (gq (B7 (L7 X N L) i) j)<=g)(hP:∀i,i<L->qs (gq (H5 X y N L) i)<=g)(k:Nat) :
  (∀i,qs (gq (O0 X y N L k) i)<=g*10^(L+1))/\(∀i,qs (gq (O6 X N L k) i)<=g*10^(L+1))/\∀x∈I0 X y N L k,qs x.1<=20*(g*10^(L+1))/\qs x.2<=20*(g*10^(L+1)):=by
 obtain⟨Z,hZ⟩:∃Z,Z=g*10^(L+1):=⟨_,rfl⟩
 have hgZ:10*g<=Z:=by
  rw[hZ,Nat.pow_succ,C0q (10^L) 10,<-C1N,C0q g 10];exact C1L _ (C1q (by omega))
 have hv1:=A5Y (y:=X9 (H5 X y N L) (F9 (F5 L k) L)) (U:=F9 (F5 L k) L) (n:=L) A1x (A4x _ _) hG hg1 (λj hj=>by unfold X9;rw[A2Y hj];exact hP _ (A1x _ (N3 hj)))
 have hv2:=A5Y (y:=Z4 (F5 L k) (F9 (F5 L k) L)) (U:=F9 (F5 L k) L) (n:=L) A1x (A4x _ _) hG hg1 (λj hj=>by
  unfold Z4;rw[A2Y hj];obtain⟨h1,h2⟩:=A6O (c:=k) (A1x _ (N3 hj))
  exact C0H (B1p _ (by omega) (by omega)) hg1)
 rw[<-hZ]at hv1 hv2⊢;have hF:∀i,qs (gq (O0 X y N L k) i)<=Z:=λi=>A35 hv1 (by omega) _ (B9z _) i;have hB:∀i,qs (gq (O6 X N L k) i)<=Z:=λi=>A35 hv2 (by omega) _ (B9z _) i;refine⟨hF,hB,λx hx=>?_⟩;unfold I0 A0K at hx;obtain⟨i,hi,hx⟩:=List.mem_flatMap.1 hx;have hi:=List.mem_range.1 hi;obtain⟨h1,h2⟩:=A6O (c:=k) hi;have q1:=B1p _ h1 h2;have q2:qs (C1 1)<=1:=by decide
 unfold A0G at hx;split at hx
 ·rw[List.mem_singleton]at hx;subst hx;have z1:=Z5 (gq (O6 X N L k) i) (C1 (gi (F5 L k) i));have z2:=Z5 (gq (O0 X y N L k) i) (C1 (gi (F5 L k) i));have z3:=hF i;have z4:=hB i;unfold C9;exact⟨by simp only;omega,by simp only;omega⟩
 ·have hd:=λ(W:List Rat) (hW:∀i,qs (gq W i)<=Z)=>A1I (a:=B7 (L7 X N L) i) (b:=W) (n:=L) (s:=g) (t:=Z) (λj hj=>hG i hi j hj) (λj _=>hW j) L (B9z _);have d1:=hd _ hF;have d2:=hd _ hB;have d3:L*(g+Z+1)<=6*(g+Z+1):=C0n _ hL;have z5:=hP i hi;have z1:=A0X (C1 1) (E4 (B7 (L7 X N L) i) (O6 X N L k) L);have z2:=A0X (gq (H5 X y N L) i) (E4 (B7 (L7 X N L) i) (O0 X y N L k) L);have z3:=A2C (C1 1) (E4 (B7 (L7 X N L) i) (O6 X N L k) L);simp only[List.mem_cons,List.not_mem_nil,or_false]at hx;rcases hx with rfl|rfl
  ·unfold D3;exact⟨by simp only;omega,by simp only;omega⟩
  ·have z4:qs (J7 (D3 (gq (H5 X y N L) i) (E4 (B7 (L7 X N L) i) (O0 X y N L k) L)))=qs (D3 (gq (H5 X y N L) i) (E4 (B7 (L7 X N L) i) (O0 X y N L k) L)):=A2q _;simp only;rw[z4];unfold D3 G6;exact⟨by omega,by omega⟩
theorem A9y(X:List (List Rat))(y:List Rat)(N L k:Nat)(hL:L<=6):(O0 X y N L k).length=L/\(O6 X N L k).length=L/\(I0 X y N L k).length<=1000 :=
 ⟨A0c _ _ _ _,A0c _ _ _ _,C0H (A7F L) (by omega)⟩
theorem B3F(X:List (List Rat))(N L:Nat):(L7 X N L).length=L/\∀r∈L7 X N L,r.length=L:=by
 refine⟨by unfold L7;simp,λr hr=>?_⟩;unfold L7 at hr;obtain⟨i,-,rfl⟩:=List.mem_map.1 hr;unfold G5;simp
theorem A8x{X:List (List Rat)}{y:List Rat}{N L g:Nat}(hF:A13 X N L)(hL1:1<=L)(hL:L<=6)(hg1:1<=g)(hG:∀i,i<L->∀j,j<L->qs (gq (B7 (L7 X N L) i) j)<=g)(hP:∀i,i<L->qs (gq (H5 X y N L) i)<=g)(hBz:100*(g*10^(L+1))<=BIG)(k:Nat) :
  A2G L (L7 X N L) (H5 X y N L) (F5 L k) (O0 X y N L k) (O6 X N L k) (I0 X y N L k):=by
 obtain⟨g1,g2⟩:=B3F X N L
 exact A8J L hL1 hL _ _ _ g1 g2 (by unfold H5;simp) (B3X L k) (λi hi=>A6O hi) g hg1 hG hP hBz
  (A6L (A6h _ _) A1x (λi hi j hj=>A3r hi hj) (A2y hF) _) (A6L (A6h _ _) A1x (λi hi j hj=>A3r hi hj) (A2y hF) _)
theorem B63{a:Rat}(ha:0<=a):¬a.num<0:=by
 have:=Rat.num_nonneg.2 ha;omega
theorem B4j(A:Option Addr)(rs:List Rq)(N Lw c:Nat)(Y:Ax)(y:List Rat)(hn:rs.length=N)(hN1:1<=N)(hN2:N<=300)(hL1:1<=Lw)(hL2:Lw<=6)(hrl:∀r∈rs,r.2.2.length=Lw)(hy:y.length=N)(s g:Nat)(hs1:1<=s)(hs:s<=10000)(hX:∀i,i<N->∀j,j<Lw->qs (gq (B7 (rs.map (·.2.2)) i) j)<=s)(hys:∀i,i<N->qs (gq y i)<=s)(hg:N*(s+s+1)+1<=g)(hBz:100*(g*10^(Lw+1))<=BIG)(a:Rat)(ha0:0<=a)(haz:qs a<=g)
  (hun:A13 (rs.map (·.2.2)) N Lw) (w:World) (h:Lrq w A rs) (h2:Lq w Y.1 y) (HT:Tab w) :
  Calls Tryz.prog 14 #[.slice A N c,.slice Y.1 N Y.2,qV a] w (G1 (λx:Ax=>.tuple #[.slice x.1 Lw x.2,.int .i64 0]) (λx W=>Lq W x.1 (J6 (rs.map (·.2.2)) y N Lw a)) w):=by
 have hG:=λi (hi:i<Lw) j (hj:j<Lw)=>A6n hX hg hi hj;have hP:=λi (hi:i<Lw)=>A6x hX hys hg hi;obtain⟨k1,k2,k3⟩:=A5Z hun y a;have hgZ:10*g<=g*10^(Lw+1):=by
  rw[Nat.pow_succ,C0q (10^Lw) 10,<-C1N,C0q g 10];exact C1L _ (C1q (by omega))
 have hz1:qs a<=20*(g*10^(Lw+1)):=by
  generalize g*10^(Lw+1)=Z at *;omega
 have hz2:4*(20*(g*10^(Lw+1)))+10<=BIG:=by
  generalize g*10^(Lw+1)=Z at *;omega
 have hsz:∀k,k<3^Lw->(∀i,i<Lw->qs (gq (O0 (rs.map (·.2.2)) y N Lw k) i)<=20*(g*10^(Lw+1)))/\(∀i,i<Lw->qs (gq (O6 (rs.map (·.2.2)) N Lw k) i)<=20*(g*10^(Lw+1)))/\∀x∈I0 (rs.map (·.2.2)) y N Lw k,qs x.1<=20*(g*10^(Lw+1))/\qs x.2<=20*(g*10^(Lw+1)):=λk _=>by
  obtain⟨z1,z2,z3⟩:=A4S (by omega) hL2 hG hP k;generalize g*10^(Lw+1)=Z at *;exact⟨λi _=>C0H (z1 i) (by omega),λi _=>C0H (z2 i) (by omega),z3⟩
 have hsv:∀k,k<3^Lw->A2G Lw (L7 (rs.map (·.2.2)) N Lw) (H5 (rs.map (·.2.2)) y N Lw) (F5 Lw k) (O0 (rs.map (·.2.2)) y N Lw k) (O6 (rs.map (·.2.2)) N Lw k) (I0 (rs.map (·.2.2)) y N Lw k):=λk _=>A8x hun hL1 hL2 (by omega) hG hP hBz k;have hln:∀k,k<3^Lw->(O0 (rs.map (·.2.2)) y N Lw k).length=Lw/\(O6 (rs.map (·.2.2)) N Lw k).length=Lw/\(I0 (rs.map (·.2.2)) y N Lw k).length<=1000:=λk _=>A9y _ y N Lw k hL2;unfold J6 A1T;obtain⟨kk,hkk⟩:∃kk,kk=S6 (rs.map (·.2.2)) y N Lw a:=⟨_,rfl⟩
 rw[<-hkk]at k1 k2 k3⊢;obtain⟨Z,hZ⟩:∃Z,Z=20*(g*10^(Lw+1)):=⟨_,rfl⟩
 rw[<-hZ]at hz1 hz2;simp only[<-hZ]at hsz;obtain⟨F,hF⟩:∃F,F=O0 (rs.map (·.2.2)) y N Lw:=⟨_,rfl⟩
 obtain⟨B,hB⟩:∃B,B=O6 (rs.map (·.2.2)) N Lw:=⟨_,rfl⟩
 obtain⟨LM,hLM⟩:∃LM,LM=I0 (rs.map (·.2.2)) y N Lw:=⟨_,rfl⟩
 rw[<-hLM]at k2 k3;simp only[<-hF,<-hB,<-hLM]at hsz hsv hln⊢;exact B0f A rs N Lw c Y y hn hN1 hN2 hL1 hL2 hrl hy s hs1 hs hX hys a (B63 ha0) hun F B LM Z hz1 hz2 hln hsz hsv kk k1 k2 k3 w h h2 HT
theorem B3J(A Y:Option Addr)(N M c d:Nat)(a:Rat)(ha:0<=a)(haz:qs a<=BIG)(z:Int)(hz:(z != 0)=true)(w:World)(hs:∀W,A4 w W->Calls Tryz.prog 57 #[.slice A N c,.slice Y M d] W λe w'=>e = .returned (.bool true)/\A4 W w')
  (hu:∀W,A4 w W->Calls Tryz.prog 58 #[.slice A N c] W λe w'=>e = .returned (.int .i64 z)/\A4 W w') :
  Calls Tryz.prog 14 #[.slice A N c,.slice Y M d,qV a] w λe w'=>e = .returned (.tuple #[.slice none 0 0,.int .i64 z])/\A4 w w':=by
 have hfs:=λ(W:World)=>O8 a (by have:=G4 a;have:=K4;omega) W;have hsg:decide (a.num.sign<0)=false:=by
  have h1:¬a<0:=by grind
  have h2:=@A20 a;rcases A3B a with e|e|e
  ·rw[e];rfl
  ·exact absurd (h2.1 e) h1
  ·rw[e];rfl
 obtain⟨S,hS⟩:∃S,S=a.num.sign:=⟨_,rfl⟩
 rw[<-hS]at hsg;simp only[<-hS]at hfs;have Hs:=C0P hs;have Hu:=C0P hu;have Hfs:=C0P hfs;clear hs hu hfs ha haz hS;go_enter Tryz.func14,Tryz.ntmps14;refine en3 ?_;intro u hG b7 b6 b5 hB hF;refine C0K ?_;refine C0K (rsE D6 [0,0,1,0] hB hG λL hL=>?_);refine gs ?_;refine gmd (C:=λv ⟨hgu,hB,hG,_⟩=>Hs.out _ hG) ?_;refine gs ?_;refine geT hL ?_;clear hB hG hL L;rintro u ⟨-,hB,hG,-⟩;refine C0Q (rfl) ?_;refine C0R ?_;refine A6 ?_;refine C0K ?_;refine C0K (rsE D6 [0,1,0] hB hG λL hL=>?_);refine gs ?_;refine gmw (C:=λv=>Hfs.out _) ?_;refine gs ?_;refine geT hL ?_;clear hB hG hL L;rintro u ⟨-,hB,hG,-⟩;refine C0Q (rfl) ?_;refine C0R ?_;refine A6 ?_;refine C0K ?_;refine C0K (rsE D6 [0,1,0] hB hG λL hL=>?_);refine gs ?_;refine gmd (C:=λv ⟨hgu,hB,hG,_⟩=>Hu.out _ hG) ?_;refine gs ?_;refine geT hL ?_;clear hB hG hL L;rintro u ⟨-,hB,hG,-⟩;refine r0T ?_;refine C0S (rfl) ?_;have hD:b6≠b7/\b7≠b6:=⟨hF.ne 1 2 rfl rfl (by decide),hF.ne 2 1 rfl rfl (by decide)⟩
 refine r0T ?_;clear hD;refine st2 hB hF hG 1 0 [_] 2 0 [_] ?_;clear hB hG;intro u hB hG;refine rt Tryz.results14 ?_;exact⟨rfl,hG⟩
def A3G:List (List Rat):=[[C1 1],[C1 1]]
def knY:List Rat:=[C1 3,C1 1]
def knG:List (List Rat):=L7 A3G 2 1
def knP:List Rat:=H5 A3G knY 2 1
def knF(k:Nat):List Rat:=A0z knG knP (F5 1 k) 1
def knB(k:Nat):List Rat:=A01 knG (F5 1 k) 1
def knL(k:Nat):List Lm:=A0K knG knP (knF k) (knB k) (F5 1 k) 1 1
theorem B5i:I9 A3G knY 2 1=J8 4 1:=by decide +kernel
theorem B6W:(D1 2 1 (D7 A3G,[]) 1).2.length=1:=by decide +kernel
theorem B7q:J9 (knF 2) (knB 2) 1 (C1 2)=[J8 1 1]:=by decide +kernel
theorem A6e:H7 (C1 2) (knL 2)=true/\H7 (C1 2) (knL 0)=false/\H7 (C1 2) (knL 1)=false:=by decide +kernel
theorem B8Z:∀k,k<3->(1<=(F9 (F5 1 k) 1).length->(D1 (F9 (F5 1 k) 1).length ((F9 (F5 1 k) 1).length+1) (D7 (aug (A0D knG (F9 (F5 1 k) 1)) (X9 knP (F9 (F5 1 k) 1)) (F9 (F5 1 k) 1).length),[]) ((F9 (F5 1 k) 1).length+1)).2=List.range (F9 (F5 1 k) 1).length):=by decide +kernel
theorem B85:∀k,k<3->(1<=(F9 (F5 1 k) 1).length->(D1 (F9 (F5 1 k) 1).length ((F9 (F5 1 k) 1).length+1) (D7 (aug (A0D knG (F9 (F5 1 k) 1)) (Z4 (F5 1 k) (F9 (F5 1 k) 1)) (F9 (F5 1 k) 1).length),[]) ((F9 (F5 1 k) 1).length+1)).2=List.range (F9 (F5 1 k) 1).length):=by decide +kernel
theorem A7o:∀k,k<3->(knF k).length=1/\(knB k).length=1/\(knL k).length<=1000/\qs (gq (knF k) 0)<=50/\qs (gq (knB k) 0)<=50/\(knL k).all (λx=>decide (qs x.1<=50)&&decide (qs x.2<=50))=true/\(F5 1 k).length=1 /\ -1<=gi (F5 1 k) 0/\gi (F5 1 k) 0<=1:=by decide +kernel
theorem A7X:knG.length=1/\(knG.all λr=>decide (r.length=1))=true/\knP.length=1/\qs (gq (B7 knG 0) 0)<=50/\qs (gq knP 0)<=50/\qs (gq (B7 A3G 0) 0)<=50/\qs (gq (B7 A3G 1) 0)<=50/\qs (gq knY 0)<=50/\qs (gq knY 1)<=50/\qs (C1 2)<=50:=by decide +kernel
theorem B9O(w:World)(rs:List Rq)(h:∀r∈rs,Lq w r.1 r.2.2):Lrq (w.alloc (.cells (rs.map λr=>Value.slice r.1 r.2.2.length r.2.1).toArray 35)) (some ⟨w.heap.size,0,none⟩) rs:=λ_ =>
 ⟨w.heap.size,0,rfl,by rw[K9];omega,λi r hi=>⟨by
  rw[Nat.zero_add,Blk.cell (Blk.new w 35 _) i]
  simp[hi],(h r (C0G hi)).grow (A4.alloc _ _)⟩⟩
theorem B0W(n d:Int)(h0:0<=n)(h1:n<=4)(h2:d=1)(hz:qs (J8 n d)<=10)(W:World):Calls Tryz.prog 52 #[qV (J8 n d),.int .i64 n,.int .i64 d] W λe w'=>e = .returned (.bool true)/\A4 W w' :=
 B3N n d (by omega) (by omega) (by omega) (by omega) (by omega) (C0H hz (by unfold LIM;omega)) W
theorem B24(k:Nat)(hk:k<3):A2G 1 knG knP (F5 1 k) (knF k) (knB k) (knL k):=by
 obtain⟨h1,h2,h3,h4,h5,h6,h7,h8,h9⟩:=A7o k hk;obtain⟨g1,g2,g3,g4,g5,-⟩:=A7X;have e0:∀i,i<1->i=0:=λi hi=>by omega
 exact A8J 1 (by omega) (by omega) knG knP (F5 1 k) g1 (λr hr=>by
  have:=List.all_eq_true.1 g2 r hr
  simpa using this) g3 h7 (λi hi=>by rw[e0 i hi];exact⟨h8,h9⟩) 50 (by omega) (λi hi j hj=>by rw[e0 i hi,e0 j hj];exact g4) (λi hi=>by rw[e0 i hi];exact g5) (by unfold BIG;omega) (B8Z k hk) (B85 k hk)
theorem B9Y(A Y:Option Addr)(x y:Ax)(W:World)(h:Lrq W A [(x.1,x.2,[C1 1]),(y.1,y.2,[C1 1])])(h2:Lq W Y knY)(HT:Tab W):Calls Tryz.prog 35 #[.slice A 2 2,.slice Y 2 2] W λe w'=>e = .returned (.tuple #[qV (J8 4 1),.int .i64 0])/\A4 W w':=by
 obtain⟨-,-,-,-,-,g6,g7,g8,g9,-⟩:=A7X
 have h3:=A6b A Y [(x.1,x.2,[C1 1]),(y.1,y.2,[C1 1])] knY 2 1 2 2 rfl (by omega) (by omega) (λr hr=>by
  simp only[List.mem_cons,List.not_mem_nil,or_false]at hr;rcases hr with rfl|rfl<;>rfl) rfl (by omega) (by omega) 50 (by omega) (by omega) (λi hi j hj=>by
  obtain rfl:j=0:=by omega
  have:i=0\/i=1:=by omega
  rcases this with rfl|rfl
  ·exact g6
  ·exact g7) (λi hi=>by
  have:i=0\/i=1:=by omega
  rcases this with rfl|rfl
  ·exact g8
  ·exact g9) W h h2 HT
 have e:I9 ([(x.1,x.2,[C1 1]),(y.1,y.2,[C1 1])].map (·.2.2)) knY 2 1=J8 4 1:=B5i;rw[e]at h3;exact h3
theorem B6B(A:Option Addr)(Y:Ax)(x y:Ax)(W:World)(h:Lrq W A [(x.1,x.2,[C1 1]),(y.1,y.2,[C1 1])])(h2:Lq W Y.1 knY)(HT:Tab W):Calls Tryz.prog 14 #[.slice A 2 2,.slice Y.1 2 Y.2,qV (C1 2)] W (G1 (λx:Ax=>.tuple #[.slice x.1 1 x.2,.int .i64 0]) (λx W=>Lq W x.1 [J8 1 1]) W):=by
 obtain⟨-,-,-,-,-,g6,g7,g8,g9,g10⟩:=A7X
 have h3:=B0f A [(x.1,x.2,[C1 1]),(y.1,y.2,[C1 1])] 2 1 2 Y knY rfl (by omega) (by omega) (by omega) (by omega) (λr hr=>by
  simp only[List.mem_cons,List.not_mem_nil,or_false]at hr;rcases hr with rfl|rfl<;>rfl) rfl 50 (by omega) (by omega) (λi hi j hj=>by
  obtain rfl:j=0:=by omega
  have:i=0\/i=1:=by omega
  rcases this with rfl|rfl
  ·exact g6
  ·exact g7) (λi hi=>by
  have:i=0\/i=1:=by omega
  rcases this with rfl|rfl
  ·exact g8
  ·exact g9) (C1 2) (by decide +kernel) B6W knF knB knL 50 g10 (by unfold BIG;omega) (λk hk=>by
  obtain⟨h1,h2,h3,-⟩:=A7o k hk;exact⟨h1,h2,h3⟩) (λk hk=>by
  obtain⟨h1,h2,h3,h4,h5,h6,-⟩:=A7o k hk;refine⟨λi hi=>?_,λi hi=>?_,λx hx=>?_⟩
  ·obtain rfl:i=0:=by omega
   exact h4
  ·obtain rfl:i=0:=by omega
   exact h5
  ·have:=List.all_eq_true.1 h6 x hx
   simpa using this) (λk hk=>B24 k hk) 2 (by decide) A6e.1 (λj hj=>by
  have:j=0\/j=1:=by omega
  rcases this with rfl|rfl
  ·exact A6e.2.1
  ·exact A6e.2.2) W h h2 HT
 rw[B7q]at h3;exact h3
theorem B0w(w:World)(HT:Tab w):Calls Tryz.prog 19 #[] w λe w'=>e = .returned (.bool true)/\A4 w w':=by
 have z41:qs (J8 4 1)<=10:=by decide +kernel
 have z11:qs (J8 1 1)<=10:=by decide +kernel
 go_enter Tryz.func19,Tryz.ntmps19;refine en0 ?_;intro u hG hB hF;refine C0K (rsE D6 [1,1,1,1,1,0] hB hG λL hL=>?_);refine gmw (C:=λv=>A0u 1 (by omega) (by omega) _) ?_;refine gx Nat (λb=>.slice (some ⟨b,0,none⟩) 1 1) (λb W=>Lq W (some ⟨b,0,none⟩) [C1 1]) (λ_ _ _ hg h=>h.grow hg) rfl ?_ (λx8=>?_)
 ·(rintro v ⟨hgu,hB,hG,-⟩ N hN;go_simp;exact hN v.heap.size _ (A5T v [C1 1]) (A4.alloc _ _))
 refine okf (by simp only[Act.put,List.setIfInBounds_toArray,List.set_cons_succ,List.set_cons_zero];exact rfl) ?_;refine gmw (C:=λv=>A0u 1 (by omega) (by omega) _) ?_;refine gx Nat (λb=>.slice (some ⟨b,0,none⟩) 1 1) (λb W=>Lq W (some ⟨b,0,none⟩) [C1 1]) (λ_ _ _ hg h=>h.grow hg) rfl ?_ (λx10=>?_)
 ·(rintro v ⟨⟨hgu,hB,hG,-⟩,hx8⟩ N hN;go_simp;exact hN v.heap.size _ (A5T v [C1 1]) (A4.alloc _ _))
 refine okf (by simp only[Act.put,List.setIfInBounds_toArray,List.set_cons_succ,List.set_cons_zero];exact rfl) ?_;refine gx Nat (λb=>.slice (some ⟨b,0,none⟩) 2 2) (λb W=>Lrq W (some ⟨b,0,none⟩) [(some ⟨x8,0,none⟩,1,[C1 1]),(some ⟨x10,0,none⟩,1,[C1 1])]) (λ_ _ _ hg h=>h.grow hg) rfl ?_ (λx11=>?_)
 ·(rintro v ⟨⟨⟨hgu,hB,hG,-⟩,hx8⟩,hx10⟩ N hN;go_simp;exact hN v.heap.size _ (B9O v [(some ⟨x8,0,none⟩,1,[C1 1]),(some ⟨x10,0,none⟩,1,[C1 1])] (λr hr=>by simp only[List.mem_cons,List.not_mem_nil,or_false]at hr;rcases hr with rfl|rfl<;>first|exact hx8|exact hx10)) (A4.alloc _ _))
 refine okf (by simp only[Act.put,List.setIfInBounds_toArray,List.set_cons_succ,List.set_cons_zero];exact rfl) ?_;refine gs ?_;refine geT hL ?_;clear hB hG hL L;rintro u ⟨⟨⟨⟨hgu,hB,hG,-⟩,hx8⟩,hx10⟩,hx11⟩;obtain⟨w1,hw1⟩:=exQ u;have HX:=C0P (show Lrq w1 (some ⟨x11,0,none⟩) [(some ⟨x8,0,none⟩,1,[C1 1]),(some ⟨x10,0,none⟩,1,[C1 1])]from hw1 ▸ hx11);have hG1:A4 w1 u:=hw1 ▸ A4.refl u;clear hx8 hx10 hx11 hw1;clear hgu;refine C0K (rsE D6 [1,1,1,0] hB hG λL hL=>?_);refine gmw (C:=λv=>A0u 3 (by omega) (by omega) _) ?_;refine gmw (C:=λv=>A0u 1 (by omega) (by omega) _) ?_;refine gx Nat (λb=>.slice (some ⟨b,0,none⟩) 2 2) (λb W=>Lq W (some ⟨b,0,none⟩) knY) (λ_ _ _ hg h=>Lq.grow h hg) rfl ?_ (λx14=>?_)
 ·(rintro v ⟨hgu,hB,hG,-⟩ N hN;go_simp;exact hN v.heap.size _ (A5T v knY) (A4.alloc _ _))
 refine okf (by simp only[Act.put,List.setIfInBounds_toArray,List.set_cons_succ,List.set_cons_zero];exact rfl) ?_;refine gs ?_;refine geT hL ?_;clear hB hG hL L;rintro u ⟨⟨hgu,hB,hG,-⟩,hx14⟩;replace hG1:=hG1.trans hgu;obtain⟨w2,hw2⟩:=exQ u;have HY:=C0P (show Lq w2 (some ⟨x14,0,none⟩) knY from hw2 ▸ hx14);have hG2:A4 w2 u:=hw2 ▸ A4.refl u;clear hx14 hw2;clear hgu;refine C0K (rsC D6 [0,0,1,0,0,0,2] hB hG λK L hN hL=>?_);refine gs ?_;refine gmd (C:=λv ⟨hgu,hB,hG,_⟩=>B9Y _ _ (some ⟨x8,0,none⟩,1) (some ⟨x10,0,none⟩,1) _ (HX.out.grow (hG1.trans hgu)) (HY.out.grow (hG2.trans hgu)) (HT.grow hG)) ?_;refine gs ?_;refine gaa (G8 _ _ _ _ _) λb3 hb3 hn3=>?_;replace hF:=hF.n1 [] hB hG hb3 hn3;refine geC hL ?_;clear hB hG hL L;rintro u ⟨⟨hgu,hB,hG,-⟩,h3⟩;replace hB:=hB.cons' h3;clear h3;have hw31:w1.heap.size<=b3:=C0H hG1.size hb3;have hw32:w2.heap.size<=b3:=C0H hG2.size hb3;replace hG1:=hG1.trans hgu;replace hG2:=hG2.trans hgu;clear hb3 hn3;clear hgu;refine gtT ?_;clear hN K;refine sv hB hF hG 0 0 [_,_,_,_,_] ?_;intro u hu hBG;replace hG1:=Y9 hG1 hw31 hu;replace hG2:=Y9 hG2 hw32 hu;clear hB hG hu;obtain⟨hB,hG⟩:=hBG;refine C0K (rsE D6 [0,0,1,1,0,0,0,0,0] hB hG λL hL=>?_);refine gs ?_;refine gmw (C:=λv=>A0u 2 (by omega) (by omega) _) ?_;refine gxd (X:=Ax) (λx:Ax=>.tuple #[.slice x.1 1 x.2,.int .i64 0]) (λx W=>Lq W x.1 [J8 1 1]) (λx u u' hg h=>Lq.grow h hg) (λx25=>?_) (C:=by(rintro v ⟨hgu,hB,hG,-⟩;exact B6B _ (some ⟨x14,0,none⟩,2) (some ⟨x8,0,none⟩,1) (some ⟨x10,0,none⟩,1) _ (HX.out.grow (hG1.trans hgu)) (HY.out.grow (hG2.trans hgu)) (HT.grow hG)));refine gs ?_;refine geT hL ?_;clear hB hG hL L;rintro u ⟨⟨hgu,hB,hG,-⟩,hx25⟩;obtain⟨xa,xc⟩:=x25;have HL:=C0P (λW (hg:A4 u W)=>Lq.grow (show Lq u xa [J8 1 1]from hx25) hg);obtain⟨bq,oq,rfl⟩:∃b o,xa=some ⟨b,o,none⟩:=Lq.addr (show Lq u xa [J8 1 1]from hx25) (by simp);have hcq:∀W,A4 u W->Cq W bq oq (J8 1 1):=λW hg=>by
  have h:=(HL.out W hg).read (i:=0) (by simp);rw[C0p,Nat.add_zero]at h;exact h
 have HC:=C0P hcq;clear hx25 HL hcq;clear hgu;refine C0K (rsE D6 [0,0,0,0,1,0,0,0,0,0,0,0,0,0,0,0,0,0,0,1,0,0] hB hG λL hL=>?_)
 repeat first|refine gya ?_|refine gyr ?_|refine gna ?_|refine gyb (by(rintro v ⟨hgu,hB,hG,-⟩ N hN;have r:=hB.r;simp only[BxR]at r;obtain⟨y1,y2,y3,y4,y5⟩:=HC.out v hgu;go_simp;exact hN)) ?_
 first|refine gmw (C:=λv=>B0W 4 1 (by omega) (by omega) rfl z41 _) ?_|refine L0 ?_
 repeat first|refine gya ?_|refine gyr ?_|refine gna ?_|refine gyb (by(rintro v ⟨hgu,hB,hG,-⟩ N hN;have r:=hB.r;simp only[BxR]at r;obtain⟨y1,y2,y3,y4,y5⟩:=HC.out v hgu;go_simp;exact hN)) ?_
 first|refine gmw (C:=λv=>B0W 1 1 (by omega) (by omega) rfl z11 _) ?_|refine L0 ?_
 refine gs ?_;refine geT hL ?_;clear hB hG hL L;rintro u ⟨-,hB,hG,-⟩;refine rt Tryz.results19 ?_;exact⟨rfl,hG⟩
theorem B9U:∀ {l:List Nat} {m:Nat},l.Pairwise (· < ·)->(∀x∈l,x<m)->l.length<=m:=by
 intro l m
 induction m generalizing l with
 | zero =>
  intro _ h
  cases l with
  | nil=>exact B9z _
  | cons x l=>exact absurd (h x List.mem_cons_self) (C2D _)
 | succ m ih =>
  intro h1 h2;rcases List.eq_nil_or_concat l with rfl|⟨l',x,rfl⟩
  ·exact C0h _
  ·rw[List.concat_eq_append]at h1 h2⊢;obtain⟨p1,-,p3⟩:=List.pairwise_append.1 h1;have:=ih p1 λy hy=>by
    have h3:=p3 y hy x (by simp);have h4:=h2 x (by simp);omega
   rw[List.length_append,List.length_singleton];omega
def rkR(X:List (List Rat))(N L:Nat):Nat:=(D1 N L (D7 X,[]) L).2.length
theorem B1I(X:List (List Rat))(N L:Nat):rkR X N L<=L:=by
 obtain⟨h1,h2⟩:=A6c N L (D7 X) L;exact B9U h1 h2
def lsE(X:List (List Rat))(N L:Nat):Int:=if rkR X N L=L then 0 else 9
def lsN(X:List (List Rat))(N L:Nat):Nat:=if rkR X N L=L then L else 0
def lsV(X:List (List Rat))(y:List Rat)(N L:Nat)(a:Rat):List Rat:=if rkR X N L=L then J6 X y N L a else []
section
variable {N L:Nat} {R:List (List Rat)} {y:List Rat} {a:Rat} (hRn:R.length=N) (hRl:∀r∈R,r.length=L) (hN1:1<=N) (hN:N<=5) (hL1:1<=L) (hL:L<=3) (hX:∀i,i<N->∀j,j<L->qs (gq (B7 R i) j)<=20) (hyn:y.length=N) (hys:∀i,i<N->qs (gq y i)<=20) (ha0:0<=a) (ha:qs a<=20)
theorem B9R{L:Nat}(hL:L<=3):100*(210*10^(L+1))<=BIG:=by
 have h1:10^(L+1)<=10^4:=C0W (by omega) (by omega);have h2:210*10^(L+1)<=210*10^4:=C1I _ h1;unfold BIG;omega
include hN hL hX hys ha in
theorem B7F(i:Nat)(hi:i<L):qs (gq (J6 R y N L a) i)<=10000000:=by
 have hg:N*(20+20+1)+1<=210:=by omega
 obtain⟨z1,z2,-⟩:=A4S (X:=R) (y:=y) (N:=N) (g:=210) (by omega) (by omega) (λi hi j hj=>A6n hX hg hi hj) (λi hi=>A6x hX hys hg hi) (S6 R y N L a);have e:gq (J6 R y N L a) i=G6 (gq (O0 R y N L (S6 R y N L a)) i) (C9 (gq (O6 R N L (S6 R y N L a)) i) a):=Q5 _ hi;rw[e];have h1:10^(L+1)<=10^4:=C0W (by omega) (by omega);have h2:210*10^(L+1)<=210*10^4:=C1I _ h1;have h3:=z1 i;have h4:=z2 i;generalize 210*10^(L+1)=Z at *;have h5:=Z5 (gq (O6 R N L (S6 R y N L a)) i) a;have h6:=A2C (gq (O0 R y N L (S6 R y N L a)) i) (C9 (gq (O6 R N L (S6 R y N L a)) i) a);unfold G6;unfold C9 at *;omega
include hRn hRl hN1 hN hL1 hL hX hyn hys ha0 ha
theorem B5z(W:World)(X Y:Ax)(rs:List Rq)(hr:rs.map (·.2.2)=R)(h1:Lrq W X.1 rs)(h2:Lq W Y.1 y)(HT:Tab W) :
  Calls Tryz.prog 14 #[.slice X.1 N X.2,.slice Y.1 N Y.2,qV a] W (G1 (λx:Ax=>.tuple #[.slice x.1 (lsN R N L) x.2,.int .i64 (lsE R N L)]) (λx W'=>Lq W' x.1 (lsV R y N L a)) W):=by
 have hBB:100000000<=BIG:=by unfold BIG;omega
 have e1:rs.length=N:=by rw[<-hRn,<-hr];simp
 have hrl:∀r∈rs,r.2.2.length=L:=λr h'=>hRl _ (by rw[<-hr];exact List.mem_map.2 ⟨r,h',rfl⟩);have hp:=B9R hL;subst hr;unfold lsN lsE lsV;by_cases hk:rkR (rs.map (·.2.2)) N L=L
 ·rw[if_pos hk,if_pos hk,if_pos hk];exact B4j X.1 rs N L X.2 Y y e1 hN1 (by omega) hL1 (by omega) hrl hyn 20 210 (by omega) (by omega) hX hys (by omega) hp a ha0 (by omega) hk W h1 h2 HT
 ·rw[if_neg hk,if_neg hk,if_neg hk];have hle:=B1I (rs.map (·.2.2)) N L;refine(B3J X.1 Y.1 N N X.2 Y.2 a ha0 (by omega) 9 rfl W (λW' hg=>A5p X.1 Y.1 rs N L X.2 Y.2 e1 hN1 (by omega) hL1 (by omega) hrl W' (h1.grow hg)) λW' hg=>?_).mono ?_
  ·have h:=A4p X.1 rs N L X.2 e1 hN1 (by omega) hL1 (by omega) hrl 20 (by omega) hX (by
    have h3:10^L<=10^3:=C0W (by omega) hL;have h4:20*10^L<=20*10^3:=C1I _ h3
    omega) W' (h1.grow hg) (HT.grow hg)
   have hlt:(D1 N L (D7 (rs.map (·.2.2)),[]) L).2.length<L:=Nat.lt_of_le_of_ne hle hk;rw[if_pos hlt]at h;exact h
  ·rintro e w' ⟨rfl,hg⟩;exact⟨(none,0),rfl,Lq.nil _ _,hg⟩
end
end Go.Proofs.YtgpglgbcobeogaaGreatDoor
