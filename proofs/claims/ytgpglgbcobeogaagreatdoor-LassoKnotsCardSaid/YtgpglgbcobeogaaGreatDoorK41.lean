import Derived.Test.YtgpglgbcobeogaaGreatDoorK40
set_option linter.unusedSimpArgs false
set_option linter.unusedVariables false
set_option maxHeartbeats 4000000
set_option maxRecDepth 100000
namespace Go.Proofs.YtgpglgbcobeogaaGreatDoor
open Go Go.RowKit
theorem A38{X:List (List Rat)}{N L i j:Nat}(hi:i<L)(hj:j<L):gq (B7 (L7 X N L) i) j=M4 X N i j:=by
 have e1:B7 (L7 X N L) i=G4 (M4 X N) L i:=A3E hi;rw[e1];exact S9 _ hj
theorem B00{n c t:Nat}(h:t<n):gi (E9 n c) t=sgI c t:=by
 unfold gi E9;rw[List.getElem?_map,C1b h];rfl
theorem A5d(n c:Nat):Sgn n (gi (E9 n c)):=λi hi=>by
 rw[B00 hi];unfold sgI;have:c/3^i%3<3:=B92 _ (by omega);omega
theorem B0u(s:Nat->Int):∀n,Sgn n s->∃c,c<3^n/\∀t,t<n->sgI c t=s t
 | 0,_=>⟨0,by simp,λt ht=>absurd ht (C1f _)⟩
 | n+1,h=>by
  obtain⟨c,hc,he⟩:=B0u s n λi hi=>h i (by omega);obtain⟨d,hd⟩:∃d:Nat,(d:Int)=s n+1:=⟨(s n+1).toNat,by have:=h n (by omega);omega⟩
  have hd3:d<3:=by have:=h n (by omega);omega
  have h3:d*3^n<=2*3^n:=C0H _ (by omega);refine⟨c+d*3^n,by rw[Nat.pow_succ];omega,λt ht=>?_⟩;by_cases e:t=n
  ·subst e;unfold sgI;have e1:(c+d*3^t)/3^t=d:=by
    rw[Nat.add_mul_div_right _ _ (C1K (by omega)),C0R hc];omega
   rw[e1,Nat.mod_eq_of_lt hd3];omega
  ·have e1:(c+d*3^n)/3^t%3=c/3^t%3:=by
    obtain⟨m,hm⟩:∃m,n=t+(m+1):=⟨n-t-1,by omega⟩
    rw[hm,B91,<-C0r,Nat.mul_right_comm,Nat.add_mul_div_right _ _ (C1K (by omega)),Nat.pow_succ,<-C0r,Nat.add_mul_mod_self_right]
   rw[<-he t (by omega)];unfold sgI;rw[e1]
def R4(X:List (List Rat))(y:List Rat)(N L k:Nat):List Rat:=A0o (L7 X N L) (I6 X y N L) (E9 L k) L
def R6(X:List (List Rat))(N L k:Nat):List Rat:=A0f (L7 X N L) (E9 L k) L
def J6(X:List (List Rat))(y:List Rat)(N L k:Nat):List Lm:=A0F (L7 X N L) (I6 X y N L) (R4 X y N L k) (R6 X N L k) (E9 L k) L L
def S5(X:List (List Rat))(y:List Rat)(N L:Nat)(a:Rat):Nat:=A0V (λk=>!H3 a (J6 X y N L k)) (3^L) 0
def A1h(X:List (List Rat))(y:List Rat)(N L:Nat)(a:Rat)(k:Nat):List Rat:=J9 (R4 X y N L k) (R6 X N L k) L a
def N6(X:List (List Rat))(y:List Rat)(N L:Nat)(a:Rat):List Rat:=A1h X y N L a (S5 X y N L a)
def A2W(X:List (List Rat))(N L:Nat):Prop:=(C9 N L (E8 X,[]) L).2.length=L
section
variable {X:List (List Rat)} {N L:Nat} (hF:A2W X N L)
include hF
theorem A6t(y:List Rat)(a:Rat)(k:Nat):SolW (M4 X N) L (gq (I6 X y N L)) a (gi (E9 L k)) (gq (A1h X y N L a k)) :=
 B5b (λi hi j hj=>A38 hi hj) (A35 hF) (E9 L k) a
omit hF in
theorem A5f(y:List Rat)(a:Rat)(k:Nat):H3 a (J6 X y N L k)=true↔A5y (M4 X N) L (gq (I6 X y N L)) a (gi (E9 L k)) (gq (A1h X y N L a k)) :=
 A8R (G:=M4 X N) (λi hi j hj=>A38 hi hj) (E9 L k) _ _ a L (K2 _)
theorem B3N(y:List Rat)(a:Rat):∃k,k<3^L/\H3 a (J6 X y N L k)=true:=by
 obtain⟨k,hk,h⟩:=B6C (G:=M4 X N) (n:=L) (p:=gq (I6 X y N L)) (a:=a) (λi _ j _=>A7w X N i j) (A7f X N L) (A35 hF) (3^L) (λk=>gi (E9 L k)) (λk=>gq (A1h X y N L a k)) (λk _=>A5d L k) (λk _=>A6t hF y a k) (λs hs=>by
  obtain⟨c,hc,he⟩:=B0u s L hs
  exact⟨c,hc,λi hi=>by rw[B00 hi];exact he i hi⟩)
 exact⟨k,hk,(A5f y a k).2 h⟩
theorem A6X(y:List Rat)(a:Rat):S5 X y N L a<3^L/\H3 a (J6 X y N L (S5 X y N L a))=true/\∀j,j<S5 X y N L a->H3 a (J6 X y N L j)=false:=by
 obtain⟨h1,h2,h3,h4⟩:=A4o (λk=>!H3 a (J6 X y N L k)) (3^L) 0;have hlt:S5 X y N L a<3^L:=by
  rcases B9U (S5 X y N L a) (3^L)with h|h
  ·exact h
  ·obtain⟨k,hk,hh⟩:=B3N hF y a;have:=h3 k (C0B _) (by unfold S5 at h;omega);simp only[hh]at this;cases this
 refine⟨hlt,?_,λj hj=>?_⟩
 ·have:=h4 (by unfold S5 at hlt;omega)
  simpa [S5]using this
 ·have:=h3 j (C0B _) hj
  simpa using this
theorem B0d(y:List Rat){a:Rat}(ha:0<=a):Kkt (M4 X N) L (gq (I6 X y N L)) a (gq (N6 X y N L a)) :=
 B1d (A5d L _) ha (A6t hF y a _) ((A5f y a _).1 (A6X hF y a).2.1)
theorem A9U(y:List Rat){a:Rat}(ha:0<=a){w:Nat->Rat}(h:Kkt (M4 X N) L (gq (I6 X y N L)) a w):∀i,i<L->w i=gq (N6 X y N L a) i :=
 B2w (λi _ j _=>A7w X N i j) (A7f X N L) (A35 hF) ha (B0d hF y ha) h
end
theorem A41(X:List (List Rat))(y:List Rat)(N L:Nat)(a:Rat):(N6 X y N L a).length=L:=by
 unfold N6 A1h J9;simp
theorem A95{l m:List Rat}{n:Nat}(h1:l.length=n)(h2:m.length=n)(h:∀i,i<n->gq l i=gq m i):l=m:=by
 apply B9j (by omega);intro i hi hj;have:=h i (by omega);unfold gq at this;rw[B99 hi,B99 hj]at this;exact this
theorem B6x{w:World}{A:Option Addr}{rs:List Rq}{N L:Nat}(hn:rs.length=N)(hrl:∀r∈rs,r.2.2.length=L)(h:Lrz w A rs){i:Nat}(hi:i<N):∃(bb ob:Nat) (P:Ax),A=some ⟨bb,ob,none⟩/\(∀W,A4 w W->W.cell? ⟨bb,ob+i,none⟩=some (.slice P.1 L P.2)/\Lz W P.1 (B7 (rs.map (·.2.2)) i))/\(B7 (rs.map (·.2.2)) i).length=L:=by
 obtain⟨bb,ob,rfl⟩:=h.addr (by omega);have hil:i<rs.length:=by omega
 have e:B7 (rs.map (·.2.2)) i=rs[i].2.2:=by unfold B7;rw[List.getElem?_map,B99 hil];rfl
 refine⟨bb,ob,(rs[i].1,rs[i].2.1),rfl,λW hg=>?_,by rw[e];exact hrl _ (B9h hil)⟩;have h3:=(h.grow hg).read (B99 hil);rw[hrl _ (B9h hil)]at h3;rw[e];exact⟨h3.1,h3.2⟩
theorem M9.row{u u':World}{ps:List Zr}{B size n cap g i:Nat}{xs vs:List Value}(hl:M9 u ps)(h:u.ownsRow B 33 size (.slice (some ⟨g,0,none⟩) n cap) n xs)(hu:C3 u g i vs=u'):M9 u' ps:=by
 obtain⟨h0,h1|⟨g',cap',cur,e1,hb,hh,-⟩⟩:=h
 ·exact absurd h1.1 (by simp)
 ·obtain rfl:g=g':=by cases e1;rfl
  exact hl.put (bl:=[(g,33,cur)]) (Bx.cons hh (Bx.nil u)) 0 rfl (by decide) i vs hu
abbrev Kz:=Az×Rat×Ax×List Rat
def kzL(x:Kz):List Value:=zrL (x.1,x.2.1)++[.slice x.2.2.1.1 x.2.2.2.length x.2.2.1.2]
theorem B4L(x:Kz):(kzL x).length=4:=rfl
abbrev A1V(x:Kz):Kn:=(x.2.1,x.2.2.2)
def Lkz(u:World)(A:Option Addr)(l:List Kz):Prop:=Le kzL 4 u A l/\∀x∈l,Rz u x.1 x.2.1/\Lz u x.2.2.1.1 x.2.2.2
theorem Lkz.grow{u u':World}{A:Option Addr}{l:List Kz}(h:Lkz u A l)(hg:A4 u u'):Lkz u' A l:=⟨h.1.grow hg,λx hx=>⟨(h.2 x hx).1.grow hg,(h.2 x hx).2.grow hg⟩⟩
theorem Lkz.at{u:World}{A:Option Addr}{l:List Kz}(h:Lkz u A l){i:Nat}(hi:i<l.length):∃(b o:Nat) (p:Az) (P:Ax),A=some ⟨b,o,none⟩/\∀W,A4 u W->(Cz W b (o+i*4) p (knQ (l.map A1V) i)/\W.cell? ⟨b,o+i*4+3,none⟩=some (.slice P.1 (knW (l.map A1V) i).length P.2))/\Rz W p (knQ (l.map A1V) i)/\Lz W P.1 (knW (l.map A1V) i):=by
 obtain⟨b,o,e,hc⟩:=h.1.at hi;have e1:knQ (l.map A1V) i=l[i].2.1:=by unfold knQ;rw[List.getElem?_map,B99 hi];rfl
 have e2:knW (l.map A1V) i=l[i].2.2.2:=by unfold knW;rw[List.getElem?_map,B99 hi];rfl
 rw[e1,e2];obtain⟨h1,h2⟩:=h.2 _ (B9h hi);exact⟨b,o,l[i].1,l[i].2.2.1,e,λW hg=>⟨⟨⟨hc W hg 0 _ rfl,hc W hg 1 _ rfl,hc W hg 2 _ rfl⟩,hc W hg 3 _ rfl⟩,h1.grow hg,h2.grow hg⟩⟩
section
variable {u w':World} {B:Nat} {e:TypeId} {size n:Nat} {v:Value} {xs:List Value} {o:Obj}
theorem A4Q{b:Nat}{cs:Array Value}{T:TypeId}{fr:Nat×Nat}(hb:u.heap[b]?=some (.cells cs T fr))(h:u.ownsRow B e size v n xs)(ht:e≠T)(hg:(u.alloc o).grownBy w' v.ownBlock):w'.heap[b]?=u.heap[b]?:=by
 have hlt:=K9 hb;have h2:(u.alloc o).heap[b]?=u.heap[b]?:=(A4.alloc u o).block b hlt;refine(hg.block b (by rw[K6];omega) λhxe=>?_).trans h2;obtain⟨_,h|⟨g,cap,cur,rfl,hb',hh,hn,hc',hs,ht2⟩⟩:=h
 ·rw[h.1]at hxe;cases hxe
 ·have h1:b=g:=B9Z hxe;rw[h1,hh]at hb;injection hb with hb;injection hb with _ h3 _;exact ht h3
structure Lzt(u:World)(A:Option Addr)(l:List Rat):Prop where
 lz:Lz u A l
 ty:∀b off,A=some ⟨b,off,none⟩->∃cs fr,u.heap[b]?=some (.cells cs 33 fr)
structure Lqt(u:World)(A:Option Addr)(l:List Rat):Prop where
 lq:Lq u A l
 ty:∀b off,A=some ⟨b,off,none⟩->∃cs fr,u.heap[b]?=some (.cells cs 48 fr)
theorem Lzt.grow{u u':World}{A:Option Addr}{l:List Rat}(h:Lzt u A l)(hg:A4 u u'):Lzt u' A l:=⟨h.lz.grow hg,λb off hA=>by
 obtain⟨cs,fr,hb⟩:=h.ty b off hA
 exact⟨cs,fr,(hg.block b (K9 hb)).trans hb⟩⟩
theorem Lqt.grow{u u':World}{A:Option Addr}{l:List Rat}(h:Lqt u A l)(hg:A4 u u'):Lqt u' A l:=⟨h.lq.grow hg,λb off hA=>by
 obtain⟨cs,fr,hb⟩:=h.ty b off hA
 exact⟨cs,fr,(hg.block b (K9 hb)).trans hb⟩⟩
theorem cell_of_heap{u u':World}{b:Nat}(h:u'.heap[b]?=u.heap[b]?)(off:Nat):u'.cell? ⟨b,off,none⟩=u.cell? ⟨b,off,none⟩:=by
 unfold World.cell?;rw[h]
theorem Lzt.stay{A:Option Addr}{l:List Rat}(hl:Lzt u A l)(h:u.ownsRow B e size v n xs)(h1:e≠33)(h2:e≠193)(hg:(u.alloc o).grownBy w' v.ownBlock):Lzt w' A l:=by
 refine⟨λhne=>?_,λb off hA=>?_⟩
 ·obtain⟨b,off,eA,hb,hc⟩:=hl.lz hne;obtain⟨cs,fr,hty⟩:=hl.ty b off eA;have hs:=A4Q hty h h1 hg;refine⟨b,off,eA,K9 (hs.trans hty),λi hi=>?_⟩;obtain⟨p,g1,g2,g3,g4⟩:=hc i hi;exact⟨p,⟨g1.1.own h h2 hg,g1.2.own h h2 hg⟩,(cell_of_heap hs _).trans g2,(cell_of_heap hs _).trans g3,(cell_of_heap hs _).trans g4⟩
 ·obtain⟨cs,fr,hty⟩:=hl.ty b off hA;exact⟨cs,fr,(A4Q hty h h1 hg).trans hty⟩
theorem Lqt.stay{A:Option Addr}{l:List Rat}(hl:Lqt u A l)(h:u.ownsRow B e size v n xs)(h1:e≠48)(hg:(u.alloc o).grownBy w' v.ownBlock):Lqt w' A l:=by
 refine⟨λhne=>?_,λb off hA=>?_⟩
 ·obtain⟨b,off,eA,hb,hc⟩:=hl.lq hne;obtain⟨cs,fr,hty⟩:=hl.ty b off eA;have hs:=A4Q hty h h1 hg;exact⟨b,off,eA,K9 (hs.trans hty),λi q hi j v hj=>(cell_of_heap hs _).trans (hc i q hi j v hj)⟩
 ·obtain⟨cs,fr,hty⟩:=hl.ty b off hA;exact⟨cs,fr,(A4Q hty h h1 hg).trans hty⟩
end
theorem Lzt.put{u u':World}{A:Option Addr}{l:List Rat}(h:Lzt u A l){bl:List (Nat×TypeId×Array Value)}(hB:Bx u bl)(k:Nat){b:Nat}{t:TypeId}{cs:Array Value}(hk:bl[k]?=some (b,t,cs))(ht1:t≠33)(ht2:t≠193)(i:Nat)(vs:List Value)(hu:C3 u b i vs=u'):Lzt u' A l:=by
 have hb:Blk u b t cs:=hB _ (B9k hk);have hg:u.grownBy u' (some b):=hu ▸ X7 b vs i u;have key:∀(b':Nat) (cs':Array Value) (fr:Nat×Nat),u.heap[b']?=some (Obj.cells cs' 33 fr)->u'.heap[b']?=u.heap[b']?:=λb' cs' fr h'=>hg.block b' (K9 h') λe=>by
  have e:=B9Z e;subst e;unfold Blk at hb;rw[hb]at h';injection h' with h';injection h' with _ h3 _;exact ht1 h3
 refine⟨λhne=>?_,λb' off hA=>?_⟩
 ·obtain⟨b',off,eA,hb',hc⟩:=h.lz hne;obtain⟨cs',fr,hty⟩:=h.ty b' off eA;have hs:=key b' cs' fr hty;refine⟨b',off,eA,K9 (hs.trans hty),λj hj=>?_⟩;obtain⟨p,g1,g2,g3,g4⟩:=hc j hj;exact⟨p,⟨g1.1.put hB k hk ht2 i vs hu,g1.2.put hB k hk ht2 i vs hu⟩,(cell_of_heap hs _).trans g2,(cell_of_heap hs _).trans g3,(cell_of_heap hs _).trans g4⟩
 ·obtain⟨cs',fr,hty⟩:=h.ty b' off hA;exact⟨cs',fr,(key b' cs' fr hty).trans hty⟩
theorem A3Q{u:World}{B n:Nat}{v:Value}{l:List Rat}(h:u.ownsRow B 48 5 v n (l.flatMap qL)):∃A c,v = .slice A n c/\Lqt u A l/\n=l.length:=by
 obtain⟨A,c,e1,-,-,hL,hk⟩:=M7 h;obtain⟨_,h|⟨g,cap,cur,rfl,hb,hh,hn',hc,hs,ht⟩⟩:=h
 ·obtain⟨rfl,h0⟩:=h;cases e1;exact⟨none,0,rfl,⟨hL,λb off hA=>by cases hA⟩,hk⟩
 ·cases e1;exact⟨_,_,rfl,⟨hL,λb off hA=>by cases hA;exact⟨cur,(0,0),hh⟩⟩,hk⟩
structure KnW(B n:Nat)(vo vp:Value)(zs:List Kz)(qz:List Kq)(W:World):Prop where
 o:W.ownsRow B 82 4 vo n (zs.flatMap kzL)
 p:W.ownsRow B 84 6 vp n (qz.flatMap kqL)
 lz:zs.length=n
 lq:qz.length=n
 az:∀x∈zs,Rz W x.1 x.2.1/\Lzt W x.2.2.1.1 x.2.2.2
 aq:∀x∈qz,Lqt W x.2.1.1 x.2.2
 same:zs.map A1V=qz.map F7
 small:∀x∈qz,qs x.1<=50/\x.2.2.length<=3/\∀y∈x.2.2,qs y<=5
section
variable {B n:Nat} {vo vp v':Value} {zs:List Kz} {qz:List Kq} {u w':World} {o:Obj}
theorem KnW.grow{W:World}(h:KnW B n vo vp zs qz u)(hg:A4 u W):KnW B n vo vp zs qz W :=
 ⟨C0 h.o hg,C0 h.p hg,h.lz,h.lq,λx hx=>⟨(h.az x hx).1.grow hg,(h.az x hx).2.grow hg⟩,λx hx=>(h.aq x hx).grow hg,h.same,h.small⟩
theorem KnW.start(B:Nat)(u:World):KnW B 0 (.slice none 0 0) (.slice none 0 0) [] [] u :=
 ⟨C1O _ _ _ _,C1O _ _ _ _,rfl,rfl,λx hx=>absurd hx List.not_mem_nil,λx hx=>absurd hx List.not_mem_nil,rfl,λx hx=>absurd hx List.not_mem_nil⟩
structure KnX(B n:Nat)(vo vp:Value)(zs:List Kz)(qz:List Kq)(x:Kz)(W:World):Prop where
 o:W.ownsRow B 82 4 vo (n+1) (zs.flatMap kzL++kzL x)
 p:W.ownsRow B 84 6 vp n (qz.flatMap kqL)
 lz:zs.length=n
 lq:qz.length=n
 az:∀x∈zs,Rz W x.1 x.2.1/\Lzt W x.2.2.1.1 x.2.2.2
 aq:∀x∈qz,Lqt W x.2.1.1 x.2.2
 same:zs.map A1V=qz.map F7
 small:∀x∈qz,qs x.1<=50/\x.2.2.length<=3/\∀y∈x.2.2,qs y<=5
 new:Rz W x.1 x.2.1/\Lzt W x.2.2.1.1 x.2.2.2
theorem KnX.grow{W:World}{x:Kz}(h:KnX B n vo vp zs qz x u)(hg:A4 u W):KnX B n vo vp zs qz x W :=
 ⟨C0 h.o hg,C0 h.p hg,h.lz,h.lq,λx hx=>⟨(h.az x hx).1.grow hg,(h.az x hx).2.grow hg⟩,λx hx=>(h.aq x hx).grow hg,h.same,h.small,⟨h.new.1.grow hg,h.new.2.grow hg⟩⟩
theorem A7p{p:Az}{q:Rat}{size m:Nat}{e:TypeId}{v:Value}{xs:List Value}(h:Rz u p q)(ho:u.ownsRow B e size v m xs)(ht:e≠193)(hg:(u.alloc o).grownBy w' v.ownBlock):Rz w' p q:=⟨h.1.own ho ht hg,h.2.own ho ht hg⟩
theorem KnX.addP{x:Kz}{y:Kq}(h:KnX B n vo vp zs qz x u)(hy:Lqt u y.2.1.1 y.2.2)(he:A1V x=F7 y)(hs:qs y.1<=50/\y.2.2.length<=3/\∀z∈y.2.2,qs z<=5)(h1:w'.ownsRow B 84 6 v' (n+1) (qz.flatMap kqL++kqL y))(hg:(u.alloc o).grownBy w' vp.ownBlock):KnW B (n+1) vo v' (zs++[x]) (qz++[y]) w':=by
 have ho:=A0s h.o (P4 h.p h.o (by decide)) hg;refine⟨by rw[C1Y];simpa using ho,by rw[C1Y];simpa using h1,by rw[List.length_append,h.lz];rfl,by rw[List.length_append,h.lq];rfl,λz hz=>?_,λz hz=>?_,by rw[List.map_append,List.map_append,h.same];simp[he],λz hz=>?_⟩
 ·rcases List.mem_append.1 hz with hz|hz
  ·exact⟨A7p (h.az z hz).1 h.p (by decide) hg,(h.az z hz).2.stay h.p (by decide) (by decide) hg⟩
  ·rw[List.mem_singleton]at hz;subst hz;exact⟨A7p h.new.1 h.p (by decide) hg,h.new.2.stay h.p (by decide) (by decide) hg⟩
 ·rcases List.mem_append.1 hz with hz|hz
  ·exact(h.aq z hz).stay h.p (by decide) hg
  ·rw[List.mem_singleton]at hz;subst hz;exact hy.stay h.p (by decide) hg
 ·rcases List.mem_append.1 hz with hz|hz
  ·exact h.small z hz
  ·rw[List.mem_singleton]at hz;subst hz;exact hs
theorem KnW.both(h:KnW B n vo vp zs qz u):∃(A:Option Addr) (c:Nat) (A':Option Addr) (c':Nat),vo = .slice A n c/\vp = .slice A' n c'/\Lkz u A zs/\Lk u A' qz:=by
 obtain⟨A,c,e1,-,h1,-⟩:=A1M B4L (by omega) h.o;obtain⟨A',c',e2,-,h2,-⟩:=A1M A6C (by omega) h.p;exact⟨A,c,A',c',e1,e2,⟨h1,λx hx=>⟨(h.az x hx).1,(h.az x hx).2.lz⟩⟩,h2,λx hx=>(h.aq x hx).lq⟩
end
theorem A5E:EI 79 84 6 80:=A0z (by kernel_rfl) (by kernel_rfl) (by omega)
theorem A4I(q:Rat)(P:Ax)(W:List Rat)(m:Nat)(hm:W.length=m)(w:World):(Instr.buildSlice 79 1 #[(0,.agg #[.bool (D9 q.num),.int .u64 (B8 q.num.natAbs),.string (B6 q.num.natAbs),.int .u64 (B8 (I4 q.den)),.string (B6 (I4 q.den)),.slice P.1 m P.2])]).run Tryz.prog w = .ok (.slice (some ⟨w.heap.size,0,none⟩) 1 1) (w.alloc (.cells (kqL (q,P,W)).toArray 84)):=by
 subst hm;go_simp;rfl
section
variable {X:List (List Rat)} {y:List Rat} {N L s g:Nat} (hN:N<=300) (hX:∀i,i<N->∀j,j<L->qs (gq (B7 X i) j)<=s) (hys:∀i,i<N->qs (gq y i)<=s) (hg:N*(s+s+1)+1<=g)
include hX hg
theorem A9o{i j:Nat}(hi:i<L)(hj:j<L):qs (gq (B7 (L7 X N L) i) j)<=g:=by
 rw[A38 hi hj];have h1:=A1i (a:=J7 X i N) (b:=J7 X j N) (n:=N) (s:=s) (t:=s) (λr hr=>by rw[A1e X i N hr];exact hX r hr i hi) (λr hr=>by rw[A1e X j N hr];exact hX r hr j hj) N (K2 _);exact B9l h1 hg
include hys
theorem B08{i:Nat}(hi:i<L):qs (gq (I6 X y N L) i)<=g:=by
 rw[show gq (I6 X y N L) i=F5 (J7 X i N) y N from S9 _ hi];have h1:=A1i (a:=J7 X i N) (b:=y) (n:=N) (s:=s) (t:=s) (λr hr=>by rw[A1e X i N hr];exact hX r hr i hi) hys N (K2 _);exact B9l h1 hg
end
theorem B0A(x:Int)(h1 : -1<=x)(h2:x<=1):qs (C2 x)<=1:=by
 have:x = -1\/x=0\/x=1:=by omega
 rcases this with rfl|rfl|rfl<;>decide
theorem B6F(n c:Nat):(E9 n c).length=n:=by unfold E9;simp
theorem A66{n c i:Nat}(hi:i<n) : -1<=gi (E9 n c) i/\gi (E9 n c) i<=1:=by
 have:=A5d n c i hi;omega
theorem A59{X:List (List Rat)}{y:List Rat}{N L g:Nat}(hg1:1<=g)(hL:L<=6)(hG:∀i,i<L->∀j,j<L->qs (gq (B7 (L7 X N L) i) j)<=g)(hP:∀i,i<L->qs (gq (I6 X y N L) i)<=g)(k:Nat) :
  (∀i,qs (gq (R4 X y N L k) i)<=g*10^(L+1))/\(∀i,qs (gq (R6 X N L k) i)<=g*10^(L+1))/\∀x∈J6 X y N L k,qs x.1<=20*(g*10^(L+1))/\qs x.2<=20*(g*10^(L+1)):=by
 obtain⟨Z,hZ⟩:∃Z,Z=g*10^(L+1):=⟨_,rfl⟩
 have hgZ:10*g<=Z:=by
  rw[hZ,Nat.pow_succ,C0K (10^L) 10,<-C0r,C0K g 10];exact C0p _ (C1K (by omega))
 have hv1:=A4t (y:=W9 (I6 X y N L) (G3 (E9 L k) L)) (U:=G3 (E9 L k) L) (n:=L) A1k (A4N _ _) hG hg1 (λj hj=>by unfold W9;rw[A18 hj];exact hP _ (A1k _ (N4 hj)))
 have hv2:=A4t (y:=Y4 (E9 L k) (G3 (E9 L k) L)) (U:=G3 (E9 L k) L) (n:=L) A1k (A4N _ _) hG hg1 (λj hj=>by
  unfold Y4;rw[A18 hj];obtain⟨h1,h2⟩:=A66 (c:=k) (A1k _ (N4 hj))
  exact B9l (B0A _ (by omega) (by omega)) hg1)
 rw[<-hZ]at hv1 hv2⊢;have hF:∀i,qs (gq (R4 X y N L k) i)<=Z:=λi=>A3o hv1 (by omega) _ (K2 _) i;have hB:∀i,qs (gq (R6 X N L k) i)<=Z:=λi=>A3o hv2 (by omega) _ (K2 _) i;refine⟨hF,hB,λx hx=>?_⟩;unfold J6 A0F at hx;obtain⟨i,hi,hx⟩:=List.mem_flatMap.1 hx;have hi:=List.mem_range.1 hi;obtain⟨h1,h2⟩:=A66 (c:=k) hi;have q1:=B0A _ h1 h2;have q2:qs (C2 1)<=1:=by decide
 unfold A0B at hx;split at hx
 ·rw[List.mem_singleton]at hx;subst hx;have z1:=Z4 (gq (R6 X N L k) i) (C2 (gi (E9 L k) i));have z2:=Z4 (gq (R4 X y N L k) i) (C2 (gi (E9 L k) i));have z3:=hF i;have z4:=hB i;unfold D5;exact⟨by simp only;omega,by simp only;omega⟩
 ·have hd:=λ(W:List Rat) (hW:∀i,qs (gq W i)<=Z)=>A1i (a:=B7 (L7 X N L) i) (b:=W) (n:=L) (s:=g) (t:=Z) (λj hj=>hG i hi j hj) (λj _=>hW j) L (K2 _);have d1:=hd _ hF;have d2:=hd _ hB;have d3:L*(g+Z+1)<=6*(g+Z+1):=C0H _ hL;have z5:=hP i hi;have z1:=A0G (C2 1) (F5 (B7 (L7 X N L) i) (R6 X N L k) L);have z2:=A0G (gq (I6 X y N L) i) (F5 (B7 (L7 X N L) i) (R4 X y N L k) L);have z3:=A26 (C2 1) (F5 (B7 (L7 X N L) i) (R6 X N L k) L);simp only[List.mem_cons,List.not_mem_nil,or_false]at hx;rcases hx with rfl|rfl
  ·unfold C4;exact⟨by simp only;omega,by simp only;omega⟩
  ·have z4:qs (K5 (C4 (gq (I6 X y N L) i) (F5 (B7 (L7 X N L) i) (R4 X y N L k) L)))=qs (C4 (gq (I6 X y N L) i) (F5 (B7 (L7 X N L) i) (R4 X y N L k) L)):=A3G _;simp only;rw[z4];unfold C4 H9;exact⟨by omega,by omega⟩
theorem B3J(X:List (List Rat))(y:List Rat)(N L k:Nat)(hL:L<=6):(R4 X y N L k).length=L/\(R6 X N L k).length=L/\(J6 X y N L k).length<=1000 :=
 ⟨A0c _ _ _ _,A0c _ _ _ _,B9l (A7O L) (by omega)⟩
theorem B7E(X:List (List Rat))(N L:Nat):(L7 X N L).length=L/\∀r∈L7 X N L,r.length=L:=by
 refine⟨by unfold L7;simp,λr hr=>?_⟩;unfold L7 at hr;obtain⟨i,-,rfl⟩:=List.mem_map.1 hr;unfold G4;simp
theorem B5o{X:List (List Rat)}{y:List Rat}{N L g:Nat}(hF:A2W X N L)(hL1:1<=L)(hL:L<=6)(hg1:1<=g)(hG:∀i,i<L->∀j,j<L->qs (gq (B7 (L7 X N L) i) j)<=g)(hP:∀i,i<L->qs (gq (I6 X y N L) i)<=g)(hBz:100*(g*10^(L+1))<=BIG)(k:Nat) :
  A2h L (L7 X N L) (I6 X y N L) (E9 L k) (R4 X y N L k) (R6 X N L k) (J6 X y N L k):=by
 obtain⟨g1,g2⟩:=B7E X N L
 exact B04 L hL1 hL _ _ _ g1 g2 (by unfold I6;simp) (B6F L k) (λi hi=>A66 hi) g hg1 hG hP hBz
  (A51 (A7K _ _) A1k (λi hi j hj=>A38 hi hj) (A35 hF) _) (A51 (A7K _ _) A1k (λi hi j hj=>A38 hi hj) (A35 hF) _)
def A3B:List (List Rat):=[[C2 1],[C2 1]]
def knY:List Rat:=[C2 3,C2 1]
def knG:List (List Rat):=L7 A3B 2 1
def knP:List Rat:=I6 A3B knY 2 1
def knF(k:Nat):List Rat:=A0o knG knP (E9 1 k) 1
def knB(k:Nat):List Rat:=A0f knG (E9 1 k) 1
def knL(k:Nat):List Lm:=A0F knG knP (knF k) (knB k) (E9 1 k) 1 1
theorem B4I:J5 A3B knY 2 1=K3 4 1:=by decide +kernel
theorem B6s:(C9 2 1 (E8 A3B,[]) 1).2.length=1:=by decide +kernel
theorem B26:J9 (knF 2) (knB 2) 1 (C2 2)=[K3 1 1]:=by decide +kernel
theorem A6K:H3 (C2 2) (knL 2)=true/\H3 (C2 2) (knL 0)=false/\H3 (C2 2) (knL 1)=false:=by decide +kernel
theorem B3z:∀k,k<3->(1<=(G3 (E9 1 k) 1).length->(C9 (G3 (E9 1 k) 1).length ((G3 (E9 1 k) 1).length+1) (E8 (aug (Y9 knG (G3 (E9 1 k) 1)) (W9 knP (G3 (E9 1 k) 1)) (G3 (E9 1 k) 1).length),[]) ((G3 (E9 1 k) 1).length+1)).2=List.range (G3 (E9 1 k) 1).length):=by decide +kernel
theorem B62:∀k,k<3->(1<=(G3 (E9 1 k) 1).length->(C9 (G3 (E9 1 k) 1).length ((G3 (E9 1 k) 1).length+1) (E8 (aug (Y9 knG (G3 (E9 1 k) 1)) (Y4 (E9 1 k) (G3 (E9 1 k) 1)) (G3 (E9 1 k) 1).length),[]) ((G3 (E9 1 k) 1).length+1)).2=List.range (G3 (E9 1 k) 1).length):=by decide +kernel
theorem A5v:∀k,k<3->(knF k).length=1/\(knB k).length=1/\(knL k).length<=1000/\qs (gq (knF k) 0)<=50/\qs (gq (knB k) 0)<=50/\(knL k).all (λx=>decide (qs x.1<=50)&&decide (qs x.2<=50))=true/\(E9 1 k).length=1 /\ -1<=gi (E9 1 k) 0/\gi (E9 1 k) 0<=1:=by decide +kernel
theorem A55:knG.length=1/\(knG.all λr=>decide (r.length=1))=true/\knP.length=1/\qs (gq (B7 knG 0) 0)<=50/\qs (gq knP 0)<=50/\qs (gq (B7 A3B 0) 0)<=50/\qs (gq (B7 A3B 1) 0)<=50/\qs (gq knY 0)<=50/\qs (gq knY 1)<=50/\qs (C2 2)<=50:=by decide +kernel
theorem B7a(w:World)(rs:List Rq)(h:∀r∈rs,Lq w r.1 r.2.2):Lrq (w.alloc (.cells (rs.map λr=>Value.slice r.1 r.2.2.length r.2.1).toArray 35)) (some ⟨w.heap.size,0,none⟩) rs:=λ_ =>
 ⟨w.heap.size,0,rfl,by rw[K6];omega,λi r hi=>⟨by
  rw[Nat.zero_add,Blk.cell (Blk.new w 35 _) i]
  simp[hi],(h r (B9k hi)).grow (A4.alloc _ _)⟩⟩
theorem A8O(n d:Int)(h0:0<=n)(h1:n<=4)(h2:d=1)(hz:qs (K3 n d)<=10)(W:World):Calls Tryz.prog 52 #[qV (K3 n d),.int .i64 n,.int .i64 d] W λe w'=>e = .returned (.bool true)/\A4 W w' :=
 B71 n d (by omega) (by omega) (by omega) (by omega) (by omega) (B9l hz (by unfold LIM;omega)) W
theorem B8h(k:Nat)(hk:k<3):A2h 1 knG knP (E9 1 k) (knF k) (knB k) (knL k):=by
 obtain⟨h1,h2,h3,h4,h5,h6,h7,h8,h9⟩:=A5v k hk;obtain⟨g1,g2,g3,g4,g5,-⟩:=A55;have e0:∀i,i<1->i=0:=λi hi=>by omega
 exact B04 1 (by omega) (by omega) knG knP (E9 1 k) g1 (λr hr=>by
  have:=List.all_eq_true.1 g2 r hr
  simpa using this) g3 h7 (λi hi=>by rw[e0 i hi];exact⟨h8,h9⟩) 50 (by omega) (λi hi j hj=>by rw[e0 i hi,e0 j hj];exact g4) (λi hi=>by rw[e0 i hi];exact g5) (by unfold BIG;omega) (B3z k hk) (B62 k hk)
theorem B2y(A Y:Option Addr)(x y:Ax)(W:World)(h:Lrq W A [(x.1,x.2,[C2 1]),(y.1,y.2,[C2 1])])(h2:Lq W Y knY)(HT:Tab W):Calls Tryz.prog 35 #[.slice A 2 2,.slice Y 2 2] W λe w'=>e = .returned (.tuple #[qV (K3 4 1),.int .i64 0])/\A4 W w':=by
 obtain⟨-,-,-,-,-,g6,g7,g8,g9,-⟩:=A55
 have h3:=A3c A Y [(x.1,x.2,[C2 1]),(y.1,y.2,[C2 1])] knY 2 1 2 2 rfl (by omega) (by omega) (λr hr=>by
  simp only[List.mem_cons,List.not_mem_nil,or_false]at hr;rcases hr with rfl|rfl<;>rfl) rfl (by omega) (by omega) 50 (by omega) (by omega) (λi hi j hj=>by
  obtain rfl:j=0:=by omega
  have:i=0\/i=1:=by omega
  rcases this with rfl|rfl
  ·exact g6
  ·exact g7) (λi hi=>by
  have:i=0\/i=1:=by omega
  rcases this with rfl|rfl
  ·exact g8
  ·exact g9) W h h2 HT
 have e:J5 ([(x.1,x.2,[C2 1]),(y.1,y.2,[C2 1])].map (·.2.2)) knY 2 1=K3 4 1:=B4I;rw[e]at h3;exact h3
theorem B1v(A:Option Addr)(Y:Ax)(x y:Ax)(W:World)(h:Lrq W A [(x.1,x.2,[C2 1]),(y.1,y.2,[C2 1])])(h2:Lq W Y.1 knY)(HT:Tab W):Calls Tryz.prog 14 #[.slice A 2 2,.slice Y.1 2 Y.2,qV (C2 2)] W (G5 (λx:Ax=>.tuple #[.slice x.1 1 x.2,.int .i64 0]) (λx W=>Lq W x.1 [K3 1 1]) W):=by
 obtain⟨-,-,-,-,-,g6,g7,g8,g9,g10⟩:=A55
 have h3:=B5q A [(x.1,x.2,[C2 1]),(y.1,y.2,[C2 1])] 2 1 2 Y knY rfl (by omega) (by omega) (by omega) (by omega) (λr hr=>by
  simp only[List.mem_cons,List.not_mem_nil,or_false]at hr;rcases hr with rfl|rfl<;>rfl) rfl 50 (by omega) (by omega) (λi hi j hj=>by
  obtain rfl:j=0:=by omega
  have:i=0\/i=1:=by omega
  rcases this with rfl|rfl
  ·exact g6
  ·exact g7) (λi hi=>by
  have:i=0\/i=1:=by omega
  rcases this with rfl|rfl
  ·exact g8
  ·exact g9) (C2 2) (by decide +kernel) B6s knF knB knL 50 g10 (by unfold BIG;omega) (λk hk=>by
  obtain⟨h1,h2,h3,-⟩:=A5v k hk;exact⟨h1,h2,h3⟩) (λk hk=>by
  obtain⟨h1,h2,h3,h4,h5,h6,-⟩:=A5v k hk;refine⟨λi hi=>?_,λi hi=>?_,λx hx=>?_⟩
  ·obtain rfl:i=0:=by omega
   exact h4
  ·obtain rfl:i=0:=by omega
   exact h5
  ·have:=List.all_eq_true.1 h6 x hx
   simpa using this) (λk hk=>B8h k hk) 2 (by decide) A6K.1 (λj hj=>by
  have:j=0\/j=1:=by omega
  rcases this with rfl|rfl
  ·exact A6K.2.1
  ·exact A6K.2.2) W h h2 HT
 rw[B26]at h3;exact h3
theorem A9g(w:World)(HT:Tab w):Calls Tryz.prog 19 #[] w λe w'=>e = .returned (.bool true)/\A4 w w':=by
 have z41:qs (K3 4 1)<=10:=by decide +kernel
 have z11:qs (K3 1 1)<=10:=by decide +kernel
 go_enter Tryz.func19,Tryz.ntmps19;refine en0 ?_;intro u hG hB hF;refine B9o (rsE E0 [1,1,1,1,1,0] hB hG λL hL=>?_);refine gmw (C:=λv=>A05 1 (by omega) (by omega) _) ?_;refine gx Nat (λb=>.slice (some ⟨b,0,none⟩) 1 1) (λb W=>Lq W (some ⟨b,0,none⟩) [C2 1]) (λ_ _ _ hg h=>h.grow hg) rfl ?_ (λx8=>?_)
 ·(rintro v ⟨hgu,hB,hG,-⟩ N hN;go_simp;exact hN v.heap.size _ (A4m v [C2 1]) (A4.alloc _ _))
 refine okf (by simp only[Act.put,List.setIfInBounds_toArray,List.set_cons_succ,List.set_cons_zero];exact rfl) ?_;refine gmw (C:=λv=>A05 1 (by omega) (by omega) _) ?_;refine gx Nat (λb=>.slice (some ⟨b,0,none⟩) 1 1) (λb W=>Lq W (some ⟨b,0,none⟩) [C2 1]) (λ_ _ _ hg h=>h.grow hg) rfl ?_ (λx10=>?_)
 ·(rintro v ⟨⟨hgu,hB,hG,-⟩,hx8⟩ N hN;go_simp;exact hN v.heap.size _ (A4m v [C2 1]) (A4.alloc _ _))
 refine okf (by simp only[Act.put,List.setIfInBounds_toArray,List.set_cons_succ,List.set_cons_zero];exact rfl) ?_;refine gx Nat (λb=>.slice (some ⟨b,0,none⟩) 2 2) (λb W=>Lrq W (some ⟨b,0,none⟩) [(some ⟨x8,0,none⟩,1,[C2 1]),(some ⟨x10,0,none⟩,1,[C2 1])]) (λ_ _ _ hg h=>h.grow hg) rfl ?_ (λx11=>?_)
 ·(rintro v ⟨⟨⟨hgu,hB,hG,-⟩,hx8⟩,hx10⟩ N hN;go_simp;exact hN v.heap.size _ (B7a v [(some ⟨x8,0,none⟩,1,[C2 1]),(some ⟨x10,0,none⟩,1,[C2 1])] (λr hr=>by simp only[List.mem_cons,List.not_mem_nil,or_false]at hr;rcases hr with rfl|rfl<;>first|exact hx8|exact hx10)) (A4.alloc _ _))
 refine okf (by simp only[Act.put,List.setIfInBounds_toArray,List.set_cons_succ,List.set_cons_zero];exact rfl) ?_;refine gs ?_;refine geT hL ?_;clear hB hG hL L;rintro u ⟨⟨⟨⟨hgu,hB,hG,-⟩,hx8⟩,hx10⟩,hx11⟩;obtain⟨w1,hw1⟩:=exQ u;have HX:=B9t (show Lrq w1 (some ⟨x11,0,none⟩) [(some ⟨x8,0,none⟩,1,[C2 1]),(some ⟨x10,0,none⟩,1,[C2 1])]from hw1 ▸ hx11);have hG1:A4 w1 u:=hw1 ▸ A4.refl u;clear hx8 hx10 hx11 hw1;clear hgu;refine B9o (rsE E0 [1,1,1,0] hB hG λL hL=>?_);refine gmw (C:=λv=>A05 3 (by omega) (by omega) _) ?_;refine gmw (C:=λv=>A05 1 (by omega) (by omega) _) ?_;refine gx Nat (λb=>.slice (some ⟨b,0,none⟩) 2 2) (λb W=>Lq W (some ⟨b,0,none⟩) knY) (λ_ _ _ hg h=>Lq.grow h hg) rfl ?_ (λx14=>?_)
 ·(rintro v ⟨hgu,hB,hG,-⟩ N hN;go_simp;exact hN v.heap.size _ (A4m v knY) (A4.alloc _ _))
 refine okf (by simp only[Act.put,List.setIfInBounds_toArray,List.set_cons_succ,List.set_cons_zero];exact rfl) ?_;refine gs ?_;refine geT hL ?_;clear hB hG hL L;rintro u ⟨⟨hgu,hB,hG,-⟩,hx14⟩;replace hG1:=hG1.trans hgu;obtain⟨w2,hw2⟩:=exQ u;have HY:=B9t (show Lq w2 (some ⟨x14,0,none⟩) knY from hw2 ▸ hx14);have hG2:A4 w2 u:=hw2 ▸ A4.refl u;clear hx14 hw2;clear hgu;refine B9o (rsC E0 [0,0,1,0,0,0,2] hB hG λK L hN hL=>?_);refine gs ?_;refine gmd (C:=λv ⟨hgu,hB,hG,_⟩=>B2y _ _ (some ⟨x8,0,none⟩,1) (some ⟨x10,0,none⟩,1) _ (HX.out.grow (hG1.trans hgu)) (HY.out.grow (hG2.trans hgu)) (HT.grow hG)) ?_;refine gs ?_;refine gaa (J3 _ _ _ _ _) λb3 hb3 hn3=>?_;replace hF:=hF.n1 [] hB hG hb3 hn3;refine geC hL ?_;clear hB hG hL L;rintro u ⟨⟨hgu,hB,hG,-⟩,h3⟩;replace hB:=hB.cons' h3;clear h3;have hw31:w1.heap.size<=b3:=B9l hG1.size hb3;have hw32:w2.heap.size<=b3:=B9l hG2.size hb3;replace hG1:=hG1.trans hgu;replace hG2:=hG2.trans hgu;clear hb3 hn3;clear hgu;refine gtT ?_;clear hN K;refine sv hB hF hG 0 0 [_,_,_,_,_] ?_;intro u hu hBG;replace hG1:=A1I hG1 hw31 hu;replace hG2:=A1I hG2 hw32 hu;clear hB hG hu;obtain⟨hB,hG⟩:=hBG;refine B9o (rsE E0 [0,0,1,1,0,0,0,0,0] hB hG λL hL=>?_);refine gs ?_;refine gmw (C:=λv=>A05 2 (by omega) (by omega) _) ?_;refine gxd (X:=Ax) (λx:Ax=>.tuple #[.slice x.1 1 x.2,.int .i64 0]) (λx W=>Lq W x.1 [K3 1 1]) (λx u u' hg h=>Lq.grow h hg) (λx25=>?_) (C:=by(rintro v ⟨hgu,hB,hG,-⟩;exact B1v _ (some ⟨x14,0,none⟩,2) (some ⟨x8,0,none⟩,1) (some ⟨x10,0,none⟩,1) _ (HX.out.grow (hG1.trans hgu)) (HY.out.grow (hG2.trans hgu)) (HT.grow hG)));refine gs ?_;refine geT hL ?_;clear hB hG hL L;rintro u ⟨⟨hgu,hB,hG,-⟩,hx25⟩;obtain⟨xa,xc⟩:=x25;have HL:=B9t (λW (hg:A4 u W)=>Lq.grow (show Lq u xa [K3 1 1]from hx25) hg);obtain⟨bq,oq,rfl⟩:∃b o,xa=some ⟨b,o,none⟩:=Lq.addr (show Lq u xa [K3 1 1]from hx25) (by simp);have hcq:∀W,A4 u W->Cq W bq oq (K3 1 1):=λW hg=>by
  have h:=(HL.out W hg).read (i:=0) (by simp);rw[C0J,Nat.add_zero]at h;exact h
 have HC:=B9t hcq;clear hx25 HL hcq;clear hgu;refine B9o (rsE E0 [0,0,0,0,1,0,0,0,0,0,0,0,0,0,0,0,0,0,0,1,0,0] hB hG λL hL=>?_)
 repeat first|refine gya ?_|refine gyr ?_|refine gna ?_|refine gyb (by(rintro v ⟨hgu,hB,hG,-⟩ N hN;have r:=hB.r;simp only[BxR]at r;obtain⟨y1,y2,y3,y4,y5⟩:=HC.out v hgu;go_simp;exact hN)) ?_
 first|refine gmw (C:=λv=>A8O 4 1 (by omega) (by omega) rfl z41 _) ?_|refine N0 ?_
 repeat first|refine gya ?_|refine gyr ?_|refine gna ?_|refine gyb (by(rintro v ⟨hgu,hB,hG,-⟩ N hN;have r:=hB.r;simp only[BxR]at r;obtain⟨y1,y2,y3,y4,y5⟩:=HC.out v hgu;go_simp;exact hN)) ?_
 first|refine gmw (C:=λv=>A8O 1 1 (by omega) (by omega) rfl z11 _) ?_|refine N0 ?_
 refine gs ?_;refine geT hL ?_;clear hB hG hL L;rintro u ⟨-,hB,hG,-⟩;refine rt Tryz.results19 ?_;exact⟨rfl,hG⟩
theorem B5J:∀ {l:List Nat} {m:Nat},l.Pairwise (· < ·)->(∀x∈l,x<m)->l.length<=m:=by
 intro l m
 induction m generalizing l with
 | zero =>
  intro _ h
  cases l with
  | nil=>exact K2 _
  | cons x l=>exact absurd (h x List.mem_cons_self) (C1f _)
 | succ m ih =>
  intro h1 h2;rcases List.eq_nil_or_concat l with rfl|⟨l',x,rfl⟩
  ·exact C0B _
  ·rw[List.concat_eq_append]at h1 h2⊢;obtain⟨p1,-,p3⟩:=List.pairwise_append.1 h1;have:=ih p1 λy hy=>by
    have h3:=p3 y hy x (by simp);have h4:=h2 x (by simp);omega
   rw[List.length_append,List.length_singleton];omega
def rkR(X:List (List Rat))(N L:Nat):Nat:=(C9 N L (E8 X,[]) L).2.length
theorem B7d(X:List (List Rat))(N L:Nat):rkR X N L<=L:=by
 obtain⟨h1,h2⟩:=A65 N L (E8 X) L;exact B5J h1 h2
def lsE(X:List (List Rat))(N L:Nat):Int:=if rkR X N L=L then 0 else 9
section
variable {N L:Nat} {R:List (List Rat)} {y:List Rat} {a:Rat} (hRn:R.length=N) (hRl:∀r∈R,r.length=L) (hN1:1<=N) (hN:N<=5) (hL1:1<=L) (hL:L<=3) (hX:∀i,i<N->∀j,j<L->qs (gq (B7 R i) j)<=20) (hyn:y.length=N) (hys:∀i,i<N->qs (gq y i)<=20) (ha0:0<=a) (ha:qs a<=20)
include hN hL hX hys ha in
theorem B5G(i:Nat)(hi:i<L):qs (gq (N6 R y N L a) i)<=10000000:=by
 have hg:N*(20+20+1)+1<=210:=by omega
 obtain⟨z1,z2,-⟩:=A59 (X:=R) (y:=y) (N:=N) (g:=210) (by omega) (by omega) (λi hi j hj=>A9o hX hg hi hj) (λi hi=>B08 hX hys hg hi) (S5 R y N L a);have e:gq (N6 R y N L a) i=H9 (gq (R4 R y N L (S5 R y N L a)) i) (D5 (gq (R6 R N L (S5 R y N L a)) i) a):=S9 _ hi;rw[e];have h1:10^(L+1)<=10^4:=B90 (by omega) (by omega);have h2:210*10^(L+1)<=210*10^4:=C0m _ h1;have h3:=z1 i;have h4:=z2 i;generalize 210*10^(L+1)=Z at *;have h5:=Z4 (gq (R6 R N L (S5 R y N L a)) i) a;have h6:=A26 (gq (R4 R y N L (S5 R y N L a)) i) (D5 (gq (R6 R N L (S5 R y N L a)) i) a);unfold H9;unfold D5 at *;omega
include hRn hRl hN1 hN hL1 hL hX hyn hys ha0 ha
end
end Go.Proofs.YtgpglgbcobeogaaGreatDoor
