import Derived.Test.YtgpglgbcobeogaaGreatDoorF25
set_option linter.unusedSimpArgs false
set_option linter.unusedVariables false
set_option maxHeartbeats 2000000
set_option maxRecDepth 100000
namespace Go.Proofs.YtgpglgbcobeogaaGreatDoor
open Go.RowKit
theorem G3{f g:Nat→Rat}{n:Nat}(h:∀i,i<n→f i=g i):C5 f n=C5 g n:=by
 induction n with
 | zero=>rfl
 | succ n ih=>simp only[C5];rw[ih (fun i hi=>h i (by omega)),h n (by omega)]
abbrev N1(q:Rat):Array Value:=#[.bool (E5 q.num),.int .u64 (B9 q.num.natAbs),.string (B6 q.num.natAbs),.int .u64 (B9 (I3 q.den)),.string (B6 (I3 q.den))]
def A4K(b2 b8:Nat)(A:Option Addr)(m c:Nat)(l:List Rat)(q:Rat)(W:World):Prop :=
 Blk W b2 35 #[.slice A m c]∧Blk W b8 48 (N1 q)∧Lq W A l
theorem A4K.mk{b2 b8:Nat}{A:Option Addr}{m c:Nat}{l:List Rat}{q:Rat}{u:World}(h1:Blk u b2 35 #[.slice A m c])(h2:Blk u b8 48 (N1 q))(h3:Lq u A l):A4K b2 b8 A m c l q u:=⟨h1,h2,h3⟩
theorem A4K.grow{b2 b8:Nat}{A:Option Addr}{m c:Nat}{l:List Rat}{q:Rat}{u u':World}(hg:A4 u u')(h:A4K b2 b8 A m c l q u):A4K b2 b8 A m c l q u':=⟨h.1.grow hg,h.2.1.grow hg,h.2.2.grow hg⟩
def A3b(b3 b4 b5 b8:Nat)(A B:Option Addr)(m c d:Nat)(l l':List Rat)(a:Rat)(W:World):Prop :=
 Blk W b3 35 #[.slice A m c]∧Blk W b4 35 #[.slice B m d]∧Blk W b5 48 (N1 a)∧Blk W b8 48 (N1 (C1 1))∧Lq W A l∧Lq W B l'
theorem A3b.mk{b3 b4 b5 b8:Nat}{A B:Option Addr}{m c d:Nat}{l l':List Rat}{a:Rat}{u:World}(h1:Blk u b3 35 #[.slice A m c])(h2:Blk u b4 35 #[.slice B m d])(h3:Blk u b5 48 (N1 a))(h4:Blk u b8 48 (N1 (C1 1)))(h5:Lq u A l)(h6:Lq u B l'):A3b b3 b4 b5 b8 A B m c d l l' a u:=⟨h1,h2,h3,h4,h5,h6⟩
theorem A3b.grow{b3 b4 b5 b8:Nat}{A B:Option Addr}{m c d:Nat}{l l':List Rat}{a:Rat}{u u':World}(hg:A4 u u')(h:A3b b3 b4 b5 b8 A B m c d l l' a u):A3b b3 b4 b5 b8 A B m c d l l' a u' :=
 ⟨h.1.grow hg,h.2.1.grow hg,h.2.2.1.grow hg,h.2.2.2.1.grow hg,h.2.2.2.2.1.grow hg,h.2.2.2.2.2.grow hg⟩
def LzX(u:World)(bs:List Nat)(A:Option Addr)(l:List Rat):Prop:=Lz u A l∧(∀b off,A=some ⟨b,off,none⟩→b∉bs)∧0<l.length
theorem LzX.a{u:World}{bs:List Nat}{A:Option Addr}{l:List Rat}(h:LzX u bs A l):Lz u A l:=h.1
theorem LzX.grow{u u':World}{bs:List Nat}{A:Option Addr}{l:List Rat}(h:LzX u bs A l)(hg:A4 u u'):LzX u' bs A l:=⟨h.1.grow hg,h.2⟩
theorem Cz.far{u:World}{b i:Nat}{p:Az}{q:Rat}(h:Cz u b i p q){a:Addr}(ha:b≠a.block)(v:Value):Cz (u.setCell a v) b i p q:=by
 have key:∀j,(u.setCell a v).cell? ⟨b,j,none⟩=u.cell? ⟨b,j,none⟩:=fun j=>World.cell?_of_block (C0C u a v b ha);exact⟨(key _).trans h.1,(key _).trans h.2.1,(key _).trans h.2.2⟩
theorem LzX.put{u u':World}{bs:List Nat}{A:Option Addr}{l:List Rat}(h:LzX u bs A l){bl:List (Nat×TypeId×Array Value)}(hB:Bx u bl)(k:Nat){b:Nat}{t:TypeId}{cs:Array Value}(hk:bl[k]?=some (b,t,cs))(ht:b∈bs∧t≠193)(i:Nat)(vs:List Value)(hu:C3 u b i vs=u'):LzX u' bs A l:=by
 refine⟨fun hn=>?_,h.2⟩;obtain⟨ba,oa,e,hb,hc⟩:=h.1 hn;have hne:ba≠b:=fun e'=>h.2.1 ba oa e (e' ▸ ht.1);have hsz:∀(vs:List Value) (i:Nat) (u:World),(C3 u b i vs).heap.size=u.heap.size:=by
  intro vs
  induction vs with
  | nil=>exact fun _ _=>rfl
  | cons v vs ih=>exact fun i u=>(ih (i+1) (u.setCell ⟨b,i,none⟩ v)).trans (by simp[World.setCell])
 have hcz:∀(vs:List Value) (i:Nat) (u:World) (j:Nat) (p:Az) (q:Rat),Cz u ba j p q→Cz (C3 u b i vs) ba j p q:=by
  intro vs
  induction vs with
  | nil=>exact fun _ _ _ _ _ h=>h
  | cons v vs ih=>exact fun i u j p q h=>ih (i+1) (u.setCell ⟨b,i,none⟩ v) j p q (h.far (a:=⟨b,i,none⟩) hne v)
 refine⟨ba,oa,e,by rw[←hu,hsz];exact hb,fun j hj=>?_⟩;obtain⟨p,h1,h2⟩:=hc j hj;exact⟨p,h1.put hB k hk ht.2 i vs hu,by rw[←hu];exact hcz vs i u _ p _ h2⟩
theorem LzX.lt{u:World}{bs:List Nat}{A:Option Addr}{l:List Rat}(h:LzX u bs A l):∀b off,A=some ⟨b,off,none⟩→b<u.heap.size:=fun b off e=>by
 obtain⟨b',off',e',hb,_⟩:=h.1 (fun h0=>by have:=h.2.2;rw[h0]at this;cases this);rw[e]at e';cases e';exact hb
theorem LzX.more{v:World}{n b:Nat}{bs:List Nat}{A:Option Addr}{l:List Rat}(h:LzX v bs A l)(hlt:∀b off,A=some ⟨b,off,none⟩→b<n)(hb:n≤b):LzX v (b::bs) A l :=
 ⟨h.1,fun b' off e hm=>by
  rcases List.mem_cons.1 hm with rfl|hm
  ·have:=hlt b' off e;omega
  ·exact h.2.1 b' off e hm,h.2.2⟩
theorem LzX.addr{u:World}{bs:List Nat}{A:Option Addr}{l:List Rat}(h:LzX u bs A l):∃b off,A=some ⟨b,off,none⟩:=h.1.addr h.2.2
theorem Li.at{u:World}{A:Option Addr}{l:List Int}{i:Nat}(h:Li u A l)(hi:i<l.length):∃b off,A=some ⟨b,off,none⟩∧∀W,A4 u W→W.cell? ⟨b,off+i,none⟩=some (.int .i64 (gi l i)):=by
 obtain⟨b,off,e,-⟩:=h.cell hi;refine⟨b,off,e,fun W hg=>?_⟩;obtain⟨b',o',e',hc⟩:=(h.grow hg).cell hi;rw[e]at e';cases e';exact hc
abbrev A0Z(l:List Int):List Value:=l.map fun x=>Value.int .i64 x
theorem B0B(y:Int)(w:World):(Instr.buildSlice 22 1 #[(0,.int .i64 y)]).run Tryz.prog w = .ok (.slice (some ⟨w.heap.size,0,none⟩) 1 1) (w.alloc (.cells #[.int .i64 y] 3)):=by
 go_simp
theorem A8O:EI 22 3 1 8:=A1G (by kernel_rfl) (by kernel_rfl) (by omega)
theorem A4P{u:World}{B n:Nat}{v:Value}{l:List Int}(h:u.ownsRow B 3 1 v n (A0Z l))(hn:n=l.length):∃A c,v = .slice A n c∧n≤c∧Li u A l:=by
 subst hn;obtain⟨_,h|⟨g,cap,cur,rfl,hb,hh,hn,hc,hs,ht⟩⟩:=h
 ·obtain⟨rfl,h0⟩:=h;exact⟨none,0,by rw[h0],by omega,fun hne=>absurd (B93 h0) hne⟩
 ·refine⟨_,cap,rfl,hn,fun _=>⟨g,0,rfl,M3 hh,fun i x hi=>?_⟩⟩;rw[Nat.zero_add,C0B u g i cur 3 (0,0) hh];have hil:i<l.length:=(List.getElem?_eq_some_iff.1 hi).1;have h1:(cur.toList.take (l.length*1))[i]?=some (.int .i64 x):=by rw[ht,List.getElem?_map,hi];rfl
  rw[C1Y,if_pos (by omega)]at h1
  simpa using h1
end Go.Proofs.YtgpglgbcobeogaaGreatDoor
namespace Go.Proofs.YtgpglgbcobeogaaGreatDoor
open Go Go.RowKit
theorem B2z(A:Option Addr)(l:List Int)(c p m:Nat)(hp:p=l.length)(hc:p≤c)(hm:m≤p)(w:World)(h:Li w A l):∃A':Option Addr,(∀W,(Instr.slice 22 (.slice A p c) (some (.int .i64 (m:Nat))) none none).run Tryz.prog W = .ok (.slice A' (p-m) (c-m)) W)∧Li w A' (l.drop m):=by
 refine⟨if c=m then A else A.map (·.add m),fun W=>?_,fun hne=>?_⟩
 ·have h3:(m:Int)≤(p:Int):=by omega
  have h4:¬p<m:=by omega
  clear hp h;go_simp
 ·have hlt:m<l.length:=by
   refine C16 fun hh=>hne ?_;exact List.drop_eq_nil_of_le (by omega)
  obtain⟨b,off,rfl,hb,hx⟩:=h (fun e=>by rw[e]at hlt;cases hlt);rw[if_neg (by omega)];refine⟨b,off+m,by simp[Addr.add],hb,fun i x hi=>?_⟩;rw[List.getElem?_drop]at hi;rw[C1d];exact hx (m+i) x hi
abbrev Zw:=Ax×List Zr
abbrev zwV(r:Zw):Value:=.slice r.1.1 r.2.length r.1.2
def V9(B:Nat)(W:World)(rws:List Zw):Prop:=(∀r∈rws,N2 W r.2∧W.ownsRow B 33 3 (zwV r) r.2.length (r.2.flatMap zrL))∧rws.Pairwise (fun a b=>U6 (zwV a) (zwV b))
theorem V9.nil(B:Nat)(W:World):V9 B W []:=⟨fun _ h=>(by cases h),List.Pairwise.nil⟩
theorem V9.grow{B:Nat}{u u':World}{rws:List Zw}(h:V9 B u rws)(hg:A4 u u'):V9 B u' rws:=⟨fun r hr=>⟨(h.1 r hr).1.grow hg,C0 (h.1 r hr).2 hg⟩,h.2⟩
theorem V9.own{B0:Nat}{u w':World}{B:Nat}{e:TypeId}{size n:Nat}{v:Value}{xs:List Value}{o:Obj}{rws:List Zw}(hl:V9 B0 u rws)(h:u.ownsRow B e size v n xs)(ht:e≠193∧e≠33)(hg:(u.alloc o).grownBy w' v.ownBlock):V9 B0 w' rws:=⟨fun r hr=>⟨(hl.1 r hr).1.own h ht.1 hg,by
 have h2:=(hl.1 r hr).2;refine(h2.alloc o).kept hg ?_
 cases hb:(zwV r).ownBlock with
 | none=>exact .inl rfl
 | some g=>exact .inr fun e1=>Q3 h h2 ht.2 g e1.symm hb⟩,hl.2⟩
def A2H(B k:Nat)(q:List Rat)(x:Zw)(W:World):Prop:=(x.2.map (·.2)=q∧x.2.length=k)∧N2 W x.2∧W.ownsRow B 33 3 (zwV x) x.2.length (x.2.flatMap zrL)
theorem A2H.grow{B k:Nat}{q:List Rat}{x:Zw}{u u':World}(hg:A4 u u')(h:A2H B k q x u):A2H B k q x u':=⟨h.1,h.2.1.grow hg,C0 h.2.2 hg⟩
theorem V9.snoc{B k:Nat}{q:List Rat}{u v:World}{rws:List Zw}{x:Zw}(h:V9 B u rws)(hg:A4 u v)(hB:B≤u.heap.size)(h1:A2H u.heap.size k q x v):V9 B v (rws++[x]):=by
 refine⟨fun r hr=>?_,?_⟩
 ·rcases List.mem_append.1 hr with hr|hr
  ·exact(h.grow hg).1 r hr
  ·have:r=x:=by simpa using hr
   subst this;exact⟨h1.2.1,h1.2.2.mono hB⟩
 ·rw[List.pairwise_append];refine⟨h.2,by simp,fun a ha b hb=>?_⟩;have:b=x:=by simpa using hb
  subst this;intro g e1 e2;have h3:=((h.1 a ha).2.lt g e1).2;have h4:=(h1.2.2.lt g e2).1;omega
def A2M(l:List Int)(n k:Nat):List (List Rat):=(List.range n).map fun i=>S3 (l.drop (min l.length (i*k))) k
theorem B8Q(l:List Int)(n k:Nat):A2M l (n+1) k=A2M l n k++[S3 (l.drop (min l.length (n*k))) k]:=by unfold A2M;rw[C1G,List.map_append];rfl
def A4A(rws:List Zw):List (List Rat):=rws.map fun r=>r.2.map (·.2)
theorem B6U(rws:List Zw)(x:Zw):A4A (rws++[x])=A4A rws++[x.2.map (·.2)]:=by unfold A4A;simp
theorem B7o:EI 23 25 1 24:=A1G (by kernel_rfl) (by kernel_rfl) (by omega)
theorem B5x(A:Option Addr)(n c:Nat)(w:World):(Instr.buildSlice 23 1 #[(0,.slice A n c)]).run Tryz.prog w = .ok (.slice (some ⟨w.heap.size,0,none⟩) 1 1) (w.alloc (.cells #[.slice A n c] 25)):=by
 go_simp
theorem B4Y(A:Option Addr)(l:List Int)(c p n k:Nat)(hp:p=l.length)(hc:p≤c)(hn:n≤1048576)(hk:k≤1048576)(hpm:p≤9223372036854775807)(hb:∀x∈l,-9223372036854775808≤x∧x≤9223372036854775807)(w:World)(h:Li w A l) :
  Calls Tryz.prog 56 #[.slice A p c,.int .i64 n,.int .i64 k] w fun e w'=>∃(v:Value) (rws:List Zw),e = .returned v∧A4A rws=A2M l n k∧V9 w.heap.size w' rws∧w'.ownsRow w.heap.size 25 1 v n (rws.map zwV)∧A4 w w':=by
 have H:=C0P h;have Hp:=C0P hp;have Hb:=C0P hb;clear h hp hb;go_enter Tryz.func56,Tryz.ntmps56;refine en0 ?_;intro u hG hB hF;refine r0T ?_;refine C0K ?_;refine r0T ?_;refine C0s ?_;clear hB hF;go_loopw [8,7] (fun s0 s1 wr=>∃(i:Nat) (rws:List Zw),i≤n∧s0 = .int .i64 i∧A4A rws=A2M l i k∧V9 w.heap.size wr rws∧wr.ownsRow w.heap.size 25 1 s1 i (rws.map zwV)∧A4 w wr) (fun s0 _ _=>n-(intOf s0).toNat)
 case atStart=>exact⟨0,[],C0h _,rfl,rfl,V9.nil _ _,C1u _ _ _ _,hG⟩
 case round =>
  clear hG;obtain⟨i,rws,hi,rfl,hps,hA,ho,hG⟩:=hrel;obtain⟨u,rfl⟩:=exQ wr;have hB:=Bx.nil u;have hF:=Fr.nil w;have Ho:=C0P ho;have Hps:=C0P hps;clear ho hps;rcases B90 i n with hlt|hge
  ·have hdec:decide ((i:Int)<(n:Int))=true:=by simp;omega
   have hsu:=B8Q l i k;obtain⟨ik,hik⟩:∃x,x=i*k:=⟨_,rfl⟩
   have hikb:ik≤1048576*1048576:=by rw[hik];exact C1m (by omega) hk
   have fik:IntKind.i64.wrap ((i:Int)*(k:Int))=(ik:Int):=by rw[hik,Int.natCast_mul];exact C0g _ (by rw[←Int.natCast_mul,←hik];omega)
   obtain⟨m,hm⟩:∃x,x=min p ik:=⟨_,rfl⟩
   have fmin:min (p:Int) (ik:Int)=(m:Int):=by omega
   have hmp:m≤p:=by omega
   rw[←hik,←Hp.out,←hm]at hsu;obtain⟨A',hsl,hLi⟩:=B2z A l c p m Hp.out hc hmp w H.out;have hrw:∀W,A4 u W→Calls Tryz.prog 31 #[.slice A' (p-m) (c-m),.int .i64 k] W (G1 (fun x:Zw=>.slice x.1.1 k x.1.2) (fun x W'=>A2H u.heap.size k (S3 (l.drop m) k) x W') W):=fun W hg =>
    (A9q A' (l.drop m) (c-m) (p-m) k (by rw[C1A,Hp.out]) hk (by omega) (fun x hx=>Hb.out x (C1B hx)) W (hLi.grow (hG.trans hg))).mono fun e w' ⟨v,ps,he,h1,h2,h3,h4⟩=>by
     obtain⟨A2,cc,rfl,hcc1,hcc2,hL,hkl⟩:=A69 h3 h2;refine⟨((A2,cc),ps),he,⟨⟨h1,hkl.symm⟩,h2,?_⟩,h4⟩;rw[hkl]at h3;exact h3.mono hg.size
   obtain⟨pm,hpm2⟩:∃x,x=p-m:=⟨_,rfl⟩
   obtain⟨cm,hcm⟩:∃x,x=c-m:=⟨_,rfl⟩
   rw[←hpm2,←hcm]at hrw;simp only[←hpm2,←hcm]at hsl;obtain⟨q,hq⟩:∃x,x=S3 (l.drop m) k:=⟨_,rfl⟩
   rw[←hq]at hsu;simp only[←hq]at hrw;have Hrw:=C0P hrw;have Hsu:=C0P hsu;obtain⟨B0,hB0⟩:=exQ u.heap.size;have hBB:w.heap.size≤u.heap.size:=hG.sz;clear hrw hsu hLi hpm2 hcm hm hik hikb hq hB0;refine C0K ?_;refine r0T ?_;refine C0S (rfl) ?_;refine C0R ?_;refine A6 ?_;refine C0K ?_;refine C0s ?_;have hA0:=C0P hA;refine T0 (w:=w) A8 11 [0,0,0,0,0,0,0,0,0,0,1] (by kernel_rfl) (by simp only[List.drop_succ_cons,List.drop_zero];exact rfl) (fun _=>True) noG hB hG trivial ?_;intro K L hN hL;simp only[List.zip_cons_cons,List.zip_nil_left];refine gs ?_;refine gxd (X:=Zw) (fun x:Zw=>.slice x.1.1 k x.1.2) (fun x W=>A2H u.heap.size k q x W) (fun x u u' hg h=>A2H.grow hg h) (fun x24=>?_) (C:=by(rintro v ⟨hgu,hB,hG,-⟩;exact Hrw.out _ hgu));refine I5 ?_;rintro v ⟨⟨hgu,hB1,hG1,-⟩,hx24⟩;replace hA:=hA.grow hgu;have ROWn:=C0P (C0 Ho.out hgu);clear Ho;have Ho:=ROWn;clear ROWn;have hA2:=hA0.out.snoc hgu hBB hx24;have hk2:=hx24.1;clear hA hA0 hx24;have hA:=hA2;clear hA2;clear hB hG;have hB:=hB1;have hG:=hG1;clear hB1 hG1;refine hL _ _ ?_;clear hL L hgu;obtain⟨u,rfl⟩:=exQ v;refine V8 B7o w.heap.size _ _ _ _ [.slice x24.1.1 k x24.1.2] rfl rfl (B5x x24.1.1 k x24.1.2 u) rfl (fun _=>rfl) (fun _=>rfl) (fun _ _=>rfl) Ho.out (by omega) (by omega) hG.sz fun p v' w' g1 g2 g3=>?_;have hBn:=Bx.nil w';have hGn:=U9 Ho.out hG g2;replace hA:=hA.own Ho.out (by decide) g2;clear Ho hB hG;have Ho:=C0P g1;have hB:=hBn;have hG:=hGn;clear g1 g2 g3 hBn hGn;obtain⟨u,rfl⟩:=exQ w';simp only[Act.put,List.setIfInBounds_toArray,List.set_cons_succ,List.set_cons_zero];refine NoK.norm (hN _ _ ?_);clear hN K;refine C4 ?_;refine A6 ?_;refine r0E ?_;refine A6 ?_;go_roundw
   case rel=>exact⟨i+1,rws++[x24],by omega,by go_num,by rw[B6U,Hps.out,Hsu.out,hk2.1],hA,by have:=Ho.out;rw[List.map_append];simpa [zwV,hk2.2]using this,hG⟩
   case measure=>simp[intOf];omega
  ·obtain rfl:n=i:=by omega
   have hdec:decide ((n:Int)<(n:Int))=false:=by simp
   refine C0K ?_;refine r0T ?_;refine C0Q (rfl) ?_;refine C0u ?_;refine B8 ?_;refine B8 ?_;refine E0 ?_;refine A6 ?_;refine r0T ?_;refine rt Tryz.results56 ?_;exact⟨_,rws,rfl,Hps.out,hA,Ho.out,hG⟩
def Lrz(u:World)(A:Option Addr)(rs:List Rq):Prop :=
 rs≠[]→∃b off,A=some ⟨b,off,none⟩∧b<u.heap.size∧∀i r,rs[i]?=some r→u.cell? ⟨b,off+i,none⟩=some (.slice r.1 r.2.2.length r.2.1)∧Lz u r.1 r.2.2
theorem Lrz.grow{u u':World}{A:Option Addr}{rs:List Rq}(h:Lrz u A rs)(hg:A4 u u'):Lrz u' A rs:=fun hn=>by
 obtain⟨b,off,e,hb,hc⟩:=h hn;exact⟨b,off,e,C0U hb hg.size,fun i r hi=>⟨(hg.cell (p:=⟨b,off+i,none⟩) hb).trans (hc i r hi).1,(hc i r hi).2.grow hg⟩⟩
theorem Lrz.addr{u:World}{A:Option Addr}{rs:List Rq}(h:Lrz u A rs)(hl:0<rs.length):∃b off,A=some ⟨b,off,none⟩:=by
 obtain⟨b,off,e,_⟩:=h (fun h0=>by rw[h0]at hl;cases hl);exact⟨b,off,e⟩
theorem Lrz.read{u:World}{b off:Nat}{rs:List Rq}(h:Lrz u (some ⟨b,off,none⟩) rs){i:Nat}{r:Rq}(hi:rs[i]?=some r):u.cell? ⟨b,off+i,none⟩=some (.slice r.1 r.2.2.length r.2.1)∧Lz u r.1 r.2.2:=by
 obtain⟨b',off',e,_,hc⟩:=h (fun h0=>by rw[h0]at hi;simp at hi);cases e;exact hc i r hi
abbrev A2i(r:Rq):Value:=.slice r.1 r.2.2.length r.2.1
def Y8(B:Nat)(W:World)(rs:List Rq):Prop:=∀r∈rs,W.ownsRow B 48 5 (A2i r) r.2.2.length (r.2.2.flatMap qL)
theorem Y8.nil(B:Nat)(W:World):Y8 B W []:=fun _ h=>by cases h
theorem Y8.grow{B:Nat}{u u':World}{rs:List Rq}(h:Y8 B u rs)(hg:A4 u u'):Y8 B u' rs:=fun r hr=>C0 (h r hr) hg
theorem Y8.own{B0:Nat}{u w':World}{B:Nat}{e:TypeId}{size n:Nat}{v:Value}{xs:List Value}{o:Obj}{rs:List Rq}(hl:Y8 B0 u rs)(h:u.ownsRow B e size v n xs)(ht:e≠48)(hg:(u.alloc o).grownBy w' v.ownBlock):Y8 B0 w' rs:=fun r hr=>by
 have h2:=hl r hr;refine(h2.alloc o).kept hg ?_
 cases hb:(A2i r).ownBlock with
 | none=>exact .inl rfl
 | some g=>exact .inr fun e1=>Q3 h h2 ht g e1.symm hb
def A2V(B k:Nat)(q:List Rat)(x:Ax)(W:World):Prop:=q.length=k∧W.ownsRow B 48 5 (.slice x.1 k x.2) k (q.flatMap qL)
theorem A2V.grow{B k:Nat}{q:List Rat}{x:Ax}{u u':World}(hg:A4 u u')(h:A2V B k q x u):A2V B k q x u':=⟨h.1,C0 h.2 hg⟩
theorem Y8.snoc{B k:Nat}{q:List Rat}{v:World}{rs:List Rq}{x:Ax}(h:Y8 B v rs)(h1:A2V B k q x v):Y8 B v (rs++[(x.1,x.2,q)]):=fun r hr=>by
 rcases List.mem_append.1 hr with hr|hr
 ·exact h r hr
 ·have:r=(x.1,x.2,q):=by simpa using hr
  subst this;have h2:=h1.2;rw[←h1.1]at h2;exact h2
theorem B9o:EI 39 35 1 24:=A1G (by kernel_rfl) (by kernel_rfl) (by omega)
theorem B6I(A:Option Addr)(n c:Nat)(w:World):(Instr.buildSlice 39 1 #[(0,.slice A n c)]).run Tryz.prog w = .ok (.slice (some ⟨w.heap.size,0,none⟩) 1 1) (w.alloc (.cells #[.slice A n c] 35)):=by
 go_simp
theorem B4A{u:World}{B n:Nat}{v:Value}{rs:List Rq}(h:u.ownsRow B 35 1 v n (rs.map A2i))(hr:Y8 B u rs):∃A c,v = .slice A n c∧n≤c∧Lrq u A rs∧n=rs.length:=by
 have hn:n=rs.length:=by have:=h.1;simp at this;omega
 subst hn;obtain⟨_,h|⟨g,cap,cur,rfl,hb,hh,hn,hc,hs,ht⟩⟩:=h
 ·obtain⟨rfl,h0⟩:=h;exact⟨none,0,by rw[h0],by omega,fun hne=>absurd (B93 h0) hne,rfl⟩
 ·refine⟨_,cap,rfl,hn,fun _=>⟨g,0,rfl,M3 hh,fun i r hi=>⟨?_,?_⟩⟩,rfl⟩
  ·rw[Nat.zero_add,C0B u g i cur 35 (0,0) hh];have hil:i<rs.length:=(List.getElem?_eq_some_iff.1 hi).1;have h1:(cur.toList.take (rs.length*1))[i]?=some (A2i r):=by rw[ht,List.getElem?_map,hi];rfl
   rw[C1Y,if_pos (by omega)]at h1
   simpa using h1
  ·obtain⟨A,c,e1,_,_,hL,_⟩:=K6 (hr r (C0G hi));cases e1;exact hL
theorem B49{u:World}{B B2 n:Nat}{v:Value}{rws:List Zw}(h:u.ownsRow B 25 1 v n (rws.map zwV))(hr:∀(i:Nat) (r:Zw),rws[i]?=some r→N2 u r.2∧u.ownsRow B2 33 3 (zwV r) r.2.length (r.2.flatMap zrL)):∃A c,v = .slice A n c∧n≤c∧Lrz u A (rws.map fun r=>(r.1.1,r.1.2,r.2.map (·.2)))∧n=rws.length:=by
 have hn:n=rws.length:=by have:=h.1;simp at this;omega
 subst hn;obtain⟨_,h|⟨g,cap,cur,rfl,hb,hh,hn,hc,hs,ht⟩⟩:=h
 ·obtain⟨rfl,h0⟩:=h;exact⟨none,0,by rw[h0],by omega,fun hne=>absurd (by rw[B93 h0];rfl) hne,rfl⟩
 ·refine⟨_,cap,rfl,hn,fun _=>⟨g,0,rfl,M3 hh,fun i r hi=>?_⟩,rfl⟩;rw[List.getElem?_map]at hi;obtain⟨r0,hr0,rfl⟩:=Option.map_eq_some_iff.1 hi;have hil:i<rws.length:=(List.getElem?_eq_some_iff.1 hr0).1;refine⟨?_,?_⟩
  ·rw[Nat.zero_add,C0B u g i cur 25 (0,0) hh];have h1:(cur.toList.take (rws.length*1))[i]?=some (zwV r0):=by rw[ht,List.getElem?_map,hr0];rfl
   rw[C1Y,if_pos (by omega)]at h1
   simpa using h1
  ·obtain⟨h1,h2⟩:=hr i r0 hr0;obtain⟨A,c,e1,_,_,hL,_⟩:=A69 h2 h1;cases e1;exact hL
theorem B4u(A:Option Addr)(rs:List Rq)(c n:Nat)(hn:n=rs.length)(hm:n≤1048576)(hs:∀r∈rs,r.2.2.length≤1048576∧∀x∈r.2.2,qs x≤BIG)(w:World)(h:Lrz w A rs)(HT:Tab w) :
  Calls Tryz.prog 15 #[.slice A n c] w fun e w'=>∃(v:Value) (rs':List Rq),e = .returned v∧rs'.map (·.2.2)=rs.map (·.2.2)∧Y8 w.heap.size w' rs'∧w'.ownsRow w.heap.size 35 1 v n (rs'.map A2i)∧A4 w w':=by
 have H:=C0P h;have Hn:=C0P hn;have Hs:=C0P hs;clear h hn hs;go_enter Tryz.func15,Tryz.ntmps15;refine en0 ?_;intro u hG hB hF;refine r0T ?_;refine C0K ?_;refine r0T ?_;refine C0s ?_;clear hB hF;go_loopw [4,3] (fun s0 s1 wr=>∃(i:Nat) (rs':List Rq),i≤n∧s0 = .int .i64 i∧rs'.map (·.2.2)=(rs.take i).map (·.2.2)∧Y8 w.heap.size wr rs'∧wr.ownsRow w.heap.size 35 1 s1 i (rs'.map A2i)∧A4 w wr) (fun s0 _ _=>n-(intOf s0).toNat)
 case atStart=>exact⟨0,[],C0h _,rfl,rfl,Y8.nil _ _,C1u _ _ _ _,hG⟩
 case round =>
  clear hG;obtain⟨i,rs',hi,rfl,hps,hA,ho,hG⟩:=hrel;obtain⟨u,rfl⟩:=exQ wr;have hB:=Bx.nil u;have hF:=Fr.nil w;have Ho:=C0P ho;have Hps:=C0P hps;clear ho hps;rcases B90 i n with hlt|hge
  ·have hdec:decide ((i:Int)<(n:Int))=true:=by simp;omega
   have hil:i<rs.length:=by rw[←Hn.out];exact hlt
   have hsu:rs.take (i+1)=rs.take i++[rs[i]]:=C0e hil;obtain⟨ba,oa,rfl⟩:=H.out.addr (by omega);obtain⟨hs1,hs2⟩:=Hs.out _ (C0D hil);have hrd:∀W,A4 w W→W.cell? ⟨ba,oa+i,none⟩=some (.slice rs[i].1 rs[i].2.2.length rs[i].2.1)∧Lz W rs[i].1 rs[i].2.2:=fun W hg=>(H.out.grow hg).read (C0f hil);obtain⟨r,hr⟩:∃r,r=rs[i]:=⟨_,rfl⟩
   simp only[←hr]at hrd hs1 hs2 hsu;obtain⟨rA,rc,q⟩:=r;simp only at hrd hs1 hs2 hsu;obtain⟨m,hm2⟩:∃m,m=q.length:=⟨_,rfl⟩
   rw[←hm2]at hrd hs1;have hin:∀W,A4 w W→Tab W→Calls Tryz.prog 16 #[.slice rA m rc] W (G1 (fun x:Ax=>.slice x.1 m x.2) (fun x W'=>A2V w.heap.size m q x W') W):=fun W hg hT =>
    (A88 rA q rc m hm2 hs1 hs2 W (hrd W hg).2 hT).mono fun e w' ⟨v,he,ho,hg'⟩=>by
     obtain⟨A2,cc,rfl,hcc1,hcc2,hL,hkl⟩:=K6 ho;exact⟨(A2,cc),he,⟨hm2.symm,ho.mono hg.size⟩,hg'⟩
   have hrd':=fun W hg=>(hrd W hg).1;have Hin:=C0P hin;have Hrd:=C0P hrd';have Hsu:=C0P hsu;clear hin hrd hrd' hsu hr hil hs2 hm2;refine C0K ?_;refine r0T ?_;refine C0S (rfl) ?_;refine C0R ?_;refine A6 ?_;refine C0K ?_;refine C0s ?_;refine T0 (w:=w) A8 6 [0,0,0,0,0,1] (by kernel_rfl) (by simp only[List.drop_succ_cons,List.drop_zero];exact rfl) (fun _=>True) noG hB hG trivial ?_;intro K L hN hL;simp only[List.zip_cons_cons,List.zip_nil_left]
   repeat first|refine gya ?_|refine gyr ?_|refine gna ?_|refine gyb (by(rintro v ⟨hgu,hB,hG,-⟩ N hN;have r:=hB.r;simp only[BxR]at r;have c1:=Hrd.out v hG;go_simp;exact hN)) ?_
   refine gxd (X:=Ax) (fun x:Ax=>.slice x.1 m x.2) (fun x W=>A2V w.heap.size m q x W) (fun x u u' hg h=>A2V.grow hg h) (fun x16=>?_) (C:=by(rintro v ⟨hgu,hB,hG,-⟩;exact Hin.out _ hG (HT.grow hG)));refine I5 ?_;rintro v ⟨⟨hgu,hB1,hG1,-⟩,hx16⟩;replace hA:=hA.grow hgu;have ROWn:=C0P (C0 Ho.out hgu);clear Ho;have Ho:=ROWn;clear ROWn;have hA2:=hA.snoc hx16;have hk2:=hx16.1;clear hA hx16;have hA:=hA2;clear hA2;clear hB hG;have hB:=hB1;have hG:=hG1;clear hB1 hG1;refine hL _ _ ?_;clear hL L hgu;obtain⟨u,rfl⟩:=exQ v;refine V8 B9o w.heap.size _ _ _ _ [.slice x16.1 m x16.2] rfl rfl (B6I x16.1 m x16.2 u) rfl (fun _=>rfl) (fun _=>rfl) (fun _ _=>rfl) Ho.out (by omega) (by omega) hG.sz fun p v' w' g1 g2 g3=>?_;have hBn:=Bx.nil w';have hGn:=U9 Ho.out hG g2;replace hA:=hA.own Ho.out (by decide) g2;clear Ho hB hG;have Ho:=C0P g1;have hB:=hBn;have hG:=hGn;clear g1 g2 g3 hBn hGn;obtain⟨u,rfl⟩:=exQ w';simp only[Act.put,List.setIfInBounds_toArray,List.set_cons_succ,List.set_cons_zero];refine NoK.norm (hN _ _ ?_);clear hN K;refine C4 ?_;refine A6 ?_;refine r0E ?_;refine A6 ?_;go_roundw
   case rel=>exact⟨i+1,rs'++[(x16.1,x16.2,q)],by omega,by go_num,by rw[List.map_append,Hps.out,Hsu.out,List.map_append];rfl,hA,by have:=Ho.out;rw[List.map_append];simpa [A2i,hk2]using this,hG⟩
   case measure=>simp[intOf];omega
  ·obtain rfl:n=i:=by omega
   have hdec:decide ((n:Int)<(n:Int))=false:=by simp
   refine C0K ?_;refine r0T ?_;refine C0Q (rfl) ?_;refine C0u ?_;refine B8 ?_;refine B8 ?_;refine E0 ?_;refine A6 ?_;refine r0T ?_;refine rt Tryz.results15 ?_;exact⟨_,rs',rfl,by rw[Hps.out,C0r (C01 Hn.out.symm)],hA,Ho.out,hG⟩
theorem V9.idx{B:Nat}{W:World}{rws:List Zw}(h:V9 B W rws):∀(i:Nat) (r:Zw),rws[i]?=some r→N2 W r.2∧W.ownsRow B 33 3 (zwV r) r.2.length (r.2.flatMap zrL):=fun _ r hi=>h.1 r (C0G hi)
end Go.Proofs.YtgpglgbcobeogaaGreatDoor
