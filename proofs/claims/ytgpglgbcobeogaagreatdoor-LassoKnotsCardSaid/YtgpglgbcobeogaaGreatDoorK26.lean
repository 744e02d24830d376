import Derived.Test.YtgpglgbcobeogaaGreatDoorK25
set_option linter.unusedSimpArgs false
set_option linter.unusedVariables false
set_option maxHeartbeats 2000000
set_option maxRecDepth 100000
namespace Go.Proofs.YtgpglgbcobeogaaGreatDoor
open Go.RowKit
theorem G8{f g:Nat->Rat}{n:Nat}(h:∀i,i<n->f i=g i):C8 f n=C8 g n:=by
 induction n with
 | zero=>rfl
 | succ n ih=>simp only[C8];rw[ih (λi hi=>h i (by omega)),h n (by omega)]
abbrev U7(q:Rat):Array Value:=#[.bool (D9 q.num),.int .u64 (B8 q.num.natAbs),.string (B6 q.num.natAbs),.int .u64 (B8 (I4 q.den)),.string (B6 (I4 q.den))]
def A3t(b2 b8:Nat)(A:Option Addr)(m c:Nat)(l:List Rat)(q:Rat)(W:World):Prop :=
 Blk W b2 35 #[.slice A m c]/\Blk W b8 48 (U7 q)/\Lq W A l
theorem A3t.mk{b2 b8:Nat}{A:Option Addr}{m c:Nat}{l:List Rat}{q:Rat}{u:World}(h1:Blk u b2 35 #[.slice A m c])(h2:Blk u b8 48 (U7 q))(h3:Lq u A l):A3t b2 b8 A m c l q u:=⟨h1,h2,h3⟩
theorem A3t.grow{b2 b8:Nat}{A:Option Addr}{m c:Nat}{l:List Rat}{q:Rat}{u u':World}(hg:A4 u u')(h:A3t b2 b8 A m c l q u):A3t b2 b8 A m c l q u':=⟨h.1.grow hg,h.2.1.grow hg,h.2.2.grow hg⟩
def A3p(b3 b4 b5 b8:Nat)(A B:Option Addr)(m c d:Nat)(l l':List Rat)(a:Rat)(W:World):Prop :=
 Blk W b3 35 #[.slice A m c]/\Blk W b4 35 #[.slice B m d]/\Blk W b5 48 (U7 a)/\Blk W b8 48 (U7 (C2 1))/\Lq W A l/\Lq W B l'
theorem A3p.mk{b3 b4 b5 b8:Nat}{A B:Option Addr}{m c d:Nat}{l l':List Rat}{a:Rat}{u:World}(h1:Blk u b3 35 #[.slice A m c])(h2:Blk u b4 35 #[.slice B m d])(h3:Blk u b5 48 (U7 a))(h4:Blk u b8 48 (U7 (C2 1)))(h5:Lq u A l)(h6:Lq u B l'):A3p b3 b4 b5 b8 A B m c d l l' a u:=⟨h1,h2,h3,h4,h5,h6⟩
theorem A3p.grow{b3 b4 b5 b8:Nat}{A B:Option Addr}{m c d:Nat}{l l':List Rat}{a:Rat}{u u':World}(hg:A4 u u')(h:A3p b3 b4 b5 b8 A B m c d l l' a u):A3p b3 b4 b5 b8 A B m c d l l' a u' :=
 ⟨h.1.grow hg,h.2.1.grow hg,h.2.2.1.grow hg,h.2.2.2.1.grow hg,h.2.2.2.2.1.grow hg,h.2.2.2.2.2.grow hg⟩
def LzX(u:World)(bs:List Nat)(A:Option Addr)(l:List Rat):Prop:=Lz u A l/\(∀b off,A=some ⟨b,off,none⟩->b∉bs)/\0<l.length
theorem LzX.a{u:World}{bs:List Nat}{A:Option Addr}{l:List Rat}(h:LzX u bs A l):Lz u A l:=h.1
theorem LzX.grow{u u':World}{bs:List Nat}{A:Option Addr}{l:List Rat}(h:LzX u bs A l)(hg:A4 u u'):LzX u' bs A l:=⟨h.1.grow hg,h.2⟩
theorem Cz.far{u:World}{b i:Nat}{p:Az}{q:Rat}(h:Cz u b i p q){a:Addr}(ha:b≠a.block)(v:Value):Cz (u.setCell a v) b i p q:=by
 have key:∀j,(u.setCell a v).cell? ⟨b,j,none⟩=u.cell? ⟨b,j,none⟩:=λj=>World.cell?_of_block (B9g u a v b ha);exact⟨(key _).trans h.1,(key _).trans h.2.1,(key _).trans h.2.2⟩
theorem LzX.put{u u':World}{bs:List Nat}{A:Option Addr}{l:List Rat}(h:LzX u bs A l){bl:List (Nat×TypeId×Array Value)}(hB:Bx u bl)(k:Nat){b:Nat}{t:TypeId}{cs:Array Value}(hk:bl[k]?=some (b,t,cs))(ht:b∈bs/\t≠193)(i:Nat)(vs:List Value)(hu:C3 u b i vs=u'):LzX u' bs A l:=by
 refine⟨λhn=>?_,h.2⟩;obtain⟨ba,oa,e,hb,hc⟩:=h.1 hn;have hne:ba≠b:=λe'=>h.2.1 ba oa e (e' ▸ ht.1);have hsz:∀(vs:List Value) (i:Nat) (u:World),(C3 u b i vs).heap.size=u.heap.size:=by
  intro vs
  induction vs with
  | nil=>exact λ_ _=>rfl
  | cons v vs ih=>exact λi u=>(ih (i+1) (u.setCell ⟨b,i,none⟩ v)).trans (by simp[World.setCell])
 have hcz:∀(vs:List Value) (i:Nat) (u:World) (j:Nat) (p:Az) (q:Rat),Cz u ba j p q->Cz (C3 u b i vs) ba j p q:=by
  intro vs
  induction vs with
  | nil=>exact λ_ _ _ _ _ h=>h
  | cons v vs ih=>exact λi u j p q h=>ih (i+1) (u.setCell ⟨b,i,none⟩ v) j p q (h.far (a:=⟨b,i,none⟩) hne v)
 refine⟨ba,oa,e,by rw[<-hu,hsz];exact hb,λj hj=>?_⟩;obtain⟨p,h1,h2⟩:=hc j hj;exact⟨p,h1.put hB k hk ht.2 i vs hu,by rw[<-hu];exact hcz vs i u _ p _ h2⟩
theorem LzX.lt{u:World}{bs:List Nat}{A:Option Addr}{l:List Rat}(h:LzX u bs A l):∀b off,A=some ⟨b,off,none⟩->b<u.heap.size:=λb off e=>by
 obtain⟨b',off',e',hb,_⟩:=h.1 (λh0=>by have:=h.2.2;rw[h0]at this;cases this);rw[e]at e';cases e';exact hb
theorem LzX.more{v:World}{n b:Nat}{bs:List Nat}{A:Option Addr}{l:List Rat}(h:LzX v bs A l)(hlt:∀b off,A=some ⟨b,off,none⟩->b<n)(hb:n<=b):LzX v (b::bs) A l :=
 ⟨h.1,λb' off e hm=>by
  rcases List.mem_cons.1 hm with rfl|hm
  ·have:=hlt b' off e;omega
  ·exact h.2.1 b' off e hm,h.2.2⟩
theorem LzX.addr{u:World}{bs:List Nat}{A:Option Addr}{l:List Rat}(h:LzX u bs A l):∃b off,A=some ⟨b,off,none⟩:=h.1.addr h.2.2
theorem Li.at{u:World}{A:Option Addr}{l:List Int}{i:Nat}(h:Li u A l)(hi:i<l.length):∃b off,A=some ⟨b,off,none⟩/\∀W,A4 u W->W.cell? ⟨b,off+i,none⟩=some (.int .i64 (gi l i)):=by
 obtain⟨b,off,e,-⟩:=h.cell hi;refine⟨b,off,e,λW hg=>?_⟩;obtain⟨b',o',e',hc⟩:=(h.grow hg).cell hi;rw[e]at e';cases e';exact hc
abbrev A0S(l:List Int):List Value:=l.map λx=>Value.int .i64 x
theorem B0p(y:Int)(w:World):(Instr.buildSlice 22 1 #[(0,.int .i64 y)]).run Tryz.prog w = .ok (.slice (some ⟨w.heap.size,0,none⟩) 1 1) (w.alloc (.cells #[.int .i64 y] 3)):=by
 go_simp
theorem A7d:EI 22 3 1 8:=A0z (by kernel_rfl) (by kernel_rfl) (by omega)
theorem A4F{u:World}{B n:Nat}{v:Value}{l:List Int}(h:u.ownsRow B 3 1 v n (A0S l))(hn:n=l.length):∃A c,v = .slice A n c/\n<=c/\Li u A l:=by
 subst hn;obtain⟨_,h|⟨g,cap,cur,rfl,hb,hh,hn,hc,hs,ht⟩⟩:=h
 ·obtain⟨rfl,h0⟩:=h;exact⟨none,0,by rw[h0],by omega,λhne=>absurd (B9X h0) hne⟩
 ·refine⟨_,cap,rfl,hn,λ_=>⟨g,0,rfl,K9 hh,λi x hi=>?_⟩⟩;rw[Nat.zero_add,B9f u g i cur 3 (0,0) hh];have hil:i<l.length:=(List.getElem?_eq_some_iff.1 hi).1;have h1:(cur.toList.take (l.length*1))[i]?=some (.int .i64 x):=by rw[ht,List.getElem?_map,hi];rfl
  rw[C02,if_pos (by omega)]at h1
  simpa using h1
end Go.Proofs.YtgpglgbcobeogaaGreatDoor
namespace Go.Proofs.YtgpglgbcobeogaaGreatDoor
open Go Go.RowKit
theorem B8V(A:Option Addr)(l:List Int)(c p m:Nat)(hp:p=l.length)(hc:p<=c)(hm:m<=p)(w:World)(h:Li w A l):∃A':Option Addr,(∀W,(Instr.slice 22 (.slice A p c) (some (.int .i64 (m:Nat))) none none).run Tryz.prog W = .ok (.slice A' (p-m) (c-m)) W)/\Li w A' (l.drop m):=by
 refine⟨if c=m then A else A.map (·.add m),λW=>?_,λhne=>?_⟩
 ·have h3:(m:Int)<=(p:Int):=by omega
  have h4:¬p<m:=by omega
  clear hp h;go_simp
 ·have hlt:m<l.length:=by
   refine C1Z λhh=>hne ?_;exact List.drop_eq_nil_of_le (by omega)
  obtain⟨b,off,rfl,hb,hx⟩:=h (λe=>by rw[e]at hlt;cases hlt);rw[if_neg (by omega)];refine⟨b,off+m,by simp[Addr.add],hb,λi x hi=>?_⟩;rw[List.getElem?_drop]at hi;rw[C07];exact hx (m+i) x hi
abbrev Zw:=Ax×List Zr
abbrev zwV(r:Zw):Value:=.slice r.1.1 r.2.length r.1.2
def V7(B:Nat)(W:World)(rws:List Zw):Prop:=(∀r∈rws,M9 W r.2/\W.ownsRow B 33 3 (zwV r) r.2.length (r.2.flatMap zrL))/\rws.Pairwise (λa b=>U8 (zwV a) (zwV b))
theorem V7.nil(B:Nat)(W:World):V7 B W []:=⟨λ_ h=>(by cases h),List.Pairwise.nil⟩
theorem V7.grow{B:Nat}{u u':World}{rws:List Zw}(h:V7 B u rws)(hg:A4 u u'):V7 B u' rws:=⟨λr hr=>⟨(h.1 r hr).1.grow hg,C0 (h.1 r hr).2 hg⟩,h.2⟩
theorem V7.own{B0:Nat}{u w':World}{B:Nat}{e:TypeId}{size n:Nat}{v:Value}{xs:List Value}{o:Obj}{rws:List Zw}(hl:V7 B0 u rws)(h:u.ownsRow B e size v n xs)(ht:e≠193/\e≠33)(hg:(u.alloc o).grownBy w' v.ownBlock):V7 B0 w' rws:=⟨λr hr=>⟨(hl.1 r hr).1.own h ht.1 hg,by
 have h2:=(hl.1 r hr).2;refine(h2.alloc o).kept hg ?_
 cases hb:(zwV r).ownBlock with
 | none=>exact .inl rfl
 | some g=>exact .inr λe1=>P4 h h2 ht.2 g e1.symm hb⟩,hl.2⟩
def A12(B k:Nat)(q:List Rat)(x:Zw)(W:World):Prop:=(x.2.map (·.2)=q/\x.2.length=k)/\M9 W x.2/\W.ownsRow B 33 3 (zwV x) x.2.length (x.2.flatMap zrL)
theorem A12.grow{B k:Nat}{q:List Rat}{x:Zw}{u u':World}(hg:A4 u u')(h:A12 B k q x u):A12 B k q x u':=⟨h.1,h.2.1.grow hg,C0 h.2.2 hg⟩
theorem V7.snoc{B k:Nat}{q:List Rat}{u v:World}{rws:List Zw}{x:Zw}(h:V7 B u rws)(hg:A4 u v)(hB:B<=u.heap.size)(h1:A12 u.heap.size k q x v):V7 B v (rws++[x]):=by
 refine⟨λr hr=>?_,?_⟩
 ·rcases List.mem_append.1 hr with hr|hr
  ·exact(h.grow hg).1 r hr
  ·have:r=x:=by simpa using hr
   subst this;exact⟨h1.2.1,h1.2.2.mono hB⟩
 ·rw[List.pairwise_append];refine⟨h.2,by simp,λa ha b hb=>?_⟩;have:b=x:=by simpa using hb
  subst this;intro g e1 e2;have h3:=((h.1 a ha).2.lt g e1).2;have h4:=(h1.2.2.lt g e2).1;omega
def A2I(l:List Int)(n k:Nat):List (List Rat):=(List.range n).map λi=>S3 (l.drop (min l.length (i*k))) k
theorem B4Y(l:List Int)(n k:Nat):A2I l (n+1) k=A2I l n k++[S3 (l.drop (min l.length (n*k))) k]:=by unfold A2I;rw[C0k,List.map_append];rfl
def A3y(rws:List Zw):List (List Rat):=rws.map λr=>r.2.map (·.2)
theorem B3m(rws:List Zw)(x:Zw):A3y (rws++[x])=A3y rws++[x.2.map (·.2)]:=by unfold A3y;simp
theorem B7S:EI 23 25 1 24:=A0z (by kernel_rfl) (by kernel_rfl) (by omega)
theorem B5T(A:Option Addr)(n c:Nat)(w:World):(Instr.buildSlice 23 1 #[(0,.slice A n c)]).run Tryz.prog w = .ok (.slice (some ⟨w.heap.size,0,none⟩) 1 1) (w.alloc (.cells #[.slice A n c] 25)):=by
 go_simp
theorem B9O(A:Option Addr)(l:List Int)(c p n k:Nat)(hp:p=l.length)(hc:p<=c)(hn:n<=1048576)(hk:k<=1048576)(hpm:p<=9223372036854775807)(hb:∀x∈l,-9223372036854775808<=x/\x<=9223372036854775807)(w:World)(h:Li w A l) :
  Calls Tryz.prog 56 #[.slice A p c,.int .i64 n,.int .i64 k] w λe w'=>∃(v:Value) (rws:List Zw),e = .returned v/\A3y rws=A2I l n k/\V7 w.heap.size w' rws/\w'.ownsRow w.heap.size 25 1 v n (rws.map zwV)/\A4 w w':=by
 have H:=B9t h;have Hp:=B9t hp;have Hb:=B9t hb;clear h hp hb;go_enter Tryz.func56,Tryz.ntmps56;refine en0 ?_;intro u hG hB hF;refine r0T ?_;refine B9o ?_;refine r0T ?_;refine C0M ?_;clear hB hF;go_loopw [8,7] (λs0 s1 wr=>∃(i:Nat) (rws:List Zw),i<=n/\s0 = .int .i64 i/\A3y rws=A2I l i k/\V7 w.heap.size wr rws/\wr.ownsRow w.heap.size 25 1 s1 i (rws.map zwV)/\A4 w wr) (λs0 _ _=>n-(intOf s0).toNat)
 case atStart=>exact⟨0,[],C0B _,rfl,rfl,V7.nil _ _,C1O _ _ _ _,hG⟩
 case round =>
  clear hG;obtain⟨i,rws,hi,rfl,hps,hA,ho,hG⟩:=hrel;obtain⟨u,rfl⟩:=exQ wr;have hB:=Bx.nil u;have hF:=Fr.nil w;have Ho:=B9t ho;have Hps:=B9t hps;clear ho hps;rcases B9U i n with hlt|hge
  ·have hdec:decide ((i:Int)<(n:Int))=true:=by simp;omega
   have hsu:=B4Y l i k;obtain⟨ik,hik⟩:∃x,x=i*k:=⟨_,rfl⟩
   have hikb:ik<=1048576*1048576:=by rw[hik];exact C1G (by omega) hk
   have fik:IntKind.i64.wrap ((i:Int)*(k:Int))=(ik:Int):=by rw[hik,Int.natCast_mul];exact C0A _ (by rw[<-Int.natCast_mul,<-hik];omega)
   obtain⟨m,hm⟩:∃x,x=min p ik:=⟨_,rfl⟩
   have fmin:min (p:Int) (ik:Int)=(m:Int):=by omega
   have hmp:m<=p:=by omega
   rw[<-hik,<-Hp.out,<-hm]at hsu;obtain⟨A',hsl,hLi⟩:=B8V A l c p m Hp.out hc hmp w H.out;have hrw:∀W,A4 u W->Calls Tryz.prog 31 #[.slice A' (p-m) (c-m),.int .i64 k] W (G5 (λx:Zw=>.slice x.1.1 k x.1.2) (λx W'=>A12 u.heap.size k (S3 (l.drop m) k) x W') W):=λW hg =>
    (A89 A' (l.drop m) (c-m) (p-m) k (by rw[C0e,Hp.out]) hk (by omega) (λx hx=>Hb.out x (C0f hx)) W (hLi.grow (hG.trans hg))).mono λe w' ⟨v,ps,he,h1,h2,h3,h4⟩=>by
     obtain⟨A2,cc,rfl,hcc1,hcc2,hL,hkl⟩:=A6m h3 h2;refine⟨((A2,cc),ps),he,⟨⟨h1,hkl.symm⟩,h2,?_⟩,h4⟩;rw[hkl]at h3;exact h3.mono hg.size
   obtain⟨pm,hpm2⟩:∃x,x=p-m:=⟨_,rfl⟩
   obtain⟨cm,hcm⟩:∃x,x=c-m:=⟨_,rfl⟩
   rw[<-hpm2,<-hcm]at hrw;simp only[<-hpm2,<-hcm]at hsl;obtain⟨q,hq⟩:∃x,x=S3 (l.drop m) k:=⟨_,rfl⟩
   rw[<-hq]at hsu;simp only[<-hq]at hrw;have Hrw:=B9t hrw;have Hsu:=B9t hsu;obtain⟨B0,hB0⟩:=exQ u.heap.size;have hBB:w.heap.size<=u.heap.size:=hG.sz;clear hrw hsu hLi hpm2 hcm hm hik hikb hq hB0;refine B9o ?_;refine r0T ?_;refine B9w (rfl) ?_;refine B9v ?_;refine A6 ?_;refine B9o ?_;refine C0M ?_;have hA0:=B9t hA;refine T0 (w:=w) A8 11 [0,0,0,0,0,0,0,0,0,0,1] (by kernel_rfl) (by simp only[List.drop_succ_cons,List.drop_zero];exact rfl) (λ_=>True) noG hB hG trivial ?_;intro K L hN hL;simp only[List.zip_cons_cons,List.zip_nil_left];refine gs ?_;refine gxd (X:=Zw) (λx:Zw=>.slice x.1.1 k x.1.2) (λx W=>A12 u.heap.size k q x W) (λx u u' hg h=>A12.grow hg h) (λx24=>?_) (C:=by(rintro v ⟨hgu,hB,hG,-⟩;exact Hrw.out _ hgu));refine I7 ?_;rintro v ⟨⟨hgu,hB1,hG1,-⟩,hx24⟩;replace hA:=hA.grow hgu;have ROWn:=B9t (C0 Ho.out hgu);clear Ho;have Ho:=ROWn;clear ROWn;have hA2:=hA0.out.snoc hgu hBB hx24;have hk2:=hx24.1;clear hA hA0 hx24;have hA:=hA2;clear hA2;clear hB hG;have hB:=hB1;have hG:=hG1;clear hB1 hG1;refine hL _ _ ?_;clear hL L hgu;obtain⟨u,rfl⟩:=exQ v;refine U5 B7S w.heap.size _ _ _ _ [.slice x24.1.1 k x24.1.2] rfl rfl (B5T x24.1.1 k x24.1.2 u) rfl (λ_=>rfl) (λ_=>rfl) (λ_ _=>rfl) Ho.out (by omega) (by omega) hG.sz λp v' w' g1 g2 g3=>?_;have hBn:=Bx.nil w';have hGn:=V3 Ho.out hG g2;replace hA:=hA.own Ho.out (by decide) g2;clear Ho hB hG;have Ho:=B9t g1;have hB:=hBn;have hG:=hGn;clear g1 g2 g3 hBn hGn;obtain⟨u,rfl⟩:=exQ w';simp only[Act.put,List.setIfInBounds_toArray,List.set_cons_succ,List.set_cons_zero];refine NoK.norm (hN _ _ ?_);clear hN K;refine C7 ?_;refine A6 ?_;refine r0E ?_;refine A6 ?_;go_roundw
   case rel=>exact⟨i+1,rws++[x24],by omega,by go_num,by rw[B3m,Hps.out,Hsu.out,hk2.1],hA,by have:=Ho.out;rw[List.map_append];simpa [zwV,hk2.2]using this,hG⟩
   case measure=>simp[intOf];omega
  ·obtain rfl:n=i:=by omega
   have hdec:decide ((n:Int)<(n:Int))=false:=by simp
   refine B9o ?_;refine r0T ?_;refine B9u (rfl) ?_;refine C0O ?_;refine B9 ?_;refine B9 ?_;refine E3 ?_;refine A6 ?_;refine r0T ?_;refine rt Tryz.results56 ?_;exact⟨_,rws,rfl,Hps.out,hA,Ho.out,hG⟩
def Lrz(u:World)(A:Option Addr)(rs:List Rq):Prop :=
 rs≠[]->∃b off,A=some ⟨b,off,none⟩/\b<u.heap.size/\∀i r,rs[i]?=some r->u.cell? ⟨b,off+i,none⟩=some (.slice r.1 r.2.2.length r.2.1)/\Lz u r.1 r.2.2
theorem Lrz.grow{u u':World}{A:Option Addr}{rs:List Rq}(h:Lrz u A rs)(hg:A4 u u'):Lrz u' A rs:=λhn=>by
 obtain⟨b,off,e,hb,hc⟩:=h hn;exact⟨b,off,e,B9y hb hg.size,λi r hi=>⟨(hg.cell (p:=⟨b,off+i,none⟩) hb).trans (hc i r hi).1,(hc i r hi).2.grow hg⟩⟩
theorem Lrz.addr{u:World}{A:Option Addr}{rs:List Rq}(h:Lrz u A rs)(hl:0<rs.length):∃b off,A=some ⟨b,off,none⟩:=by
 obtain⟨b,off,e,_⟩:=h (λh0=>by rw[h0]at hl;cases hl);exact⟨b,off,e⟩
theorem Lrz.read{u:World}{b off:Nat}{rs:List Rq}(h:Lrz u (some ⟨b,off,none⟩) rs){i:Nat}{r:Rq}(hi:rs[i]?=some r):u.cell? ⟨b,off+i,none⟩=some (.slice r.1 r.2.2.length r.2.1)/\Lz u r.1 r.2.2:=by
 obtain⟨b',off',e,_,hc⟩:=h (λh0=>by rw[h0]at hi;simp at hi);cases e;exact hc i r hi
abbrev A2S(r:Rq):Value:=.slice r.1 r.2.2.length r.2.1
def X6(B:Nat)(W:World)(rs:List Rq):Prop:=∀r∈rs,W.ownsRow B 48 5 (A2S r) r.2.2.length (r.2.2.flatMap qL)
theorem X6.nil(B:Nat)(W:World):X6 B W []:=λ_ h=>by cases h
theorem X6.grow{B:Nat}{u u':World}{rs:List Rq}(h:X6 B u rs)(hg:A4 u u'):X6 B u' rs:=λr hr=>C0 (h r hr) hg
theorem X6.own{B0:Nat}{u w':World}{B:Nat}{e:TypeId}{size n:Nat}{v:Value}{xs:List Value}{o:Obj}{rs:List Rq}(hl:X6 B0 u rs)(h:u.ownsRow B e size v n xs)(ht:e≠48)(hg:(u.alloc o).grownBy w' v.ownBlock):X6 B0 w' rs:=λr hr=>by
 have h2:=hl r hr;refine(h2.alloc o).kept hg ?_
 cases hb:(A2S r).ownBlock with
 | none=>exact .inl rfl
 | some g=>exact .inr λe1=>P4 h h2 ht g e1.symm hb
def A2B(B k:Nat)(q:List Rat)(x:Ax)(W:World):Prop:=q.length=k/\W.ownsRow B 48 5 (.slice x.1 k x.2) k (q.flatMap qL)
theorem A2B.grow{B k:Nat}{q:List Rat}{x:Ax}{u u':World}(hg:A4 u u')(h:A2B B k q x u):A2B B k q x u':=⟨h.1,C0 h.2 hg⟩
theorem X6.snoc{B k:Nat}{q:List Rat}{v:World}{rs:List Rq}{x:Ax}(h:X6 B v rs)(h1:A2B B k q x v):X6 B v (rs++[(x.1,x.2,q)]):=λr hr=>by
 rcases List.mem_append.1 hr with hr|hr
 ·exact h r hr
 ·have:r=(x.1,x.2,q):=by simpa using hr
  subst this;have h2:=h1.2;rw[<-h1.1]at h2;exact h2
theorem B8o:EI 39 35 1 24:=A0z (by kernel_rfl) (by kernel_rfl) (by omega)
theorem B5c(A:Option Addr)(n c:Nat)(w:World):(Instr.buildSlice 39 1 #[(0,.slice A n c)]).run Tryz.prog w = .ok (.slice (some ⟨w.heap.size,0,none⟩) 1 1) (w.alloc (.cells #[.slice A n c] 35)):=by
 go_simp
theorem B9A{u:World}{B n:Nat}{v:Value}{rs:List Rq}(h:u.ownsRow B 35 1 v n (rs.map A2S))(hr:X6 B u rs):∃A c,v = .slice A n c/\n<=c/\Lrq u A rs/\n=rs.length:=by
 have hn:n=rs.length:=by have:=h.1;simp at this;omega
 subst hn;obtain⟨_,h|⟨g,cap,cur,rfl,hb,hh,hn,hc,hs,ht⟩⟩:=h
 ·obtain⟨rfl,h0⟩:=h;exact⟨none,0,by rw[h0],by omega,λhne=>absurd (B9X h0) hne,rfl⟩
 ·refine⟨_,cap,rfl,hn,λ_=>⟨g,0,rfl,K9 hh,λi r hi=>⟨?_,?_⟩⟩,rfl⟩
  ·rw[Nat.zero_add,B9f u g i cur 35 (0,0) hh];have hil:i<rs.length:=(List.getElem?_eq_some_iff.1 hi).1;have h1:(cur.toList.take (rs.length*1))[i]?=some (A2S r):=by rw[ht,List.getElem?_map,hi];rfl
   rw[C02,if_pos (by omega)]at h1
   simpa using h1
  ·obtain⟨A,c,e1,_,_,hL,_⟩:=M7 (hr r (B9k hi));cases e1;exact hL
theorem B3r{u:World}{B B2 n:Nat}{v:Value}{rws:List Zw}(h:u.ownsRow B 25 1 v n (rws.map zwV))(hr:∀(i:Nat) (r:Zw),rws[i]?=some r->M9 u r.2/\u.ownsRow B2 33 3 (zwV r) r.2.length (r.2.flatMap zrL)):∃A c,v = .slice A n c/\n<=c/\Lrz u A (rws.map λr=>(r.1.1,r.1.2,r.2.map (·.2)))/\n=rws.length:=by
 have hn:n=rws.length:=by have:=h.1;simp at this;omega
 subst hn;obtain⟨_,h|⟨g,cap,cur,rfl,hb,hh,hn,hc,hs,ht⟩⟩:=h
 ·obtain⟨rfl,h0⟩:=h;exact⟨none,0,by rw[h0],by omega,λhne=>absurd (by rw[B9X h0];rfl) hne,rfl⟩
 ·refine⟨_,cap,rfl,hn,λ_=>⟨g,0,rfl,K9 hh,λi r hi=>?_⟩,rfl⟩;rw[List.getElem?_map]at hi;obtain⟨r0,hr0,rfl⟩:=Option.map_eq_some_iff.1 hi;have hil:i<rws.length:=(List.getElem?_eq_some_iff.1 hr0).1;refine⟨?_,?_⟩
  ·rw[Nat.zero_add,B9f u g i cur 25 (0,0) hh];have h1:(cur.toList.take (rws.length*1))[i]?=some (zwV r0):=by rw[ht,List.getElem?_map,hr0];rfl
   rw[C02,if_pos (by omega)]at h1
   simpa using h1
  ·obtain⟨h1,h2⟩:=hr i r0 hr0;obtain⟨A,c,e1,_,_,hL,_⟩:=A6m h2 h1;cases e1;exact hL
theorem B4w(A:Option Addr)(rs:List Rq)(c n:Nat)(hn:n=rs.length)(hm:n<=1048576)(hs:∀r∈rs,r.2.2.length<=1048576/\∀x∈r.2.2,qs x<=BIG)(w:World)(h:Lrz w A rs)(HT:Tab w) :
  Calls Tryz.prog 15 #[.slice A n c] w λe w'=>∃(v:Value) (rs':List Rq),e = .returned v/\rs'.map (·.2.2)=rs.map (·.2.2)/\X6 w.heap.size w' rs'/\w'.ownsRow w.heap.size 35 1 v n (rs'.map A2S)/\A4 w w':=by
 have H:=B9t h;have Hn:=B9t hn;have Hs:=B9t hs;clear h hn hs;go_enter Tryz.func15,Tryz.ntmps15;refine en0 ?_;intro u hG hB hF;refine r0T ?_;refine B9o ?_;refine r0T ?_;refine C0M ?_;clear hB hF;go_loopw [4,3] (λs0 s1 wr=>∃(i:Nat) (rs':List Rq),i<=n/\s0 = .int .i64 i/\rs'.map (·.2.2)=(rs.take i).map (·.2.2)/\X6 w.heap.size wr rs'/\wr.ownsRow w.heap.size 35 1 s1 i (rs'.map A2S)/\A4 w wr) (λs0 _ _=>n-(intOf s0).toNat)
 case atStart=>exact⟨0,[],C0B _,rfl,rfl,X6.nil _ _,C1O _ _ _ _,hG⟩
 case round =>
  clear hG;obtain⟨i,rs',hi,rfl,hps,hA,ho,hG⟩:=hrel;obtain⟨u,rfl⟩:=exQ wr;have hB:=Bx.nil u;have hF:=Fr.nil w;have Ho:=B9t ho;have Hps:=B9t hps;clear ho hps;rcases B9U i n with hlt|hge
  ·have hdec:decide ((i:Int)<(n:Int))=true:=by simp;omega
   have hil:i<rs.length:=by rw[<-Hn.out];exact hlt
   have hsu:rs.take (i+1)=rs.take i++[rs[i]]:=B98 hil;obtain⟨ba,oa,rfl⟩:=H.out.addr (by omega);obtain⟨hs1,hs2⟩:=Hs.out _ (B9h hil);have hrd:∀W,A4 w W->W.cell? ⟨ba,oa+i,none⟩=some (.slice rs[i].1 rs[i].2.2.length rs[i].2.1)/\Lz W rs[i].1 rs[i].2.2:=λW hg=>(H.out.grow hg).read (B99 hil);obtain⟨r,hr⟩:∃r,r=rs[i]:=⟨_,rfl⟩
   simp only[<-hr]at hrd hs1 hs2 hsu;obtain⟨rA,rc,q⟩:=r;simp only at hrd hs1 hs2 hsu;obtain⟨m,hm2⟩:∃m,m=q.length:=⟨_,rfl⟩
   rw[<-hm2]at hrd hs1;have hin:∀W,A4 w W->Tab W->Calls Tryz.prog 16 #[.slice rA m rc] W (G5 (λx:Ax=>.slice x.1 m x.2) (λx W'=>A2B w.heap.size m q x W') W):=λW hg hT =>
    (B0q rA q rc m hm2 hs1 hs2 W (hrd W hg).2 hT).mono λe w' ⟨v,he,ho,hg'⟩=>by
     obtain⟨A2,cc,rfl,hcc1,hcc2,hL,hkl⟩:=M7 ho;exact⟨(A2,cc),he,⟨hm2.symm,ho.mono hg.size⟩,hg'⟩
   have hrd':=λW hg=>(hrd W hg).1;have Hin:=B9t hin;have Hrd:=B9t hrd';have Hsu:=B9t hsu;clear hin hrd hrd' hsu hr hil hs2 hm2;refine B9o ?_;refine r0T ?_;refine B9w (rfl) ?_;refine B9v ?_;refine A6 ?_;refine B9o ?_;refine C0M ?_;refine T0 (w:=w) A8 6 [0,0,0,0,0,1] (by kernel_rfl) (by simp only[List.drop_succ_cons,List.drop_zero];exact rfl) (λ_=>True) noG hB hG trivial ?_;intro K L hN hL;simp only[List.zip_cons_cons,List.zip_nil_left]
   repeat first|refine gya ?_|refine gyr ?_|refine gna ?_|refine gyb (by(rintro v ⟨hgu,hB,hG,-⟩ N hN;have r:=hB.r;simp only[BxR]at r;have c1:=Hrd.out v hG;go_simp;exact hN)) ?_
   refine gxd (X:=Ax) (λx:Ax=>.slice x.1 m x.2) (λx W=>A2B w.heap.size m q x W) (λx u u' hg h=>A2B.grow hg h) (λx16=>?_) (C:=by(rintro v ⟨hgu,hB,hG,-⟩;exact Hin.out _ hG (HT.grow hG)));refine I7 ?_;rintro v ⟨⟨hgu,hB1,hG1,-⟩,hx16⟩;replace hA:=hA.grow hgu;have ROWn:=B9t (C0 Ho.out hgu);clear Ho;have Ho:=ROWn;clear ROWn;have hA2:=hA.snoc hx16;have hk2:=hx16.1;clear hA hx16;have hA:=hA2;clear hA2;clear hB hG;have hB:=hB1;have hG:=hG1;clear hB1 hG1;refine hL _ _ ?_;clear hL L hgu;obtain⟨u,rfl⟩:=exQ v;refine U5 B8o w.heap.size _ _ _ _ [.slice x16.1 m x16.2] rfl rfl (B5c x16.1 m x16.2 u) rfl (λ_=>rfl) (λ_=>rfl) (λ_ _=>rfl) Ho.out (by omega) (by omega) hG.sz λp v' w' g1 g2 g3=>?_;have hBn:=Bx.nil w';have hGn:=V3 Ho.out hG g2;replace hA:=hA.own Ho.out (by decide) g2;clear Ho hB hG;have Ho:=B9t g1;have hB:=hBn;have hG:=hGn;clear g1 g2 g3 hBn hGn;obtain⟨u,rfl⟩:=exQ w';simp only[Act.put,List.setIfInBounds_toArray,List.set_cons_succ,List.set_cons_zero];refine NoK.norm (hN _ _ ?_);clear hN K;refine C7 ?_;refine A6 ?_;refine r0E ?_;refine A6 ?_;go_roundw
   case rel=>exact⟨i+1,rs'++[(x16.1,x16.2,q)],by omega,by go_num,by rw[List.map_append,Hps.out,Hsu.out,List.map_append];rfl,hA,by have:=Ho.out;rw[List.map_append];simpa [A2S,hk2]using this,hG⟩
   case measure=>simp[intOf];omega
  ·obtain rfl:n=i:=by omega
   have hdec:decide ((n:Int)<(n:Int))=false:=by simp
   refine B9o ?_;refine r0T ?_;refine B9u (rfl) ?_;refine C0O ?_;refine B9 ?_;refine B9 ?_;refine E3 ?_;refine A6 ?_;refine r0T ?_;refine rt Tryz.results15 ?_;exact⟨_,rs',rfl,by rw[Hps.out,C0L (C0V Hn.out.symm)],hA,Ho.out,hG⟩
theorem V7.idx{B:Nat}{W:World}{rws:List Zw}(h:V7 B W rws):∀(i:Nat) (r:Zw),rws[i]?=some r->M9 W r.2/\W.ownsRow B 33 3 (zwV r) r.2.length (r.2.flatMap zrL):=λ_ r hi=>h.1 r (B9k hi)
end Go.Proofs.YtgpglgbcobeogaaGreatDoor
