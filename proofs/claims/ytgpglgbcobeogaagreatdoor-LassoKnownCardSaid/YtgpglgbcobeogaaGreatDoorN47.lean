import Derived.Test.YtgpglgbcobeogaaGreatDoorN44
import Derived.Test.YtgpglgbcobeogaaGreatDoorN45
import Derived.Test.YtgpglgbcobeogaaGreatDoorN46
set_option linter.unusedSimpArgs false
set_option linter.unusedVariables false
namespace Go.Proofs
open Go.Shelf
def Tryz.revQ_ren:Go.Shelf.Ren:=⟨fun|35=>119|n=>n,fun|22=>35|23=>48|3=>3|4=>4|0=>0|n=>n,fun|n=>n⟩
theorem Tryz.revQ:Go.Proofs.SlLaysE0.n35 Tryz.prog Tryz.revQ_ren:={
 mixed:=by kernel_rfl
 f35:=⟨Tryz.f119.name,by decide,Tryz.func119.trans (congrArg some (by kernel_rfl))⟩
 t0:=Tryz.underlying0
 a0:=Tryz.isAgg0
 z0:=Tryz.sizeOf0
 v0:=Tryz.zeroValue0
 t3:=Tryz.underlying3
 a3:=Tryz.isAgg3
 z3:=Tryz.sizeOf3
 v3:=Tryz.zeroValue3
 t4:=Tryz.underlying4
 a4:=Tryz.isAgg4
 z4:=Tryz.sizeOf4
 v4:=Tryz.zeroValue4
 t22:=Tryz.underlying35
 a22:=Tryz.isAgg35
 z22:=Tryz.sizeOf35
 v22:=Tryz.zeroValue35 }
end Go.Proofs
namespace Go.Proofs.YtgpglgbcobeogaaGreatDoor
open Go Go.RowKit Go.Sort Go.Shelf
theorem A8i{s B g cap n:Nat}{l:List Rat}(hn:n=l.length)(hs:∀x∈l,qs x<=s){W:World}(h:W.ownsRow B 48 5 (.slice (some ⟨g,0,none⟩) n cap) n (l.flatMap qL)):HoldsK (O2 s) 5 W g 0 (toB s l hs):=by
 refine B8F (λi hi j v hj=>?_) (λi=>?_)
 ·rw[A22]at hi;have hil:l[i]?=some l[i]:=B9Y hi;rw[B8Y s l hs hil]at hj;have hj5:j<5:=(List.getElem?_eq_some_iff.1 hj).1;rw[Nat.zero_add,X6 (enc:=qL) (λ_=>rfl) h hn i j hi hj5,hj]
 ·obtain⟨-,⟨e,-⟩|⟨g',cap',cur,e,hb,hh,-⟩⟩:=h
  ·cases e
  ·cases e;unfold World.frozen?;rw[hh];simp
theorem A74{s B g cap n:Nat}{W W':World}{xs:List Value}{f:Array Value->Array Value}{os:Array Obj}{d:Array (Bq s)}(h:W.ownsRow B 48 5 (.slice (some ⟨g,0,none⟩) n cap) n xs)(hW:W'.heap=W.heap.modify g (onCells f)++os)
  (hf:∀c,(f c).size=c.size) (hH:HoldsK (O2 s) 5 W' g 0 d) (hd:d.size=n):W'.ownsRow B 48 5 (.slice (some ⟨g,0,none⟩) n cap) n ((d.toList.map (·.1)).flatMap qL):=by
 obtain⟨-,⟨e,-⟩|⟨g',cap',cur,e,hb,hh,hc,hm,hz,ht⟩⟩:=h
 ·cases e
 ·cases e;have hg:=L7 hh;have hh':W'.heap[g]?=some (.cells (f cur) 48 (0,0)):=by
   rw[hW,Array.getElem?_append,if_pos (by rw[Array.size_modify];exact hg),Array.getElem?_modify,if_pos rfl,hh];rfl
  have hl:(d.toList.map (·.1)).length=n:=by simp[hd]
  refine⟨by rw[X8,hl,B9j],.inr ⟨g,cap,f cur,rfl,hb,hh',hc,hm,by rw[hf,hz],?_⟩⟩;have hq:=B8N hH (L7 hh');generalize d.toList.map (·.1)=l at hl hq⊢;apply List.ext_getElem?;intro t;rw[C0R];by_cases ht:t<n*5
  ·rw[if_pos ht];obtain⟨b,o,e,-,hcell⟩:=hq (λe=>by rw[e]at hl;simp at hl;omega);cases e;have hil:l[t/5]?=some (l[t/5]'(by omega)):=B9Y (by omega);have h6:=A2L l hil (j:=t%5) (by omega);rw[show t/5*5+t%5=t by omega]at h6;have h7:(qL (l[t/5]'(by omega)))[t%5]?=some ((qL (l[t/5]'(by omega)))[t%5]'(by show t%5<5;omega)):=B9Y (by show t%5<5;omega);have h8:=hcell _ _ hil _ _ h7;rw[B84 W' g _ (f cur) 48 (0,0) hh',show 0+t/5*5+t%5=t by omega]at h8;rw[h6,h7,<-h8];simp
  ·rw[if_neg ht,C0d (by rw[X8,hl];omega)]
theorem A9u{W W':World}{g:Nat}{f:Array Value->Array Value}{os:Array Obj}(hW:W'.heap=W.heap.modify g (onCells f)++os)(h1:W'.os=W.os)(h2:W'.tape=W.tape)(h3:W'.output=W.output):W.grownBy W' (some g) :=
 ⟨h1,h2,h3,by rw[hW,Array.size_append,Array.size_modify];omega,λk hk hr=>by
  rw[hW,Array.getElem?_append,if_pos (by rw[Array.size_modify];exact hk),Array.getElem?_modify,if_neg (λe=>hr (by rw[e]))]⟩
theorem B0c{α:Type}[Inhabited α](enc:α->Value)(off:Nat)(d:Array α)(c:Array Value):(putCells enc off d c).size=c.size:=by unfold putCells;simp
theorem B4v(s:Nat)(l:List Rat)(h:∀x∈l,qs x<=s):(toB s l h).reverse.toList.map (·.1)=l.reverse:=by
 rw[Array.toList_reverse,List.map_reverse,A5V]
theorem B5J{s B g cap n:Nat}(l:List Rat)(hn:n=l.length)(hm:n<=1000000)(hs:∀x∈l,qs x<=s)(w:World)(h:w.ownsRow B 48 5 (.slice (some ⟨g,0,none⟩) n cap) n (l.flatMap qL)) :
  Calls Tryz.prog 119 #[.slice (some ⟨g,0,none⟩) n cap] w λe w'=>e = .returned (.tuple #[])/\w'.ownsRow B 48 5 (.slice (some ⟨g,0,none⟩) n cap) n (l.reverse.flatMap qL)/\w.grownBy w' (some g):=by
 have hH:=A8i hn hs h;have hz:(toB s l hs).size=n:=by rw[A22];omega
 have hr:=AnyQ.slices_Reverse Tryz.revQ 5 Tryz.isAgg48 Tryz.sizeOf48 (O2 s) (λ_=>rfl) (λx v hv=>by simp[O2,qL]at hv;rcases hv with rfl|rfl|rfl|rfl|rfl<;>rfl) g 0 cap (toB s l hs) w hH (by omega);rw[hz]at hr;refine hr.mono ?_;rintro e w' ⟨rfl,m,rfl⟩;have hg:(putRowK (O2 s) 5 (Sort.ahead w m) g 0 (toB s l hs).reverse).heap=w.heap.modify g (onCells (putCells id 0 (flatK (O2 s) 5 (toB s l hs).reverse)))++#[]:=by
  rw[Array.append_empty];rfl
 refine⟨rfl,?_,A9u hg rfl rfl rfl⟩;have hH2:HoldsK (O2 s) 5 (putRowK (O2 s) 5 (Sort.ahead w m) g 0 (toB s l hs).reverse) g 0 (toB s l hs).reverse:=holdsK_putRowK _ _ _ _ _ (toB s l hs) _ (holdsK_ahead _ _ _ _ _ _ _ hH) (by simp);have:=A74 h hg (λc=>B0c _ _ _ _) hH2 (by simp[hz])
 rwa [B4v]at this
theorem B3C{s B g cap n:Nat}(hB:s+qs 0+(s+qs 0)+1<=BIG)(l:List Rat)(hn:n=l.length)(hm:n<=1000000)(hs:∀x∈l,qs x<=s)(w:World)(h:w.ownsRow B 48 5 (.slice (some ⟨g,0,none⟩) n cap) n (l.flatMap qL))(hg:g<w.heap.size) :
  Calls Tryz.prog 157 #[.slice (some ⟨g,0,none⟩) n cap,.func (.func 30) #[] #[]] w λe w'=>e = .returned (.tuple #[])/\w'.ownsRow B 48 5 (.slice (some ⟨g,0,none⟩) n cap) n ((W9 l).flatMap qL)/\w.grownBy w' (some g):=by
 have hH:=A8i hn hs h;have hz:(toB s l hs).size=n:=by rw[A22];omega
 have hr:=B7E s hB g 0 cap (toB s l hs) w hH hg (by omega);rw[hz]at hr;refine hr.mono ?_;rintro e w' ⟨rfl,d',m,os,hp,hst,rfl⟩;have hg2:(sortWorldK (O2 s) 5 w g 0 m d' os).heap=w.heap.modify g (onCells (putCells id 0 (flatK (O2 s) 5 d')))++os:=rfl;refine⟨rfl,?_,A9u hg2 rfl rfl rfl⟩;have hH2:=holdsK_sortWorldK_c _ _ _ _ _ _ _ m os hH hg hp.1;obtain⟨h1,h2⟩:=B7O (by rw[hz];exact hp) (by rw[hz];exact hst);rw[A5V]at h1;have:=A74 h hg2 (λc=>B0c _ _ _ _) hH2 (by rw[hp.1,hz])
 rwa [B3M h1 h2]at this
theorem B6Z(A:Option Addr)(l:List Rat)(c n:Nat)(hn:n=l.length)(hn0:0<n)(hm:n<=1000000)(s:Nat)(hs:∀x∈l,qs x<=s)(hB:s+qs 0+(s+qs 0)+1<=BIG)(w:World)(h:Lq w A l) :
  Calls Tryz.prog 116 #[.slice A n c] w λe w'=>∃g cap,e = .returned (.slice (some ⟨g,0,none⟩) n cap)/\w'.ownsRow w.heap.size 48 5 (.slice (some ⟨g,0,none⟩) n cap) n ((W9 l).flatMap qL)/\A4 w w':=by
 have hcl:=(A7h A c n l hn hn0 (by omega) w h).mono (R':=λe w'=>∃g cap,e = .returned (.slice (some ⟨g,0,none⟩) n cap)/\w'.ownsRow w.heap.size 48 5 (.slice (some ⟨g,0,none⟩) n cap) n (l.flatMap qL)/\A4 w w') (λe w' ⟨v,he,ho,hG⟩=>by
  obtain⟨-,⟨rfl,e0⟩|⟨g,cap,cur,rfl,-⟩⟩:=id ho
  ·omega
  ·exact⟨g,cap,he,ho,hG⟩)
 have hso:=λg cap w1 h hg=>B3C (B:=w.heap.size) (g:=g) (cap:=cap) hB l hn hm hs w1 h hg;clear hn hs h hB;go_enter Tryz.func116,Tryz.ntmps116
 go_wp2_with (first
  | (go_at_call 110;refine hcl.mono ?_;rintro e w1 ⟨g,cap,rfl,ho,hG⟩)
  | (go_at_call 157;refine(hso g cap w1 ho (ho.lt g rfl).2).mono ?_;rintro e w2 ⟨rfl,ho2,hg2⟩))
 go_ret;exact⟨g,cap,rfl,ho2,N4 ho hG hg2⟩
end Go.Proofs.YtgpglgbcobeogaaGreatDoor
namespace Go.Proofs.YtgpglgbcobeogaaGreatDoor
open Go Go.RowKit
structure Pd where
 k:Nat
 a1:Ax
 a2:Ax
 a3:Ax
 lo:Rat
 hi:Rat
def pdL(n:Nat)(LM:Nat->List Lm)(p:Pd):List Value:=[.slice p.a1.1 n p.a1.2,.slice p.a2.1 n p.a2.2,.slice p.a3.1 (LM p.k).length p.a3.2]++(qL p.lo++qL p.hi)
def pdP(p:Pd):Pc:=(p.k,p.lo,p.hi)
def A8L(D:Nat)(v:Value):Prop:=∀b,v.ownBlock=some b->b<D\/D+2<=b
def A1N(D:Nat)(v:Value)(A:Option Addr):Prop:=∀b off,A=some ⟨b,off,none⟩->v.ownBlock≠some b/\(b<D\/D+2<=b)
theorem Lqt.of_heap{u u':World}{A:Option Addr}{l:List Rat}(h:Lqt u A l)(hk:∀b off,A=some ⟨b,off,none⟩->b<u.heap.size->u'.heap[b]?=u.heap[b]?):Lqt u' A l:=by
 refine⟨λhne=>?_,λb off hA=>?_⟩
 ·obtain⟨b,off,eA,hb,hc⟩:=h.lq hne;obtain⟨cs,fr,hty⟩:=h.ty b off eA;have hs:=hk b off eA hb;exact⟨b,off,eA,L7 (hs.trans hty),λi q hi j v hj=>(cell_of_heap hs _).trans (hc i q hi j v hj)⟩
 ·obtain⟨cs,fr,hty⟩:=h.ty b off hA;exact⟨cs,fr,(hk b off hA (L7 hty)).trans hty⟩
theorem U4{u u':World}{B:Nat}{e:TypeId}{size n:Nat}{v:Value}{xs:List Value}(h:u.ownsRow B e size v n xs)(hk:∀b,v.ownBlock=some b->b<u.heap.size->u'.heap[b]?=u.heap[b]?):u'.ownsRow B e size v n xs:=by
 obtain⟨h0,h|⟨g,cap,cur,rfl,hb,hh,hn,hc,hs,ht⟩⟩:=h
 ·exact⟨h0,.inl h⟩
 ·exact⟨h0,.inr ⟨g,cap,cur,rfl,hb,(hk g rfl (L7 hh)).trans hh,hn,hc,hs,ht⟩⟩
structure PJ(B0 D n:Nat)(F B:Nat->List Rat)(LM:Nat->List Lm)(bg bp:Nat)(gg cg:Nat->Nat)(GM:Mx)(PL:List Rat)(pls:List Rat)(vpl vpc:Value)(ps:List Pd)(W:World):Prop where
 pl:W.ownsRow B0 48 5 vpl pls.length (pls.flatMap qL)
 pc:W.ownsRow B0 165 13 vpc ps.length (ps.flatMap (pdL n LM))
 rw:∀p∈ps,(Lqt W p.a1.1 (F p.k)/\A1N D vpl p.a1.1)/\(Lqt W p.a2.1 (B p.k)/\A1N D vpl p.a2.1)
 gm:MatW B0 n n bg n gg cg GM W
 gp:W.ownsRow B0 48 5 (.slice (some ⟨bp,0,none⟩) n n) n (PL.flatMap qL)
 ag:∀i,i<n->vpl.ownBlock≠some (gg i)/\gg i<D
 ap:vpl.ownBlock≠some bp/\bp<D
 ab:bg<D
 ol:A8L D vpl
 oc:A8L D vpc
section
variable {B0 D n:Nat} {F B:Nat->List Rat} {LM:Nat->List Lm} {bg bp:Nat} {gg cg:Nat->Nat} {GM:Mx} {PL:List Rat} {pls:List Rat} {vpl vpc:Value} {ps:List Pd} {W W':World}
theorem PJ.of_heap(h:PJ B0 D n F B LM bg bp gg cg GM PL pls vpl vpc ps W)(hk:∀b,b<W.heap.size->(vpl.ownBlock=some b\/vpc.ownBlock=some b\/b=bg\/b=bp\/(∃i,i<n/\b=gg i)\/∃p∈ps,(∃off,p.a1.1=some ⟨b,off,none⟩)\/∃off,p.a2.1=some ⟨b,off,none⟩)->W'.heap[b]?=W.heap[b]?):PJ B0 D n F B LM bg bp gg cg GM PL pls vpl vpc ps W' where
 pl:=U4 h.pl λb hb hlt=>hk b hlt (.inl hb)
 pc:=U4 h.pc λb hb hlt=>hk b hlt (.inr (.inl hb))
 rw p hp:=⟨⟨(h.rw p hp).1.1.of_heap λb off hA hlt=>hk b hlt (.inr (.inr (.inr (.inr (.inr ⟨p,hp,.inl ⟨off,hA⟩⟩))))),(h.rw p hp).1.2⟩,⟨(h.rw p hp).2.1.of_heap λb off hA hlt=>hk b hlt (.inr (.inr (.inr (.inr (.inr ⟨p,hp,.inr ⟨off,hA⟩⟩))))),(h.rw p hp).2.2⟩⟩
 gm:=⟨U4 h.gm.hd λb hb hlt=>hk b hlt (.inr (.inr (.inl (B8y hb).symm))),λi hi=>U4 (h.gm.row i hi) λb hb hlt=>hk b hlt (.inr (.inr (.inr (.inr (.inl ⟨i,hi,(B8y hb).symm⟩))))),h.gm.inj⟩
 gp:=U4 h.gp λb hb hlt=>hk b hlt (.inr (.inr (.inr (.inl (B8y hb).symm))))
 ag:=h.ag
 ap:=h.ap
 ab:=h.ab
 ol:=h.ol
 oc:=h.oc
theorem PJ.grow(h:PJ B0 D n F B LM bg bp gg cg GM PL pls vpl vpc ps W)(hg:A4 W W'):PJ B0 D n F B LM bg bp gg cg GM PL pls vpl vpc ps W':=h.of_heap λb hb _=>hg.block b hb
theorem PJ.putObj(h:PJ B0 D n F B LM bg bp gg cg GM PL pls vpl vpc ps W){k:Nat}{o:Obj}(hk:k=D\/k=D+1):PJ B0 D n F B LM bg bp gg cg GM PL pls vpl vpc ps (W.putObj k o):=h.of_heap λb hb hc=>by
 refine C1D ?_;rcases hc with hc|hc|hc|hc|⟨i,hi,hc⟩|⟨p,hp,⟨off,hc⟩|⟨off,hc⟩⟩
 ·have:=h.ol b hc;omega
 ·have:=h.oc b hc;omega
 ·have:=h.ab;omega
 ·have:=h.ap.2;omega
 ·have:=(h.ag i hi).2;omega
 ·have:=((h.rw p hp).1.2 b off hc).2;omega
 ·have:=((h.rw p hp).2.2 b off hc).2;omega
theorem PJ.gby(h:PJ B0 D n F B LM bg bp gg cg GM PL pls vpl vpc ps W){b:Nat}{T:TypeId}{cs:Array Value}(hb:Blk W b T cs)(hT:T≠48)(hc:vpc.ownBlock≠some b)(hbg:b≠bg)(hg:W.grownBy W' (some b)):PJ B0 D n F B LM bg bp gg cg GM PL pls vpl vpc ps W':=h.of_heap λk hk hc2=>by
 have key:∀ {A:Option Addr} {l:List Rat} {off:Nat},Lqt W A l->A=some ⟨k,off,none⟩->k≠b:=λhl hA e=>by
  obtain⟨cs',fr,hty⟩:=hl.ty k _ hA;unfold Blk at hb;rw[e,hb]at hty;injection hty with hty;injection hty with _ h3 _;exact hT h3
 refine hg.block k hk λe=>?_;have e:=B8y e;rcases hc2 with hc2|hc2|hc2|hc2|⟨i,hi,hc2⟩|⟨p,hp,⟨off,hc2⟩|⟨off,hc2⟩⟩
 ·exact E8 h.pl hb (λe=>hT e.symm) (by rw[hc2,e])
 ·exact hc (by rw[hc2,e])
 ·exact hbg (by rw[<-e,hc2])
 ·exact E8 h.gp hb (λe=>hT e.symm) (by rw[<-e,hc2];rfl)
 ·exact E8 (h.gm.row i hi) hb (λe=>hT e.symm) (by rw[<-e,hc2];rfl)
 ·exact key (h.rw p hp).1.1 hc2 e
 ·exact key (h.rw p hp).2.1 hc2 e
theorem PJ.over(h:PJ B0 D n F B LM bg bp gg cg GM PL pls vpl vpc ps W){b j:Nat}{T:TypeId}{cs:Array Value}{vs:List Value}(hb:Blk W b T cs)(hT:T≠48)(hc:vpc.ownBlock≠some b)(hbg:b≠bg)(hu:C2 W b j vs=W'):PJ B0 D n F B LM bg bp gg cg GM PL pls vpl vpc ps W':=h.gby hb hT hc hbg (by subst hu;exact V6 b vs j W)
theorem Lqt.gby{u u':World}{A:Option Addr}{l:List Rat}(h:Lqt u A l){b:Nat}{T:TypeId}{cs:Array Value}(hb:Blk u b T cs)(hT:T≠48)(hg:u.grownBy u' (some b)):Lqt u' A l:=h.of_heap λk off hA hk=>hg.block k hk λe=>by
 have e:=B8y e;obtain⟨cs',fr,hty⟩:=h.ty k off hA;unfold Blk at hb;rw[e,hb]at hty;injection hty with hty;injection hty with _ h3 _;exact hT h3
theorem KI.own{u u':World}{B:Nat}{e:TypeId}{size n:Nat}{v:Value}{xs:List Value}(h:u.ownsRow B e size v n xs)(he:chB (.cells #[] e (0,0))=true)(hg:u.grownBy u' v.ownBlock):KI u u':=by
 obtain⟨-,⟨e0,-⟩|⟨g,cap,cur,rfl,hb,hh,-⟩⟩:=h
 ·rw[e0]at hg;exact⟨hg.os,hg.tape,hg.output,hg.size,λk o hk _=>(hg.block k (Array.getElem?_eq_some_iff.1 hk).1 (λe=>by cases e)).trans hk⟩
 ·exact KI.by (g:=g) hg hh he
theorem KI.box{u u':World}{b i:Nat}{T:TypeId}{cs:Array Value}{vs:List Value}(hb:Blk u b T cs)(hT:chB (.cells #[] T (0,0))=true)(hu:C2 u b i vs=u'):KI u u':=KI.by (g:=b) (by subst hu;exact V6 b vs i u) hb hT
theorem A98{w u u':World}{b:Nat}{T:TypeId}{cs cs':Array Value}{bl:List (Nat×TypeId×Array Value)}(hB:Bx u ((b,T,cs)::bl))(hF:Fr w (((b,T,cs)::bl).map (·.1)))(hg:u.grownBy u' (some b))(h:Blk u' b T cs'):Bx u' ((b,T,cs')::bl):=by
 refine Bx.cons h (hB.tail.grown_ hg λe he hxe=>?_);have e1:=B8y hxe;have h2:=hF.2;simp only[List.map_cons,List.nodup_cons]at h2;exact h2.1 (e1 ▸ List.mem_map_of_mem he)
theorem A2y{u:World}{B B':Nat}{e e':TypeId}{size size' n n':Nat}{v v':Value}{xs xs':List Value}(h:u.ownsRow B e size v n xs)(h':u.ownsRow B' e' size' v' n' xs')(ht:e≠e'){b:Nat}(hb:v.ownBlock=some b):v'.ownBlock≠some b:=λhb'=>N7 h h' ht b hb hb'
theorem PJ.addPc(h:PJ B0 D n F B LM bg bp gg cg GM PL pls vpl vpc ps W){v':Value}{p:Pd}(h1:W'.ownsRow B0 165 13 v' (ps.length+1) (ps.flatMap (pdL n LM)++pdL n LM p))(hg:W.grownBy W' vpc.ownBlock)(hv:v'.ownBlock=vpc.ownBlock\/v'.ownBlock=some W.heap.size)(hD:D+2<=W.heap.size)
  (hr:(Lqt W p.a1.1 (F p.k)/\A1N D vpl p.a1.1)/\(Lqt W p.a2.1 (B p.k)/\A1N D vpl p.a2.1)):PJ B0 D n F B LM bg bp gg cg GM PL pls vpl v' (ps++[p]) W':=by
 have hk:∀b,b<W.heap.size->vpc.ownBlock≠some b->W'.heap[b]?=W.heap[b]?:=λb hb hne=>hg.block b hb (λe=>hne e.symm);have key:∀ {A:Option Addr} {l:List Rat},Lqt W A l->Lqt W' A l:=λhl=>hl.of_heap λb off hA hlt=>hk b hlt λe=>by
  obtain⟨cs',fr,hty⟩:=hl.ty b off hA;obtain⟨-,⟨e0,-⟩|⟨g,cap,cur,e0,hb,hh,-⟩⟩:=h.pc
  ·rw[e0]at e;cases e
  ·rw[e0]at e;have e:=B8y e;simp only at e;rw[<-e,hh]at hty;injection hty with hty;injection hty with _ h3 _;exact absurd h3 (by decide)
 refine⟨U4 h.pl λb hb hlt=>hk b hlt (A2y h.pl h.pc (by decide) hb),by rw[List.length_append,C0v];simpa using h1,λq hq=>?_,⟨U4 h.gm.hd λb hb hlt=>hk b hlt (A2y h.gm.hd h.pc (by decide) hb),λi hi=>U4 (h.gm.row i hi) λb hb hlt=>hk b hlt (A2y (h.gm.row i hi) h.pc (by decide) hb),h.gm.inj⟩,U4 h.gp λb hb hlt=>hk b hlt (A2y h.gp h.pc (by decide) hb),h.ag,h.ap,h.ab,h.ol,λb hb=>?_⟩
 ·rcases List.mem_append.1 hq with hq|hq
  ·exact⟨⟨key (h.rw q hq).1.1,(h.rw q hq).1.2⟩,⟨key (h.rw q hq).2.1,(h.rw q hq).2.2⟩⟩
  ·rw[List.mem_singleton]at hq;subst hq;exact⟨⟨key hr.1.1,hr.1.2⟩,⟨key hr.2.1,hr.2.2⟩⟩
 ·rcases hv with hv|hv
  ·exact h.oc b (hv ▸ hb)
  ·have:=B8y (hv.symm.trans hb);omega
theorem PJ.addPl(h:PJ B0 D n F B LM bg bp gg cg GM PL pls vpl vpc ps W){v':Value}{more:List Rat}(h1:W'.ownsRow B0 48 5 v' (pls.length+more.length) (pls.flatMap qL++more.flatMap qL))(hg:W.grownBy W' vpl.ownBlock)(hv:v'.ownBlock=vpl.ownBlock\/v'.ownBlock=some W.heap.size)(hD:D+2<=W.heap.size):PJ B0 D n F B LM bg bp gg cg GM PL (pls++more) v' vpc ps W':=by
 have hk:∀b,b<W.heap.size->vpl.ownBlock≠some b->W'.heap[b]?=W.heap[b]?:=λb hb hne=>hg.block b hb (λe=>hne e.symm);have hnv:∀b,b<W.heap.size->vpl.ownBlock≠some b->v'.ownBlock≠some b:=λb hb hne e=>by
  rcases hv with hv|hv
  ·exact hne (hv ▸ e)
  ·have:=B8y (hv.symm.trans e);omega
 have key:∀ {A:Option Addr} {l:List Rat},Lqt W A l->A1N D vpl A->Lqt W' A l/\A1N D v' A:=λhl hr=>⟨hl.of_heap λb off hA hlt=>hk b hlt (hr b off hA).1,λb off hA=>⟨hnv b (by
  obtain⟨cs',fr,hty⟩:=hl.ty b off hA
  exact L7 hty) (hr b off hA).1,(hr b off hA).2⟩⟩
 refine⟨by rw[List.length_append,C0v];exact h1,U4 h.pc λb hb hlt=>hk b hlt (A2y h.pc h.pl (by decide) hb),λq hq=>?_,⟨U4 h.gm.hd λb hb hlt=>hk b hlt (A2y h.gm.hd h.pl (by decide) hb),λi hi=>U4 (h.gm.row i hi) λb hb hlt=>hk b hlt (B8y hb ▸ (h.ag i hi).1),h.gm.inj⟩,U4 h.gp λb hb hlt=>hk b hlt (B8y hb ▸ h.ap.1),λi hi=>⟨hnv _ ((h.gm.row i hi).lt _ rfl).2 (h.ag i hi).1,(h.ag i hi).2⟩,⟨hnv _ (h.gp.lt _ rfl).2 h.ap.1,h.ap.2⟩,h.ab,λb hb=>?_,h.oc⟩
 ·obtain⟨k1,k2⟩:=key (h.rw q hq).1.1 (h.rw q hq).1.2;obtain⟨k3,k4⟩:=key (h.rw q hq).2.1 (h.rw q hq).2.2;exact⟨⟨k1,k2⟩,⟨k3,k4⟩⟩
 ·rcases hv with hv|hv
  ·exact h.ol b (hv ▸ hb)
  ·have:=B8y (hv.symm.trans hb);omega
end
theorem A3s{z S:Nat}(h2:2*z<=S):∀ {l:List Lm} {lo hi lo' hi':Rat},K6 l lo hi=some (lo',hi')->qs lo<=S->qs hi<=S->(∀x∈l,qs x.1<=z/\qs x.2<=z)->qs lo'<=S/\qs hi'<=S
 | [],lo,hi,lo',hi',h,h3,h4,_=>by
  unfold K6 at h;split at h
  ·cases h;exact⟨h3,h4⟩
  ·cases h
 | c::t,lo,hi,lo',hi',h,h3,h4,h5=>by
  unfold K6 at h;have ht:∀x∈t,qs x.1<=z/\qs x.2<=z:=λx hx=>h5 x (B8u _ hx);have hc:=h5 c (List.mem_cons_self);have hx:qs (H9 (I4 c.2) c.1)<=S:=by
   have k1:=A2D (I4 c.2) c.1;have k2:qs (I4 c.2)=qs c.2:=A2X _;unfold H9;unfold I4 at k1 k2⊢;omega
  split at h
  ·split at h
   ·cases h
   ·exact A3s h2 h h3 h4 ht
  ·split at h
   ·refine A3s h2 h ?_ h4 ht;unfold R9;split<;>assumption
   ·refine A3s h2 h h3 ?_ ht;unfold A0W;split<;>assumption
theorem B4L{LM:Nat->List Lm}{top:Rat}{K z S:Nat}(h2:2*z<=S)(ht:qs top<=S)(hS:1<=S)(hz:∀k,k<K->∀x∈LM k,qs x.1<=z/\qs x.2<=z):∀x∈I3 LM top K,qs x<=S:=λx hx=>by
 have h0:qs 0<=S:=B9A (by decide) hS;unfold I3 at hx;rcases List.mem_append.1 hx with hx|hx
 ·simp only[List.mem_cons,List.not_mem_nil,or_false]at hx;rcases hx with rfl|rfl
  ·exact h0
  ·exact ht
 ·obtain⟨p,hp,hx⟩:=List.mem_flatMap.1 hx;obtain⟨hk,hb⟩:=A3a.1 hp;obtain⟨g1,g2⟩:=A3s h2 hb h0 ht (hz _ hk);simp only[List.mem_cons,List.not_mem_nil,or_false]at hx;rcases hx with rfl|rfl
  ·exact g1
  ·exact g2
theorem B0d{a b:Rat}:E9 a b<=0↔a<=b:=by
 unfold E9;by_cases h1:a<b
 ·rw[if_pos h1];exact⟨λ_=>Rat.le_of_lt h1,λ_=>by decide⟩
 ·rw[if_neg h1];by_cases h2:b<a
  ·rw[if_pos h2];exact⟨λh=>absurd h (by decide),λh=>absurd h (by grind)⟩
  ·rw[if_neg h2];exact⟨λ_=>by grind,λ_=>by decide⟩
structure PR(U B0 D n:Nat)(F B:Nat->List Rat)(LM:Nat->List Lm)(vpc:Value)(ps:List Pd)(W:World):Prop where
 pc:W.ownsRow B0 165 13 vpc ps.length (ps.flatMap (pdL n LM))
 rw:∀p∈ps,(Lqt W p.a1.1 (F p.k)/\∀b off,p.a1.1=some ⟨b,off,none⟩->b<U)/\(Lqt W p.a2.1 (B p.k)/\∀b off,p.a2.1=some ⟨b,off,none⟩->b<U)
 df:W.heap[D]?=some (.deferred (some []))
section
variable {U B0 D n:Nat} {F B:Nat->List Rat} {LM:Nat->List Lm} {vpc:Value} {ps:List Pd} {W W':World}
theorem Lqt.lt{u:World}{A:Option Addr}{l:List Rat}(h:Lqt u A l):∀b off,A=some ⟨b,off,none⟩->b<u.heap.size:=λb off hA=>by
 obtain⟨cs,fr,hty⟩:=h.ty b off hA;exact L7 hty
theorem PJ.toPR{bg bp:Nat}{gg cg:Nat->Nat}{GM:Mx}{PL pls:List Rat}{vpl:Value}(h:PJ B0 D n F B LM bg bp gg cg GM PL pls vpl vpc ps W)(hd:W.heap[D]?=some (.deferred (some []))):PR W.heap.size B0 D n F B LM vpc ps W :=
 ⟨h.pc,λp hp=>⟨⟨(h.rw p hp).1.1,(h.rw p hp).1.1.lt⟩,⟨(h.rw p hp).2.1,(h.rw p hp).2.1.lt⟩⟩,hd⟩
theorem PR.of_heap(h:PR U B0 D n F B LM vpc ps W)(hk:∀b,b<W.heap.size->(vpc.ownBlock=some b\/b=D\/∃p∈ps,(∃off,p.a1.1=some ⟨b,off,none⟩)\/∃off,p.a2.1=some ⟨b,off,none⟩)->W'.heap[b]?=W.heap[b]?):PR U B0 D n F B LM vpc ps W' where
 pc:=U4 h.pc λb hb hlt=>hk b hlt (.inl hb)
 rw p hp:=⟨⟨(h.rw p hp).1.1.of_heap λb off hA hlt=>hk b hlt (.inr (.inr ⟨p,hp,.inl ⟨off,hA⟩⟩)),(h.rw p hp).1.2⟩,⟨(h.rw p hp).2.1.of_heap λb off hA hlt=>hk b hlt (.inr (.inr ⟨p,hp,.inr ⟨off,hA⟩⟩)),(h.rw p hp).2.2⟩⟩
 df:=(hk D (L7 h.df) (.inr (.inl rfl))).trans h.df
theorem PR.grow(h:PR U B0 D n F B LM vpc ps W)(hg:A4 W W'):PR U B0 D n F B LM vpc ps W':=h.of_heap λb hb _=>hg.block b hb
theorem A6R{W:World}{b D:Nat}{cs:Array Value}{T:TypeId}{fr:Nat×Nat}(hd:W.heap[D]?=some (.deferred (some [])))(hb:W.heap[b]?=some (.cells cs T fr)):b≠D:=λe=>by
 rw[e,hd]at hb;cases hb
theorem PR.by(h:PR U B0 D n F B LM vpc ps W){b:Nat}{T:TypeId}{cs:Array Value}{fr:Nat×Nat}(hb:W.heap[b]?=some (.cells cs T fr))(hp:vpc.ownBlock≠some b)(hT:T≠48\/U<=b)(hg:W.grownBy W' (some b)):PR U B0 D n F B LM vpc ps W':=h.of_heap λk hk hc=>by
 have key:∀ {A:Option Addr} {l:List Rat} {off:Nat},Lqt W A l->(∀b off,A=some ⟨b,off,none⟩->b<U)->A=some ⟨k,off,none⟩->k≠b:=λhl hu hA e=>by
  rcases hT with hT|hT
  ·obtain⟨cs',fr',hty⟩:=hl.ty k _ hA;rw[e,hb]at hty;injection hty with hty;injection hty with _ h3 _;exact hT h3
  ·have:=hu k _ hA;omega
 refine hg.block k hk λe=>?_;have e:=B8y e;rcases hc with hc|hc|⟨p,hq,⟨off,hc⟩|⟨off,hc⟩⟩
 ·exact hp (by rw[hc,e])
 ·exact A6R h.df hb (e.symm.trans hc)
 ·exact key (h.rw p hq).1.1 (h.rw p hq).1.2 hc e
 ·exact key (h.rw p hq).2.1 (h.rw p hq).2.2 hc e
theorem PR.over(h:PR U B0 D n F B LM vpc ps W){b j:Nat}{T:TypeId}{cs:Array Value}{vs:List Value}(hb:Blk W b T cs)(hT:T≠48)(hT2:165≠T)(hu:C2 W b j vs=W'):PR U B0 D n F B LM vpc ps W' :=
 h.by hb (E8 h.pc hb hT2) (.inl hT) (by subst hu;exact V6 b vs j W)
theorem PR.gq(h:PR U B0 D n F B LM vpc ps W){g m c B1:Nat}{xs:List Value}(ho:W.ownsRow B1 48 5 (.slice (some ⟨g,0,none⟩) m c) m xs)(hU:U<=B1)(hg:W.grownBy W' (some g)):PR U B0 D n F B LM vpc ps W':=by
 obtain⟨-,⟨e,-⟩|⟨g',cap',cur,e,hb,hh,-⟩⟩:=id ho
 ·cases e
 ·cases e;exact h.by hh (λe=>N7 h.pc ho (by decide) g e rfl) (.inr (B9A hU hb)) hg
theorem PR.read(h:PR U B0 D n F B LM vpc ps W):∃(A:Option Addr) (c:Nat),vpc = .slice A ps.length c/\∀j,(hj:j<ps.length)->∃(b o:Nat),A=some ⟨b,o,none⟩/\∀u,A4 W u->∀t v,(pdL n LM ps[j])[t]?=some v->u.cell? ⟨b,o+j*13+t,none⟩=some v:=by
 obtain⟨A,c,e,-,hL,-⟩:=A01 (enc:=pdL n LM) (λ_=>rfl) (by decide) h.pc;refine⟨A,c,e,λj hj=>?_⟩;obtain⟨b,o,e1,hc⟩:=hL.at hj;exact⟨b,o,e1,λu hg t v hv=>hc u hg t v hv⟩
end
structure KnR(B:Nat)(v:Value)(ks:List Kq)(W:World):Prop where
 o:W.ownsRow B 84 6 v ks.length (ks.flatMap kqL)
 q:∀x∈ks,Lqt W x.2.1.1 x.2.2
theorem KnR.start(B:Nat)(u:World):KnR B (.slice none 0 0) [] u:=⟨C0n _ _ _ _,λx hx=>absurd hx List.not_mem_nil⟩
theorem KnR.grow{B:Nat}{v:Value}{ks:List Kq}{u W:World}(h:KnR B v ks u)(hg:A4 u W):KnR B v ks W:=⟨C0 h.o hg,λx hx=>(h.q x hx).grow hg⟩
theorem KnR.over{B b j:Nat}{v:Value}{ks:List Kq}{u W:World}{T:TypeId}{cs:Array Value}{vs:List Value}(h:KnR B v ks u)(hb:Blk u b T cs)(hT:84≠T)(hq:T≠48\/∀x∈ks,∀off,x.2.1.1≠some ⟨b,off,none⟩)(hu:C2 u b j vs=W):KnR B v ks W :=
 ⟨H5 h.o (E8 h.o hb hT) hu,λx hx=>(h.q x hx).of_heap λk off hA hk=>(hu ▸ V6 b vs j u:u.grownBy W (some b)).block k hk λe=>by
  have e:=B8y e;rcases hq with hq|hq
  ·obtain⟨cs',fr',hty⟩:=(h.q x hx).ty k off hA;unfold Blk at hb;rw[e,hb]at hty;injection hty with hty;injection hty with _ h3 _;exact hq h3
  ·exact hq x hx off (by rw[hA,e])⟩
theorem KnR.lt{B:Nat}{v:Value}{ks:List Kq}{u:World}(h:KnR B v ks u){b:Nat}(hb:u.heap.size<=b):∀x∈ks,∀off,x.2.1.1≠some ⟨b,off,none⟩:=λx hx off e=>by
 have:=(h.q x hx).lt b off e;omega
theorem KnR.add{B:Nat}{v v':Value}{ks:List Kq}{u w':World}{o:Obj}{y:Kq}(h:KnR B v ks u)(hy:Lqt u y.2.1.1 y.2.2)(h1:w'.ownsRow B 84 6 v' (ks.length+1) (ks.flatMap kqL++kqL y))(hg:(u.alloc o).grownBy w' v.ownBlock):KnR B v' (ks++[y]) w' :=
 ⟨by rw[List.length_append,C0v];simpa using h1,λz hz=>by
  rcases List.mem_append.1 hz with hz|hz
  ·exact(h.q z hz).stay h.o (by decide) hg
  ·rw[List.mem_singleton]at hz;subst hz
   exact hy.stay h.o (by decide) hg⟩
theorem KnR.lk{B:Nat}{v:Value}{ks:List Kq}{u:World}(h:KnR B v ks u):∃A c,v = .slice A ks.length c/\Lk u A ks:=by
 obtain⟨A,c,e,-,h1,-⟩:=A01 A6D (by omega) h.o;exact⟨A,c,e,h1,λx hx=>(h.q x hx).lq⟩
theorem B1z{W:World}{D B n:Nat}{e:TypeId}{size:Nat}{v:Value}{xs:List Value}{o:Obj}(hd:W.heap[D]?=some (.deferred (some [])))(h:W.ownsRow B e size v n xs):(W.putObj D o).ownsRow B e size v n xs:=U4 h λb hb hlt=>C1D (by
 obtain⟨-,⟨e0,-⟩|⟨g',cap',cur,e0,-,hh,-⟩⟩:=h
 ·rw[e0]at hb;cases hb
 ·rw[e0]at hb;have hb:=B8y hb;simp only at hb;rw[hb]at hh
  exact A6R hd hh)
theorem Lqt.putD{W:World}{D:Nat}{A:Option Addr}{l:List Rat}{o:Obj}(hd:W.heap[D]?=some (.deferred (some [])))(h:Lqt W A l):Lqt (W.putObj D o) A l:=h.of_heap λb off hA hlt=>C1D (by
 obtain⟨cs,fr,hty⟩:=h.ty b off hA
 exact A6R hd hty)
theorem B7W{F B:Nat->List Rat}{L j:Nat}{l:List Pc}{a:Rat}{p:Pc}(hj:l[j]?=some p)(hno:∀(t:Nat) (q:Pc),t<j->l[t]?=some q->¬(q.2.1<=a/\a<=q.2.2))(hyes:p.2.1<=a/\a<=p.2.2):knA F B L l a=[(a,I6 (F p.1) (B p.1) L a)]:=by
 have h:A09 l a=some p:=by
  unfold A09;obtain⟨hjl,rfl⟩:=List.getElem?_eq_some_iff.1 hj;rw[List.find?_eq_some_iff_getElem];refine⟨by simp[hyes.1,hyes.2],j,hjl,rfl,λt ht=>?_⟩;have:=hno t l[t] ht (B9Y (by omega));rw[Bool.not_eq_true',B9p,decide_eq_false_iff_not,decide_eq_false_iff_not];by_cases h1:l[t].2.1<=a
  ·exact .inr λh2=>this ⟨h1,h2⟩
  ·exact .inl h1
 unfold knA;rw[h]
theorem B7m{F B:Nat->List Rat}{L:Nat}{l:List Pc}{a:Rat}(hno:∀(t:Nat) (q:Pc),l[t]?=some q->¬(q.2.1<=a/\a<=q.2.2)):knA F B L l a=[]:=by
 have h:A09 l a=none:=by
  unfold A09;rw[List.find?_eq_none];intro x hx;obtain⟨t,ht,rfl⟩:=C0m hx;have:=hno t l[t] (B9Y ht);intro h;rw[Bool.and_eq_true,C1J,C1J]at h;exact this h
 unfold knA;rw[h]
theorem B5Y{F B:Nat->List Rat}{LM:Nat->List Lm}{top:Rat}{L K:Nat}{x:Kn}(h:x∈A1b F B LM top L K):x.1∈I3 LM top K/\∃k,k<K/\x.2=I6 (F k) (B k) L x.1:=by
 unfold A1b at h;obtain⟨a,ha,hx⟩:=List.mem_flatMap.1 h;unfold knA at hx
 cases hp:A09 (O8 LM top K) a with
 | none=>rw[hp]at hx;cases hx
 | some p =>
  rw[hp]at hx;simp only[List.mem_singleton]at hx;subst hx;exact⟨A1a.1 ha,p.1,(A9j hp).1,rfl⟩
theorem B5k{F B:List Rat}{L z S:Nat}{a:Rat}(h1:∀i,i<L->qs (gq F i)<=z)(h2:∀i,i<L->qs (gq B i)<=z)(ha:qs a<=S){j:Nat}(hj:j<L):qs (gq (I6 F B L a) j)<=2*z+S+1:=by
 rw[show gq (I6 F B L a) j=G5 (gq F j) (D5 (gq B j) a)from W5 _ hj];have k1:=h1 j hj;have k2:=h2 j hj;have k3:=Z8 (gq B j) a;have k4:=A3i (gq F j) (D5 (gq B j) a);unfold G5;unfold D5 at *;omega
def C13(W:World)(b o n m:Nat)(p:Pd):Prop:=W.cell? ⟨b,o,none⟩=some (.slice p.a1.1 n p.a1.2)/\W.cell? ⟨b,o+1,none⟩=some (.slice p.a2.1 n p.a2.2)/\W.cell? ⟨b,o+2,none⟩=some (.slice p.a3.1 m p.a3.2)/\Cq W b (o+3) p.lo/\Cq W b (o+8) p.hi
theorem B4P{W:World}{b o n:Nat}{LM:Nat->List Lm}{p:Pd}(h:∀t v,(pdL n LM p)[t]?=some v->W.cell? ⟨b,o+t,none⟩=some v):C13 W b o n (LM p.k).length p :=
 ⟨h 0 _ rfl,h 1 _ rfl,h 2 _ rfl,⟨h 3 _ rfl,h 4 _ rfl,h 5 _ rfl,h 6 _ rfl,h 7 _ rfl⟩,h 8 _ rfl,h 9 _ rfl,h 10 _ rfl,h 11 _ rfl,h 12 _ rfl⟩
theorem B5a{α β:Type}{l:List α}{f:α->List β}{i:Nat}(h:i<l.length):(l.take (i+1)).flatMap f=(l.take i).flatMap f++f l[i]:=by
 rw[B9X h,C0v];simp
end Go.Proofs.YtgpglgbcobeogaaGreatDoor
