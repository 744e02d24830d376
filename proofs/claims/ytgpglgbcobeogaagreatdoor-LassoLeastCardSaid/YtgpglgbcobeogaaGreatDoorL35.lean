import Derived.Test.YtgpglgbcobeogaaGreatDoorL34
set_option linter.unusedSimpArgs false
set_option linter.unusedVariables false
set_option maxHeartbeats 4000000
set_option maxRecDepth 100000
namespace Go.Proofs.YtgpglgbcobeogaaGreatDoor
open Go Go.RowKit
theorem B7o(A1 A2 A3:Ax)(n n3:Nat)(fl bl:List Rat)(a:Rat)(hf:fl.length=n)(hb:bl.length=n)(hn:n<=1000)(s:Nat)(hs:∀i,i<n->qs (gq fl i)<=s)(hs2:∀i,i<n->qs (gq bl i)<=s)(ha:qs a<=s)(hBz:4*s+10<=BIG)(w:World)(h:Lq w A1.1 fl)(h2:Lq w A2.1 bl)(HT:Tab w) :
  Calls Tryz.prog 63 #[.agg #[.slice A1.1 n A1.2,.slice A2.1 n A2.2,.slice A3.1 n3 A3.2],qV a] w (E9 (λx:Ax=>.slice x.1 n x.2) (λx W=>W.ownsRow w.heap.size 48 5 (.slice x.1 n x.2) n ((M6 fl bl n a).flatMap qL)/\∃b,x.1=some ⟨b,0,none⟩/\w.heap.size<=b) w):=by
 have hBm:=I6;have hat:∀i,i<n->∃(b1 o1 b4 o4:Nat) (X Y E:Rat),A1.1=some ⟨b1,o1,none⟩/\A2.1=some ⟨b4,o4,none⟩/\(∀W,A4 w W->Cq W b1 (o1+i*5) X/\Cq W b4 (o4+i*5) Y)/\(∀W,Tab W->Calls Tryz.prog 29 #[qV Y,qV a] W λe w'=>e = .returned (qV E)/\A4 W w')/\(∀W,Tab W->Calls Tryz.prog 95 #[qV X,qV E] W λe w'=>e = .returned (qV (G9 X E))/\A4 W w')/\G9 X E=G9 (gq fl i) (C3 (gq bl i) a):=λi hi=>by
  obtain⟨b1,o1,e1⟩:=h.addr (by omega);obtain⟨b4,o4,e4⟩:=h2.addr (by omega);rw[e1]at h;rw[e4]at h2;have z1:=hs i hi;have z2:=hs2 i hi;have z3:=Y4 (gq bl i) a;exact⟨b1,o1,b4,o4,gq fl i,gq bl i,C3 (gq bl i) a,e1,e4,λW hg=>⟨(h.grow hg).read (by omega),(h2.grow hg).read (by omega)⟩,λW hT=>A1d _ _ W (by omega) hT,λW hT=>A3g _ _ W (by unfold C3;omega) hT,rfl⟩
 unfold M6;obtain⟨f,hfe⟩:∃f:Nat->Rat,f=λi=>G9 (gq fl i) (C3 (gq bl i) a):=⟨_,rfl⟩
 have hfi:∀i,G9 (gq fl i) (C3 (gq bl i) a)=f i:=by rw[hfe];exact λ_=>rfl
 simp only[hfi]at hat;rw[<-hfe];have hmk:=A1R n (by omega) (n:Int) rfl;obtain⟨A1,c1⟩:=A1;obtain⟨A2,c2⟩:=A2;simp only at hat;have Hat:=B8S hat;have Hmk:=B8S hmk;clear hat hmk hfe hfi h h2 hs hs2 hf hb;go_enter Tryz.func63,Tryz.ntmps63;refine en2 ?_;intro u hG b3 b2 hB hF;refine B8N ?_;have hmk:=Hmk.out;have r:=hB.r;simp only[BxR]at r;refine N5 ?_;intro K hN;go_wp2_with fail;clear r;generalize hv:World.alloc u _=v;have hrow:=A1H hG.sz (by omega) hv;have hgv:A4 u v:=hv ▸ A4.alloc u _;have hG2:=hG.trans hgv;have hB2:=hB.grow hgv;have hg2:u.heap.size≠b2:=B9V hB.head.lt;have hg3:u.heap.size≠b3:=B9V hB.tail.head.lt;have h2w:=hF.1 b2 (by simp);have h3w:=hF.1 b3 (by simp);have h23:b2≠b3:=λe=>by
  have:=hF.2;simp[e]at this
 clear hv hG hB hmk hgv;rw[<-A2E f n]at hrow;generalize u.heap.size=g at hrow hg2 hg3⊢;have Ho:=B8S hrow;have hG:=hG2;have hB:=hB2;clear hrow hG2 hB2;obtain⟨u,rfl⟩:=exQ v;refine NoK.norm (hN _ _ ?_);clear hN K;refine A6 ?_;refine B8N ?_;refine r0T ?_;refine B8v ?_;clear hF;go_loopw [13] (λs0 wr=>∃i:Nat,i<=n/\s0 = .int .i64 i/\wr.ownsRow w.heap.size 48 5 (.slice (some ⟨g,0,none⟩) n n) n ((K7 f n i).flatMap qL)/\Bx wr [(b2,115,#[.slice A1 n c1,.slice A2 n c2,.slice A3.1 n3 A3.2]),(b3,48,A0E a)]/\A4 w wr) (λs0 _=>n-(intOf s0).toNat)
 case atStart=>exact⟨0,B8k _,rfl,Ho.out,hB,hG⟩
 case round =>
  clear hG Ho hB;obtain⟨i,hi,rfl,ho,hB,hG⟩:=hrel;obtain⟨u,rfl⟩:=exQ wr;have Ho:=B8S ho
  have hF:Fr w [b2,b3]:=⟨λb hb=>by
   simp only[List.mem_cons,List.not_mem_nil,or_false]at hb;rcases hb with rfl|rfl
   ·exact h2w
   ·exact h3w,by simp;exact h23⟩
  clear ho;rcases B73 i n with hlt|hge
  ·have hdec:decide ((i:Int)<(n:Int))=true:=by simp;omega
   have hin:(i:Int)<(n:Int):=by omega
   have hst:=A1j (f:=f) hlt;obtain⟨b1,o1,b4,o4,X,Y,E,e1,e4,hrd,hml,had,eQ⟩:=Hat.out i hlt;rw[<-eQ]at hst;subst e1 e4;obtain⟨Q,hQ⟩:∃q,q=G9 X E:=⟨_,rfl⟩
   rw[<-hQ]at hst;simp only[<-hQ]at had;have Hst:=B8S hst;have Hrd:=B8S hrd;have Hml:=B8S hml;have Had:=B8S had;clear hst hrd hml had hQ eQ;refine r0T ?_;refine B8N ?_;refine B8V (rfl) ?_;refine B8U ?_;refine A6 ?_;refine B8N ?_;refine B8v ?_;refine r0T ?_;refine rdC G7 [] [(0,0),(0,1),(0,2),(0,3),(0,4),(0,5),(0,6),(0,7),(0,8),(0,9),(0,10),(0,11),(0,12),(1,13),(1,14),(0,15)] hB hG λK L hN hL=>?_
   repeat first|refine gya ?_|refine gyr ?_|refine gna ?_|refine gyb (by(rintro v ⟨hgu,hB,hG,-⟩ N hN;have r:=hB.r;simp only[BxR]at r;obtain⟨⟨y1,y2,y3,y4,y5⟩,x1,x2,x3,x4,x5⟩:=Hrd.out v hG;go_simp;exact hN)) ?_
   refine gmd (C:=λv ⟨hgu,hB,hG,_⟩=>Hml.out _ (HT.grow hG)) ?_;refine gmd (C:=λv ⟨hgu,hB,hG,_⟩=>Had.out _ (HT.grow hG)) ?_;refine gs ?_;refine geC hL ?_;clear hB hG hL L;rintro u ⟨hgu,hB,hG,-⟩;have Ho2:=B8S (C5 Ho.out hgu);clear Ho;have Ho:=Ho2;clear Ho2;obtain⟨z0,z1,z2,z3,z4,o0,o1,o2,o3,o4,hfz⟩:=A1C (enc:=qL) (λ_=>rfl) Ho.out (Q0 f n i).symm i (by rw[Q0];exact hlt);clear hgu;refine gt ?_;clear hN K;clear o0 o1 o2 o3 o4 hfz;generalize hu0:World.setCell (World.setCell (World.setCell (World.setCell (World.setCell u _ _) _ _) _ _) _ _) _ _=u0;have hu1:C7 u g (i*5) (qL Q)=u0:=hu0;have hP:=P6 (enc:=qL) (size:=5) (ps:=K7 f n i) (λ_=>rfl) Ho.out i Q (by rw[Q0];exact hlt);rw[Hst.out,hu1]at hP;have hG2:=O5 Ho.out hG hP.2
   have hB2:=hB.grown_ hP.2 (λe he hxe=>by
    have e2:=B78 hxe;simp only[List.mem_cons,List.not_mem_nil,or_false]at he;rcases he with rfl|rfl
    ·exact hg2 e2.symm
    ·exact hg3 e2.symm)
   have Ho2:=B8S hP.1;clear hG hB Ho hP hu1 hu0;have hG:=hG2;have hB:=hB2;have Ho:=Ho2;clear hG2 Ho2 hB2;obtain⟨u,rfl⟩:=exQ u0;refine C8 ?_;refine A6 ?_;refine r0E ?_;refine A6 ?_;go_roundw
   case rel=>exact⟨i+1,by omega,by go_num,Ho.out,hB,hG⟩
   case measure=>simp[intOf];omega
  ·obtain rfl:n=i:=by omega
   have hdec:decide ((n:Int)<(n:Int))=false:=by simp
   have ho:=Ho.out;rw[A1m]at ho;have HL:=B8S ho;have hgw:=(Ho.out.lt g rfl).1;clear ho Ho;refine r0T ?_;refine B8N ?_;refine B8T (rfl) ?_;refine B8x ?_;refine B7 ?_;refine B7 ?_;refine D0 ?_;refine A6 ?_;refine r0T ?_;refine rt Tryz.results63 ?_;exact⟨(some ⟨g,0,none⟩,n),rfl,⟨HL.out,g,rfl,hgw⟩,hG⟩
theorem B0w(A1 A2 A3:Ax)(n n3:Nat)(fl bl:List Rat)(a:Rat)(hf:fl.length=n)(hb:bl.length=n)(hn:n<=1000)(s:Nat)(hs:∀i,i<n->qs (gq fl i)<=s)(hs2:∀i,i<n->qs (gq bl i)<=s)(ha:qs a<=s)(hBz:4*s+10<=BIG)(w:World)(h:Lq w A1.1 fl)(h2:Lq w A2.1 bl)(HT:Tab w) :
  Calls Tryz.prog 63 #[.agg #[.slice A1.1 n A1.2,.slice A2.1 n A2.2,.slice A3.1 n3 A3.2],qV a] w (E9 (λx:Ax=>.slice x.1 n x.2) (λx W=>Lq W x.1 (M6 fl bl n a)/\∃b,x.1=some ⟨b,0,none⟩/\w.heap.size<=b) w) :=
 (B7o A1 A2 A3 n n3 fl bl a hf hb hn s hs hs2 ha hBz w h h2 HT).mono λe w' ⟨x,g1,⟨g2,g3⟩,g4⟩=>by
  obtain⟨A9,c9,e9,-,-,hL,-⟩:=Q8 g2;cases e9;exact⟨x,g1,⟨hL,g3⟩,g4⟩
section
variable {P:Program} {ops:Array Oper} {Q:Exit->Act->World->Prop}
theorem A8d{md:Region.Mode}:∀(fuel:Nat) (listed:Array Bool) (a:Act) (w:World),wpAny P md ops Q fuel listed a w->wpAnyH P md ops Q (λ_=>True) fuel listed a w
 | 0,_,_,_,h=>h
 | fuel+1,_,_,_,h=>⟨h.1,λi hi=>wpOp_mono (λa' w' h'=>⟨trivial,A8d fuel _ a' w' h'⟩) (h.2 i hi)⟩
structure MkO(P:Program)(ops:Array Oper)(o:Oper)(a:Act)(f:Nat->Value)(b:Obj):Prop where
 w:Region.wanted o (yielded ops a.tmps)=true
 r:∀v:World,(execOp a.eval o).run P v = .ok (.value (f v.heap.size)) (v.alloc b)
theorem MkO.put{o:Oper}{a:Act}{f:Nat->Value}{b:Obj}{d:Option Tmp}{u:Value}(hs:∀cs b,o.op ≠ .select cs b)(hd:∀t,d=some t->t∉o.looksAt ops)(h:MkO P ops o a f b):MkO P ops o (a.put d u) f b :=
 ⟨by rw[wanted_put o a d u hd];exact h.w,λv=>by rw[execOp_put o hs a d u hd];exact h.r v⟩
theorem MkO.op{o:Oper}{a:Act}{f:Nat->Value}{b:Obj}{i:Nat}{K:Act->World->Prop}{w:World}(hi:ops[i]?=some o)(h:MkO P ops o a f b)(hk:K (a.put o.dst (f w.heap.size)) (w.alloc b)):wpOp P ops Q i K a w:=by
 unfold wpOp;simp only[hi,h.w,if_true];refine .inl ?_;unfold Oper.wp;rw[h.r];exact hk
def A7s(ops:Array Oper):Bool :=
 Region.noSelect ops&&decide (ops.size=7) &&
 Region.free .any ops #[false,false,false,false,false,false,false] 0&&(Region.ready .any ops #[false,false,false,false,false,false,false]).contains 0 &&
 Region.free .any ops #[true,false,false,false,false,false,false] 2&&(Region.ready .any ops #[true,false,false,false,false,false,false]).contains 2 &&
 decide (Region.ready .any ops #[true,false,true,false,false,false,false]=[1,3,5]) &&
 decide (Region.ready .any ops #[true,true,true,false,false,false,false]=[3,5]) &&
 decide (Region.ready .any ops #[true,false,true,true,false,false,false]=[1,5]) &&
 decide (Region.ready .any ops #[true,false,true,false,false,true,false]=[1,3]) &&
 decide (Region.ready .any ops #[true,true,true,false,false,true,false]=[3]) &&
 decide (Region.ready .any ops #[true,false,true,true,false,true,false]=[1]) &&
 Region.free .any ops #[true,true,true,true,false,false,false] 4&&(Region.ready .any ops #[true,true,true,true,false,false,false]).contains 4 &&
 Region.free .any ops #[true,true,true,true,false,true,false] 4&&(Region.ready .any ops #[true,true,true,true,false,true,false]).contains 4 &&
 decide (Region.ready .any ops #[true,true,true,true,true,false,false]=[5]) &&
 Region.seqB .any ops 1 6 #[true,true,true,true,true,true,false]
theorem A8x{id:Nat}{a:Act}{u:World}{m0 k1 m2 k3 b4 a5 s6:Oper}(T1 T3:Nat->World->Prop)(f1 f3 f5:Nat->Value)(o1 o3 o5:Obj)(v0 v2:Value)(v4:Nat->Nat->Value)
  (hm:P.follows .mixedOrders=true) (hB:A7s #[m0,k1,m2,k3,b4,a5,s6]=true) (hap:(k1.apart #[m0,k1,m2,k3,b4,a5,s6] k3&&k1.apart #[m0,k1,m2,k3,b4,a5,s6] a5&&k3.apart #[m0,k1,m2,k3,b4,a5,s6] a5&&b4.apart #[m0,k1,m2,k3,b4,a5,s6] a5)=true)
  (h0:YieldsIf P #[m0,k1,m2,k3,b4,a5,s6] (λ_=>True) m0 v0 a)
  (h2:YieldsIf P #[m0,k1,m2,k3,b4,a5,s6] (λ_=>True) m2 v2 (a.put m0.dst v0))
  (h1:MkO P #[m0,k1,m2,k3,b4,a5,s6] k1 ((a.put m0.dst v0).put m2.dst v2) f1 o1)
  (h3:MkO P #[m0,k1,m2,k3,b4,a5,s6] k3 ((a.put m0.dst v0).put m2.dst v2) f3 o3)
  (h5:MkO P #[m0,k1,m2,k3,b4,a5,s6] a5 ((a.put m0.dst v0).put m2.dst v2) f5 o5)
  (h4:∀x1 x3,YieldsIf P #[m0,k1,m2,k3,b4,a5,s6] (λ_=>True) b4 (v4 x1 x3) ((((a.put m0.dst v0).put m2.dst v2).put k1.dst (f1 x1)).put k3.dst (f3 x3)))
  (hT1:∀v,A4 u v->T1 v.heap.size (v.alloc o1)) (hT3:∀v,A4 u v->T3 v.heap.size (v.alloc o3))
  (hm1:∀x v v',A4 v v'->T1 x v->T1 x v') (hm3:∀x v v',A4 v v'->T3 x v->T3 x v')
  (h:∀K:Act->World->Prop,(∀a w,Q .normal a w->K a w)->∀x1 x3 x5 v,A4 u v->u.heap.size<=x5->T1 x1 v->T3 x3 v->v.heap[x5]?=some o5->x1≠x3->wpList P #[m0,k1,m2,k3,b4,a5,s6] (NoK K) [s6] ((((((a.put m0.dst v0).put m2.dst v2).put k1.dst (f1 x1)).put k3.dst (f3 x3)).put b4.dst (v4 x1 x3)).put a5.dst (f5 x5)) v) :
  (Code.region id #[m0,k1,m2,k3,b4,a5,s6] true).wp P Q a u:=by
 refine B8A NoP.up ?_;have hq:∀(i:Nat) (oi:Oper) (v:Value) (c) (a:Act) (w:World),NoP Q (.panic c) (a.put oi.dst v) w->NoP Q (.panic c) a w:=λ_ _ _ _ _ _ h=>h;simp only[Bool.and_eq_true]at hap;obtain⟨⟨⟨p13,p15⟩,p35⟩,p45⟩:=hap;generalize hops:#[m0,k1,m2,k3,b4,a5,s6]=ops at *;have e0:ops[0]?=some m0:=by rw[<-hops];rfl
 have e1:ops[1]?=some k1:=by rw[<-hops];rfl
 have e2:ops[2]?=some m2:=by rw[<-hops];rfl
 have e3:ops[3]?=some k3:=by rw[<-hops];rfl
 have e4:ops[4]?=some b4:=by rw[<-hops];rfl
 have e5:ops[5]?=some a5:=by rw[<-hops];rfl
 have e6:ops[6]?=some s6:=by rw[<-hops];rfl
 simp only[A7s,Bool.and_eq_true,decide_eq_true_eq]at hB;obtain⟨⟨⟨⟨⟨⟨⟨⟨⟨⟨⟨⟨⟨⟨⟨⟨⟨hns,hsz⟩,q0⟩,q0'⟩,q2⟩,q2'⟩,r135⟩,r35⟩,r15⟩,r13⟩,r3⟩,r1⟩,q4⟩,q4'⟩,q45⟩,q45'⟩,r5⟩,rs⟩:=hB;have hsel:=B77 hns;have n1:∀cs b,k1.op ≠ .select cs b:=λcs b=>hsel 1 k1 cs b e1;have n3:∀cs b,k3.op ≠ .select cs b:=λcs b=>hsel 3 k3 cs b e3;have n5:∀cs b,a5.op ≠ .select cs b:=λcs b=>hsel 5 a5 cs b e5;have n4:∀cs b,b4.op ≠ .select cs b:=λcs b=>hsel 4 b4 cs b e4;obtain⟨p13a,p13b,p13c⟩:=Oper.apart_spec p13;obtain⟨p15a,p15b,p15c⟩:=Oper.apart_spec p15;obtain⟨p35a,p35b,p35c⟩:=Oper.apart_spec p35;obtain⟨p45a,p45b,p45c⟩:=Oper.apart_spec p45;refine wp_region_held hm (S:=λ_=>True) ?_;rw[show Array.replicate ops.size false=#[false,false,false,false,false,false,false]from by rw[hsz];rfl,hsz];have hgu:A4 u ({ u with drawn:=u.drawn+1 }:World):=A4.drew u;generalize ({ u with drawn:=u.drawn+1 }:World)=z at hgu⊢;refine C0H e0 hns q0 q0' (λ_ _ _ h=>h) h0 trivial ?_;refine C0H (listed:=#[true,false,false,false,false,false,false]) e2 hns q2 q2' (λ_ _ _ h=>h) h2 trivial ?_;generalize (a.put m0.dst v0).put m2.dst v2=c at *;show wpAnyH P .any ops (NoP Q) (λ_=>True) 5 #[true,false,true,false,false,false,false] c z;have hend:∀x1 x3 x5 v,A4 u v->u.heap.size<=x5->T1 x1 v->T3 x3 v->v.heap[x5]?=some o5->x1≠x3->wpAnyH P .any ops (NoP Q) (λ_=>True) 1 #[true,true,true,true,true,true,false] ((((c.put k1.dst (f1 x1)).put k3.dst (f3 x3)).put b4.dst (v4 x1 x3)).put a5.dst (f5 x5)) v:=λx1 x3 x5 v g1 g2 g3 g4 g5 g6=>by
  refine A8d _ _ _ _ ?_;have hj:∀j:Nat,([s6]:List Oper)[j]?=ops[6+j]?:=λj=>by
   rw[<-hops]
   match j with
   | 0=>rfl
   | j+1=>simp[show 6+(j+1)=j+7 from by omega]
  refine wpAny_of_seq (md:=.any) (Q':=NoP Q) [s6] 6 _ _ _ hj rs ?_;rw[NoK.eq];exact h (Q .normal) (λ_ _ h=>h) x1 x3 x5 v g1 g2 g3 g4 g5 g6
 have hobj:∀(v:World) (o:Obj),(v.alloc o).heap[v.heap.size]?=some o:=λv o=>by
  show(v.heap.push _)[v.heap.size]?=_;simp
 have hsz1:∀(v:World) (o:Obj),(v.alloc o).heap.size=v.heap.size+1:=λv o=>I7 v o;have hkeep:∀(v:World) (o:Obj) (b:Nat) (ob:Obj),v.heap[b]?=some ob->(v.alloc o).heap[b]?=some ob:=λv o b ob hh=>by
  rw[(A4.alloc v o).block b (by
   rcases B73 b v.heap.size with h'|h'
   ·exact h'
   ·rw[Array.getElem?_eq_none h']at hh;cases hh)]
  exact hh
 refine C0I r135 (by simp) λi hi=>?_;simp only[List.mem_cons,List.not_mem_nil,or_false]at hi;rcases hi with rfl|rfl|rfl
 ·-- 1
  refine MkO.op e1 h1 ⟨trivial,?_⟩;have t1:=hT1 z hgu;have hy1:=hsz1 z o1;have g1:=hgu.trans (A4.alloc z o1);have h3':=h3.put (u:=f1 z.heap.size) n3 p13a;have h5':=h5.put (u:=f1 z.heap.size) n5 p15a;generalize z.heap.size=x1 at *;generalize hy:z.alloc o1=y at *;refine C0I (listed:=#[true,true,true,false,false,false,false]) r35 (by simp) λi hi=>?_;simp only[List.mem_cons,List.not_mem_nil,or_false]at hi;rcases hi with rfl|rfl
  ·refine MkO.op e3 h3' ⟨trivial,?_⟩;refine C0H (listed:=#[true,true,true,true,false,false,false]) e4 hns q4 q4' (λ_ _ _ h=>h) (h4 x1 _) trivial ?_;refine C0I (listed:=#[true,true,true,true,true,false,false]) r5 (by simp) λi hi=>?_;simp only[List.mem_cons,List.not_mem_nil,or_false]at hi;subst hi;refine MkO.op e5 ((h5'.put n5 p35a).put n5 p45a) ⟨trivial,?_⟩;have g2:=g1.trans (A4.alloc y o3);exact hend _ _ _ _ (g2.trans (A4.alloc _ o5)) g2.size (hm1 _ _ _ ((A4.alloc y o3).trans (A4.alloc _ o5)) t1) (hm3 _ _ _ (A4.alloc _ o5) (hT3 y g1)) (hobj _ _) (by(try simp only[hsz1]);omega)
  ·refine MkO.op e5 h5' ⟨trivial,?_⟩;refine C0I (listed:=#[true,true,true,false,false,true,false]) r3 (by simp) λi hi=>?_;simp only[List.mem_cons,List.not_mem_nil,or_false]at hi;subst hi;refine MkO.op e3 (h3'.put n3 p35c) ⟨trivial,?_⟩;have g2:=g1.trans (A4.alloc y o5);rw[<-B75 _ _ _ p35b];refine C0H (listed:=#[true,true,true,true,false,true,false]) e4 hns q45 q45' (λ_ _ _ h=>h) ((YieldsIf.put n4 p45c).1 (h4 x1 _)) trivial ?_;rw[<-B75 _ _ _ p45b];exact hend _ _ _ _ (g2.trans (A4.alloc _ o3)) g1.size (hm1 _ _ _ ((A4.alloc y o5).trans (A4.alloc _ o3)) t1) (hT3 _ g2) (hkeep _ _ _ _ (hobj _ _)) (by(try simp only[hsz1]);omega)
 ·-- 3
  refine MkO.op e3 h3 ⟨trivial,?_⟩;have t3:=hT3 z hgu;have hy1:=hsz1 z o3;have g1:=hgu.trans (A4.alloc z o3);have h1':=h1.put (u:=f3 z.heap.size) n1 p13c;have h5':=h5.put (u:=f3 z.heap.size) n5 p35a;generalize z.heap.size=x3 at *;generalize hy:z.alloc o3=y at *;refine C0I (listed:=#[true,false,true,true,false,false,false]) r15 (by simp) λi hi=>?_;simp only[List.mem_cons,List.not_mem_nil,or_false]at hi;rcases hi with rfl|rfl
  ·refine MkO.op e1 h1' ⟨trivial,?_⟩;rw[<-B75 _ _ _ p13b];refine C0H (listed:=#[true,true,true,true,false,false,false]) e4 hns q4 q4' (λ_ _ _ h=>h) (h4 _ x3) trivial ?_;refine C0I (listed:=#[true,true,true,true,true,false,false]) r5 (by simp) λi hi=>?_;simp only[List.mem_cons,List.not_mem_nil,or_false]at hi;subst hi;refine MkO.op e5 (((h5.put n5 p15a).put n5 p35a).put n5 p45a) ⟨trivial,?_⟩;have g2:=g1.trans (A4.alloc y o1);exact hend _ _ _ _ (g2.trans (A4.alloc _ o5)) g2.size (hm1 _ _ _ (A4.alloc _ o5) (hT1 y g1)) (hm3 _ _ _ ((A4.alloc y o1).trans (A4.alloc _ o5)) t3) (hobj _ _) (by(try simp only[hsz1]);omega)
  ·refine MkO.op e5 h5' ⟨trivial,?_⟩;refine C0I (listed:=#[true,false,true,true,false,true,false]) r1 (by simp) λi hi=>?_;simp only[List.mem_cons,List.not_mem_nil,or_false]at hi;subst hi;refine MkO.op e1 (h1'.put n1 p15c) ⟨trivial,?_⟩;have g2:=g1.trans (A4.alloc y o5);rw[<-B75 _ _ _ p15b,<-B75 _ _ _ p13b];refine C0H (listed:=#[true,true,true,true,false,true,false]) e4 hns q45 q45' (λ_ _ _ h=>h) ((YieldsIf.put n4 p45c).1 (h4 _ x3)) trivial ?_;rw[<-B75 _ _ _ p45b];exact hend _ _ _ _ (g2.trans (A4.alloc _ o1)) g1.size (hT1 _ g2) (hm3 _ _ _ ((A4.alloc y o5).trans (A4.alloc _ o1)) t3) (hkeep _ _ _ _ (hobj _ _)) (by(try simp only[hsz1]);omega)
 ·-- 5
  refine MkO.op e5 h5 ⟨trivial,?_⟩;have g1:=hgu.trans (A4.alloc z o5);have t5:=hobj z o5;have z5:=hgu.size;have h1':=h1.put (u:=f5 z.heap.size) n1 p15c;have h3':=h3.put (u:=f5 z.heap.size) n3 p35c;generalize z.heap.size=x5 at *;generalize hy:z.alloc o5=y at *;refine C0I (listed:=#[true,false,true,false,false,true,false]) r13 (by simp) λi hi=>?_;simp only[List.mem_cons,List.not_mem_nil,or_false]at hi;rcases hi with rfl|rfl
  ·refine MkO.op e1 h1' ⟨trivial,?_⟩;have t1:=hT1 y g1;refine C0I (listed:=#[true,true,true,false,false,true,false]) r3 (by simp) λi hi=>?_;simp only[List.mem_cons,List.not_mem_nil,or_false]at hi;subst hi;refine MkO.op e3 (h3'.put n3 p13a) ⟨trivial,?_⟩;have g2:=g1.trans (A4.alloc y o1);rw[<-B75 _ _ _ p15b,<-B75 _ _ _ p35b];refine C0H (listed:=#[true,true,true,true,false,true,false]) e4 hns q45 q45' (λ_ _ _ h=>h) ((YieldsIf.put n4 p45c).1 (h4 _ _)) trivial ?_;rw[<-B75 _ _ _ p45b];exact hend _ _ _ _ (g2.trans (A4.alloc _ o3)) z5 (hm1 _ _ _ (A4.alloc _ o3) t1) (hT3 _ g2) (hkeep _ _ _ _ (hkeep _ _ _ _ t5)) (by(try simp only[hsz1]);omega)
  ·refine MkO.op e3 h3' ⟨trivial,?_⟩;have t3:=hT3 y g1;refine C0I (listed:=#[true,false,true,true,false,true,false]) r1 (by simp) λi hi=>?_;simp only[List.mem_cons,List.not_mem_nil,or_false]at hi;subst hi;refine MkO.op e1 (h1'.put n1 p13c) ⟨trivial,?_⟩;have g2:=g1.trans (A4.alloc y o3);rw[<-B75 (c.put a5.dst (f5 x5)) _ _ p13b,<-B75 c _ _ p15b,<-B75 _ _ _ p35b];refine C0H (listed:=#[true,true,true,true,false,true,false]) e4 hns q45 q45' (λ_ _ _ h=>h) ((YieldsIf.put n4 p45c).1 (h4 _ _)) trivial ?_;rw[<-B75 _ _ _ p45b];exact hend _ _ _ _ (g2.trans (A4.alloc _ o1)) z5 (hT1 _ g2) (hm3 _ _ _ (A4.alloc _ o1) t3) (hkeep _ _ _ _ (hkeep _ _ _ _ t5)) (by(try simp only[hsz1]);omega)
end
end Go.Proofs.YtgpglgbcobeogaaGreatDoor
