import Derived.Test.YtgpglgbcobeogaaGreatDoorN37
set_option linter.unusedSimpArgs false
set_option linter.unusedVariables false
set_option maxHeartbeats 16000000
set_option maxRecDepth 100000
namespace Go.Proofs.YtgpglgbcobeogaaGreatDoor
open Go Go.RowKit Go.Shelf
attribute [local go_sem] Oper.semAt_some
theorem A79(n:Nat)(w:World):Calls Tryz.prog 60 #[.int .i64 (n:Nat)] w (G9 (λb:Nat=>.func (.func 127) #[] #[.pointer (some ⟨b,0,none⟩)]) (λb W=>Blk W b 3 #[.int .i64 (n:Nat)]) w):=by
 go_enter Tryz.func60,Tryz.ntmps60;refine en1 ?_;intro u hG b1 hB hF;refine r0T ?_;refine rt Tryz.results60 ?_;exact⟨b1,rfl,hB.head,hG⟩
theorem A11{W:World}{b k:Nat}{t:TypeId}{cs:Array Value}{o:Obj}(h:Blk W b t cs)(hk:b≠k):Blk (W.putObj k o) b t cs:=(C1D hk).trans h
theorem A8H{W:World}{b k:Nat}{l:List Rat}{o:Obj}(h:Lq W (some ⟨b,0,none⟩) l)(hk:b≠k):Lq (W.putObj k o) (some ⟨b,0,none⟩) l:=by
 have hc:∀off,(W.putObj k o).cell? ⟨b,off,none⟩=W.cell? ⟨b,off,none⟩:=λoff=>by
  unfold World.cell?;rw[C1D hk]
 intro hne;obtain⟨b',off,e,hb,hrd⟩:=h hne;cases e;refine⟨b,0,rfl,by rw[C1C];exact hb,?_⟩;exact λi q hi j v hj=>(hc _).trans (hrd i q hi j v hj)
theorem A2n{W W':World}{b k i:Nat}{l:List Rat}{vs:List Value}(h:Lq W (some ⟨b,0,none⟩) l)(hk:b≠k)(hu:C2 W k i vs=W'):Lq W' (some ⟨b,0,none⟩) l:=by
 have hg:W.grownBy W' (some k):=by subst hu;exact V6 k vs i W
 intro hne;obtain⟨b',off,e,hb,hrd⟩:=h hne;cases e;have hc:∀off,W'.cell? ⟨b,off,none⟩=W.cell? ⟨b,off,none⟩:=λoff=>by
  unfold World.cell?;rw[hg.block b hb (λe=>hk (B8y e))]
 exact⟨b,0,rfl,B9N hb hg.size,λi q hi j v hj=>(hc _).trans (hrd i q hi j v hj)⟩
theorem A72{F:Fence}{n:Nat}{P:Program}{c:Code}{Q:Exit->Act->World->Prop}{a:Act}{W:World}(h:∀u,A4 W u->c.wpIn F n P Q a u):c.wpIn F n P Q a W:=h W (A4.refl W)
def Kp2(D:Nat)(W u:World):Prop:=u.heap[D]?=W.heap[D]?/\u.heap[D+1]?=W.heap[D+1]?
theorem Kp2.of{D:Nat}{W u:World}(hg:A4 W u)(hs:D+2<=W.heap.size):Kp2 D W u:=⟨hg.block D (by omega),hg.block (D+1) (by omega)⟩
theorem Kp2.put{D b i:Nat}{W u u':World}{vs:List Value}(h:Kp2 D W u)(hs:D+2<=u.heap.size)(hb:b<D)(hu:C2 u b i vs=u'):Kp2 D W u':=by
 have hg:u.grownBy u' (some b):=by subst hu;exact V6 b vs i u
 exact⟨(hg.block D (by omega) (λe=>by have:=B8y e;omega)).trans h.1,(hg.block (D+1) (by omega) (λe=>by have:=B8y e;omega)).trans h.2⟩
def K9(X:List (List Rat))(N L:Nat):List (List Rat):=(List.range L).map (G1 (L6 X N) L)
abbrev A2j(n:Nat)(GR:List (List Rat))(PL:List Rat)(sg:List Int)(F B:List Rat)(LM:List Lm):Prop :=
 ∀(A:Nat) (bp b:Nat) (rs:List Rq) (W:World),rs.map (·.2.2)=GR->Lrq W (some ⟨A,0,none⟩) rs->Lq W (some ⟨bp,0,none⟩) PL->Blk W b 3 (O9 sg)->Tab W ->
  Calls Tryz.prog 61 #[.agg #[.slice (some ⟨A,0,none⟩) n n,.slice (some ⟨bp,0,none⟩) n n],.slice (some ⟨b,0,none⟩) n n] W (G9 (λz:Ax×Ax×Ax=>.agg #[.slice z.1.1 n z.1.2,.slice z.2.1.1 n z.2.1.2,.slice z.2.2.1 LM.length z.2.2.2]) (λz W'=>W'.ownsRow W.heap.size 48 5 (.slice z.1.1 n z.1.2) n (F.flatMap qL)/\W'.ownsRow W.heap.size 48 5 (.slice z.2.1.1 n z.2.1.2) n (B.flatMap qL)/\W'.ownsRow W.heap.size 183 10 (.slice z.2.2.1 LM.length z.2.2.2) LM.length (LM.flatMap lmL)) W)
theorem B4h(d:Nat){P:Program}{g:Operand}{p0:Tmp}{assign body:Code}{Q:Exit->Act->World->Prop}{a:Act}{wE:World}{gf:Nat}{lb:Array Value}(hg:a.eval g = .func (.func gf) #[] lb)(eg:∀args w,(callFunc gf args).run P w = .ok (.enter gf args) w)
  (N:Nat) (C:Nat->Value->World->Prop) (J:Nat->Prop) (Ix:World->Prop)
  (it:∀(l:Nat) (Rd:Nat->World->Prop) (Rx:World->Prop) (W:World),A4 wE W->wE.heap.size+2<=W.heap.size->(∀i u v,A4 u v->Rd i u->Rd i v)->(∀u v,A4 u v->Rx u->Rx v) ->
   (∀i v W1,i<N->A4 wE W1->Rd i W1->C i v W1->YieldAt Fence.wide 0 P l #[v] W1 λe W'=>(e = .returned (.bool true)/\A4 W1 W'/\Rd (i+1) W')\/(e = .returned (.bool false)/\Rx W')) ->
   Rd 0 W->CallsIn Fence.wide 0 P gf (#[.func (.yield l) #[] #[]]++lb) W λe W'=>(∃v,e = .returned v)/\((A4 wE W'/\Rd N W')\/Rx W'))
  (hC:∀i v W o,C i v W->C i v (W.putObj (wE.heap.size+1) o)) (hIx:∀W o b,b=wE.heap.size\/b=wE.heap.size+1->Ix W->Ix (W.putObj b o)) (hIg:∀u v,A4 u v->Ix u->Ix v) (h0:J 0)
  (hassign:∀(l:Nat) (v:Value) (W:World) (K:Act->World->Prop),K { tmps:=(a.tmps.setIfInBounds p0 v).setIfInBounds d v,defers:=[] } W->assign.wpIn (Fence.wide.inRound l) 0 P (Exit.then K (λ_ _ _=>False)) { tmps:=((#[p0]:Array Tmp).zip #[v]).foldl (λt (p,v)=>t.setIfInBounds p v) a.tmps,defers:=[] } W)
  (hbody:∀(l i:Nat) (v:Value) (W:World),i<N->J i->A4 wE W->wE.heap.size+2<=W.heap.size->C i v W->body.wpIn (Fence.wide.inRound l) 0 P (B0M wE.heap.size J Ix i W) { tmps:=(a.tmps.setIfInBounds p0 v).setIfInBounds d v,defers:=[] } W)
  (hdone:∀W,A4 wE W->J N->W.heap[wE.heap.size]?=some (.deferred (some []))->Q .normal { a with defers:={ target:=.collected wE.heap.size,args:=#[] }::a.defers } W)
  (hstop:∀W,Ix W->W.heap[wE.heap.size]?=some (.deferred (some []))->Code.ret.wpIn Fence.wide 0 P Q { a with defers:={ target:=.collected wE.heap.size,args:=#[] }::a.defers } W) :
  (Code.rangeFunc g #[p0] assign body).wpIn Fence.wide 0 P Q a wE:=B5E hg eg N C J Ix (λv=>{ tmps:=(a.tmps.setIfInBounds p0 v).setIfInBounds d v,defers:=[] }) it hC hIx hIg h0 hassign hbody hdone hstop
theorem B5M(A:Option Addr)(rs:List Rq)(N Lw c:Nat)(Y:Ax)(y:List Rat)(hn:rs.length=N)(hN1:1<=N)(hN2:N<=300)(hL1:1<=Lw)(hL2:Lw<=6)(hrl:∀r∈rs,r.2.2.length=Lw)(hy:y.length=N)(s:Nat)(hs1:1<=s)(hs:s<=10000)(hX:∀i,i<N->∀j,j<Lw->qs (gq (B7 (rs.map (·.2.2)) i) j)<=s)(hys:∀i,i<N->qs (gq y i)<=s)(a:Rat)(ha0:¬a.num<0)
  (hun:(C9 N Lw (F6 (rs.map (·.2.2)),[]) Lw).2.length=Lw)
  (F B:Nat->List Rat) (LM:Nat->List Lm) (z:Nat) (haz:qs a<=z) (hz:4*z+10<=BIG) (hFl:∀k,k<3^Lw->(F k).length=Lw/\(B k).length=Lw/\(LM k).length<=1000) (hFz:∀k,k<3^Lw->(∀i,i<Lw->qs (gq (F k) i)<=z)/\(∀i,i<Lw->qs (gq (B k) i)<=z)/\∀x∈LM k,qs x.1<=z/\qs x.2<=z)
  (hsv:∀k,k<3^Lw->A2j Lw (K9 (rs.map (·.2.2)) N Lw) (J5 (rs.map (·.2.2)) y N Lw) (F5 Lw k) (F k) (B k) (LM k))
  (kk:Nat) (hk1:kk<3^Lw) (hk2:H7 a (LM kk)=true) (hk3:∀j,j<kk->H7 a (LM j)=false) (w:World) (h:Lrq w A rs) (h2:Lq w Y.1 y) (HT:Tab w) :
  Calls Tryz.prog 14 #[.slice A N c,.slice Y.1 N Y.2,qV a] w (G9 (λx:Ax=>.tuple #[.slice x.1 Lw x.2,.int .i64 0]) (λx W=>Lq W x.1 (I6 (F kk) (B kk) Lw a)) w):=by
 have hBB:100000000<=BIG:=by unfold BIG;omega
 have hsh:=λW (hg:A4 w W)=>A3l A Y.1 rs N Lw c Y.2 hn hN1 hN2 (by omega) (by omega) hrl W (h.grow hg)
 have huq:=λW (hg:A4 w W) (hT:Tab W)=>A5p A rs N Lw c hn hN1 hN2 hL1 hL2 hrl s hs1 hX (by
  have h1:10^Lw<=10^6:=B9P (by omega) hL2;have h2:s*10^Lw<=10000*10^6:=C0f hs h1;have h3:30*(10000*10^6)<=BIG:=by unfold BIG;omega
  omega) W (h.grow hg) hT
 rw[hun]at huq;simp only[Nat.lt_irrefl,if_false]at huq;obtain⟨GR,hGR⟩:∃x,x=K9 (rs.map (·.2.2)) N Lw:=⟨_,rfl⟩
 obtain⟨PL,hPL⟩:∃x,x=J5 (rs.map (·.2.2)) y N Lw:=⟨_,rfl⟩
 obtain⟨GM,hGM⟩:∃x,x=L6 (rs.map (·.2.2)) N:=⟨_,rfl⟩
 have hGR2:GR=(List.range Lw).map (G1 GM Lw):=by rw[hGR,hGM];rfl
 have hpo:=λW (hg:A4 w W) (hT:Tab W)=>(A9o A rs N Lw c Y y hn hN1 hN2 hL1 (by omega) hrl hy s (by omega) hX hys W (h.grow hg) (h2.grow hg) hT).mono (R':=G9 (λx:(Nat×(Nat->Nat)×(Nat->Nat))×Nat=>.agg #[.slice (some ⟨x.1.1,0,none⟩) Lw Lw,.slice (some ⟨x.2,0,none⟩) Lw Lw]) (λx W'=>MatW w.heap.size Lw Lw x.1.1 Lw x.1.2.1 x.1.2.2 GM W'/\W'.ownsRow w.heap.size 48 5 (.slice (some ⟨x.2,0,none⟩) Lw Lw) Lw (PL.flatMap qL)) W) (by
  rintro e w' ⟨x,rfl,⟨g1,g2⟩,hg2⟩
  exact⟨x,rfl,⟨by rw[hGM];exact g1.mono hg.sz,by rw[hPL];exact g2.mono hg.sz⟩,hg2⟩)
 rw[<-hGR,<-hPL]at hsv;have hsg:a.num.sign=(a.num.sign:Int):=rfl;have hsg2:decide (a.num.sign<0)=false:=by
  rw[decide_eq_false_iff_not];intro h1
  exact ha0 (Int.sign_eq_neg_one_iff_neg.1 (by
   rcases C0M a.num 0 with h3|h3|h3
   ·exact B9z h3
   ·rw[h3]at h1;simp at h1
   ·rw[B91 h3]at h1;omega))
 obtain⟨S,hS⟩:∃S,S=a.num.sign:=⟨_,rfl⟩
 have hfs:=λ(W:World)=>M8 a (by have:=G3 a;have:=J7;omega) W;rw[<-hS]at hsg2;simp only[<-hS]at hfs;obtain⟨bb,ob,P0,eA,hP0⟩:=U9 hn hrl h (i:=0) (by omega);have hr0:=λW hg=>(hP0 W hg).1;simp only[Nat.add_zero]at hr0;have hNi:(0:Int)<(N:Int):=by omega
 have hNn:0<N:=by omega
 have fN:decide ((0:Int)<(N:Int))=true:=by simp;omega
 have fNn:decide (0<N)=true:=by simp;omega
 obtain⟨YA,YC⟩:=Y;subst eA;have Hsh:=B9I hsh;have Huq:=B9I huq;have Hpo:=B9I hpo;have Hfs:=B9I hfs;have Hr0:=B9I hr0;have Hsv:=B9I hsv;have HFl:=B9I hFl;have HFz:=B9I hFz;have Hk:=B9I (⟨hk1,hk2,hk3⟩:kk<3^Lw/\H7 a (LM kk)=true/\∀j,j<kk->H7 a (LM j)=false);replace hGR2:=B9I hGR2;clear hsh huq hpo hfs hr0 hsv hFl hFz hk1 hk2 hk3 hP0 hGR hPL hGM hun hX hys h h2 hrl hy hn hs1 hs ha0 hsg hS;refine(callsIn_wide (n:=0)).1 (callsIn_of_wp_marks Tryz.func14 rfl trivial (wpIn_wide.2 ?_) rfl);simp only[Tryz.ntmps14,List.size_toArray,List.length_cons,List.length_nil,Nat.reduceAdd,Nat.reduceSub,Array.replicate_succ,Array.replicate_zero,List.push_toArray,List.append_toArray,List.nil_append,List.cons_append];refine en3 ?_;intro u hG b7 b6 b5 hB hF;refine B9D ?_;refine B9D (rsE C4 [0,0,1,0] hB hG λL hL=>?_);refine gs ?_;refine gmd (C:=λv ⟨hgu,hB,hG,_⟩=>Hsh.out _ hG) ?_;refine gs ?_;refine geT hL ?_;clear hB hG hL L;rintro u ⟨-,hB,hG,-⟩;refine B9J (rfl) ?_;refine B9K ?_;refine A6 ?_;refine B9D ?_;refine B9D (rsE C4 [0,1,0] hB hG λL hL=>?_)
 repeat first|refine gya ?_|refine gyr ?_|refine gna ?_|refine gyb (by(rintro v ⟨hgu,hB,hG,-⟩ N hN;have r:=hB.r;simp only[BxR]at r;(first|have q0:=Hr0.out v hG|skip);go_simp;exact hN)) ?_
 refine gmw (C:=λv=>Hfs.out _) ?_;refine gs ?_;refine geT hL ?_;clear hB hG hL L;rintro u ⟨-,hB,hG,-⟩;refine B9J (rfl) ?_;refine B9K ?_;refine A6 ?_;refine B9D ?_;refine B9D (rsE C4 [0,1,0] hB hG λL hL=>?_);refine gs ?_;refine gmd (C:=λv ⟨hgu,hB,hG,_⟩=>Huq.out _ hG (HT.grow hG)) ?_;refine gs ?_;refine geT hL ?_;clear hB hG hL L;rintro u ⟨-,hB,hG,-⟩;refine r0T ?_;refine B9J (rfl) ?_;refine B9K ?_;refine A6 ?_;refine B9D (rsC C4 [0,0,1,2] hB hG λK L hN hL=>?_);refine gs ?_;refine gxd (X:=(Nat×(Nat->Nat)×(Nat->Nat))×Nat) (λx:(Nat×(Nat->Nat)×(Nat->Nat))×Nat=>.agg #[.slice (some ⟨x.1.1,0,none⟩) Lw Lw,.slice (some ⟨x.2,0,none⟩) Lw Lw]) (λx W'=>MatW w.heap.size Lw Lw x.1.1 Lw x.1.2.1 x.1.2.2 GM W'/\W'.ownsRow w.heap.size 48 5 (.slice (some ⟨x.2,0,none⟩) Lw Lw) Lw (PL.flatMap qL)) (λx u u' hg h=>⟨h.1.grow hg,C0 h.2 hg⟩) (λx26=>?_) (C:=by(rintro v ⟨hgu,hB,hG,-⟩;exact Hpo.out _ hG (HT.grow hG)));refine gaa (A5B _ _ _ _ _) λb9 hb9 hn9=>?_;replace hF:=hF.n1 [] hB hG hb9 hn9;refine geC hL ?_;clear hB hG hL L;rintro u ⟨⟨⟨hgu,hB,hG,-⟩,hx26⟩,h9⟩;replace hB:=hB.cons' h9;clear h9;obtain⟨⟨bg,gg,cg⟩,bp⟩:=x26;obtain⟨hm,hp⟩:MatW w.heap.size Lw Lw bg Lw gg cg GM u/\u.ownsRow w.heap.size 48 5 (.slice (some ⟨bp,0,none⟩) Lw Lw) Lw (PL.flatMap qL):=hx26;have Hm:=B9I hm;have Hp:=B9I hp;clear hm hp;clear hb9 hn9;clear hgu;refine gtT ?_;clear hN K;have hbk:=hB.head;refine sv hB hF hG 0 0 [_,_] ?_;intro u hu hBG;have hm:=(Hm.out.over ⟨λe=>E8 Hm.out.hd hbk (by decide) (C0T some e.symm),λi hi e=>E8 (Hm.out.row i hi) hbk (by decide) (C0T some e.symm)⟩ hu).lrq;have hp2:=H5 Hp.out (E8 Hp.out hbk (by decide)) hu;obtain⟨A9,c9,e9,-,-,hp,-⟩:=K8 hp2;cases e9;clear hB hG hu Hm Hp hbk hp2;obtain⟨hB,hG⟩:=hBG;obtain⟨w1,hw1⟩:=exQ u;have HP:=B9I (show(∃rs':List Rq,rs'.map (·.2.2)=GR/\Lrq w1 (some ⟨bg,0,none⟩) rs')/\Lq w1 (some ⟨bp,0,none⟩) PL from hw1 ▸ ⟨⟨_,by rw[hGR2.out,List.map_map];rfl,hm⟩,hp⟩);have hG1:A4 w1 u:=hw1 ▸ A4.refl u;clear hw1 hm hp;refine B9D ?_;refine B9D (rsE C4 [0,0,0,0,1] hB hG λL hL=>?_)
 repeat first|refine gya ?_|refine gyr ?_|refine gna ?_|refine gyb (by(rintro v ⟨hgu,hB,hG,-⟩ N hN;have r:=hB.r;simp only[BxR]at r;(first|have q0:=Hr0.out v hG|skip);go_simp;exact hN)) ?_
 refine gxd (X:=Nat) (λb:Nat=>.func (.func 127) #[] #[.pointer (some ⟨b,0,none⟩)]) (λb W=>Blk W b 3 #[.int .i64 (Lw:Nat)]) (λb u u' hg h=>h.grow hg) (λx31=>?_) (C:=λv _=>A79 Lw _);refine geT hL ?_;clear hB hG hL L;rintro u ⟨⟨hgu,hB,hG,-⟩,hx31⟩;replace hG1:=hG1.trans hgu;have hbk:=hx31;clear hx31;clear hgu;refine B9l ?_;refine(wpIn_wide (n:=0)).1 ?_;obtain⟨wE,hwE⟩:=exQ u;rw[<-hwE]at hB hG hG1 hbk⊢;clear hwE;have HB:=B9I hB;have HG:=B9I hG;have HG1:=B9I hG1;have h6E:=hB.tail.tail.head.lt;have h7E:=hB.tail.tail.tail.head.lt;refine B4h 10 (gf:=127) (lb:=#[.pointer (some ⟨x31,0,none⟩)]) rfl (enters_of Tryz.func127 (by kernel_rfl) rfl) (3^Lw) (A3r (wE.heap.size+2) Lw) (λi=>∀j,j<i->H7 a (LM j)=false) (λW=>∃z:Ax,Bx W [(b6,35,#[.slice z.1 Lw z.2]),(b7,36,#[.int .i64 0])]/\Lq W z.1 (I6 (F kk) (B kk) Lw a)/\(∃b,z.1=some ⟨b,0,none⟩/\wE.heap.size+2<=b)/\A4 w W) (λl Rd Rx W h1 h2 h3 h4 h5 h6=>B1y Lw x31 hL2 wE hbk l Rd Rx W h1 h2 h3 h4 h5 h6) ?hC ?hIx ?hIg ?h0 ?assign ?body ?done ?stop
 case assign =>
  intro l v W K hK;simp only[List.setIfInBounds_toArray,List.set_cons_zero,List.set_cons_succ]at hK;gi_wp2;exact hK
 case hC =>
  rintro i v W o ⟨b,rfl,hb,hk⟩;exact⟨b,rfl,hb,A11 hk (by omega)⟩
 case hIx =>
  rintro W o b hb ⟨z,h1,h2,⟨bz,h3,h4⟩,h5⟩;refine⟨z,λe he=>?_,?_,⟨bz,h3,h4⟩,A2h h5 (by have:=HG.out.sz;omega)⟩
  ·have h9:=h1 e he;simp only[List.mem_cons,List.not_mem_nil,or_false]at he;rcases he with rfl|rfl
   ·exact A11 h9 (by simp only;omega)
   ·exact A11 h9 (by simp only;omega)
  ·rw[h3]at h2⊢;exact A8H h2 (by omega)
 case hIg=>exact λu v hg ⟨z,h1,h2,h3,h4⟩=>⟨z,h1.grow hg,h2.grow hg,h3,h4.trans hg⟩
 case h0=>exact λj hj=>absurd hj (C03 _)
 case body =>
  intro l i v W hi hJ hgW hsz hsg;simp only[List.setIfInBounds_toArray,List.set_cons_zero,List.set_cons_succ];obtain⟨bs,rfl,hbs,hsb⟩:=hsg;have hB:=HB.out.grow hgW;have hG:=HG.out.trans hgW;obtain⟨F1,F2,F3⟩:=HFl.out i hi;obtain⟨Z1,Z2,Z3⟩:=HFz.out i hi;have hslv:∀W',A4 W W'->Tab W'->Calls Tryz.prog 61 #[.agg #[.slice (some ⟨bg,0,none⟩) Lw Lw,.slice (some ⟨bp,0,none⟩) Lw Lw],.slice (some ⟨bs,0,none⟩) Lw Lw] W' (G9 (λz:Ax×Ax×Ax=>.agg #[.slice z.1.1 Lw z.1.2,.slice z.2.1.1 Lw z.2.1.2,.slice z.2.2.1 (LM i).length z.2.2.2]) (λz V=>V.ownsRow W.heap.size 48 5 (.slice z.1.1 Lw z.1.2) Lw ((F i).flatMap qL)/\V.ownsRow W.heap.size 48 5 (.slice z.2.1.1 Lw z.2.1.2) Lw ((B i).flatMap qL)/\V.ownsRow W.heap.size 183 10 (.slice z.2.2.1 (LM i).length z.2.2.2) (LM i).length ((LM i).flatMap lmL)) W'):=λW' hg hT=>by
   obtain⟨⟨rs',hr1,hr2⟩,hr3⟩:=HP.out;exact(Hsv.out i hi bg bp bs rs' W' hr1 (hr2.grow ((HG1.out.trans hgW).trans hg)) (hr3.grow ((HG1.out.trans hgW).trans hg)) (hsb.grow hg) hT).mono λe V ⟨z,g1,⟨g2,g3,g4⟩,g5⟩=>⟨z,g1,⟨g2.mono hg.size,g3.mono hg.size,g4.mono hg.size⟩,g5⟩
  have Hslv:=B9I hslv;have Hhl:=B9I (λA1 A2 A3 W' h hT=>B4R A1 A2 A3 Lw Lw (LM i).length (LM i) a rfl F3 z Z3 haz hz W' h hT);have Hwt:=B9I (λA1 A2 A3 W' h h2 hT=>B2m A1 A2 A3 Lw (LM i).length (F i) (B i) a F1 F2 (by omega) z Z1 Z2 haz hz W' h h2 hT);obtain⟨m,hm⟩:∃m,m=(LM i).length:=⟨_,rfl⟩
  have hG0:=B9I (A4.refl W);have hke:H7 a (LM i)=true->i=kk:=λh=>by
   rcases B9v i kk with h1|h1|h1
   ·have:=Hk.out.2.2 i h1;rw[h]at this;cases this
   ·exact h1
   ·have h2:=hJ kk h1;rw[Hk.out.2.1]at h2;cases h2
  have Hke:=B9I hke;clear hke;rw[<-hm]at Hslv Hhl Hwt;obtain⟨Fi,hFi⟩:∃x,x=F i:=⟨_,rfl⟩
  obtain⟨Bi,hBi⟩:∃x,x=B i:=⟨_,rfl⟩
  have HQ:=B9I hFi;have HQ2:=B9I hBi;rw[<-hFi,<-hBi]at Hslv Hwt;clear F1 F2 F3 Z1 Z2 Z3 hslv hm hFi hBi hsb;obtain⟨hh,hhe⟩:∃b,b=H7 a (LM i):=⟨_,rfl⟩
  have Hhe:=B9I hhe;rw[<-hhe]at Hhl;clear hhe;have HJ:=B9I hJ;clear hJ hG0;refine A72 λu hg0=>?_;replace hB:=hB.grow hg0;replace hG:=hG.trans hg0;cases hh
  ·skip
   refine wpIn_block ?_;refine wpIn_seq (A28 C4 [0,0,1,2] hB hG λK L hN hL=>?_)
   repeat first|refine gya ?_|refine gyr ?_|refine gna ?_|refine gyb (by(rintro v ⟨hgu,hB,hG,-⟩ N hN;have r:=hB.r;simp only[BxR]at r;(first|have q0:=Hr0.out v hG|skip);go_simp;exact hN)) ?_
   refine gxd (X:=Ax×Ax×Ax) (λz:Ax×Ax×Ax=>.agg #[.slice z.1.1 Lw z.1.2,.slice z.2.1.1 Lw z.2.1.2,.slice z.2.2.1 m z.2.2.2]) (λz V=>V.ownsRow W.heap.size 48 5 (.slice z.1.1 Lw z.1.2) Lw (Fi.flatMap qL)/\V.ownsRow W.heap.size 48 5 (.slice z.2.1.1 Lw z.2.1.2) Lw (Bi.flatMap qL)/\V.ownsRow W.heap.size 183 10 (.slice z.2.2.1 m z.2.2.2) m ((LM i).flatMap lmL)) (λx u u' hg h=>⟨C0 h.1 hg,C0 h.2.1 hg,C0 h.2.2 hg⟩) (λx35=>?_) (C:=by(rintro v ⟨hgu,hB,hG,-⟩;exact Hslv.out _ (hg0.trans hgu) (HT.grow hG)));refine gaa (A42 _ _ _ _ _) λb11 hb11 hn11=>?_;replace hF:=hF.n1 [] hB hG hb11 hn11;refine geC hL ?_;clear hB hG hL L;rintro u ⟨⟨⟨hgu,hB,hG,-⟩,hx35⟩,h11⟩;replace hB:=hB.cons' h11;clear h11;obtain⟨⟨f1,f2⟩,⟨o1,o2⟩,⟨m1,m2⟩⟩:=x35;obtain⟨X1,X2,X3⟩:u.ownsRow W.heap.size 48 5 (.slice f1 Lw f2) Lw (Fi.flatMap qL)/\u.ownsRow W.heap.size 48 5 (.slice o1 Lw o2) Lw (Bi.flatMap qL)/\u.ownsRow W.heap.size 183 10 (.slice m1 m m2) m ((LM i).flatMap lmL):=hx35;have hw11:W.heap.size<=b11:=B9A hg0.size hb11;replace hg0:=hg0.trans hgu;clear hb11 hn11;clear hgu;refine gtT ?_;clear hN K;have hbk:=hB.head;refine sv hB hF hG 0 0 [_,_,_] ?_;intro u hu hBG;replace X1:=H5 X1 (E8 X1 hbk (by decide)) hu;replace X2:=H5 X2 (E8 X2 hbk (by decide)) hu;replace X3:=H5 X3 (E8 X3 hbk (by decide)) hu;replace hg0:=P9 hg0 hw11 hu;clear hB hG hu hbk;obtain⟨hB,hG⟩:=hBG;obtain⟨A7,c7,e7,-,-,Y1,-⟩:=K8 X1;cases e7;obtain⟨A7,c7,e7,-,-,Y2,-⟩:=K8 X2;cases e7;obtain⟨A7,c7,e7,-,Y3,-⟩:=A01 (enc:=lmL) (λ_=>rfl) (by decide) X3;cases e7;obtain⟨w2,hw2⟩:=exQ u;have HY:=B9I (hw2 ▸ ⟨Y1,Y2,Y3⟩:Lq w2 f1 Fi/\Lq w2 o1 Bi/\Le lmL 10 w2 m1 (LM i));have hg2:A4 w2 u:=hw2 ▸ A4.refl u;clear X1 X2 X3 Y1 Y2 Y3 hw2;refine wpIn_seq (A9k C4 [0,0,1] hB hG λL hL=>?_)
   repeat first|refine gya ?_|refine gyr ?_|refine gna ?_|refine gyb (by(rintro v ⟨hgu,hB,hG,-⟩ N hN;have r:=hB.r;simp only[BxR]at r;(first|have q0:=Hr0.out v hG|skip);go_simp;exact hN)) ?_
   refine gmd (C:=λv ⟨hgu,hB,hG,_⟩=>Hhl.out (f1,f2) (o1,o2) (m1,m2) _ (HY.out.2.2.grow (hg2.trans hgu)) (HT.grow hG)) ?_;refine geT hL ?_;clear hB hG hL L;rintro u ⟨hgu,hB,hG,-⟩;replace hg0:=hg0.trans hgu;replace hg2:=hg2.trans hgu;clear hgu;refine wpIn_cond_false (rfl) ?_;refine wpIn_skip ?_;refine C5 ?_;refine⟨hg0,λj hj=>?_⟩;rcases B8t j i with h1|h1
   ·exact HJ.out j h1
   ·have h2:j=i:=by omega
    rw[h2];exact Hhe.out.symm
  ·skip
   refine wpIn_block ?_;refine wpIn_seq (A28 C4 [0,0,1,2] hB hG λK L hN hL=>?_)
   repeat first|refine gya ?_|refine gyr ?_|refine gna ?_|refine gyb (by(rintro v ⟨hgu,hB,hG,-⟩ N hN;have r:=hB.r;simp only[BxR]at r;(first|have q0:=Hr0.out v hG|skip);go_simp;exact hN)) ?_
   refine gxd (X:=Ax×Ax×Ax) (λz:Ax×Ax×Ax=>.agg #[.slice z.1.1 Lw z.1.2,.slice z.2.1.1 Lw z.2.1.2,.slice z.2.2.1 m z.2.2.2]) (λz V=>V.ownsRow W.heap.size 48 5 (.slice z.1.1 Lw z.1.2) Lw (Fi.flatMap qL)/\V.ownsRow W.heap.size 48 5 (.slice z.2.1.1 Lw z.2.1.2) Lw (Bi.flatMap qL)/\V.ownsRow W.heap.size 183 10 (.slice z.2.2.1 m z.2.2.2) m ((LM i).flatMap lmL)) (λx u u' hg h=>⟨C0 h.1 hg,C0 h.2.1 hg,C0 h.2.2 hg⟩) (λx35=>?_) (C:=by(rintro v ⟨hgu,hB,hG,-⟩;exact Hslv.out _ (hg0.trans hgu) (HT.grow hG)));refine gaa (A42 _ _ _ _ _) λb11 hb11 hn11=>?_;replace hF:=hF.n1 [] hB hG hb11 hn11;refine geC hL ?_;clear hB hG hL L;rintro u ⟨⟨⟨hgu,hB,hG,-⟩,hx35⟩,h11⟩;replace hB:=hB.cons' h11;clear h11;obtain⟨⟨f1,f2⟩,⟨o1,o2⟩,⟨m1,m2⟩⟩:=x35;obtain⟨X1,X2,X3⟩:u.ownsRow W.heap.size 48 5 (.slice f1 Lw f2) Lw (Fi.flatMap qL)/\u.ownsRow W.heap.size 48 5 (.slice o1 Lw o2) Lw (Bi.flatMap qL)/\u.ownsRow W.heap.size 183 10 (.slice m1 m m2) m ((LM i).flatMap lmL):=hx35;have hw11:W.heap.size<=b11:=B9A hg0.size hb11;replace hg0:=hg0.trans hgu;clear hb11 hn11;clear hgu;refine gtT ?_;clear hN K;have hbk:=hB.head;refine sv hB hF hG 0 0 [_,_,_] ?_;intro u hu hBG;replace X1:=H5 X1 (E8 X1 hbk (by decide)) hu;replace X2:=H5 X2 (E8 X2 hbk (by decide)) hu;replace X3:=H5 X3 (E8 X3 hbk (by decide)) hu;replace hg0:=P9 hg0 hw11 hu;clear hB hG hu hbk;obtain⟨hB,hG⟩:=hBG;obtain⟨A7,c7,e7,-,-,Y1,-⟩:=K8 X1;cases e7;obtain⟨A7,c7,e7,-,-,Y2,-⟩:=K8 X2;cases e7;obtain⟨A7,c7,e7,-,Y3,-⟩:=A01 (enc:=lmL) (λ_=>rfl) (by decide) X3;cases e7;obtain⟨w2,hw2⟩:=exQ u;have HY:=B9I (hw2 ▸ ⟨Y1,Y2,Y3⟩:Lq w2 f1 Fi/\Lq w2 o1 Bi/\Le lmL 10 w2 m1 (LM i));have hg2:A4 w2 u:=hw2 ▸ A4.refl u;clear X1 X2 X3 Y1 Y2 Y3 hw2;refine wpIn_seq (A9k C4 [0,0,1] hB hG λL hL=>?_)
   repeat first|refine gya ?_|refine gyr ?_|refine gna ?_|refine gyb (by(rintro v ⟨hgu,hB,hG,-⟩ N hN;have r:=hB.r;simp only[BxR]at r;(first|have q0:=Hr0.out v hG|skip);go_simp;exact hN)) ?_
   refine gmd (C:=λv ⟨hgu,hB,hG,_⟩=>Hhl.out (f1,f2) (o1,o2) (m1,m2) _ (HY.out.2.2.grow (hg2.trans hgu)) (HT.grow hG)) ?_;refine geT hL ?_;clear hB hG hL L;rintro u ⟨hgu,hB,hG,-⟩;replace hg0:=hg0.trans hgu;replace hg2:=hg2.trans hgu;clear hgu;refine wpIn_cond_true (rfl) ?_;refine wpIn_seq (A28 C4 [0,0,1] hB hG λK L hN hL=>?_)
   repeat first|refine gya ?_|refine gyr ?_|refine gna ?_|refine gyb (by(rintro v ⟨hgu,hB,hG,-⟩ N hN;have r:=hB.r;simp only[BxR]at r;(first|have q0:=Hr0.out v hG|skip);go_simp;exact hN)) ?_
   refine gxd (X:=Ax) (λx:Ax=>.slice x.1 Lw x.2) (λx V=>Lq V x.1 (I6 Fi Bi Lw a)/\∃b,x.1=some ⟨b,0,none⟩/\W.heap.size<=b) (λx u u' hg h=>⟨h.1.grow hg,h.2⟩) (λx41=>?_) (C:=by(rintro v ⟨hgu,hB,hG,-⟩;exact(Hwt.out (f1,f2) (o1,o2) (m1,m2) _ (HY.out.1.grow (hg2.trans hgu)) (HY.out.2.1.grow (hg2.trans hgu)) (HT.grow hG)).mono λe V ⟨z,g1,⟨g2,b,g3,g4⟩,g5⟩=>⟨z,g1,⟨g2,b,g3,B9A (hg0.trans hgu).size g4⟩,g5⟩));refine geC hL ?_;clear hB hG hL L;rintro u ⟨⟨hgu,hB,hG,-⟩,hx41⟩;replace hg0:=hg0.trans hgu;obtain⟨z1,z2⟩:=x41;obtain⟨Y1,bz,rfl,Y2⟩:=hx41;clear hgu;have hD:b6≠b7/\b7≠b6:=⟨hF.ne 3 4 rfl rfl (by decide),hF.ne 4 3 rfl rfl (by decide)⟩
   refine gtT ?_;clear hN K;clear hD;generalize hu0:World.setCell (World.setCell u _ _) _ _=u0;have hu1:C2 (C2 u b6 0 [.slice (some ⟨bz,0,none⟩) Lw z2]) b7 0 [.int .i64 0]=u0:=hu0;obtain⟨ua,hua⟩:∃x,C2 u b6 0 [.slice (some ⟨bz,0,none⟩) Lw z2]=x:=⟨_,rfl⟩
   rw[hua]at hu1;have k1:=(Kp2.of hg0 hsz).put (B9A hsz hg0.size) h6E hua;have sa:u.heap.size<=ua.heap.size:=by rw[<-hua];exact(V6 b6 _ 0 u).size
   have k2:=k1.put (B9A hsz (B9A hg0.size sa)) h7E hu1;have y1:=A2n Y1 (by have:=hsz;omega) hua;have y2:=A2n y1 (by have:=hsz;omega) hu1;have hB1:=hB.over hF hG 3 rfl 0 [_] hua;have hB2:=hB1.1.over (by simpa using hF) hB1.2 4 rfl 0 [_] hu1;simp only[List.modify_succ_cons,List.modify_zero_cons,I7,List.setIfInBounds_toArray,List.set_cons_zero,List.set_cons_succ,Nat.zero_add,Nat.reduceAdd]at hB2;clear hB hG hu0 hu1 hua k1 y1 hB1 Y1 sa;obtain⟨hB,hG⟩:=hB2;obtain⟨u,rfl⟩:=exQ u0;refine wpIn_ret ?_;refine A5Z ?_
   skip
   have hik:=Hke.out Hhe.out.symm;rw[HQ.out,HQ2.out,hik]at y2;exact⟨⟨(some ⟨bz,0,none⟩,z2),hB.tail.tail.tail,y2,⟨bz,rfl,by omega⟩,hG⟩,k2.1,k2.2⟩
 case done =>
  intro W _ hJ _;have h1:=hJ kk Hk.out.1;rw[Hk.out.2.1]at h1;cases h1
 case stop =>
  rintro W ⟨z,h1,h2,h3,h4⟩ hK;refine wpIn_ret ?_;refine A5Z ?_;refine A9c ?_;refine⟨by simp,.inl ⟨_,_,rfl,run_takeDeferred hK,?_⟩⟩;have h1':Bx (W.putObj wE.heap.size (.deferred none)) [(b6,35,#[.slice z.1 Lw z.2]),(b7,36,#[.int .i64 0])]:=λe he=>by
   have h9:=h1 e he;simp only[List.mem_cons,List.not_mem_nil,or_false]at he;rcases he with rfl|rfl
   ·exact A11 h9 (by simp only;omega)
   ·exact A11 h9 (by simp only;omega)
  have r:=h1'.r;simp only[BxR]at r;refine⟨.tuple #[.slice z.1 Lw z.2,.int .i64 0],?_,z,rfl,?_,A2h h4 HG.out.sz⟩
  ·simp only[results,Tryz.results14];go_simp
  ·obtain⟨bz,h5,h6⟩:=h3;rw[h5]at h2⊢;exact A8H h2 (by omega)
attribute [local go_sem] Oper.semAt_some
def chB:Obj->Bool
 | .cells _ T _=>T == 35||T == 163||T == 165||T == 48
 | _=>false
structure KI(u v:World):Prop where
 os:v.os=u.os
 tape:v.tape=u.tape
 output:v.output=u.output
 size:u.heap.size<=v.heap.size
 keep:∀(k:Nat) (o:Obj),u.heap[k]?=some o->chB o=false->v.heap[k]?=some o
theorem KI.ofGrow{u v:World}(h:A4 u v):KI u v:=⟨h.os,h.tape,h.output,h.size,λk o hk _=>(h.block k (Array.getElem?_eq_some_iff.1 hk).1).trans hk⟩
theorem KI.trans{u v w:World}(h:KI u v)(h2:KI v w):KI u w:=⟨h2.os.trans h.os,h2.tape.trans h.tape,h2.output.trans h.output,B9A h.size h2.size,λk o hk hc=>h2.keep k o (h.keep k o hk hc) hc⟩
theorem KI.put{B b:Nat}{w W:World}{o:Obj}(hB:w.heap.size<=b)(h:KI w W):KI w (W.putObj b o) :=
 ⟨h.os,h.tape,h.output,by rw[C1C];exact h.size,λk o' hk hc=>by
  have hlt:=(Array.getElem?_eq_some_iff.1 hk).1
  exact(C1D (by omega)).trans (h.keep k o' hk hc)⟩
theorem KI.by{u v:World}{g:Nat}{T:TypeId}{cs:Array Value}{fr:Nat×Nat}(h:u.grownBy v (some g))(hg:u.heap[g]?=some (.cells cs T fr))(hc:chB (.cells cs T fr)=true):KI u v :=
 ⟨h.os,h.tape,h.output,h.size,λk o hk ho=>(h.block k (Array.getElem?_eq_some_iff.1 hk).1 (λe=>by
  have e:=B8y e;rw[e,hg]at hk;injection hk with hk;rw[<-hk,hc]at ho
  cases ho)).trans hk⟩
def B0q(J:Nat->World->Prop)(i:Nat)(W:World):Exit->Act->World->Prop
 | .normal,_,W'=>KI W W'/\J (i+1) W'
 | _,_,_=>False
theorem B6T{P:Program}{g:Operand}{p0:Tmp}{assign body:Code}{Q:Exit->Act->World->Prop}{a:Act}{wE:World}{gf:Nat}{lb:Array Value}(hg:a.eval g = .func (.func gf) #[] lb)(eg:∀args w,(callFunc gf args).run P w = .ok (.enter gf args) w)
  (N:Nat) (C:Nat->Value->World->Prop) (J:Nat->World->Prop) (a₁:Value->Act)
  (it:∀(l:Nat) (Rd:Nat->World->Prop) (Rx:World->Prop) (W:World),KI wE W->wE.heap.size+2<=W.heap.size->(∀i u v,A4 u v->Rd i u->Rd i v)->(∀u v,A4 u v->Rx u->Rx v) ->
   (∀i v W1,i<N->KI wE W1->Rd i W1->C i v W1->YieldAt Fence.wide 0 P l #[v] W1 λe W'=>(e = .returned (.bool true)/\KI W1 W'/\Rd (i+1) W')\/(e = .returned (.bool false)/\Rx W')) ->
   Rd 0 W->CallsIn Fence.wide 0 P gf (#[.func (.yield l) #[] #[]]++lb) W λe W'=>(∃v,e = .returned v)/\((KI wE W'/\Rd N W')\/Rx W'))
  (hC:∀i v W o,C i v W->C i v (W.putObj (wE.heap.size+1) o)) (hJp:∀i W o b,b=wE.heap.size\/b=wE.heap.size+1->J i W->J i (W.putObj b o)) (hJg:∀i u v,A4 u v->J i u->J i v) (h0:J 0 wE)
  (hassign:∀(l:Nat) (v:Value) (W:World) (K:Act->World->Prop),K (a₁ v) W->assign.wpIn (Fence.wide.inRound l) 0 P (Exit.then K (λ_ _ _=>False)) { tmps:=((#[p0]:Array Tmp).zip #[v]).foldl (λt (p,v)=>t.setIfInBounds p v) a.tmps,defers:=[] } W)
  (hbody:∀(l i:Nat) (v:Value) (W:World),i<N->J i W->KI wE W->wE.heap.size+2<=W.heap.size->C i v W->body.wpIn (Fence.wide.inRound l) 0 P (B0q J i W) (a₁ v) W)
  (hdone:∀W,KI wE W->J N W->W.heap[wE.heap.size]?=some (.deferred (some []))->Q .normal { a with defers:={ target:=.collected wE.heap.size,args:=#[] }::a.defers } W) :
  (Code.rangeFunc g #[p0] assign body).wpIn Fence.wide 0 P Q a wE:=by
 refine wpIn_rangeFunc ?_;intro fn hfn;obtain⟨rec,hrec⟩:∃rec:LoopState->Option Code->Loop,rec=λst pe=>{ state:=st,pending:=pe,fn,tmps:=a.tmps,params:=#[p0],assign,body,defers:=wE.heap.size }:=⟨_,rfl⟩
 obtain⟨W1,hW1⟩:∃W1,(wE.alloc (.deferred (some []))).alloc (.loop (rec .ready none))=W1:=⟨_,rfl⟩
 have hL1:W1.heap[wE.heap.size+1]?=some (.loop (rec .ready none)):=by
  rw[<-hW1];have:=C1E (wE.alloc (.deferred (some []))) (.loop (rec .ready none));rwa [World.size_alloc]at this
 have hK1:W1.heap[wE.heap.size]?=some (.deferred (some [])):=by
  rw[<-hW1];exact(Below.heap_alloc _ _ _ (by simp)).trans (C1E wE _)
 have hG1:A4 wE W1:=by rw[<-hW1];exact(A4.alloc _ _).trans (A4.alloc _ _)
 have hS1:wE.heap.size+2<=W1.heap.size:=by rw[<-hW1];simp
 have keep:∀ {u v:World} {k:Nat} {o:Obj},A4 u v->u.heap[k]?=some o->v.heap[k]?=some o:=λhg h=>(hg.block _ (Array.getElem?_eq_some_iff.1 h).1).trans h
 refine⟨wE.heap.size+1,[{ target:=.collected wE.heap.size,args:=#[] }],W1,{ target:=.fn (.func gf) lb,args:=#[.func (.yield (wE.heap.size+1)) #[] #[]] },W1,gf,
  #[.func (.yield (wE.heap.size+1)) #[] #[]]++lb,W1,?_,?_,λ_ _=>trivial,?_,λh=>(by cases h),?_⟩
 ·rw[<-hW1,hrec];exact run_enterLoop_outer _ _ _ _ _
 ·simp only[resolve,hg];simp[go_sem]
 ·simp[invoke,go_sem,eg]
 ·refine(it (wE.heap.size+1)
   (λi W=>J i W/\W.heap[wE.heap.size+1]?=some (.loop (rec .ready none))/\W.heap[wE.heap.size]?=some (.deferred (some [])))
   (λ_=>False)
   W1 (KI.ofGrow hG1) hS1 (λi u v hg h=>⟨hJg _ _ _ hg h.1,keep hg h.2.1,keep hg h.2.2⟩) (λ_ _ _ h=>h) ?_ ⟨hJg _ _ _ hG1 h0,hL1,hK1⟩).mono ?_
  ·rintro i v W hi hGW ⟨hj,hl,hk⟩ hc;have hlt:wE.heap.size+1<W.heap.size:=(Array.getElem?_eq_some_iff.1 hl).1;have hy:=run_yield (P:=P) (args:=#[v]) hl (by rw[hrec];rfl);rw[hrec]at hy;refine⟨fn,_,assign,body,hy,roundIn_of_wpIn hfn (hassign _ v W _ ⟨_,run_beginRound hl (by rw[hrec]),?_⟩)⟩;obtain⟨Wb,hWb⟩:∃Wb,Wb=W.putObj (wE.heap.size+1) (.loop { rec .ready none with state:=.busy }):=⟨_,rfl⟩
   have hl2:Wb.heap[wE.heap.size+1]?=some (.loop { rec .ready none with state:=.busy }):=by rw[hWb];exact C1F hlt
   have hk2:Wb.heap[wE.heap.size]?=some (.deferred (some [])):=by rw[hWb];exact(C1D (by omega)).trans hk
   have hg2:KI wE Wb:=by rw[hWb];exact KI.put (B:=0) (by omega) hGW
   have hj2:J i Wb:=by rw[hWb];exact hJp _ _ _ _ (.inr rfl) hj
   have hc2:C i v Wb:=by rw[hWb];exact hC i v W _ hc
   have hs2:Wb.heap.size=W.heap.size:=by rw[hWb];exact C1C
   rw[<-hWb];refine wpIn_mono (hbody _ i v Wb hi hj2 hg2 (by omega) hc2) ?_;rintro e a3 W3 hp
   cases e with
   | normal =>
    obtain⟨hk3,hj3⟩:=hp;have hl3:=hk3.keep _ _ hl2 rfl;have hr:=run_endRound (P:=P) none hl3;have hlt3:=(Array.getElem?_eq_some_iff.1 hl3).1;have e1:(W3.putObj (wE.heap.size+1) (.loop { rec .ready none with state:=.ready,pending:=none })).heap[wE.heap.size+1]?=some (.loop (rec .ready none)):=by
     rw[C1F hlt3,hrec]
    refine⟨_,_,hr,.inl ⟨rfl,⟨?_,?_,?_,?_,λk o hk hc=>?_⟩,hJp _ _ _ _ (.inr rfl) hj3,e1,(C1D (by omega)).trans (hk3.keep _ _ hk2 rfl)⟩⟩
    ·exact hk3.os.trans (by rw[hWb];rfl)
    ·exact hk3.tape.trans (by rw[hWb];rfl)
    ·exact hk3.output.trans (by rw[hWb];rfl)
    ·rw[C1C];have:=hk3.size;omega
    ·by_cases hkk:k=wE.heap.size+1
     ·rw[hkk]at hk⊢;exact e1.trans (hl.symm.trans hk)
     ·refine(C1D hkk).trans (hk3.keep k o ?_ hc);rw[hWb];exact(C1D hkk).trans hk
   | ret=>exact hp.elim
   | exit id=>exact hp.elim
   | goto t=>exact hp.elim
   | panic ch=>exact hp.elim
   | outgrown=>exact hp.elim
  ·rintro e W2 ⟨⟨v,rfl⟩,(⟨hg2,hj2,hl,hk⟩|hx)⟩
   ·refine⟨none,_,by have:=run_endLoop (P:=P) hl (by rw[hrec];simp);rw[hrec]at this;exact this,hdone _ (KI.put (B:=0) (by omega) hg2) (hJp _ _ _ _ (.inr rfl) hj2) ((C1D (by omega)).trans hk)⟩
   ·exact hx.elim
theorem B44(n b1:Nat)(hn:n<=6)(wE:World)(hb:Blk wE b1 3 #[.int .i64 (n:Nat)])(l:Nat)(Rd:Nat->World->Prop)(Rx:World->Prop)(W:World)(hGW:KI wE W)(hsz:wE.heap.size+2<=W.heap.size)(hRd:∀i u v,A4 u v->Rd i u->Rd i v)(hRx:∀u v,A4 u v->Rx u->Rx v)
  (hY:∀i v W1,i<3^n->KI wE W1->Rd i W1->A3r (wE.heap.size+2) n i v W1->YieldAt Fence.wide 0 Tryz.prog l #[v] W1 λe W'=>(e = .returned (.bool true)/\KI W1 W'/\Rd (i+1) W')\/(e = .returned (.bool false)/\Rx W')) (h0:Rd 0 W) :
  CallsIn Fence.wide 0 Tryz.prog 127 (#[.func (.yield l) #[] #[]]++#[.pointer (some ⟨b1,0,none⟩)]) W λe W'=>(∃v,e = .returned v)/\((KI wE W'/\Rd (3^n) W')\/Rx W'):=by
 refine callsIn_wide.2 (callsIn_wide (n:=1).1 ?_);refine callsIn_of_wp Tryz.func127 rfl trivial ?_ rfl;have hpw:∀i,i<=n->3^i<=729:=λi hi=>B9A (B9P (by omega) (B9A hi hn)) (by decide);have hmk:=A8o n (by omega) (n:Int) rfl;have Hmk:=B9I hmk;have Hpw:=B9I hpw;have HY:=B9I hY;have hbl:∀V,KI wE V->V.cell? ⟨b1,0,none⟩=some (.int .i64 (n:Nat))/\V.frozen? ⟨b1,0,none⟩=false:=λV hg=>by
  have hb2:Blk V b1 3 #[.int .i64 (n:Nat)]:=hg.keep _ _ hb rfl;exact⟨by rw[hb2.cell 0];rfl,hb2.frozen 0⟩
 have Hbl:=B9I hbl;clear hY hb hmk hpw hbl;simp only[Tryz.ntmps127,List.size_toArray,List.length_cons,List.length_nil,Nat.reduceAdd,Nat.reduceSub,Array.replicate_succ,Array.replicate_zero,List.push_toArray,List.append_toArray,List.nil_append,List.cons_append];obtain⟨q0,q1⟩:=Hbl.out W hGW;gi_wp2;gi_loopw [9,3] (λs0 s1 wr=>wr=W/\∃i:Nat,i<=n/\s0 = .int .i64 i/\s1 = .int .i64 (3^i:Nat)) (λs0 _ _=>n-(intOf s0).toNat)
 case atStart=>exact⟨rfl,0,B9a _,rfl,rfl⟩
 case round =>
  obtain⟨rfl,i,hi,rfl,rfl⟩:=hrel;have hT:=Hpw.out i hi;obtain⟨T,hTe⟩:∃T,T=3^i:=⟨_,rfl⟩
  rw[<-hTe]at hT;simp only[<-hTe];rcases B8t i n with hlt|hge
  ·have hdec:decide ((i:Int)<(n:Int))=true:=by simp;omega
   have hw1:IntKind.i64.wrap ((T:Int)*3)=((3^(i+1):Nat):Int):=by
    rw[B9Z _ (by omega),Nat.pow_succ,<-hTe];omega
   have hw2:IntKind.i64.wrap ((i:Int)+1)=((i+1:Nat):Int):=by rw[B9Z _ (by omega)];omega
   clear hTe;gi_wp2;go_roundw
   case rel=>exact⟨(by first|trivial|rfl),i+1,by omega,rfl,rfl⟩
   case measure=>simp[intOf];omega
  ·obtain rfl:n=i:=by omega
   have hdec:decide ((n:Int)<(n:Int))=false:=by simp
   have Hte:=B9I hTe;clear hTe q0 q1;gi_wp2;gi_loopw [15] (λs0 wr=>∃c:Nat,c<=T/\s0 = .int .i64 c/\KI wE wr/\Rd c wr/\wE.heap.size+2<=wr.heap.size) (λs0 _=>T-(intOf s0).toNat)
   case atStart=>exact⟨0,B9a _,rfl,hGW,h0,hsz⟩
   case round =>
    clear hGW hsz h0;obtain⟨c,hc,rfl,hGW,h0,hsz⟩:=hrel;obtain⟨u,rfl⟩:=exQ wr;obtain⟨q0,q1⟩:=Hbl.out u hGW;rcases B8t c T with hlt|hge2
    ·have hdec2:decide ((c:Int)<(T:Int))=true:=by simp;omega
     have hw3:IntKind.i64.wrap ((c:Int)+1)=((c+1:Nat):Int):=by rw[B9Z _ (by omega)];omega
     have hmk:=Hmk.out;gi_wp2;clear hmk;generalize hv:World.alloc u _=v;have hbk:Blk v u.heap.size 3 (O9 (Y0 (sgI c) n 0)):=by rw[<-hv,A80];exact Blk.new u 3 _
     have hgv:A4 u v:=hv ▸ A4.alloc u _;have hbz:wE.heap.size+2<=u.heap.size:=hsz;clear hv;generalize hbe:u.heap.size=b at hbk hbz⊢;gi_loopw [6,7] (λs0 s1 wr=>∃j R:Nat,j<=n/\s0 = .int .i64 j/\s1 = .int .i64 R/\R=c/3^j/\A4 u wr/\Blk wr b 3 (O9 (Y0 (sgI c) n j))) (λs0 _ _=>n-(intOf s0).toNat)
     case atStart=>exact⟨0,c,B9a _,rfl,rfl,by simp,hgv,hbk⟩
     case round =>
      clear hbk hgv;obtain⟨j,R,hj,rfl,rfl,hR,hgv,hbk⟩:=hrel;obtain⟨p0,p1⟩:=Hbl.out wr (hGW.trans (KI.ofGrow hgv));have hRle:R<=c:=by rw[hR];exact B9F _ _
      rcases B8t j n with hltj|hgej
      ·have hdec3:decide ((j:Int)<(n:Int))=true:=by simp;omega
       have hjn:(j:Int)<(n:Int):=by omega
       have hw4:IntKind.i64.wrap ((j:Int)+1)=((j+1:Nat):Int):=by rw[B9Z _ (by omega)];omega
       have hm:(R:Int).tmod 3=((R%3:Nat):Int):=by rw[B9H (by omega)];omega
       have hd:(R:Int).tdiv 3=((R/3:Nat):Int):=by rw[B9G (by omega)];omega
       have hm3:R%3<3:=B9R _ (by omega);have hd3:R/3=c/3^(j+1):=by rw[hR,Nat.pow_succ,B9M]
       have hsg:sgI c j=((R%3:Nat):Int)-1:=by unfold sgI;rw[<-hR]
       obtain⟨m,hme⟩:∃m,m=R%3:=⟨_,rfl⟩
       obtain⟨d,hde⟩:∃d,d=R/3:=⟨_,rfl⟩
       rw[<-hme]at hm hm3 hsg;rw[<-hde]at hd hd3;have hdl:d<=R:=by rw[hde];exact B9F _ _
       have hw5:IntKind.i64.wrap (m:Int)=(m:Int):=B9Z _ (by omega);have hw6:IntKind.i64.wrap (d:Int)=(d:Int):=B9Z _ (by omega);have hw7:IntKind.i64.wrap ((m:Int)-1)=(m:Int)-1:=B9Z _ (by omega);have hst:=B0A (f:=sgI c) hltj;rw[hsg]at hst;have hcl:=hbk.cell j;rw[A3q,B9Y (by rw[A8Y];exact hltj)]at hcl;simp only[Option.map_some]at hcl;have hfz:=hbk.frozen j;have hbk2:=hbk.set_ j (.int .i64 ((m:Int)-1));rw[A5H,hst]at hbk2;have hg2:A4 u (wr.setCell ⟨b,j,none⟩ (.int .i64 ((m:Int)-1))):=A4.put (B9u hbe) [.int .i64 ((m:Int)-1)] j wr hgv;have Hd3:=B9I hd3;clear hme hde hR hst hbk hsg hd3;gi_wp2;go_roundw
       case rel=>exact⟨j+1,d,by omega,rfl,rfl,Hd3.out,hg2,hbk2⟩
       case measure=>simp[intOf];omega
      ·obtain rfl:n=j:=by omega
       have hdec3:decide ((n:Int)<(n:Int))=false:=by simp
       rw[A9x]at hbk;have hg3:=hGW.trans (KI.ofGrow hgv);obtain⟨fn,tmps,assign,body,hy,hRd3⟩:=HY.out c _ wr (by rw[<-Hte.out];exact hlt) hg3 (hRd _ _ _ hgv h0) ⟨b,rfl,hbz,hbk⟩;clear hR hbk;gi_wp2;refine hRd3.mono ?_;rintro e W3 (⟨rfl,hg4,hrd⟩|⟨rfl,hx⟩)
       ·gi_wp2;go_roundw
        case rel=>exact⟨c+1,by omega,rfl,hg3.trans hg4,hrd,B9A hsz ((KI.ofGrow hgv).trans hg4).size⟩
        case measure=>simp[intOf];omega
       ·gi_wp2;refine B9B (results_none rfl _ _ _) rfl ?_;exact⟨⟨_,rfl⟩,.inr hx⟩
    ·obtain rfl:T=c:=by omega
     have hdec2:decide ((T:Int)<(T:Int))=false:=by simp
     gi_wp2;go_end0;exact⟨⟨_,rfl⟩,.inl ⟨hGW,by rw[<-Hte.out];exact h0⟩⟩
end Go.Proofs.YtgpglgbcobeogaaGreatDoor
