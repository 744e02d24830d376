import Derived.Test.YtgpglgbcobeogaaGreatDoorL37
set_option linter.unusedSimpArgs false
set_option linter.unusedVariables false
set_option maxHeartbeats 16000000
set_option maxRecDepth 100000
namespace Go.Proofs.YtgpglgbcobeogaaGreatDoor
open Go Go.RowKit Go.Shelf
attribute [local go_sem] Oper.semAt_some
theorem B7B(n:Nat)(w:World):Calls Tryz.prog 60 #[.int .i64 (n:Nat)] w (E9 (λb:Nat=>.func (.func 127) #[] #[.pointer (some ⟨b,0,none⟩)]) (λb W=>Blk W b 3 #[.int .i64 (n:Nat)]) w):=by
 go_enter Tryz.func60,Tryz.ntmps60;refine en1 ?_;intro u hG b1 hB hF;refine r0T ?_;refine rt Tryz.results60 ?_;exact⟨b1,rfl,hB.head,hG⟩
theorem A3o{W:World}{b k:Nat}{t:TypeId}{cs:Array Value}{o:Obj}(h:Blk W b t cs)(hk:b≠k):Blk (W.putObj k o) b t cs:=(C0K hk).trans h
theorem A62{W:World}{b k:Nat}{l:List Rat}{o:Obj}(h:Lq W (some ⟨b,0,none⟩) l)(hk:b≠k):Lq (W.putObj k o) (some ⟨b,0,none⟩) l:=by
 have hc:∀off,(W.putObj k o).cell? ⟨b,off,none⟩=W.cell? ⟨b,off,none⟩:=λoff=>by
  unfold World.cell?;rw[C0K hk]
 intro hne;obtain⟨b',off,e,hb,hrd⟩:=h hne;cases e;refine⟨b,0,rfl,by rw[C0J];exact hb,?_⟩;exact λi q hi j v hj=>(hc _).trans (hrd i q hi j v hj)
theorem A2W{W W':World}{b k i:Nat}{l:List Rat}{vs:List Value}(h:Lq W (some ⟨b,0,none⟩) l)(hk:b≠k)(hu:C7 W k i vs=W'):Lq W' (some ⟨b,0,none⟩) l:=by
 have hg:W.grownBy W' (some k):=by subst hu;exact A1F k vs i W
 intro hne;obtain⟨b',off,e,hb,hrd⟩:=h hne;cases e;have hc:∀off,W'.cell? ⟨b,off,none⟩=W.cell? ⟨b,off,none⟩:=λoff=>by
  unfold World.cell?;rw[hg.block b hb (λe=>hk (B78 e))]
 exact⟨b,0,rfl,B8X hb hg.size,λi q hi j v hj=>(hc _).trans (hrd i q hi j v hj)⟩
theorem B7u{F:Fence}{n:Nat}{P:Program}{c:Code}{Q:Exit->Act->World->Prop}{a:Act}{W:World}(h:∀u,A4 W u->c.wpIn F n P Q a u):c.wpIn F n P Q a W:=h W (A4.refl W)
def Kp2(D:Nat)(W u:World):Prop:=u.heap[D]?=W.heap[D]?/\u.heap[D+1]?=W.heap[D+1]?
theorem Kp2.of{D:Nat}{W u:World}(hg:A4 W u)(hs:D+2<=W.heap.size):Kp2 D W u:=⟨hg.block D (by omega),hg.block (D+1) (by omega)⟩
theorem Kp2.put{D b i:Nat}{W u u':World}{vs:List Value}(h:Kp2 D W u)(hs:D+2<=u.heap.size)(hb:b<D)(hu:C7 u b i vs=u'):Kp2 D W u':=by
 have hg:u.grownBy u' (some b):=by subst hu;exact A1F b vs i u
 exact⟨(hg.block D (by omega) (λe=>by have:=B78 e;omega)).trans h.1,(hg.block (D+1) (by omega) (λe=>by have:=B78 e;omega)).trans h.2⟩
def J3(X:List (List Rat))(N L:Nat):List (List Rat):=(List.range L).map (C9 (J7 X N) L)
abbrev A2z(n:Nat)(GR:List (List Rat))(PL:List Rat)(sg:List Int)(F B:List Rat)(LM:List Lm):Prop :=
 ∀(A:Nat) (bp b:Nat) (rs:List Rq) (W:World),rs.map (·.2.2)=GR->Lrq W (some ⟨A,0,none⟩) rs->Lq W (some ⟨bp,0,none⟩) PL->Blk W b 3 (T9 sg)->Tab W ->
  Calls Tryz.prog 61 #[.agg #[.slice (some ⟨A,0,none⟩) n n,.slice (some ⟨bp,0,none⟩) n n],.slice (some ⟨b,0,none⟩) n n] W (E9 (λz:Ax×Ax×Ax=>.agg #[.slice z.1.1 n z.1.2,.slice z.2.1.1 n z.2.1.2,.slice z.2.2.1 LM.length z.2.2.2]) (λz W'=>W'.ownsRow W.heap.size 48 5 (.slice z.1.1 n z.1.2) n (F.flatMap qL)/\W'.ownsRow W.heap.size 48 5 (.slice z.2.1.1 n z.2.1.2) n (B.flatMap qL)/\W'.ownsRow W.heap.size 183 10 (.slice z.2.2.1 LM.length z.2.2.2) LM.length (LM.flatMap lmL)) W)
theorem B3i(d:Nat){P:Program}{g:Operand}{p0:Tmp}{assign body:Code}{Q:Exit->Act->World->Prop}{a:Act}{wE:World}{gf:Nat}{lb:Array Value}(hg:a.eval g = .func (.func gf) #[] lb)(eg:∀args w,(callFunc gf args).run P w = .ok (.enter gf args) w)
  (N:Nat) (C:Nat->Value->World->Prop) (J:Nat->Prop) (Ix:World->Prop)
  (it:∀(l:Nat) (Rd:Nat->World->Prop) (Rx:World->Prop) (W:World),A4 wE W->wE.heap.size+2<=W.heap.size->(∀i u v,A4 u v->Rd i u->Rd i v)->(∀u v,A4 u v->Rx u->Rx v) ->
   (∀i v W1,i<N->A4 wE W1->Rd i W1->C i v W1->YieldAt Fence.wide 0 P l #[v] W1 λe W'=>(e = .returned (.bool true)/\A4 W1 W'/\Rd (i+1) W')\/(e = .returned (.bool false)/\Rx W')) ->
   Rd 0 W->CallsIn Fence.wide 0 P gf (#[.func (.yield l) #[] #[]]++lb) W λe W'=>(∃v,e = .returned v)/\((A4 wE W'/\Rd N W')\/Rx W'))
  (hC:∀i v W o,C i v W->C i v (W.putObj (wE.heap.size+1) o)) (hIx:∀W o b,b=wE.heap.size\/b=wE.heap.size+1->Ix W->Ix (W.putObj b o)) (hIg:∀u v,A4 u v->Ix u->Ix v) (h0:J 0)
  (hassign:∀(l:Nat) (v:Value) (W:World) (K:Act->World->Prop),K { tmps:=(a.tmps.setIfInBounds p0 v).setIfInBounds d v,defers:=[] } W->assign.wpIn (Fence.wide.inRound l) 0 P (Exit.then K (λ_ _ _=>False)) { tmps:=((#[p0]:Array Tmp).zip #[v]).foldl (λt (p,v)=>t.setIfInBounds p v) a.tmps,defers:=[] } W)
  (hbody:∀(l i:Nat) (v:Value) (W:World),i<N->J i->A4 wE W->wE.heap.size+2<=W.heap.size->C i v W->body.wpIn (Fence.wide.inRound l) 0 P (A7C wE.heap.size J Ix i W) { tmps:=(a.tmps.setIfInBounds p0 v).setIfInBounds d v,defers:=[] } W)
  (hdone:∀W,A4 wE W->J N->W.heap[wE.heap.size]?=some (.deferred (some []))->Q .normal { a with defers:={ target:=.collected wE.heap.size,args:=#[] }::a.defers } W)
  (hstop:∀W,Ix W->W.heap[wE.heap.size]?=some (.deferred (some []))->Code.ret.wpIn Fence.wide 0 P Q { a with defers:={ target:=.collected wE.heap.size,args:=#[] }::a.defers } W) :
  (Code.rangeFunc g #[p0] assign body).wpIn Fence.wide 0 P Q a wE:=B1t hg eg N C J Ix (λv=>{ tmps:=(a.tmps.setIfInBounds p0 v).setIfInBounds d v,defers:=[] }) it hC hIx hIg h0 hassign hbody hdone hstop
theorem A77(A:Option Addr)(rs:List Rq)(N Lw c:Nat)(Y:Ax)(y:List Rat)(hn:rs.length=N)(hN1:1<=N)(hN2:N<=300)(hL1:1<=Lw)(hL2:Lw<=6)(hrl:∀r∈rs,r.2.2.length=Lw)(hy:y.length=N)(s:Nat)(hs1:1<=s)(hs:s<=10000)(hX:∀i,i<N->∀j,j<Lw->qs (gq (B6 (rs.map (·.2.2)) i) j)<=s)(hys:∀i,i<N->qs (gq y i)<=s)(a:Rat)(ha0:¬a.num<0)
  (hun:(C0 N Lw (D7 (rs.map (·.2.2)),[]) Lw).2.length=Lw)
  (F B:Nat->List Rat) (LM:Nat->List Lm) (z:Nat) (haz:qs a<=z) (hz:4*z+10<=BIG) (hFl:∀k,k<3^Lw->(F k).length=Lw/\(B k).length=Lw/\(LM k).length<=1000) (hFz:∀k,k<3^Lw->(∀i,i<Lw->qs (gq (F k) i)<=z)/\(∀i,i<Lw->qs (gq (B k) i)<=z)/\∀x∈LM k,qs x.1<=z/\qs x.2<=z)
  (hsv:∀k,k<3^Lw->A2z Lw (J3 (rs.map (·.2.2)) N Lw) (I1 (rs.map (·.2.2)) y N Lw) (F6 Lw k) (F k) (B k) (LM k))
  (kk:Nat) (hk1:kk<3^Lw) (hk2:J8 a (LM kk)=true) (hk3:∀j,j<kk->J8 a (LM j)=false) (w:World) (h:Lrq w A rs) (h2:Lq w Y.1 y) (HT:Tab w) :
  Calls Tryz.prog 14 #[.slice A N c,.slice Y.1 N Y.2,qV a] w (E9 (λx:Ax=>.tuple #[.slice x.1 Lw x.2,.int .i64 0]) (λx W=>Lq W x.1 (M6 (F kk) (B kk) Lw a)) w):=by
 have hBB:100000000<=BIG:=by unfold BIG;omega
 have hsh:=λW (hg:A4 w W)=>A3V A Y.1 rs N Lw c Y.2 hn hN1 hN2 (by omega) (by omega) hrl W (h.grow hg)
 have huq:=λW (hg:A4 w W) (hT:Tab W)=>A89 A rs N Lw c hn hN1 hN2 hL1 hL2 hrl s hs1 hX (by
  have h1:10^Lw<=10^6:=B8Z (by omega) hL2;have h2:s*10^Lw<=10000*10^6:=B9p hs h1;have h3:30*(10000*10^6)<=BIG:=by unfold BIG;omega
  omega) W (h.grow hg) hT
 rw[hun]at huq;simp only[Nat.lt_irrefl,if_false]at huq;obtain⟨GR,hGR⟩:∃x,x=J3 (rs.map (·.2.2)) N Lw:=⟨_,rfl⟩
 obtain⟨PL,hPL⟩:∃x,x=I1 (rs.map (·.2.2)) y N Lw:=⟨_,rfl⟩
 obtain⟨GM,hGM⟩:∃x,x=J7 (rs.map (·.2.2)) N:=⟨_,rfl⟩
 have hGR2:GR=(List.range Lw).map (C9 GM Lw):=by rw[hGR,hGM];rfl
 have hpo:=λW (hg:A4 w W) (hT:Tab W)=>(B1Q A rs N Lw c Y y hn hN1 hN2 hL1 (by omega) hrl hy s (by omega) hX hys W (h.grow hg) (h2.grow hg) hT).mono (R':=E9 (λx:(Nat×(Nat->Nat)×(Nat->Nat))×Nat=>.agg #[.slice (some ⟨x.1.1,0,none⟩) Lw Lw,.slice (some ⟨x.2,0,none⟩) Lw Lw]) (λx W'=>MatW w.heap.size Lw Lw x.1.1 Lw x.1.2.1 x.1.2.2 GM W'/\W'.ownsRow w.heap.size 48 5 (.slice (some ⟨x.2,0,none⟩) Lw Lw) Lw (PL.flatMap qL)) W) (by
  rintro e w' ⟨x,rfl,⟨g1,g2⟩,hg2⟩
  exact⟨x,rfl,⟨by rw[hGM];exact g1.mono hg.sz,by rw[hPL];exact g2.mono hg.sz⟩,hg2⟩)
 rw[<-hGR,<-hPL]at hsv;have hsg:a.num.sign=(a.num.sign:Int):=rfl;have hsg2:decide (a.num.sign<0)=false:=by
  rw[decide_eq_false_iff_not];intro h1
  exact ha0 (Int.sign_eq_neg_one_iff_neg.1 (by
   rcases B9W a.num 0 with h3|h3|h3
   ·exact B89 h3
   ·rw[h3]at h1;simp at h1
   ·rw[B9B h3]at h1;omega))
 obtain⟨S,hS⟩:∃S,S=a.num.sign:=⟨_,rfl⟩
 have hfs:=λ(W:World)=>U4 a (by have:=G6 a;have:=I6;omega) W;rw[<-hS]at hsg2;simp only[<-hS]at hfs;obtain⟨bb,ob,P0,eA,hP0⟩:=X8 hn hrl h (i:=0) (by omega);have hr0:=λW hg=>(hP0 W hg).1;simp only[Nat.add_zero]at hr0;have hNi:(0:Int)<(N:Int):=by omega
 have hNn:0<N:=by omega
 have fN:decide ((0:Int)<(N:Int))=true:=by simp;omega
 have fNn:decide (0<N)=true:=by simp;omega
 obtain⟨YA,YC⟩:=Y;subst eA;have Hsh:=B8S hsh;have Huq:=B8S huq;have Hpo:=B8S hpo;have Hfs:=B8S hfs;have Hr0:=B8S hr0;have Hsv:=B8S hsv;have HFl:=B8S hFl;have HFz:=B8S hFz;have Hk:=B8S (⟨hk1,hk2,hk3⟩:kk<3^Lw/\J8 a (LM kk)=true/\∀j,j<kk->J8 a (LM j)=false);replace hGR2:=B8S hGR2;clear hsh huq hpo hfs hr0 hsv hFl hFz hk1 hk2 hk3 hP0 hGR hPL hGM hun hX hys h h2 hrl hy hn hs1 hs ha0 hsg hS;refine(callsIn_wide (n:=0)).1 (callsIn_of_wp_marks Tryz.func14 rfl trivial (wpIn_wide.2 ?_) rfl);simp only[Tryz.ntmps14,List.size_toArray,List.length_cons,List.length_nil,Nat.reduceAdd,Nat.reduceSub,Array.replicate_succ,Array.replicate_zero,List.push_toArray,List.append_toArray,List.nil_append,List.cons_append];refine en3 ?_;intro u hG b7 b6 b5 hB hF;refine B8N ?_;refine B8N (rsE G7 [0,0,1,0] hB hG λL hL=>?_);refine gs ?_;refine gmd (C:=λv ⟨hgu,hB,hG,_⟩=>Hsh.out _ hG) ?_;refine gs ?_;refine geT hL ?_;clear hB hG hL L;rintro u ⟨-,hB,hG,-⟩;refine B8T (rfl) ?_;refine B8U ?_;refine A6 ?_;refine B8N ?_;refine B8N (rsE G7 [0,1,0] hB hG λL hL=>?_)
 repeat first|refine gya ?_|refine gyr ?_|refine gna ?_|refine gyb (by(rintro v ⟨hgu,hB,hG,-⟩ N hN;have r:=hB.r;simp only[BxR]at r;(first|have q0:=Hr0.out v hG|skip);go_simp;exact hN)) ?_
 refine gmw (C:=λv=>Hfs.out _) ?_;refine gs ?_;refine geT hL ?_;clear hB hG hL L;rintro u ⟨-,hB,hG,-⟩;refine B8T (rfl) ?_;refine B8U ?_;refine A6 ?_;refine B8N ?_;refine B8N (rsE G7 [0,1,0] hB hG λL hL=>?_);refine gs ?_;refine gmd (C:=λv ⟨hgu,hB,hG,_⟩=>Huq.out _ hG (HT.grow hG)) ?_;refine gs ?_;refine geT hL ?_;clear hB hG hL L;rintro u ⟨-,hB,hG,-⟩;refine r0T ?_;refine B8T (rfl) ?_;refine B8U ?_;refine A6 ?_;refine B8N (rsC G7 [0,0,1,2] hB hG λK L hN hL=>?_);refine gs ?_;refine gxd (X:=(Nat×(Nat->Nat)×(Nat->Nat))×Nat) (λx:(Nat×(Nat->Nat)×(Nat->Nat))×Nat=>.agg #[.slice (some ⟨x.1.1,0,none⟩) Lw Lw,.slice (some ⟨x.2,0,none⟩) Lw Lw]) (λx W'=>MatW w.heap.size Lw Lw x.1.1 Lw x.1.2.1 x.1.2.2 GM W'/\W'.ownsRow w.heap.size 48 5 (.slice (some ⟨x.2,0,none⟩) Lw Lw) Lw (PL.flatMap qL)) (λx u u' hg h=>⟨h.1.grow hg,C5 h.2 hg⟩) (λx26=>?_) (C:=by(rintro v ⟨hgu,hB,hG,-⟩;exact Hpo.out _ hG (HT.grow hG)));refine gaa (A6J _ _ _ _ _) λb9 hb9 hn9=>?_;replace hF:=hF.n1 [] hB hG hb9 hn9;refine geC hL ?_;clear hB hG hL L;rintro u ⟨⟨⟨hgu,hB,hG,-⟩,hx26⟩,h9⟩;replace hB:=hB.cons' h9;clear h9;obtain⟨⟨bg,gg,cg⟩,bp⟩:=x26;obtain⟨hm,hp⟩:MatW w.heap.size Lw Lw bg Lw gg cg GM u/\u.ownsRow w.heap.size 48 5 (.slice (some ⟨bp,0,none⟩) Lw Lw) Lw (PL.flatMap qL):=hx26;have Hm:=B8S hm;have Hp:=B8S hp;clear hm hp;clear hb9 hn9;clear hgu;refine gtT ?_;clear hN K;have hbk:=hB.head;refine sv hB hF hG 0 0 [_,_] ?_;intro u hu hBG;have hm:=(Hm.out.over ⟨λe=>L8 Hm.out.hd hbk (by decide) (B9d some e.symm),λi hi e=>L8 (Hm.out.row i hi) hbk (by decide) (B9d some e.symm)⟩ hu).lrq;have hp2:=P5 Hp.out (L8 Hp.out hbk (by decide)) hu;obtain⟨A9,c9,e9,-,-,hp,-⟩:=Q8 hp2;cases e9;clear hB hG hu Hm Hp hbk hp2;obtain⟨hB,hG⟩:=hBG;obtain⟨w1,hw1⟩:=exQ u;have HP:=B8S (show(∃rs':List Rq,rs'.map (·.2.2)=GR/\Lrq w1 (some ⟨bg,0,none⟩) rs')/\Lq w1 (some ⟨bp,0,none⟩) PL from hw1 ▸ ⟨⟨_,by rw[hGR2.out,List.map_map];rfl,hm⟩,hp⟩);have hG1:A4 w1 u:=hw1 ▸ A4.refl u;clear hw1 hm hp;refine B8N ?_;refine B8N (rsE G7 [0,0,0,0,1] hB hG λL hL=>?_)
 repeat first|refine gya ?_|refine gyr ?_|refine gna ?_|refine gyb (by(rintro v ⟨hgu,hB,hG,-⟩ N hN;have r:=hB.r;simp only[BxR]at r;(first|have q0:=Hr0.out v hG|skip);go_simp;exact hN)) ?_
 refine gxd (X:=Nat) (λb:Nat=>.func (.func 127) #[] #[.pointer (some ⟨b,0,none⟩)]) (λb W=>Blk W b 3 #[.int .i64 (Lw:Nat)]) (λb u u' hg h=>h.grow hg) (λx31=>?_) (C:=λv _=>B7B Lw _);refine geT hL ?_;clear hB hG hL L;rintro u ⟨⟨hgu,hB,hG,-⟩,hx31⟩;replace hG1:=hG1.trans hgu;have hbk:=hx31;clear hx31;clear hgu;refine B8v ?_;refine(wpIn_wide (n:=0)).1 ?_;obtain⟨wE,hwE⟩:=exQ u;rw[<-hwE]at hB hG hG1 hbk⊢;clear hwE;have HB:=B8S hB;have HG:=B8S hG;have HG1:=B8S hG1;have h6E:=hB.tail.tail.head.lt;have h7E:=hB.tail.tail.tail.head.lt;refine B3i 10 (gf:=127) (lb:=#[.pointer (some ⟨x31,0,none⟩)]) rfl (enters_of Tryz.func127 (by kernel_rfl) rfl) (3^Lw) (A7N (wE.heap.size+2) Lw) (λi=>∀j,j<i->J8 a (LM j)=false) (λW=>∃z:Ax,Bx W [(b6,35,#[.slice z.1 Lw z.2]),(b7,36,#[.int .i64 0])]/\Lq W z.1 (M6 (F kk) (B kk) Lw a)/\(∃b,z.1=some ⟨b,0,none⟩/\wE.heap.size+2<=b)/\A4 w W) (λl Rd Rx W h1 h2 h3 h4 h5 h6=>B7U Lw x31 hL2 wE hbk l Rd Rx W h1 h2 h3 h4 h5 h6) ?hC ?hIx ?hIg ?h0 ?assign ?body ?done ?stop
 case assign =>
  intro l v W K hK;simp only[List.setIfInBounds_toArray,List.set_cons_zero,List.set_cons_succ]at hK;gi_wp2;exact hK
 case hC =>
  rintro i v W o ⟨b,rfl,hb,hk⟩;exact⟨b,rfl,hb,A3o hk (by omega)⟩
 case hIx =>
  rintro W o b hb ⟨z,h1,h2,⟨bz,h3,h4⟩,h5⟩;refine⟨z,λe he=>?_,?_,⟨bz,h3,h4⟩,A45 h5 (by have:=HG.out.sz;omega)⟩
  ·have h9:=h1 e he;simp only[List.mem_cons,List.not_mem_nil,or_false]at he;rcases he with rfl|rfl
   ·exact A3o h9 (by simp only;omega)
   ·exact A3o h9 (by simp only;omega)
  ·rw[h3]at h2⊢;exact A62 h2 (by omega)
 case hIg=>exact λu v hg ⟨z,h1,h2,h3,h4⟩=>⟨z,h1.grow hg,h2.grow hg,h3,h4.trans hg⟩
 case h0=>exact λj hj=>absurd hj (C0C _)
 case body =>
  intro l i v W hi hJ hgW hsz hsg;simp only[List.setIfInBounds_toArray,List.set_cons_zero,List.set_cons_succ];obtain⟨bs,rfl,hbs,hsb⟩:=hsg;have hB:=HB.out.grow hgW;have hG:=HG.out.trans hgW;obtain⟨F1,F2,F3⟩:=HFl.out i hi;obtain⟨Z1,Z2,Z3⟩:=HFz.out i hi;have hslv:∀W',A4 W W'->Tab W'->Calls Tryz.prog 61 #[.agg #[.slice (some ⟨bg,0,none⟩) Lw Lw,.slice (some ⟨bp,0,none⟩) Lw Lw],.slice (some ⟨bs,0,none⟩) Lw Lw] W' (E9 (λz:Ax×Ax×Ax=>.agg #[.slice z.1.1 Lw z.1.2,.slice z.2.1.1 Lw z.2.1.2,.slice z.2.2.1 (LM i).length z.2.2.2]) (λz V=>V.ownsRow W.heap.size 48 5 (.slice z.1.1 Lw z.1.2) Lw ((F i).flatMap qL)/\V.ownsRow W.heap.size 48 5 (.slice z.2.1.1 Lw z.2.1.2) Lw ((B i).flatMap qL)/\V.ownsRow W.heap.size 183 10 (.slice z.2.2.1 (LM i).length z.2.2.2) (LM i).length ((LM i).flatMap lmL)) W'):=λW' hg hT=>by
   obtain⟨⟨rs',hr1,hr2⟩,hr3⟩:=HP.out;exact(Hsv.out i hi bg bp bs rs' W' hr1 (hr2.grow ((HG1.out.trans hgW).trans hg)) (hr3.grow ((HG1.out.trans hgW).trans hg)) (hsb.grow hg) hT).mono λe V ⟨z,g1,⟨g2,g3,g4⟩,g5⟩=>⟨z,g1,⟨g2.mono hg.size,g3.mono hg.size,g4.mono hg.size⟩,g5⟩
  have Hslv:=B8S hslv;have Hhl:=B8S (λA1 A2 A3 W' h hT=>B5E A1 A2 A3 Lw Lw (LM i).length (LM i) a rfl F3 z Z3 haz hz W' h hT);have Hwt:=B8S (λA1 A2 A3 W' h h2 hT=>B0w A1 A2 A3 Lw (LM i).length (F i) (B i) a F1 F2 (by omega) z Z1 Z2 haz hz W' h h2 hT);obtain⟨m,hm⟩:∃m,m=(LM i).length:=⟨_,rfl⟩
  have hG0:=B8S (A4.refl W);have hke:J8 a (LM i)=true->i=kk:=λh=>by
   rcases B85 i kk with h1|h1|h1
   ·have:=Hk.out.2.2 i h1;rw[h]at this;cases this
   ·exact h1
   ·have h2:=hJ kk h1;rw[Hk.out.2.1]at h2;cases h2
  have Hke:=B8S hke;clear hke;rw[<-hm]at Hslv Hhl Hwt;obtain⟨Fi,hFi⟩:∃x,x=F i:=⟨_,rfl⟩
  obtain⟨Bi,hBi⟩:∃x,x=B i:=⟨_,rfl⟩
  have HQ:=B8S hFi;have HQ2:=B8S hBi;rw[<-hFi,<-hBi]at Hslv Hwt;clear F1 F2 F3 Z1 Z2 Z3 hslv hm hFi hBi hsb;obtain⟨hh,hhe⟩:∃b,b=J8 a (LM i):=⟨_,rfl⟩
  have Hhe:=B8S hhe;rw[<-hhe]at Hhl;clear hhe;have HJ:=B8S hJ;clear hJ hG0;refine B7u λu hg0=>?_;replace hB:=hB.grow hg0;replace hG:=hG.trans hg0;cases hh
  ·skip
   refine wpIn_block ?_;refine wpIn_seq (A6T G7 [0,0,1,2] hB hG λK L hN hL=>?_)
   repeat first|refine gya ?_|refine gyr ?_|refine gna ?_|refine gyb (by(rintro v ⟨hgu,hB,hG,-⟩ N hN;have r:=hB.r;simp only[BxR]at r;(first|have q0:=Hr0.out v hG|skip);go_simp;exact hN)) ?_
   refine gxd (X:=Ax×Ax×Ax) (λz:Ax×Ax×Ax=>.agg #[.slice z.1.1 Lw z.1.2,.slice z.2.1.1 Lw z.2.1.2,.slice z.2.2.1 m z.2.2.2]) (λz V=>V.ownsRow W.heap.size 48 5 (.slice z.1.1 Lw z.1.2) Lw (Fi.flatMap qL)/\V.ownsRow W.heap.size 48 5 (.slice z.2.1.1 Lw z.2.1.2) Lw (Bi.flatMap qL)/\V.ownsRow W.heap.size 183 10 (.slice z.2.2.1 m z.2.2.2) m ((LM i).flatMap lmL)) (λx u u' hg h=>⟨C5 h.1 hg,C5 h.2.1 hg,C5 h.2.2 hg⟩) (λx35=>?_) (C:=by(rintro v ⟨hgu,hB,hG,-⟩;exact Hslv.out _ (hg0.trans hgu) (HT.grow hG)));refine gaa (A4N _ _ _ _ _) λb11 hb11 hn11=>?_;replace hF:=hF.n1 [] hB hG hb11 hn11;refine geC hL ?_;clear hB hG hL L;rintro u ⟨⟨⟨hgu,hB,hG,-⟩,hx35⟩,h11⟩;replace hB:=hB.cons' h11;clear h11;obtain⟨⟨f1,f2⟩,⟨o1,o2⟩,⟨m1,m2⟩⟩:=x35;obtain⟨X1,X2,X3⟩:u.ownsRow W.heap.size 48 5 (.slice f1 Lw f2) Lw (Fi.flatMap qL)/\u.ownsRow W.heap.size 48 5 (.slice o1 Lw o2) Lw (Bi.flatMap qL)/\u.ownsRow W.heap.size 183 10 (.slice m1 m m2) m ((LM i).flatMap lmL):=hx35;have hw11:W.heap.size<=b11:=B8K hg0.size hb11;replace hg0:=hg0.trans hgu;clear hb11 hn11;clear hgu;refine gtT ?_;clear hN K;have hbk:=hB.head;refine sv hB hF hG 0 0 [_,_,_] ?_;intro u hu hBG;replace X1:=P5 X1 (L8 X1 hbk (by decide)) hu;replace X2:=P5 X2 (L8 X2 hbk (by decide)) hu;replace X3:=P5 X3 (L8 X3 hbk (by decide)) hu;replace hg0:=A11 hg0 hw11 hu;clear hB hG hu hbk;obtain⟨hB,hG⟩:=hBG;obtain⟨A7,c7,e7,-,-,Y1,-⟩:=Q8 X1;cases e7;obtain⟨A7,c7,e7,-,-,Y2,-⟩:=Q8 X2;cases e7;obtain⟨A7,c7,e7,-,Y3,-⟩:=B0T (enc:=lmL) (λ_=>rfl) (by decide) X3;cases e7;obtain⟨w2,hw2⟩:=exQ u;have HY:=B8S (hw2 ▸ ⟨Y1,Y2,Y3⟩:Lq w2 f1 Fi/\Lq w2 o1 Bi/\Le lmL 10 w2 m1 (LM i));have hg2:A4 w2 u:=hw2 ▸ A4.refl u;clear X1 X2 X3 Y1 Y2 Y3 hw2;refine wpIn_seq (A8j G7 [0,0,1] hB hG λL hL=>?_)
   repeat first|refine gya ?_|refine gyr ?_|refine gna ?_|refine gyb (by(rintro v ⟨hgu,hB,hG,-⟩ N hN;have r:=hB.r;simp only[BxR]at r;(first|have q0:=Hr0.out v hG|skip);go_simp;exact hN)) ?_
   refine gmd (C:=λv ⟨hgu,hB,hG,_⟩=>Hhl.out (f1,f2) (o1,o2) (m1,m2) _ (HY.out.2.2.grow (hg2.trans hgu)) (HT.grow hG)) ?_;refine geT hL ?_;clear hB hG hL L;rintro u ⟨hgu,hB,hG,-⟩;replace hg0:=hg0.trans hgu;replace hg2:=hg2.trans hgu;clear hgu;refine wpIn_cond_false (rfl) ?_;refine wpIn_skip ?_;refine C8 ?_;refine⟨hg0,λj hj=>?_⟩;rcases B73 j i with h1|h1
   ·exact HJ.out j h1
   ·have h2:j=i:=by omega
    rw[h2];exact Hhe.out.symm
  ·skip
   refine wpIn_block ?_;refine wpIn_seq (A6T G7 [0,0,1,2] hB hG λK L hN hL=>?_)
   repeat first|refine gya ?_|refine gyr ?_|refine gna ?_|refine gyb (by(rintro v ⟨hgu,hB,hG,-⟩ N hN;have r:=hB.r;simp only[BxR]at r;(first|have q0:=Hr0.out v hG|skip);go_simp;exact hN)) ?_
   refine gxd (X:=Ax×Ax×Ax) (λz:Ax×Ax×Ax=>.agg #[.slice z.1.1 Lw z.1.2,.slice z.2.1.1 Lw z.2.1.2,.slice z.2.2.1 m z.2.2.2]) (λz V=>V.ownsRow W.heap.size 48 5 (.slice z.1.1 Lw z.1.2) Lw (Fi.flatMap qL)/\V.ownsRow W.heap.size 48 5 (.slice z.2.1.1 Lw z.2.1.2) Lw (Bi.flatMap qL)/\V.ownsRow W.heap.size 183 10 (.slice z.2.2.1 m z.2.2.2) m ((LM i).flatMap lmL)) (λx u u' hg h=>⟨C5 h.1 hg,C5 h.2.1 hg,C5 h.2.2 hg⟩) (λx35=>?_) (C:=by(rintro v ⟨hgu,hB,hG,-⟩;exact Hslv.out _ (hg0.trans hgu) (HT.grow hG)));refine gaa (A4N _ _ _ _ _) λb11 hb11 hn11=>?_;replace hF:=hF.n1 [] hB hG hb11 hn11;refine geC hL ?_;clear hB hG hL L;rintro u ⟨⟨⟨hgu,hB,hG,-⟩,hx35⟩,h11⟩;replace hB:=hB.cons' h11;clear h11;obtain⟨⟨f1,f2⟩,⟨o1,o2⟩,⟨m1,m2⟩⟩:=x35;obtain⟨X1,X2,X3⟩:u.ownsRow W.heap.size 48 5 (.slice f1 Lw f2) Lw (Fi.flatMap qL)/\u.ownsRow W.heap.size 48 5 (.slice o1 Lw o2) Lw (Bi.flatMap qL)/\u.ownsRow W.heap.size 183 10 (.slice m1 m m2) m ((LM i).flatMap lmL):=hx35;have hw11:W.heap.size<=b11:=B8K hg0.size hb11;replace hg0:=hg0.trans hgu;clear hb11 hn11;clear hgu;refine gtT ?_;clear hN K;have hbk:=hB.head;refine sv hB hF hG 0 0 [_,_,_] ?_;intro u hu hBG;replace X1:=P5 X1 (L8 X1 hbk (by decide)) hu;replace X2:=P5 X2 (L8 X2 hbk (by decide)) hu;replace X3:=P5 X3 (L8 X3 hbk (by decide)) hu;replace hg0:=A11 hg0 hw11 hu;clear hB hG hu hbk;obtain⟨hB,hG⟩:=hBG;obtain⟨A7,c7,e7,-,-,Y1,-⟩:=Q8 X1;cases e7;obtain⟨A7,c7,e7,-,-,Y2,-⟩:=Q8 X2;cases e7;obtain⟨A7,c7,e7,-,Y3,-⟩:=B0T (enc:=lmL) (λ_=>rfl) (by decide) X3;cases e7;obtain⟨w2,hw2⟩:=exQ u;have HY:=B8S (hw2 ▸ ⟨Y1,Y2,Y3⟩:Lq w2 f1 Fi/\Lq w2 o1 Bi/\Le lmL 10 w2 m1 (LM i));have hg2:A4 w2 u:=hw2 ▸ A4.refl u;clear X1 X2 X3 Y1 Y2 Y3 hw2;refine wpIn_seq (A8j G7 [0,0,1] hB hG λL hL=>?_)
   repeat first|refine gya ?_|refine gyr ?_|refine gna ?_|refine gyb (by(rintro v ⟨hgu,hB,hG,-⟩ N hN;have r:=hB.r;simp only[BxR]at r;(first|have q0:=Hr0.out v hG|skip);go_simp;exact hN)) ?_
   refine gmd (C:=λv ⟨hgu,hB,hG,_⟩=>Hhl.out (f1,f2) (o1,o2) (m1,m2) _ (HY.out.2.2.grow (hg2.trans hgu)) (HT.grow hG)) ?_;refine geT hL ?_;clear hB hG hL L;rintro u ⟨hgu,hB,hG,-⟩;replace hg0:=hg0.trans hgu;replace hg2:=hg2.trans hgu;clear hgu;refine wpIn_cond_true (rfl) ?_;refine wpIn_seq (A6T G7 [0,0,1] hB hG λK L hN hL=>?_)
   repeat first|refine gya ?_|refine gyr ?_|refine gna ?_|refine gyb (by(rintro v ⟨hgu,hB,hG,-⟩ N hN;have r:=hB.r;simp only[BxR]at r;(first|have q0:=Hr0.out v hG|skip);go_simp;exact hN)) ?_
   refine gxd (X:=Ax) (λx:Ax=>.slice x.1 Lw x.2) (λx V=>Lq V x.1 (M6 Fi Bi Lw a)/\∃b,x.1=some ⟨b,0,none⟩/\W.heap.size<=b) (λx u u' hg h=>⟨h.1.grow hg,h.2⟩) (λx41=>?_) (C:=by(rintro v ⟨hgu,hB,hG,-⟩;exact(Hwt.out (f1,f2) (o1,o2) (m1,m2) _ (HY.out.1.grow (hg2.trans hgu)) (HY.out.2.1.grow (hg2.trans hgu)) (HT.grow hG)).mono λe V ⟨z,g1,⟨g2,b,g3,g4⟩,g5⟩=>⟨z,g1,⟨g2,b,g3,B8K (hg0.trans hgu).size g4⟩,g5⟩));refine geC hL ?_;clear hB hG hL L;rintro u ⟨⟨hgu,hB,hG,-⟩,hx41⟩;replace hg0:=hg0.trans hgu;obtain⟨z1,z2⟩:=x41;obtain⟨Y1,bz,rfl,Y2⟩:=hx41;clear hgu;have hD:b6≠b7/\b7≠b6:=⟨hF.ne 3 4 rfl rfl (by decide),hF.ne 4 3 rfl rfl (by decide)⟩
   refine gtT ?_;clear hN K;clear hD;generalize hu0:World.setCell (World.setCell u _ _) _ _=u0;have hu1:C7 (C7 u b6 0 [.slice (some ⟨bz,0,none⟩) Lw z2]) b7 0 [.int .i64 0]=u0:=hu0;obtain⟨ua,hua⟩:∃x,C7 u b6 0 [.slice (some ⟨bz,0,none⟩) Lw z2]=x:=⟨_,rfl⟩
   rw[hua]at hu1;have k1:=(Kp2.of hg0 hsz).put (B8K hsz hg0.size) h6E hua;have sa:u.heap.size<=ua.heap.size:=by rw[<-hua];exact(A1F b6 _ 0 u).size
   have k2:=k1.put (B8K hsz (B8K hg0.size sa)) h7E hu1;have y1:=A2W Y1 (by have:=hsz;omega) hua;have y2:=A2W y1 (by have:=hsz;omega) hu1;have hB1:=hB.over hF hG 3 rfl 0 [_] hua;have hB2:=hB1.1.over (by simpa using hF) hB1.2 4 rfl 0 [_] hu1;simp only[List.modify_succ_cons,List.modify_zero_cons,I3,List.setIfInBounds_toArray,List.set_cons_zero,List.set_cons_succ,Nat.zero_add,Nat.reduceAdd]at hB2;clear hB hG hu0 hu1 hua k1 y1 hB1 Y1 sa;obtain⟨hB,hG⟩:=hB2;obtain⟨u,rfl⟩:=exQ u0;refine wpIn_ret ?_;refine A6i ?_
   skip
   have hik:=Hke.out Hhe.out.symm;rw[HQ.out,HQ2.out,hik]at y2;exact⟨⟨(some ⟨bz,0,none⟩,z2),hB.tail.tail.tail,y2,⟨bz,rfl,by omega⟩,hG⟩,k2.1,k2.2⟩
 case done =>
  intro W _ hJ _;have h1:=hJ kk Hk.out.1;rw[Hk.out.2.1]at h1;cases h1
 case stop =>
  rintro W ⟨z,h1,h2,h3,h4⟩ hK;refine wpIn_ret ?_;refine A6i ?_;refine B0d ?_;refine⟨by simp,.inl ⟨_,_,rfl,run_takeDeferred hK,?_⟩⟩;have h1':Bx (W.putObj wE.heap.size (.deferred none)) [(b6,35,#[.slice z.1 Lw z.2]),(b7,36,#[.int .i64 0])]:=λe he=>by
   have h9:=h1 e he;simp only[List.mem_cons,List.not_mem_nil,or_false]at he;rcases he with rfl|rfl
   ·exact A3o h9 (by simp only;omega)
   ·exact A3o h9 (by simp only;omega)
  have r:=h1'.r;simp only[BxR]at r;refine⟨.tuple #[.slice z.1 Lw z.2,.int .i64 0],?_,z,rfl,?_,A45 h4 HG.out.sz⟩
  ·simp only[results,Tryz.results14];go_simp
  ·obtain⟨bz,h5,h6⟩:=h3;rw[h5]at h2⊢;exact A62 h2 (by omega)
end Go.Proofs.YtgpglgbcobeogaaGreatDoor
