import Derived.Test.YtgpglgbcobeogaaGreatDoorN47
set_option linter.unusedSimpArgs false
set_option linter.unusedVariables false
set_option maxHeartbeats 16000000
set_option maxRecDepth 100000
namespace Go.Proofs.YtgpglgbcobeogaaGreatDoor
open Go Go.RowKit Go.Shelf
attribute [local go_sem] Oper.semAt_some
theorem A2P(d:Option Tmp)(ty:TypeId)(pos:String)(af:Array Edge)(gd:Option (Nat×Bool)):N5 Tryz.prog ⟨d,.alloc 165,ty,pos,af,gd⟩ = .cells #[.slice none 0 0,.slice none 0 0,.slice none 0 0,.bool false,.int .u64 0,.string ⟨#[]⟩,.int .u64 0,.string ⟨#[]⟩,.bool false,.int .u64 0,.string ⟨#[]⟩,.int .u64 0,.string ⟨#[]⟩] 165:=by kernel_rfl
theorem B0Y(d:Option Tmp)(ty:TypeId)(pos:String)(af:Array Edge)(gd:Option (Nat×Bool)):N5 Tryz.prog ⟨d,.alloc 163,ty,pos,af,gd⟩ = .cells #[.slice none 0 0] 163:=by kernel_rfl
theorem B0U(d:Option Tmp)(ty:TypeId)(pos:String)(af:Array Edge)(gd:Option (Nat×Bool)):N5 Tryz.prog ⟨d,.alloc 35,ty,pos,af,gd⟩ = .cells #[.slice none 0 0] 35:=by kernel_rfl
theorem O1:∀t∈[44,46,48,183,115,108,165,163,35,84],N8 Tryz.prog t:=by
 intro t ht;simp only[List.mem_cons,List.not_mem_nil,or_false]at ht;rcases ht with rfl|rfl|rfl|rfl|rfl|rfl|rfl|rfl|rfl|rfl
 ·exact C4 _ (by simp)
 ·exact C4 _ (by simp)
 ·exact C4 _ (by simp)
 ·exact C4 _ (by simp)
 ·exact C4 _ (by simp)
 ·exact C4 _ (by simp)
 ·exact λ_ _ _ _ _ _=>by rw[A2P];kernel_rfl
 ·exact λ_ _ _ _ _ _=>by rw[B0Y];kernel_rfl
 ·exact λ_ _ _ _ _ _=>by rw[B0U];kernel_rfl
 ·exact I1 _ (by simp)
theorem B3h:EI 163 165 13 184:=A10 (by kernel_rfl) (by kernel_rfl) (by omega)
abbrev pcY(F B L:Value)(lo hi:Rat):List Value:=[F,B,L]++(qL lo++qL hi)
theorem B1L{W:World}{b B:Nat}{top:Rat}(h:Blk W b 48 #[.bool false,.int .u64 0,.string ⟨#[]⟩,.int .u64 0,.string ⟨#[]⟩,.bool (E0 top.num),.int .u64 (B8 top.num.natAbs),.string (B6 top.num.natAbs),.int .u64 (B8 (H6 top.den)),.string (B6 (H6 top.den))])(hb:B<=b){LM:Nat->List Lm}:W.ownsRow B 48 5 (.slice (some ⟨b,0,none⟩) 2 2) (I3 LM top 0).length ((I3 LM top 0).flatMap qL):=by
 have e0:I3 LM top 0=[0,top]:=by unfold I3 O8;simp
 have hz:qL 0=[.bool false,.int .u64 0,.string ⟨#[]⟩,.int .u64 0,.string ⟨#[]⟩]:=by kernel_rfl
 rw[e0];refine⟨rfl,.inr ⟨b,2,_,rfl,hb,h,by simp,by unfold maxLen;omega,rfl,?_⟩⟩;simp only[List.flatMap_cons,List.flatMap_nil,hz];rfl
theorem B7u(d:Nat){P:Program}{g:Operand}{p0:Tmp}{assign body:Code}{Q:Exit->Act->World->Prop}{a:Act}{wE:World}{gf:Nat}{lb:Array Value}(hg:a.eval g = .func (.func gf) #[] lb)(eg:∀args w,(callFunc gf args).run P w = .ok (.enter gf args) w)
  (N:Nat) (C:Nat->Value->World->Prop) (J:Nat->World->Prop)
  (it:∀(l:Nat) (Rd:Nat->World->Prop) (Rx:World->Prop) (W:World),KI wE W->wE.heap.size+2<=W.heap.size->(∀i u v,A4 u v->Rd i u->Rd i v)->(∀u v,A4 u v->Rx u->Rx v) ->
   (∀i v W1,i<N->KI wE W1->Rd i W1->C i v W1->YieldAt Fence.wide 0 P l #[v] W1 λe W'=>(e = .returned (.bool true)/\KI W1 W'/\Rd (i+1) W')\/(e = .returned (.bool false)/\Rx W')) ->
   Rd 0 W->CallsIn Fence.wide 0 P gf (#[.func (.yield l) #[] #[]]++lb) W λe W'=>(∃v,e = .returned v)/\((KI wE W'/\Rd N W')\/Rx W'))
  (hC:∀i v W o,C i v W->C i v (W.putObj (wE.heap.size+1) o)) (hJp:∀i W o b,b=wE.heap.size\/b=wE.heap.size+1->J i W->J i (W.putObj b o)) (hJg:∀i u v,A4 u v->J i u->J i v) (h0:J 0 wE)
  (hassign:∀(l:Nat) (v:Value) (W:World) (K:Act->World->Prop),K { tmps:=(a.tmps.setIfInBounds p0 v).setIfInBounds d v,defers:=[] } W->assign.wpIn (Fence.wide.inRound l) 0 P (Exit.then K (λ_ _ _=>False)) { tmps:=((#[p0]:Array Tmp).zip #[v]).foldl (λt (p,v)=>t.setIfInBounds p v) a.tmps,defers:=[] } W)
  (hbody:∀(l i:Nat) (v:Value) (W:World),i<N->J i W->KI wE W->wE.heap.size+2<=W.heap.size->C i v W->body.wpIn (Fence.wide.inRound l) 0 P (B0q J i W) { tmps:=(a.tmps.setIfInBounds p0 v).setIfInBounds d v,defers:=[] } W)
  (hdone:∀W,KI wE W->J N W->W.heap[wE.heap.size]?=some (.deferred (some []))->Q .normal { a with defers:={ target:=.collected wE.heap.size,args:=#[] }::a.defers } W) :
  (Code.rangeFunc g #[p0] assign body).wpIn Fence.wide 0 P Q a wE:=B6T hg eg N C J (λv=>{ tmps:=(a.tmps.setIfInBounds p0 v).setIfInBounds d v,defers:=[] }) it hC hJp hJg h0 hassign hbody hdone
theorem B7I(A:Option Addr)(rs:List Rq)(N Lw c:Nat)(Y:Ax)(y:List Rat)(hn:rs.length=N)(hN1:1<=N)(hN2:N<=20)(hL1:1<=Lw)(hL2:Lw<=6)(hrl:∀r∈rs,r.2.2.length=Lw)(hy:y.length=N)(s:Nat)(hs1:1<=s)(hs:s<=1000)(hX:∀i,i<N->∀j,j<Lw->qs (gq (B7 (rs.map (·.2.2)) i) j)<=s)(hys:∀i,i<N->qs (gq y i)<=s)
  (hun:(C9 N Lw (F6 (rs.map (·.2.2)),[]) Lw).2.length=Lw)
  (F B:Nat->List Rat) (LM:Nat->List Lm) (z S:Nat) (hS1:1<=S) (hS2:2*z<=S) (htop:qs (M5 (rs.map (·.2.2)) y N Lw)<=S) (hBz:40*S+100<=BIG) (hFl:∀k,k<3^Lw->(F k).length=Lw/\(B k).length=Lw/\(LM k).length<=1000) (hFz:∀k,k<3^Lw->(∀i,i<Lw->qs (gq (F k) i)<=z)/\(∀i,i<Lw->qs (gq (B k) i)<=z)/\∀x∈LM k,qs x.1<=z/\qs x.2<=z)
  (hsv:∀k,k<3^Lw->A2j Lw (K9 (rs.map (·.2.2)) N Lw) (J5 (rs.map (·.2.2)) y N Lw) (F5 Lw k) (F k) (B k) (LM k)) (hne:1<=(A1b F B LM (M5 (rs.map (·.2.2)) y N Lw) Lw (3^Lw)).length) (w:World) (h:Lrq w A rs) (h2:Lq w Y.1 y) (HT:Tab w) :
  Calls Tryz.prog 49 #[.slice A N c,.slice Y.1 N Y.2] w λe w'=>∃(ks:List Kq) (v:Value),e = .returned (.tuple #[v,.int .i64 0])/\w'.ownsRow w.heap.size 84 6 v ks.length (ks.flatMap kqL)/\(∀x∈ks,Lq w' x.2.1.1 x.2.2)/\ks.map C3=A4q (A1b F B LM (M5 (rs.map (·.2.2)) y N Lw) Lw (3^Lw)) Lw (A1b F B LM (M5 (rs.map (·.2.2)) y N Lw) Lw (3^Lw)).length/\A4 w w':=by
 have hBB:100000000<=BIG:=by unfold BIG;omega
 have htp:=λW (hg:A4 w W) (hT:Tab W)=>A7E A Y.1 rs y N Lw c Y.2 hn hN1 hN2 hrl hy hL1 (by omega) s hs1 (by omega) hX hys W (h.grow hg) (h2.grow hg) hT
 have huq:=λW (hg:A4 w W) (hT:Tab W)=>A5p A rs N Lw c hn hN1 (by omega) hL1 (by omega) hrl s hs1 hX (by
  have h1:10^Lw<=10^6:=B9P (by omega) hL2;have h2:s*10^Lw<=1000*10^6:=C0f hs h1;have h3:30*(1000*10^6)<=BIG:=by unfold BIG;omega
  omega) W (h.grow hg) hT
 rw[hun]at huq;simp only[Nat.lt_irrefl,if_false]at huq;obtain⟨GR,hGR⟩:∃x,x=K9 (rs.map (·.2.2)) N Lw:=⟨_,rfl⟩
 obtain⟨PL,hPL⟩:∃x,x=J5 (rs.map (·.2.2)) y N Lw:=⟨_,rfl⟩
 obtain⟨GM,hGM⟩:∃x,x=L6 (rs.map (·.2.2)) N:=⟨_,rfl⟩
 obtain⟨top,htope⟩:∃x,x=M5 (rs.map (·.2.2)) y N Lw:=⟨_,rfl⟩
 have hGR2:GR=(List.range Lw).map (G1 GM Lw):=by rw[hGR,hGM];rfl
 have hpo:=λW (hg:A4 w W) (hT:Tab W)=>(A9o A rs N Lw c Y y hn hN1 (by omega) hL1 (by omega) hrl hy s (by omega) hX hys W (h.grow hg) (h2.grow hg) hT).mono (R':=G9 (λx:(Nat×(Nat->Nat)×(Nat->Nat))×Nat=>.agg #[.slice (some ⟨x.1.1,0,none⟩) Lw Lw,.slice (some ⟨x.2,0,none⟩) Lw Lw]) (λx W'=>MatW w.heap.size Lw Lw x.1.1 Lw x.1.2.1 x.1.2.2 GM W'/\W'.ownsRow w.heap.size 48 5 (.slice (some ⟨x.2,0,none⟩) Lw Lw) Lw (PL.flatMap qL)) W) (by
  rintro e w' ⟨x,rfl,⟨g1,g2⟩,hg2⟩
  exact⟨x,rfl,⟨by rw[hGM];exact g1.mono hg.sz,by rw[hPL];exact g2.mono hg.sz⟩,hg2⟩)
 rw[<-hGR,<-hPL]at hsv;rw[<-htope]at htop hne⊢;simp only[<-htope]at htp;obtain⟨bb,ob,P0,eA,hP0⟩:=U9 hn hrl h (i:=0) (by omega);have hr0:=λW hg=>(hP0 W hg).1;simp only[Nat.add_zero]at hr0;have hNi:(0:Int)<(N:Int):=by omega
 have hNn:0<N:=by omega
 obtain⟨YA,YC⟩:=Y;subst eA;have Htp:=B9I htp;have Huq:=B9I huq;have Hpo:=B9I hpo;have Hr0:=B9I hr0;have Hsv:=B9I hsv;have HFl:=B9I hFl;have HFz:=B9I hFz;replace hGR2:=B9I hGR2;have Hte:=B9I htope;have hplz:=B4L (LM:=LM) (top:=top) (K:=3^Lw) hS2 htop hS1 λk hk=>(hFz k hk).2.2;have Hplz:=B9I hplz;have Hne:=B9I hne;clear hplz hne;clear htp huq hpo hr0 hsv hFl hFz hP0 hGR hPL hGM hun hX hys h h2 hrl hy hn hs1 hs htope;refine(callsIn_wide (n:=0)).1 (callsIn_of_wp_marks Tryz.func49 rfl trivial (wpIn_wide.2 ?_) rfl);simp only[Tryz.ntmps49,List.size_toArray,List.length_cons,List.length_nil,Nat.reduceAdd,Nat.reduceSub,Array.replicate_succ,Array.replicate_zero,List.push_toArray,List.append_toArray,List.nil_append,List.cons_append];refine en0 ?_;intro u hG hB hF;refine B9D (rsC O1 [0,0,1,0,0,0,2] hB hG λK L hN hL=>?_);refine gs ?_;refine gmd (C:=λv ⟨hgu,hB,hG,_⟩=>Htp.out _ hG (HT.grow hG)) ?_;refine gs ?_;refine gaa (G6 _ _ _ _ _) λb6 hb6 hn6=>?_;replace hF:=hF.n1 [] hB hG hb6 hn6;refine geC hL ?_;clear hB hG hL L;rintro u ⟨⟨-,hB,hG,-⟩,h6⟩;replace hB:=hB.cons' h6;clear h6;clear hb6 hn6;refine gtT ?_;clear hN K;refine st hB hF hG 0 0 [_,_,_,_,_] ?_;clear hB hG;intro u hB hG;refine B9D ?_;refine r0T ?_;refine B9J (rfl) ?_;refine B9K ?_;refine A6 ?_;refine B9D ?_;refine B9D (rsE O1 [0,1,0] hB hG λL hL=>?_);refine gs ?_;refine gmd (C:=λv ⟨hgu,hB,hG,_⟩=>Huq.out _ hG (HT.grow hG)) ?_;refine gs ?_;refine geT hL ?_;clear hB hG hL L;rintro u ⟨-,hB,hG,-⟩;refine r0T ?_;refine B9J (rfl) ?_;refine B9K ?_;refine A6 ?_;refine B9D ?_
 skip
 refine rsC O1 [0,0,1,2] hB hG λK L hN hL=>?_;refine gs ?_;refine gxd (X:=(Nat×(Nat->Nat)×(Nat->Nat))×Nat) (λx:(Nat×(Nat->Nat)×(Nat->Nat))×Nat=>.agg #[.slice (some ⟨x.1.1,0,none⟩) Lw Lw,.slice (some ⟨x.2,0,none⟩) Lw Lw]) (λx W'=>MatW w.heap.size Lw Lw x.1.1 Lw x.1.2.1 x.1.2.2 GM W'/\W'.ownsRow w.heap.size 48 5 (.slice (some ⟨x.2,0,none⟩) Lw Lw) Lw (PL.flatMap qL)) (λx u u' hg h=>⟨h.1.grow hg,C0 h.2 hg⟩) (λx35=>?_) (C:=by(rintro v ⟨hgu,hB,hG,-⟩;exact Hpo.out _ hG (HT.grow hG)));refine gaa (A5B _ _ _ _ _) λb9 hb9 hn9=>?_;replace hF:=hF.n1 [] hB hG hb9 hn9;refine geC hL ?_;clear hB hG hL L;rintro u ⟨⟨⟨hgu,hB,hG,-⟩,hx35⟩,h9⟩;replace hB:=hB.cons' h9;clear h9;obtain⟨⟨bg,gg,cg⟩,bp⟩:=x35;obtain⟨hm,hp⟩:MatW w.heap.size Lw Lw bg Lw gg cg GM u/\u.ownsRow w.heap.size 48 5 (.slice (some ⟨bp,0,none⟩) Lw Lw) Lw (PL.flatMap qL):=hx35;have Hm:=B9I hm;have Hp:=B9I hp;clear hm hp;clear hb9 hn9;clear hgu;refine gtT ?_;clear hN K;have hbk:=hB.head;refine sv hB hF hG 0 0 [_,_] ?_;intro u hu hBG;have hm:=Hm.out.over ⟨λe=>E8 Hm.out.hd hbk (by decide) (C0T some e.symm),λi hi e=>E8 (Hm.out.row i hi) hbk (by decide) (C0T some e.symm)⟩ hu;have hp2:=H5 Hp.out (E8 Hp.out hbk (by decide)) hu;clear hB hG hu Hm Hp hbk;obtain⟨hB,hG⟩:=hBG;have Hm:=B9I hm;have Hp:=B9I hp2;obtain⟨U0,hU0⟩:=exQ u.heap.size;have HU6:=B9I (show b6<U0 from hU0 ▸ hB.tail.head.lt);have HU:=B9I (show(bg<U0/\bp<U0/\∀i,i<Lw->gg i<U0)/\w.heap.size<=U0 from hU0 ▸ ⟨⟨hm.b0lt.2,(hp2.lt bp rfl).2,λi hi=>(hm.glt hi).2⟩,hG.size⟩);clear hm hp2;refine B9D (rsC O1 [0,0,1,2] hB hG λK L hN hL=>?_)
 repeat first|refine gya ?_|refine gyr ?_|refine gna ?_|refine gyb (by(rintro v ⟨hgu,hB,hG,-⟩ N hN;have r:=hB.r;simp only[BxR]at r;(first|have q0:=Hr0.out v hG|skip);go_simp;exact hN)) ?_
 refine gx Nat (λb=>.slice (some ⟨b,0,none⟩) 2 2) (λb W=>Blk W b 48 #[.bool false,.int .u64 0,.string ⟨#[]⟩,.int .u64 0,.string ⟨#[]⟩,.bool (E0 top.num),.int .u64 (B8 top.num.natAbs),.string (B6 top.num.natAbs),.int .u64 (B8 (H6 top.den)),.string (B6 (H6 top.den))]/\U0<=b) (λb u u' hg h=>⟨h.1.grow hg,h.2⟩) rfl ?_ (λx38=>?_)
 ·(rintro v ⟨hgu,hB,hG,-⟩ N hN;go_simp;exact hN v.heap.size _ (⟨Blk.new v 48 #[.bool false,.int .u64 0,.string ⟨#[]⟩,.int .u64 0,.string ⟨#[]⟩,.bool (E0 top.num),.int .u64 (B8 top.num.natAbs),.string (B6 top.num.natAbs),.int .u64 (B8 (H6 top.den)),.string (B6 (H6 top.den))],by have:=hgu.size;omega⟩) (A4.alloc _ _))
 refine okf (by simp only[Act.put,List.setIfInBounds_toArray,List.set_cons_succ,List.set_cons_zero];exact rfl) ?_;refine gaa (B0U _ _ _ _ _) λb10 hb10 hn10=>?_;replace hF:=hF.n1 [] hB hG hb10 hn10;refine geC hL ?_;clear hB hG hL L;rintro u ⟨⟨⟨hgu,hB,hG,-⟩,hx38⟩,h10⟩;replace hB:=hB.cons' h10;clear h10;have Hm2:=B9I (Hm.out.grow hgu);have Hp2:=B9I (C0 Hp.out hgu);have h10:U0<=b10:=by omega
 obtain⟨hx38a,hx38b⟩:=hx38;have Hpl:=B9I (B1L (B:=w.heap.size) (LM:=LM) hx38a (by have:=HU.out.2;omega));clear Hm Hp hU0 hx38a;have Hm:=Hm2;have Hp:=Hp2;clear Hm2 Hp2;clear hb10 hn10;clear hgu;refine gtT ?_;clear hN K;have hbk:=hB.head;refine sv hB hF hG 0 0 [_] ?_;intro u hu hBG;have hm:=Hm.out.over ⟨λe=>by have:=HU.out.1.1;omega,λi hi e=>E8 (Hm.out.row i hi) hbk (by decide) (C0T some e.symm)⟩ hu;have hp2:=H5 Hp.out (E8 Hp.out hbk (by decide)) hu;have hpl2:=H5 Hpl.out (E8 Hpl.out hbk (by decide)) hu;clear hB hG hu Hm Hp Hpl hbk;obtain⟨hB,hG⟩:=hBG;have Hm:=B9I hm;have Hp:=B9I hp2;have Hpl:=B9I hpl2;clear hm hp2 hpl2;refine B9D (rsE O1 [2] hB hG λL hL=>?_);refine gaa (B0Y _ _ _ _ _) λb11 hb11 hn11=>?_;replace hF:=hF.n1 [] hB hG hb11 hn11;refine geT hL ?_;clear hB hG hL L;rintro u ⟨⟨hgu,hB,hG,-⟩,h11⟩;replace hB:=hB.cons' h11;clear h11;have Hm2:=B9I (Hm.out.grow hgu);have Hp2:=B9I (C0 Hp.out hgu);have Hpl2:=B9I (C0 Hpl.out hgu);clear Hm Hp Hpl;have Hm:=Hm2;have Hp:=Hp2;have Hpl:=Hpl2;clear Hm2 Hp2 Hpl2;clear hb11 hn11;clear hgu;refine B9D ?_;refine B9D (rsE O1 [0,0,0,0,1] hB hG λL hL=>?_)
 repeat first|refine gya ?_|refine gyr ?_|refine gna ?_|refine gyb (by(rintro v ⟨hgu,hB,hG,-⟩ N hN;have r:=hB.r;simp only[BxR]at r;(first|have q0:=Hr0.out v hG|skip);go_simp;exact hN)) ?_
 refine gxd (X:=Nat) (λb:Nat=>.func (.func 127) #[] #[.pointer (some ⟨b,0,none⟩)]) (λb W=>Blk W b 3 #[.int .i64 (Lw:Nat)]) (λb u u' hg h=>h.grow hg) (λx43=>?_) (C:=λv _=>A79 Lw _);refine geT hL ?_;clear hB hG hL L;rintro u ⟨⟨hgu,hB,hG,-⟩,hx43⟩;have Hm2:=B9I (Hm.out.grow hgu);have Hp2:=B9I (C0 Hp.out hgu);have Hpl2:=B9I (C0 Hpl.out hgu);clear Hm Hp Hpl;have Hm:=Hm2;have Hp:=Hp2;have Hpl:=Hpl2;clear Hm2 Hp2 Hpl2;have hbk:=hx43;clear hx43;clear hgu;refine B9l ?_;refine(wpIn_wide (n:=0)).1 ?_;obtain⟨wE,hwE⟩:=exQ u;rw[<-hwE]at hB hG hbk Hm Hp Hpl⊢;clear hwE
 have hPJ:PJ w.heap.size wE.heap.size Lw F B LM bg bp gg cg GM PL (I3 LM top 0) (.slice (some ⟨x38,0,none⟩) 2 2) (.slice none 0 0) [] wE :=
  ⟨Hpl.out,C0n _ _ _ _,λp hp=>absurd hp List.not_mem_nil,Hm.out,Hp.out,λi hi=>⟨λe=>by have:=HU.out.1.2.2 i hi;have e2:x38=gg i:=B8y e;omega,(Hm.out.glt hi).2⟩,⟨λe=>by have:=HU.out.1.2.1;have e2:x38=bp:=B8y e;omega,(Hp.out.lt bp rfl).2⟩,Hm.out.b0lt.2,λb hb=>.inl ((Hpl.out.lt b hb).2),λb hb=>by cases hb⟩
 obtain⟨J,hJe⟩:∃J:Nat->World->Prop,J=λi W=>∃(vpl vpc:Value) (ps:List Pd),PJ w.heap.size wE.heap.size Lw F B LM bg bp gg cg GM PL (I3 LM top i) vpl vpc ps W/\ps.map pdP=O8 LM top i/\Bx W [(b11,163,#[vpc]),(b10,35,#[vpl]),(b9,108,#[.slice (some ⟨bg,0,none⟩) Lw Lw,.slice (some ⟨bp,0,none⟩) Lw Lw]),(b6,48,L9 top)]/\A4 w W/\vpl.ownBlock≠some b6:=⟨_,rfl⟩
 have hJ0:J 0 wE:=by rw[hJe];exact⟨_,_,[],hPJ,rfl,hB,hG,λe=>by have:=HU6.out;have e2:x38=b6:=B8y e;omega⟩
 have hlt:b11<wE.heap.size/\b10<wE.heap.size/\b9<wE.heap.size/\b6<wE.heap.size:=⟨hB.head.lt,hB.tail.head.lt,hB.tail.tail.head.lt,hB.tail.tail.tail.head.lt⟩
 have hws:w.heap.size<=wE.heap.size:=hG.size;have hJp:∀i W o b,b=wE.heap.size\/b=wE.heap.size+1->J i W->J i (W.putObj b o):=λi W o b hb h=>by
  rw[hJe]at h⊢;obtain⟨vpl,vpc,ps,h1,h2,h3,h4,h5⟩:=h;refine⟨vpl,vpc,ps,h1.putObj hb,h2,λe he=>?_,A2h h4 (by omega),h5⟩;have h9:=h3 e he;simp only[List.mem_cons,List.not_mem_nil,or_false]at he;obtain⟨g1,g2,g3,g4⟩:=hlt;rcases he with rfl|rfl|rfl|rfl<;>exact A11 h9 (by simp only;omega)
 have hJg:∀i u v,A4 u v->J i u->J i v:=λi u v hg h=>by
  rw[hJe]at h⊢;obtain⟨vpl,vpc,ps,h1,h2,h3,h4,h5⟩:=h;exact⟨vpl,vpc,ps,h1.grow hg,h2,h3.grow hg,h4.trans hg,h5⟩
 have HJe:=B9I hJe;clear hPJ hJe;refine B7u 12 (gf:=127) (lb:=#[.pointer (some ⟨x43,0,none⟩)]) rfl (enters_of Tryz.func127 (by kernel_rfl) rfl) (3^Lw) (A3r (wE.heap.size+2) Lw) J (λl Rd Rx W h1 h2 h3 h4 h5 h6=>B44 Lw x43 (by omega) wE hbk l Rd Rx W h1 h2 h3 h4 h5 h6) ?hC hJp hJg hJ0 ?assign ?body ?done
 case assign =>
  intro l v W K hK;simp only[List.setIfInBounds_toArray,List.set_cons_zero,List.set_cons_succ]at hK;gi_wp2;exact hK
 case hC =>
  rintro i v W o ⟨b,rfl,hb,hk⟩;exact⟨b,rfl,hb,A11 hk (by omega)⟩
 case body =>
  intro l i v W hi hJ hgW hsz hsg;simp only[List.setIfInBounds_toArray,List.set_cons_zero,List.set_cons_succ];rw[HJe.out]at hJ;obtain⟨vpl,vpc,ps,hPJ,hps,hB,hG,hv6⟩:=hJ;obtain⟨bs,rfl,hbs,hsb⟩:=hsg;obtain⟨F1,F2,F3⟩:=HFl.out i hi;obtain⟨Z1,Z2,Z3⟩:=HFz.out i hi;have hslv:∀W',A4 W W'->Tab W'->Calls Tryz.prog 61 #[.agg #[.slice (some ⟨bg,0,none⟩) Lw Lw,.slice (some ⟨bp,0,none⟩) Lw Lw],.slice (some ⟨bs,0,none⟩) Lw Lw] W' (G9 (λz:Ax×Ax×Ax=>.agg #[.slice z.1.1 Lw z.1.2,.slice z.2.1.1 Lw z.2.1.2,.slice z.2.2.1 (LM i).length z.2.2.2]) (λz V=>V.ownsRow W.heap.size 48 5 (.slice z.1.1 Lw z.1.2) Lw ((F i).flatMap qL)/\V.ownsRow W.heap.size 48 5 (.slice z.2.1.1 Lw z.2.1.2) Lw ((B i).flatMap qL)/\V.ownsRow W.heap.size 183 10 (.slice z.2.2.1 (LM i).length z.2.2.2) (LM i).length ((LM i).flatMap lmL)) W'):=λW' hg hT=>by
   have hr2:=(hPJ.grow hg).gm.lrq;obtain⟨A9,c9,e9,-,-,hp,-⟩:=K8 (hPJ.grow hg).gp;cases e9;exact(Hsv.out i hi bg bp bs _ W' (by rw[hGR2.out,List.map_map];rfl) hr2 hp (hsb.grow hg) hT).mono λe V ⟨z,g1,⟨g2,g3,g4⟩,g5⟩=>⟨z,g1,⟨g2.mono hg.size,g3.mono hg.size,g4.mono hg.size⟩,g5⟩
  have Hslv:=B9I hslv;have Hbd:=B9I (λ(b0:Nat) (FV BV:Value) (A3:Ax) (u:World) (hg:A4 w u) (hb00:w.heap.size<=b0) (hb:Blk u b0 165 #[FV,BV,.slice A3.1 (LM i).length A3.2,.bool false,.int .u64 0,.string ⟨#[]⟩,.int .u64 0,.string ⟨#[]⟩,.bool false,.int .u64 0,.string ⟨#[]⟩,.int .u64 0,.string ⟨#[]⟩]) (h:Le lmL 10 u A3.1 (LM i)) (hne:∀a,A3.1=some a->a.block≠b0)=>B47 b0 FV BV A3 (LM i).length (LM i) top _ _ _ _ _ _ _ _ _ _ rfl F3 z S Z3 hS1 hS2 htop (by omega) w u hg HT hb00 hb h hne)
  have hpc:A00 LM top i=match K6 (LM i) 0 top with
   | some (lo,hi)=>[(i,lo,hi)]
   | none=>[]:=rfl
  obtain⟨R,hR⟩:∃R,R=K6 (LM i) 0 top:=⟨_,rfl⟩
  rw[<-hR]at Hbd hpc;obtain⟨m,hm⟩:∃m,m=(LM i).length:=⟨_,rfl⟩
  rw[<-hm]at Hslv Hbd;obtain⟨Fi,hFi⟩:∃x,x=F i:=⟨_,rfl⟩
  obtain⟨Bi,hBi⟩:∃x,x=B i:=⟨_,rfl⟩
  rw[<-hFi,<-hBi]at Hslv;have HQ:=B9I (And.intro hFi (And.intro hBi hm));have Hps:=B9I hps;have Hpc:=B9I hpc;have HPJ:=B9I hPJ;have HsW:=B9I hsz;have hpsl:ps.length<=1000/\(I3 LM top i).length<=2000:=by
   have h1:ps.length=(O8 LM top i).length:=by rw[<-hps,List.length_map]
   have h2:=A30 LM top i;have h3:=A53 LM top i;have h4:3^Lw<=3^6:=B9P (by omega) hL2;omega
  have Hpsl:=B9I hpsl;have HgW:=B9I hgW;clear hpsl F1 F2 F3 Z1 Z2 Z3 hslv hm hFi hBi hsb hpc hps hPJ hR hgW;refine A72 λu hg0=>?_;replace hB:=hB.grow hg0;replace hG:=hG.trans hg0;cases R
  ·skip
   refine wpIn_block ?_;refine wpIn_seq (A28 O1 [0,0,1,0,2] hB hG λK L hN hL=>?_)
   repeat first|refine gya ?_|refine gyr ?_|refine gna ?_|refine gyb (by(rintro v ⟨hgu,hB,hG,-⟩ N hN;have r:=hB.r;simp only[BxR]at r;(first|have q0:=Hr0.out v hG|skip);go_simp;exact hN)) ?_
   refine gxd (X:=Ax×Ax×Ax) (λz:Ax×Ax×Ax=>.agg #[.slice z.1.1 Lw z.1.2,.slice z.2.1.1 Lw z.2.1.2,.slice z.2.2.1 m z.2.2.2]) (λz V=>V.ownsRow W.heap.size 48 5 (.slice z.1.1 Lw z.1.2) Lw (Fi.flatMap qL)/\V.ownsRow W.heap.size 48 5 (.slice z.2.1.1 Lw z.2.1.2) Lw (Bi.flatMap qL)/\V.ownsRow W.heap.size 183 10 (.slice z.2.2.1 m z.2.2.2) m ((LM i).flatMap lmL)) (λx u u' hg h=>⟨C0 h.1 hg,C0 h.2.1 hg,C0 h.2.2 hg⟩) (λx47=>?_) (C:=by(rintro v ⟨hgu,hB,hG,-⟩;exact Hslv.out _ (hg0.trans hgu) (HT.grow hG)));refine gs ?_;refine gaa (A2P _ _ _ _ _) λb13 hb13 hn13=>?_;replace hF:=hF.n1 [] hB hG hb13 hn13;refine geC hL ?_;clear hB hG hL L;rintro u ⟨⟨⟨hgu,hB,hG,-⟩,hx47⟩,h13⟩;replace hB:=hB.cons' h13;clear h13;obtain⟨⟨f1,f2⟩,⟨o1,o2⟩,⟨m1,m2⟩⟩:=x47;obtain⟨X1,X2,X3⟩:u.ownsRow W.heap.size 48 5 (.slice f1 Lw f2) Lw (Fi.flatMap qL)/\u.ownsRow W.heap.size 48 5 (.slice o1 Lw o2) Lw (Bi.flatMap qL)/\u.ownsRow W.heap.size 183 10 (.slice m1 m m2) m ((LM i).flatMap lmL):=hx47;have hw13:W.heap.size<=b13:=B9A hg0.size hb13;replace hg0:=hg0.trans hgu;clear hb13 hn13;clear hgu;refine gtT ?_;clear hN K;have hbk:=hB.head;refine sv hB hF hG 0 0 [_,_,_,_,_,_,_,_,_,_,_,_,_] ?_;intro u hu hBG;replace X1:=H5 X1 (E8 X1 hbk (by decide)) hu;replace X2:=H5 X2 (E8 X2 hbk (by decide)) hu;replace X3:=H5 X3 (E8 X3 hbk (by decide)) hu;replace hg0:=P9 hg0 hw13 hu;clear hB hG hu hbk;obtain⟨hB,hG⟩:=hBG;refine wpIn_seq ?_;refine wpIn_seq ?_;have hbk13:=hB.head;have hPJu:=HPJ.out.grow hg0;have hv13:vpc.ownBlock≠some b13:=λe=>by have:=(HPJ.out.pc.lt b13 e).2;omega
   have hg13:b13≠bg:=λe=>by have:=hPJu.ab;have:=HsW.out;omega
   have hww:w.heap.size<=b13:=hF.1 b13 (by simp);obtain⟨A7,c7,e7,Y1,-⟩:=A3T X1;cases e7;obtain⟨A7,c7,e7,Y2,-⟩:=A3T X2;cases e7;obtain⟨A7,c7,e7,-,Y3,-⟩:=A01 (enc:=lmL) (λ_=>rfl) (by decide) X3;cases e7;have hro:∀(A:Option Addr) (c:Nat) (l:List Rat),u.ownsRow W.heap.size 48 5 (.slice A Lw c) Lw (l.flatMap qL)->A1N wE.heap.size vpl A:=λA c l h b off hA=>by
    have h1:=(h.lt b (by rw[hA];rfl)).1;have:=HsW.out;exact⟨λe=>by have:=(HPJ.out.pl.lt b e).2;omega,.inr (by omega)⟩
   have R1:=hro _ _ _ X1;have R2:=hro _ _ _ X2;have hne13:∀a,m1=some a->a.block≠b13:=λa ha e=>E8 X3 hbk13 (by decide) (by rw[ha,<-e];rfl);have hbd:=Hbd.out b13 (.slice f1 Lw f2) (.slice o1 Lw o2) (m1,m2) u hG hww hbk13 Y3 hne13;simp only[Option.isSome_none,Option.isSome_some]at hbd;clear Y3 hne13 hro X1 X2 X3;refine A8D ?_;intro K hN;have r:=hB.r;simp only[BxR]at r;go_wp2_with (go_at_call 115;refine hbd.mono ?_;rintro e w5 ⟨lo,hi5,rfl,hlo,hbk5,hgb5⟩);clear r hbd;refine NoK.norm (hN _ _ ?_);clear hN K;have hB5:=A98 hB hF hgb5 hbk5;have hG5:A4 w w5:=hG.grown hgb5 (λk hk=>by have:=B8y hk;omega);have hg5:A4 W w5:=hg0.grown hgb5 (λk hk=>by have:=B8y hk;omega);have HP5:=B9I (hPJu.gby hbk13 (by decide) hv13 hg13 hgb5);have HR5:=B9I (And.intro (And.intro (Y1.gby hbk13 (by decide) hgb5) R1) (And.intro (Y2.gby hbk13 (by decide) hgb5) R2));clear hB hG hg0 hPJu Y1 Y2 R1 R2 hbk13 hbk5 hgb5;have hB:=hB5;have hG:=hG5;have hg0:=hg5;clear hB5 hG5 hg5;obtain⟨u,rfl⟩:=exQ w5;refine A6 ?_;refine wpIn_cond_true (rfl) ?_;refine wpIn_exit ?_;refine B9 ?_;refine E4 ?_;exact⟨KI.ofGrow hg0,by rw[HJe.out];exact⟨vpl,vpc,ps,by rw[A59,Hpc.out];simpa using HP5.out,by rw[A25,Hpc.out,Hps.out];simp,hB.tail,hG,hv6⟩⟩
  ·skip
   refine wpIn_block ?_;refine wpIn_seq (A28 O1 [0,0,1,0,2] hB hG λK L hN hL=>?_)
   repeat first|refine gya ?_|refine gyr ?_|refine gna ?_|refine gyb (by(rintro v ⟨hgu,hB,hG,-⟩ N hN;have r:=hB.r;simp only[BxR]at r;(first|have q0:=Hr0.out v hG|skip);go_simp;exact hN)) ?_
   refine gxd (X:=Ax×Ax×Ax) (λz:Ax×Ax×Ax=>.agg #[.slice z.1.1 Lw z.1.2,.slice z.2.1.1 Lw z.2.1.2,.slice z.2.2.1 m z.2.2.2]) (λz V=>V.ownsRow W.heap.size 48 5 (.slice z.1.1 Lw z.1.2) Lw (Fi.flatMap qL)/\V.ownsRow W.heap.size 48 5 (.slice z.2.1.1 Lw z.2.1.2) Lw (Bi.flatMap qL)/\V.ownsRow W.heap.size 183 10 (.slice z.2.2.1 m z.2.2.2) m ((LM i).flatMap lmL)) (λx u u' hg h=>⟨C0 h.1 hg,C0 h.2.1 hg,C0 h.2.2 hg⟩) (λx47=>?_) (C:=by(rintro v ⟨hgu,hB,hG,-⟩;exact Hslv.out _ (hg0.trans hgu) (HT.grow hG)));refine gs ?_;refine gaa (A2P _ _ _ _ _) λb13 hb13 hn13=>?_;replace hF:=hF.n1 [] hB hG hb13 hn13;refine geC hL ?_;clear hB hG hL L;rintro u ⟨⟨⟨hgu,hB,hG,-⟩,hx47⟩,h13⟩;replace hB:=hB.cons' h13;clear h13;obtain⟨⟨f1,f2⟩,⟨o1,o2⟩,⟨m1,m2⟩⟩:=x47;obtain⟨X1,X2,X3⟩:u.ownsRow W.heap.size 48 5 (.slice f1 Lw f2) Lw (Fi.flatMap qL)/\u.ownsRow W.heap.size 48 5 (.slice o1 Lw o2) Lw (Bi.flatMap qL)/\u.ownsRow W.heap.size 183 10 (.slice m1 m m2) m ((LM i).flatMap lmL):=hx47;have hw13:W.heap.size<=b13:=B9A hg0.size hb13;replace hg0:=hg0.trans hgu;clear hb13 hn13;clear hgu;refine gtT ?_;clear hN K;have hbk:=hB.head;refine sv hB hF hG 0 0 [_,_,_,_,_,_,_,_,_,_,_,_,_] ?_;intro u hu hBG;replace X1:=H5 X1 (E8 X1 hbk (by decide)) hu;replace X2:=H5 X2 (E8 X2 hbk (by decide)) hu;replace X3:=H5 X3 (E8 X3 hbk (by decide)) hu;replace hg0:=P9 hg0 hw13 hu;clear hB hG hu hbk;obtain⟨hB,hG⟩:=hBG;refine wpIn_seq ?_;refine wpIn_seq ?_;have hbk13:=hB.head;have hPJu:=HPJ.out.grow hg0;have hv13:vpc.ownBlock≠some b13:=λe=>by have:=(HPJ.out.pc.lt b13 e).2;omega
   have hg13:b13≠bg:=λe=>by have:=hPJu.ab;have:=HsW.out;omega
   have hww:w.heap.size<=b13:=hF.1 b13 (by simp);obtain⟨A7,c7,e7,Y1,-⟩:=A3T X1;cases e7;obtain⟨A7,c7,e7,Y2,-⟩:=A3T X2;cases e7;obtain⟨A7,c7,e7,-,Y3,-⟩:=A01 (enc:=lmL) (λ_=>rfl) (by decide) X3;cases e7;have hro:∀(A:Option Addr) (c:Nat) (l:List Rat),u.ownsRow W.heap.size 48 5 (.slice A Lw c) Lw (l.flatMap qL)->A1N wE.heap.size vpl A:=λA c l h b off hA=>by
    have h1:=(h.lt b (by rw[hA];rfl)).1;have:=HsW.out;exact⟨λe=>by have:=(HPJ.out.pl.lt b e).2;omega,.inr (by omega)⟩
   have R1:=hro _ _ _ X1;have R2:=hro _ _ _ X2;have hne13:∀a,m1=some a->a.block≠b13:=λa ha e=>E8 X3 hbk13 (by decide) (by rw[ha,<-e];rfl);have hbd:=Hbd.out b13 (.slice f1 Lw f2) (.slice o1 Lw o2) (m1,m2) u hG hww hbk13 Y3 hne13;simp only[Option.isSome_none,Option.isSome_some]at hbd;clear Y3 hne13 hro X1 X2 X3;refine A8D ?_;intro K hN;have r:=hB.r;simp only[BxR]at r;go_wp2_with (go_at_call 115;refine hbd.mono ?_;rintro e w5 ⟨lo,hi5,rfl,hlo,hbk5,hgb5⟩);clear r hbd;refine NoK.norm (hN _ _ ?_);clear hN K;have hB5:=A98 hB hF hgb5 hbk5;have hG5:A4 w w5:=hG.grown hgb5 (λk hk=>by have:=B8y hk;omega);have hg5:A4 W w5:=hg0.grown hgb5 (λk hk=>by have:=B8y hk;omega);have HP5:=B9I (hPJu.gby hbk13 (by decide) hv13 hg13 hgb5);have HR5:=B9I (And.intro (And.intro (Y1.gby hbk13 (by decide) hgb5) R1) (And.intro (Y2.gby hbk13 (by decide) hgb5) R2));clear hB hG hg0 hPJu Y1 Y2 R1 R2 hbk13 hbk5 hgb5;have hB:=hB5;have hG:=hG5;have hg0:=hg5;clear hB5 hG5 hg5;obtain⟨u,rfl⟩:=exQ w5;refine A6 ?_;refine wpIn_cond_false (rfl) ?_;refine wpIn_skip ?_;refine A6 ?_;refine wpIn_seq ?_;refine A4d (w:=w) O1 3 [0,0,1] (by kernel_rfl) (by simp only[List.drop_succ_cons,List.drop_zero];exact rfl) hB hG ?_;intro K L hN hL;simp only[List.zip_cons_cons,List.zip_nil_left]
   repeat first|refine gya ?_|refine gyr ?_|refine gna ?_|refine gyb (by(rintro v ⟨hgu,hB,hG,-⟩ N hN;have r:=hB.r;simp only[BxR]at r;(first|have q0:=Hr0.out v hG|skip);go_simp;exact hN)) ?_
   refine gx Nat (λb=>.slice (some ⟨b,0,none⟩) 1 1) (λb W=>Blk W b 165 (pcY (.slice f1 Lw f2) (.slice o1 Lw o2) (.slice m1 m m2) lo hi5).toArray) (λb u u' hg h=>h.grow hg) rfl ?_ (λx54=>?_)
   ·(rintro v ⟨hgu,hB,hG,-⟩ N hN;go_simp;exact hN v.heap.size _ (Blk.new v 165 (pcY (.slice f1 Lw f2) (.slice o1 Lw o2) (.slice m1 m m2) lo hi5).toArray) (A4.alloc _ _))
   refine okf (by simp only[Act.put,List.setIfInBounds_toArray,List.set_cons_succ,List.set_cons_zero];exact rfl) ?_;refine I8 ?_;rintro v ⟨⟨hgu,hB1,hG1,-⟩,hx54⟩;have HP6:=B9I (HP5.out.grow hgu);have HR6:=B9I (And.intro (And.intro (HR5.out.1.1.grow hgu) HR5.out.1.2) (And.intro (HR5.out.2.1.grow hgu) HR5.out.2.2));have hki:=KI.ofGrow (hg0.trans hgu);clear HP5 HR5 hg0;clear hB hG;have hB:=hB1;have hG:=hG1;clear hB1 hG1;refine hL _ _ ?_;clear hL L hgu;obtain⟨u,rfl⟩:=exQ v;have r:=hB.r;simp only[BxR]at r;clear r;refine A91 B3h w.heap.size vpc ps.length (ps.flatMap (pdL Lw LM)) x54 (pcY (.slice f1 Lw f2) (.slice o1 Lw o2) (.slice m1 m m2) lo hi5) rfl rfl hx54 rfl rfl HP6.out.pc (by have:=Hpsl.out;omega) (by have:=Hpsl.out;omega) hG.sz λv' w' g1 g2 g3=>?_;obtain⟨gl,cl,rfl,-,-⟩:=A0R g1 (by omega);have HP7:=B9I (HP6.out.addPc (p:=⟨i,(f1,f2),(o1,o2),(m1,m2),lo,hi5⟩) (by unfold pdL;rw[<-HQ.out.2.2];exact g1) g2 g3 (B9A HsW.out hki.size) (by rw[<-HQ.out.1,<-HQ.out.2.1];exact HR6.out));have hki2:=hki.trans (KI.own HP6.out.pc (by rfl) g2)
   have hB2:=hB.grown_ g2 (λx hx hxe=>by
    have hbx:=hB x hx;simp only[List.mem_cons,List.not_mem_nil,or_false]at hx;rcases hx with rfl|rfl|rfl|rfl|rfl
    ·exact hv13 hxe.symm
    all_goals exact E8 HP6.out.pc hbx (by simp) hxe.symm)
   have hG2:=N4 HP6.out.pc hG g2;clear HP6 HR6 hki hB hG g1 g2 g3 hx54;have hB:=hB2;have hG:=hG2;clear hB2 hG2;have HPc:=HP7;have r:=hB.r;simp only[BxR]at r;simp only[Act.put,List.setIfInBounds_toArray,List.set_cons_succ,List.set_cons_zero];go_wp2_with fail;generalize hu0:World.setCell w' _ _=u0;have hki3:=hki2.trans (KI.box (i:=0) (vs:=[_]) hB.tail.head (by rfl) hu0);have HP8:=B9I (HP7.out.over (j:=0) (vs:=[_]) hB.tail.head (by decide) (E8 HP7.out.pc hB.tail.head (by decide)) (λe=>E8 HP7.out.gm.hd hB.tail.head (by decide) (C0T some e.symm)) hu0);have hBG:=T7 hB hF hG 1 rfl 0 [_] hu0;obtain⟨hBz,hGz⟩:=hBG;have hB:=hBz;have hG:=hGz;obtain⟨u,rfl⟩:=exQ u0;clear r
   skip
   refine NoK.norm (hN _ _ ?_);clear hN K;refine A6 ?_;refine A4d (w:=w) O1 6 [0,0,0,0,0,1] (by kernel_rfl) (by simp only[List.drop_succ_cons,List.drop_zero];exact rfl) hB hG ?_;intro K L hN hL;simp only[List.zip_cons_cons,List.zip_nil_left]
   repeat first|refine gya ?_|refine gyr ?_|refine gna ?_|refine gyb (by(rintro v ⟨hgu,hB,hG,-⟩ N hN;have r:=hB.r;simp only[BxR]at r;(first|have q0:=Hr0.out v hG|skip);go_simp;exact hN)) ?_
   refine gx Nat (λb=>.slice (some ⟨b,0,none⟩) 2 2) (λb W=>Blk W b 48 (qL lo++qL hi5).toArray) (λb u u' hg h=>h.grow hg) rfl ?_ (λx61=>?_)
   ·(rintro v ⟨hgu,hB,hG,-⟩ N hN;go_simp;exact hN v.heap.size _ (Blk.new v 48 (qL lo++qL hi5).toArray) (A4.alloc _ _))
   refine okf (by simp only[Act.put,List.setIfInBounds_toArray,List.set_cons_succ,List.set_cons_zero];exact rfl) ?_;refine I8 ?_;rintro v ⟨⟨hgu,hB1,hG1,-⟩,hx61⟩;have HP9:=B9I (HP8.out.grow hgu);have hki4:=hki3.trans (KI.ofGrow hgu);clear HP8 hki3;clear hB hG;have hB:=hB1;have hG:=hG1;clear hB1 hG1;refine hL _ _ ?_;clear hL L hgu;obtain⟨u,rfl⟩:=exQ v;have r:=hB.r;simp only[BxR]at r;clear r;refine B0z A3N w.heap.size vpl (I3 LM top i).length ((I3 LM top i).flatMap qL) x61 2 (qL lo++qL hi5) rfl rfl hx61 rfl rfl HP9.out.pl (by have:=Hpsl.out;omega) (by have:=Hpsl.out;omega) hG.sz λv' w' g1 g2 g3=>?_;obtain⟨gl2,cl2,rfl,-,-⟩:=A0R g1 (by omega);have HP10:=B9I (HP9.out.addPl (more:=[lo,hi5]) (by simpa using g1) g2 g3 (B9A HsW.out hki4.size));have hki5:=hki4.trans (KI.own HP9.out.pl (by rfl) g2);have hb6u:=hB.tail.tail.tail.tail.head.lt
   have Hv6:=B9I (show(Value.slice (some ⟨gl2,0,none⟩) ((I3 LM top i).length+2) cl2).ownBlock≠some b6 from λe=>by
    rcases g3 with g3|g3
    ·exact hv6 (g3 ▸ e)
    ·rw[g3]at e;have:=B8y e
     omega)
   have hB2:=hB.grown_ g2 (λx hx hxe=>by
    have hbx:=hB x hx;simp only[List.mem_cons,List.not_mem_nil,or_false]at hx;rcases hx with rfl|rfl|rfl|rfl|rfl
    ·exact E8 HP9.out.pl hbx (by simp) hxe.symm
    ·exact E8 HP9.out.pl hbx (by simp) hxe.symm
    ·exact E8 HP9.out.pl hbx (by simp) hxe.symm
    ·exact E8 HP9.out.pl hbx (by simp) hxe.symm
    ·exact hv6 hxe.symm)
   have hG2:=N4 HP9.out.pl hG g2;clear HP9 hki4 hB hG g1 g2 g3 hx61 hb6u;have hB:=hB2;have hG:=hG2;clear hB2 hG2;have r:=hB.r;simp only[BxR]at r;simp only[Act.put,List.setIfInBounds_toArray,List.set_cons_succ,List.set_cons_zero];go_wp2_with fail;generalize hu0:World.setCell w' _ _=u0;have hki6:=hki5.trans (KI.box (i:=0) (vs:=[_]) hB.tail.tail.head (by rfl) hu0);have HP11:=B9I (HP10.out.over (j:=0) (vs:=[_]) hB.tail.tail.head (by decide) (E8 HP10.out.pc hB.tail.tail.head (by decide)) (λe=>by have:=HU.out.1.1;omega) hu0);have hBG:=T7 hB hF hG 2 rfl 0 [_] hu0;obtain⟨hBz,hGz⟩:=hBG;have hB:=hBz;have hG:=hGz;obtain⟨u,rfl⟩:=exQ u0;clear r
   skip
   refine NoK.norm (hN _ _ ?_);clear hN K;refine C5 ?_;have hpc2:=Hpc.out;rw[hlo _ rfl]at hpc2;simp only at hpc2;exact⟨hki6,by rw[HJe.out];exact⟨.slice (some ⟨gl2,0,none⟩) ((I3 LM top i).length+2) cl2,.slice (some ⟨gl,0,none⟩) (ps.length+1) cl,ps++[⟨i,(f1,f2),(o1,o2),(m1,m2),lo,hi5⟩],by rw[A59,hpc2];simpa using HP11.out,by rw[A25,List.map_append,Hps.out,hpc2];rfl,hB.tail,hG,Hv6.out⟩⟩
 case done =>
  intro W hgW hJ hK;rw[HJe.out]at hJ;obtain⟨vpl,vpc,ps,hPJ,hps,hB,hG,hv6⟩:=hJ;obtain⟨u,hu⟩:=exQ W;rw[<-hu]at hB hG hPJ hK hgW⊢;clear hu;obtain⟨U,hU⟩:=exQ u.heap.size;have HPR:=B9I (hU ▸ hPJ.toPR hK:PR U w.heap.size wE.heap.size Lw F B LM vpc ps u);have Hplz2:=Hplz.out;obtain⟨PLS,hPLS⟩:∃x,x=I3 LM top (3^Lw):=⟨_,rfl⟩
  have hPLe:=B9I hPLS;rw[<-hPLS]at hPJ Hplz2;have hln:2<=PLS.length/\PLS.length<=2000:=by
   rw[hPLS,A53];have h2:=A30 LM top (3^Lw);have h3:3^Lw<=3^6:=B9P (by omega) hL2;omega
  obtain⟨A9,c9,e9,-,-,hlq,-⟩:=K8 hPJ.pl;subst e9;obtain⟨n0,hn0⟩:=exQ PLS.length;rw[<-hn0]at hln hB;have hBq:S+qs 0+(S+qs 0)+1<=BIG:=by
   have:qs 0<=1:=by decide
   omega
  have hso:∀V,A4 u V->Calls Tryz.prog 116 #[.slice A9 n0 c9] V (G9 (λx:Nat×Nat=>.slice (some ⟨x.1,0,none⟩) n0 x.2) (λx V'=>V'.ownsRow U 48 5 (.slice (some ⟨x.1,0,none⟩) n0 x.2) n0 ((W9 PLS).flatMap qL)) V):=λV hg =>
   (B6Z A9 PLS c9 n0 hn0 (by omega) (by omega) S Hplz2 hBq V (hlq.grow hg)).mono λe V' ⟨g,c,e1,e2,e3⟩=>⟨(g,c),e1,e2.mono (by rw[hU];exact hg.size),e3⟩
  have hrl:(W9 PLS).length=n0:=by rw[(A3X PLS).length_eq,hn0]
  have hrz:∀i,i<n0->qs (gq (W9 PLS) i)<=S:=λi hi=>Hplz2 _ ((A3X PLS).mem_iff.1 (A3y (by omega)));have HUw:=B9I (show w.heap.size<=U by rw[hU];exact hG.size);have hco:=λ(g c:Nat) (V:World) (hg:A4 w V) (ho:V.ownsRow U 48 5 (.slice (some ⟨g,0,none⟩) n0 c) n0 ((W9 PLS).flatMap qL))=>B5z (s:=S) (W9 PLS) hrl (by omega) (by omega) hrz (by omega) w V hg HUw.out ho;obtain⟨CL,hCL⟩:∃x,x=H4 (W9 PLS) n0:=⟨_,rfl⟩
  rw[<-hCL]at hco;obtain⟨M,hM⟩:=exQ CL.length;rw[<-hM]at hco;have hCz:∀x∈CL,qs x<=S:=λx hx=>Hplz2 _ ((A3X PLS).mem_iff.1 (A67.1 (by rw[hrl,<-hCL];exact hx)));have hMn:M<=n0:=by rw[hM,hCL];exact A6g _ _
  have hre:=λ(g c:Nat) (V:World) (ho:V.ownsRow U 48 5 (.slice (some ⟨g,0,none⟩) M c) M (CL.flatMap qL))=>B5J (s:=S) CL hM (by omega) hCz V ho;obtain⟨PS,hPS⟩:=exQ CL.reverse;rw[<-hPS]at hre;have HPS:=B9I (show PS.length=M/\PS=J6 (I3 LM top (3^Lw))/\M<=2000 from⟨by rw[hPS,B9o,hM],by rw[hPS,hCL,<-hPLS];unfold J6;rw[hrl],by omega⟩);obtain⟨RS,hRS⟩:∃x,x=W9 PLS:=⟨_,rfl⟩
  rw[<-hRS]at hso hco;have hlt:b11<U/\b10<U/\b9<U/\b6<U:=hU ▸ ⟨hB.head.lt,hB.tail.head.lt,hB.tail.tail.head.lt,hB.tail.tail.tail.head.lt⟩;have HUD:=B9I hws;have hg1:=A4.refl u;obtain⟨u1,hu1⟩:=exQ u;rw[<-hu1]at hso;replace hg1:A4 u1 u:=hu1 ▸ hg1;have Hso:=B9I hso;have Hco:=B9I hco;have Hre:=B9I hre;have Hps:=B9I hps;have Hlt:=B9I hlt;clear hPJ hps hv6 hK hgW hU hPLS Hplz2 hln hn0 hBq hso hrl hrz hco hCL hM hCz hMn hre hPS hRS hlt hu1 hlq;refine C5 ?_;refine A6 ?_;refine B9D (rsC O1 [0,1] hB hG λK L hN hL=>?_)
  repeat first|refine gya ?_|refine gyr ?_|refine gna ?_|refine gyb (by(rintro v ⟨hgu,hB,hG,-⟩ N hN;have r:=hB.r;simp only[BxR]at r;(first|have q0:=Hr0.out v hG|skip);go_simp;exact hN)) ?_
  refine gxd (X:=Nat×Nat) (λx:Nat×Nat=>.slice (some ⟨x.1,0,none⟩) n0 x.2) (λx V=>V.ownsRow U 48 5 (.slice (some ⟨x.1,0,none⟩) n0 x.2) n0 (RS.flatMap qL)) (λx u u' hg h=>C0 h hg) (λx64=>?_) (C:=by(rintro v ⟨hgu,hB,hG,-⟩;exact Hso.out _ (hg1.trans hgu)));refine geC hL ?_;clear hB hG hL L;rintro u ⟨⟨hgu,hB,hG,-⟩,hx64⟩;obtain⟨gso,cs⟩:=x64;have Ho:=B9I hx64;have HPR2:=B9I (HPR.out.grow hgu);clear hx64 HPR hg1;clear hgu;refine gtT ?_;clear hN K;have hbk:=hB.tail.head;refine sv hB hF hG 1 0 [_] ?_;intro u hu hBG;have HPR:=B9I (HPR2.out.over hbk (by decide) (by decide) hu);have Ho2:=B9I (H5 Ho.out (E8 Ho.out hbk (by decide)) hu);clear hB hG hu hbk Ho HPR2;obtain⟨hB,hG⟩:=hBG;have Ho:=Ho2;clear Ho2;refine B9D ?_;refine M6 ?_;intro K hN;have r:=hB.r;simp only[BxR]at r
  have Hgb:∀w5:World,u.grownBy w5 (some gso)->Bx w5 _:=λw5 hg5=>hB.grown_ hg5 (λx hx hxe=>by
   have e:=B8y hxe;have hgU:=(Ho.out.lt gso rfl).1;obtain⟨z1,z2,z3,z4⟩:=Hlt.out;simp only[List.mem_cons,List.not_mem_nil,or_false]at hx
   rcases hx with rfl|rfl|rfl|rfl<;>(simp only at e;omega))
  go_wp2_with (go_at_call 117;refine(Hco.out gso cs _ hG Ho.out).mono ?_;rintro e w5 ⟨rfl,ho5,hg5⟩;have hB5:=Hgb _ hg5;have r5:=hB5.r;simp only[BxR]at r5);clear r r5 Hgb;generalize hu0:World.setCell w5 _ _=u0;have hu1:C2 w5 b10 0 [_]=u0:=hu0;have hG5:A4 w w5:=hG.grown hg5 (λk hk=>by have:=(Ho.out.lt k hk).1;have:=HUw.out;omega);have HPR5:=HPR.out.gq Ho.out (B8s _) hg5;have HPR6:=B9I (HPR5.over hB5.tail.head (by decide) (by decide) hu1);have Ho6:=B9I (H5 ho5 (E8 ho5 hB5.tail.head (by decide)) hu1);have hBG:=hB5.over hF hG5 1 rfl 0 [_] hu1;simp only[List.modify_succ_cons,List.modify_zero_cons,I7,List.setIfInBounds_toArray,List.set_cons_zero,List.set_cons_succ,Nat.zero_add,Nat.reduceAdd]at hBG;clear hB hB5 hG hG5 hg5 hu0 hu1 ho5 HPR HPR5 Ho;obtain⟨hB,hG⟩:=hBG;have HPR:=HPR6;have Ho:=Ho6;clear HPR6 Ho6;obtain⟨u,rfl⟩:=exQ u0;refine NoK.norm (hN _ _ ?_);clear hN K;refine A6 ?_;refine B9D ?_;refine M6 ?_;intro K hN;have r:=hB.r;simp only[BxR]at r;go_wp2_with (go_at_call 119;refine(Hre.out gso cs _ Ho.out).mono ?_;rintro e w5 ⟨rfl,ho5,hg5⟩);clear r
  have hB5:=hB.grown_ hg5 (λx hx hxe=>by
   have e:=B8y hxe;have hgU:=(Ho.out.lt gso rfl).1;obtain⟨z1,z2,z3,z4⟩:=Hlt.out;simp only[List.mem_cons,List.not_mem_nil,or_false]at hx
   rcases hx with rfl|rfl|rfl|rfl<;>(simp only at e;omega))
  have hG5:A4 w w5:=hG.grown hg5 (λk hk=>by have:=(Ho.out.lt k hk).1;have:=HUw.out;omega);have HPR5:=B9I (HPR.out.gq Ho.out (B8s _) hg5);have Ho5:=B9I ho5;clear hB hG hg5 ho5 HPR Ho;have hB:=hB5;have hG:=hG5;have HPR:=HPR5;have Ho:=Ho5;clear hB5 hG5 HPR5 Ho5;obtain⟨u,rfl⟩:=exQ w5;refine NoK.norm (hN _ _ ?_);clear hN K;refine A6 ?_;refine r0T ?_;refine B9D ?_;refine B9D ?_;have HBK:=B9I hB.head
  (first|have q0:=Hr0.out u hG|skip)
  refine r0N ?_;have HG0:=B9I hG;clear hB hF hG;obtain⟨w0,rfl⟩:=exQ w;obtain⟨w,hwu⟩:=exQ u;rw[<-hwu]at HG0 HBK HPR Ho;have hB:=Bx.nil u;have hF:=Fr.nil w;have hG:A4 w u:=hwu ▸ A4.refl u;clear hwu;obtain⟨Apc,cpc,rfl,hpcr⟩:=HPR.out.read;have HTw:=B9I (HT.grow HG0.out);have hlqP:∃A c,(Value.slice (some ⟨gso,0,none⟩) M cs) = .slice A M c/\Lq w A PS:=by
   obtain⟨A9,c9,e9,-,-,h9,-⟩:=K8 Ho.out;exact⟨A9,c9,e9,h9⟩
  obtain⟨A9,c9,e9,hlqP⟩:=hlqP;cases e9;have Hpr:=B9I (λi (hi:i<M) W (hg:A4 w W)=>(show Cq W gso (i*5) (gq PS i)by have h:=(hlqP.grow hg).read (i:=i) (by have:=HPS.out.1;omega);rw[Nat.zero_add]at h;exact h));obtain⟨np,hnp⟩:=exQ ps.length;rw[<-hnp]at HBK;have H11:=B9I (λW (hg:A4 w W)=>(show W.cell? ⟨b11,0,none⟩=some (.slice Apc np cpc)by rw[(HBK.out.grow hg).cell 0];rfl));obtain⟨PCs,hPCs⟩:∃x,x=O8 LM top (3^Lw):=⟨_,rfl⟩
  have hat:∀j,j<np->∃(b o:Nat) (p:Pd),Apc=some ⟨b,o,none⟩/\PCs[j]?=some (p.k,p.lo,p.hi)/\(qs p.lo<=S/\qs p.hi<=S)/\(∀W,A4 w W->C13 W b (o+j*13) Lw (LM p.k).length p)/\∀(a:Rat),qs a<=S->∀W,A4 w W->Tab W->Calls Tryz.prog 63 #[.agg #[.slice p.a1.1 Lw p.a1.2,.slice p.a2.1 Lw p.a2.2,.slice p.a3.1 (LM p.k).length p.a3.2],qV a] W (G9 (λx:Ax=>.slice x.1 Lw x.2) (λx V=>Lqt V x.1 (I6 (F p.k) (B p.k) Lw a)) W):=λj hj=>by
   have hj':j<ps.length:=by omega
   obtain⟨b,o,e1,hc⟩:=hpcr j hj';have hmem:=B86 hj';have hpp:PCs[j]?=some (ps[j].k,ps[j].lo,ps[j].hi):=by
    rw[hPCs,<-Hps.out,List.getElem?_map,B9Y hj'];rfl
   obtain⟨hk3,hbt⟩:=A3a.1 (hPCs ▸ B89 hpp);have hk3:ps[j].k<3^Lw:=hk3;obtain⟨z1,z2,z3⟩:=HFz.out _ hk3;obtain⟨l1,l2,-⟩:=HFl.out _ hk3;obtain⟨⟨q1,-⟩,q2,-⟩:=HPR.out.rw _ hmem;have hin:∀x,(x=ps[j].lo\/x=ps[j].hi)->qs x<=S:=λx hx=>Hplz.out x (List.mem_append.2 (.inr (List.mem_flatMap.2 ⟨_,hPCs ▸ B89 hpp,by rcases hx with e|e<;>simp[e]⟩)));refine⟨b,o,ps[j],e1,hpp,⟨hin _ (.inl rfl),hin _ (.inr rfl)⟩,λW hg=>B4P λt v hv=>hc W hg t v hv,λa ha W hg hT=>?_⟩;refine(A9E ps[j].a1 ps[j].a2 ps[j].a3 Lw (LM ps[j].k).length (F ps[j].k) (B ps[j].k) a l1 l2 (by omega) S (λi hi=>by have:=z1 i hi;omega) (λi hi=>by have:=z2 i hi;omega) ha (by omega) W (q1.lq.grow hg) (q2.lq.grow hg) hT).mono ?_;rintro e V ⟨x,g1,⟨g2,-⟩,g3⟩;obtain⟨A7,c7,e7,g4,-⟩:=A3T g2;cases e7;exact⟨x,g1,g4,g3⟩
  have Hat:=B9I hat;have HPw:=B9I HPR.out.df;have Hnp:=B9I (show PCs.length=np by rw[hPCs,<-Hps.out,List.length_map,hnp]);have hnp1:np<=1000:=by
   have h1:=Hnp.out;have h2:=A30 LM top (3^Lw);have h3:3^Lw<=3^6:=B9P (by omega) hL2;rw[hPCs]at h1;omega
  obtain⟨KA,hKA⟩:∃x,x=knA F B Lw PCs:=⟨_,rfl⟩
  have HKA:=B9I hKA;have HPC:=B9I hPCs;clear hat hpcr hlqP hPCs hnp hKA HPR Ho HBK;refine B9l ?_;clear hB hF;go_loopw [71,14] (λs0 s1 wr=>∃(i:Nat) (ks:List Kq) (kv:Value),i<=M/\s0 = .int .i64 i/\kv=s1/\KnR w.heap.size kv ks wr/\ks.map C3=(PS.take i).flatMap KA/\ks.length<=i/\A4 w wr) (λs0 _ _=>M-(intOf s0).toNat)
  case atStart=>exact⟨0,[],_,B9a _,rfl,rfl,KnR.start _ _,rfl,B8s _,hG⟩
  case round =>
   clear hG;obtain⟨i,ks,kv,hi,rfl,rfl,hK,hks,hkl,hG⟩:=hrel;obtain⟨u,rfl⟩:=exQ wr;have hB:=Bx.nil u;have hF:=Fr.nil w;have HK:=B9I hK;have Hks:=B9I hks;clear hK hks;have hM2:M<=2000:=HPS.out.2.2;rcases B8t i M with hlt|hge
   ·have hdec:decide ((i:Int)<(M:Int))=true:=by simp;omega
    have hin:(i:Int)<(M:Int):=by omega
    have hrd:=Hpr.out i hlt;have hts:=B5a (l:=PS) (f:=KA) (i:=i) (by have:=HPS.out.1;omega);have hgi:PS[i]'(by have:=HPS.out.1;omega)=gq PS i:=by unfold gq;rw[B9Y (by have:=HPS.out.1;omega)];rfl
    rw[hgi]at hts;have haz:qs (gq PS i)<=S:=Hplz.out _ (A1a.1 (HPS.out.2.1 ▸ A3y (by have:=HPS.out.1;omega)));obtain⟨a,ha⟩:∃x,x=gq PS i:=⟨_,rfl⟩
    rw[<-ha]at hrd hts haz;have Hrd:=B9I hrd;have Hts:=B9I hts;clear hrd hts hgi ha;refine r0T ?_;refine B9D ?_;refine B9L (rfl) ?_;refine B9K ?_;refine A6 ?_;refine B9D ?_;refine B9l ?_;refine B9D (rsC O1 [0,0,2] hB hG λK L hN hL=>?_)
    repeat first|refine gya ?_|refine gyr ?_|refine gna ?_|refine gyb (by(rintro v ⟨hgu,hB,hG,-⟩ N hN;have r:=hB.r;simp only[BxR]at r;obtain⟨y1,y2,y3,y4,y5⟩:=Hrd.out v hG;have q11:=H11.out _ hG;go_simp;exact hN)) ?_
    refine gaa (G6 _ _ _ _ _) λb16 hb16 hn16=>?_;replace hF:=hF.n1 [] hB hG hb16 hn16;refine geC hL ?_;clear hB hG hL L;rintro u ⟨⟨hgu,hB,hG,-⟩,h16⟩;replace hB:=hB.cons' h16;clear h16;have hne16:=HK.out.lt hb16;have HK2:=B9I (HK.out.grow hgu);clear HK;clear hb16 hn16;clear hgu;refine gtT ?_;clear hN K;have hbk:=hB.head;refine sv hB hF hG 0 0 [_,_,_,_,_] ?_;intro u2 hu hBG;have HK:=B9I (HK2.out.over hbk (by decide) (.inr hne16) hu);clear hB hG HK2 hu hbk hne16;obtain⟨hB,hG⟩:=hBG;obtain⟨u,rfl⟩:=exQ u2;refine B9D ?_
    (first|have q11:=H11.out _ hG|skip)
    refine r0N ?_;refine B9l ?_;go_loopw [77,14] (λs0 s1 wr=>∃(j:Nat),j<=np/\s0 = .int .i64 j/\kv=s1/\(∀(t:Nat) (q:Pc),t<j->PCs[t]?=some q->¬(q.2.1<=a/\a<=q.2.2))/\Bx wr [(b16,48,L9 a)]/\KnR w.heap.size kv ks wr/\A4 w wr) (λs0 _ _=>np-(intOf s0).toNat)
    case atStart=>exact⟨0,B9a _,rfl,rfl,λt q ht=>absurd ht (C03 _),hB,HK.out,hG⟩
    case round =>
     clear hB hG HK;obtain⟨j,hj,rfl,rfl,hno,hB,hK,hG⟩:=hrel;obtain⟨u,rfl⟩:=exQ wr;have HK:=B9I hK;have Hno:=B9I hno;clear hK hno;rcases B8t j np with hltj|hgej
     ·have hdecj:decide ((j:Int)<(np:Int))=true:=by simp;omega
      have hjn:(j:Int)<(np:Int):=by omega
      obtain⟨bpc,opc,⟨pk,⟨a1,c1⟩,⟨a2,c2⟩,⟨a3,c3⟩,lo,hi⟩,rfl,hpp,⟨hzl,hzh⟩,hrd,hwt⟩:=Hat.out j hltj;have hwt2:=hwt a haz
      try dsimp only at hpp
      try dsimp only at hzl
      try dsimp only at hzh
      try dsimp only at hrd
      try dsimp only at hwt2
      obtain⟨m3,hm3⟩:∃m,m=(LM pk).length:=⟨_,rfl⟩
      have hwl:(I6 (F pk) (B pk) Lw a).length=Lw:=by unfold I6;simp
      rw[<-hm3]at hrd hwt2;obtain⟨WQ,hWQ⟩:∃x,x=I6 (F pk) (B pk) Lw a:=⟨_,rfl⟩
      rw[<-hWQ]at hwl hwt2;have hc1:=λ(W:World)=>W8 lo a W (by omega);have hc2:=λ(W:World)=>W8 a hi W (by omega);have hp1:E9 lo a<=0↔lo<=a:=B0d;have hp2:E9 a hi<=0↔a<=hi:=B0d;obtain⟨P1,hP1⟩:∃x,x=E9 lo a:=⟨_,rfl⟩
      obtain⟨P2,hP2⟩:∃x,x=E9 a hi:=⟨_,rfl⟩
      rw[<-hP1]at hp1;rw[<-hP2]at hp2;simp only[<-hP1]at hc1;simp only[<-hP2]at hc2;have Hrd2:=B9I hrd;have Hwt:=B9I hwt2;have Hc1:=B9I hc1;have Hc2:=B9I hc2;have Hpp:=B9I hpp;have HWQ:=B9I hWQ;clear hrd hwt hwt2 hc1 hc2 hP1 hP2 hm3 hpp hzl hzh hWQ;by_cases hb1:P1<=0
      ·have f1:decide (P1<=0)=true:=B9x hb1;by_cases hb2:P2<=0
       ·have f2:decide (P2<=0)=true:=B9x hb2;have Hka:=B9I (show KA a=[(a,WQ)]by rw[HKA.out,HWQ.out];exact B7W Hpp.out Hno.out ⟨hp1.1 hb1,hp2.1 hb2⟩);clear hb1 hb2 hp1 hp2;refine r0T ?_;refine B9D ?_;refine B9L (rfl) ?_;refine B9K ?_;refine A6 ?_;refine B9D ?_;refine B9l ?_;refine B9D (rsC O1 [0,0,2] hB hG λK L hN hL=>?_)
        repeat first|refine gya ?_|refine gyr ?_|refine gna ?_|refine gyb (by(rintro v ⟨hgu,hB,hG,-⟩ N hN;have r:=hB.r;simp only[BxR]at r;obtain⟨y1,y2,y3,⟨l1,l2,l3,l4,l5⟩,h1,h2,h3,h4,h5⟩:=Hrd2.out v hG;go_simp;exact hN)) ?_
        refine gaa (A2P _ _ _ _ _) λb18 hb18 hn18=>?_;replace hF:=hF.n1 [] hB hG hb18 hn18;refine geC hL ?_;clear hB hG hL L;rintro u ⟨⟨hgu,hB,hG,-⟩,h18⟩;replace hB:=hB.cons' h18;clear h18;have HK2:=B9I (HK.out.grow hgu);clear HK;clear hb18 hn18;clear hgu;refine gtT ?_;clear hN K;have hbk:=hB.head;refine sv hB hF hG 0 0 [_,_,_,_,_,_,_,_,_,_,_,_,_] ?_;intro u2 hu hBG;have HK:=B9I (HK2.out.over hbk (by decide) (.inl (by decide)) hu);clear hB hG HK2 hu hbk;obtain⟨hB,hG⟩:=hBG;obtain⟨u,rfl⟩:=exQ u2;refine B9D (rsE O1 [0,0,0,1,0,0,0,0,0,1,0,0] hB hG λL hL=>?_)
        repeat first|refine gya ?_|refine gyr ?_|refine gna ?_|refine gyb (by(rintro v ⟨hgu,hB,hG,-⟩ N hN;have r:=hB.r;simp only[BxR]at r;obtain⟨y1,y2,y3,⟨l1,l2,l3,l4,l5⟩,h1,h2,h3,h4,h5⟩:=Hrd2.out v hG;go_simp;exact hN)) ?_
        refine gmw (C:=λv=>Hc1.out _) ?_
        repeat first|refine gya ?_|refine gyr ?_|refine gna ?_|refine gyb (by(rintro v ⟨hgu,hB,hG,-⟩ N hN;have r:=hB.r;simp only[BxR]at r;obtain⟨y1,y2,y3,⟨l1,l2,l3,l4,l5⟩,h1,h2,h3,h4,h5⟩:=Hrd2.out v hG;go_simp;exact hN)) ?_
        first|refine gmw (C:=λv=>Hc2.out _) ?_|refine I0 ?_
        refine gs ?_;refine geT hL ?_;clear hB hG hL L;rintro u ⟨hgu,hB,hG,-⟩;have HK2:=B9I (HK.out.grow hgu);clear HK;have HK:=HK2;clear HK2;clear hgu;refine B9L (rfl) ?_;refine B9D ?_;have Ho:=B9I HK.out.o;refine A2I (w:=w) O1 7 [0] [(0,0),(0,1),(0,2),(0,3),(0,4),(1,5),(0,6)] (by kernel_rfl) (by kernel_rfl) (by simp only[List.drop_succ_cons,List.drop_zero];exact rfl) (λ_=>True) noG hB hG trivial ?_;intro K L hN hL;simp only[H3,List.getElem?_toArray,List.getElem?_cons_zero,List.getElem?_cons_succ]
        repeat first|refine gya ?_|refine gyr ?_|refine gna ?_|refine gyb (by(rintro v ⟨hgu,hB,hG,-⟩ N hN;have r:=hB.r;simp only[BxR]at r;obtain⟨y1,y2,y3,⟨l1,l2,l3,l4,l5⟩,h1,h2,h3,h4,h5⟩:=Hrd2.out v hG;go_simp;exact hN)) ?_
        refine gxd (X:=Ax) (λx:Ax=>.slice x.1 Lw x.2) (λx V=>Lqt V x.1 WQ) (λx u u' hg h=>h.grow hg) (λx98=>?_) (C:=by(rintro v ⟨hgu,hB,hG,-⟩;exact Hwt.out _ hG (HTw.out.grow hG)));refine gs ?_;refine I8 ?_;rintro v ⟨⟨hgu,hB1,hG1,-⟩,hx98⟩;have ROWn:=B9I (C0 Ho.out hgu);clear Ho;have Ho:=ROWn;clear ROWn;have HK2:=B9I (HK.out.grow hgu);clear HK;have HK:=HK2;clear HK2;clear hB hG;have hB:=hB1;have hG:=hG1;clear hB1 hG1;refine hL _ _ ?_;clear hL L hgu;obtain⟨u,rfl⟩:=exQ v;refine A0E A4D w.heap.size _ _ _ _ (kqL (a,x98,WQ)) rfl rfl (A4o a x98 WQ Lw hwl u) rfl (λ_=>rfl) (λ_=>rfl) (λ_ _=>rfl) Ho.out (by omega) (by omega) hG.sz λp v' w' g1 g2 g3=>?_;have hBn:=A6n Ho.out hB (by simp) g2;have HK2:=B9I (KnR.add (y:=(a,x98,WQ)) HK.out hx98 g1 g2);clear HK;have HK:=HK2;clear HK2;have hGn:=A0N Ho.out hG g2;clear Ho hB hG;have Ho:=B9I g1;have hB:=hBn;have hG:=hGn;clear g1 g2 g3 hBn hGn;obtain⟨u,rfl⟩:=exQ w';simp only[Act.put,List.setIfInBounds_toArray,List.set_cons_succ,List.set_cons_zero];refine NoK.norm (hN _ _ ?_);clear hN K;refine A6 ?_;refine B9n ?_;refine A65 (by decide) ?_;refine B9 ?_;refine B9 ?_;refine E4 ?_;refine C5 ?_;refine A6 ?_;refine r0E ?_;refine A6 ?_;go_roundw
        case rel=>exact⟨i+1,ks++[(a,x98,WQ)],_,by omega,by go_num,rfl,HK.out,by rw[Hts.out,List.map_append,Hks.out,Hka.out];rfl,by rw[List.length_append];simp;omega,hG⟩
        case measure=>simp[intOf];omega
       ·have f2:decide (P2<=0)=false:=B92 hb2
        have Hno2:=B9I (show ∀(t:Nat) (q:Pc),t<j+1->PCs[t]?=some q->¬(q.2.1<=a/\a<=q.2.2)from λt q ht hq=>by
         rcases B8t t j with h|h
         ·exact Hno.out t q h hq
         ·obtain rfl:t=j:=by omega
          rw[Hpp.out]at hq;cases hq
          exact λh=>hb2 (hp2.2 h.2))
        clear hb1 hb2 hp1 hp2;refine r0T ?_;refine B9D ?_;refine B9L (rfl) ?_;refine B9K ?_;refine A6 ?_;refine B9D ?_;refine B9l ?_;refine B9D (rsC O1 [0,0,2] hB hG λK L hN hL=>?_)
        repeat first|refine gya ?_|refine gyr ?_|refine gna ?_|refine gyb (by(rintro v ⟨hgu,hB,hG,-⟩ N hN;have r:=hB.r;simp only[BxR]at r;obtain⟨y1,y2,y3,⟨l1,l2,l3,l4,l5⟩,h1,h2,h3,h4,h5⟩:=Hrd2.out v hG;go_simp;exact hN)) ?_
        refine gaa (A2P _ _ _ _ _) λb18 hb18 hn18=>?_;replace hF:=hF.n1 [] hB hG hb18 hn18;refine geC hL ?_;clear hB hG hL L;rintro u ⟨⟨hgu,hB,hG,-⟩,h18⟩;replace hB:=hB.cons' h18;clear h18;have HK2:=B9I (HK.out.grow hgu);clear HK;clear hb18 hn18;clear hgu;refine gtT ?_;clear hN K;have hbk:=hB.head;refine sv hB hF hG 0 0 [_,_,_,_,_,_,_,_,_,_,_,_,_] ?_;intro u2 hu hBG;have HK:=B9I (HK2.out.over hbk (by decide) (.inl (by decide)) hu);clear hB hG HK2 hu hbk;obtain⟨hB,hG⟩:=hBG;obtain⟨u,rfl⟩:=exQ u2;refine B9D (rsE O1 [0,0,0,1,0,0,0,0,0,1,0,0] hB hG λL hL=>?_)
        repeat first|refine gya ?_|refine gyr ?_|refine gna ?_|refine gyb (by(rintro v ⟨hgu,hB,hG,-⟩ N hN;have r:=hB.r;simp only[BxR]at r;obtain⟨y1,y2,y3,⟨l1,l2,l3,l4,l5⟩,h1,h2,h3,h4,h5⟩:=Hrd2.out v hG;go_simp;exact hN)) ?_
        refine gmw (C:=λv=>Hc1.out _) ?_
        repeat first|refine gya ?_|refine gyr ?_|refine gna ?_|refine gyb (by(rintro v ⟨hgu,hB,hG,-⟩ N hN;have r:=hB.r;simp only[BxR]at r;obtain⟨y1,y2,y3,⟨l1,l2,l3,l4,l5⟩,h1,h2,h3,h4,h5⟩:=Hrd2.out v hG;go_simp;exact hN)) ?_
        first|refine gmw (C:=λv=>Hc2.out _) ?_|refine I0 ?_
        refine gs ?_;refine geT hL ?_;clear hB hG hL L;rintro u ⟨hgu,hB,hG,-⟩;have HK2:=B9I (HK.out.grow hgu);clear HK;have HK:=HK2;clear HK2;clear hgu;refine B9J (rfl) ?_;refine B9K ?_;refine C5 ?_;refine A6 ?_;refine r0E ?_;refine A6 ?_;go_roundw
        case rel=>exact⟨j+1,by omega,by go_num,rfl,Hno2.out,hB.tail,HK.out,hG⟩
        case measure=>simp[intOf];omega
      ·have f1:decide (P1<=0)=false:=B92 hb1
       have Hno2:=B9I (show ∀(t:Nat) (q:Pc),t<j+1->PCs[t]?=some q->¬(q.2.1<=a/\a<=q.2.2)from λt q ht hq=>by
        rcases B8t t j with h|h
        ·exact Hno.out t q h hq
        ·obtain rfl:t=j:=by omega
         rw[Hpp.out]at hq;cases hq
         exact λh=>hb1 (hp1.2 h.1))
       clear hb1 hp1 hp2;refine r0T ?_;refine B9D ?_;refine B9L (rfl) ?_;refine B9K ?_;refine A6 ?_;refine B9D ?_;refine B9l ?_;refine B9D (rsC O1 [0,0,2] hB hG λK L hN hL=>?_)
       repeat first|refine gya ?_|refine gyr ?_|refine gna ?_|refine gyb (by(rintro v ⟨hgu,hB,hG,-⟩ N hN;have r:=hB.r;simp only[BxR]at r;obtain⟨y1,y2,y3,⟨l1,l2,l3,l4,l5⟩,h1,h2,h3,h4,h5⟩:=Hrd2.out v hG;go_simp;exact hN)) ?_
       refine gaa (A2P _ _ _ _ _) λb18 hb18 hn18=>?_;replace hF:=hF.n1 [] hB hG hb18 hn18;refine geC hL ?_;clear hB hG hL L;rintro u ⟨⟨hgu,hB,hG,-⟩,h18⟩;replace hB:=hB.cons' h18;clear h18;have HK2:=B9I (HK.out.grow hgu);clear HK;clear hb18 hn18;clear hgu;refine gtT ?_;clear hN K;have hbk:=hB.head;refine sv hB hF hG 0 0 [_,_,_,_,_,_,_,_,_,_,_,_,_] ?_;intro u2 hu hBG;have HK:=B9I (HK2.out.over hbk (by decide) (.inl (by decide)) hu);clear hB hG HK2 hu hbk;obtain⟨hB,hG⟩:=hBG;obtain⟨u,rfl⟩:=exQ u2;refine B9D (rsE O1 [0,0,0,1,0,0,0,0,0,1,0,0] hB hG λL hL=>?_)
       repeat first|refine gya ?_|refine gyr ?_|refine gna ?_|refine gyb (by(rintro v ⟨hgu,hB,hG,-⟩ N hN;have r:=hB.r;simp only[BxR]at r;obtain⟨y1,y2,y3,⟨l1,l2,l3,l4,l5⟩,h1,h2,h3,h4,h5⟩:=Hrd2.out v hG;go_simp;exact hN)) ?_
       refine gmw (C:=λv=>Hc1.out _) ?_
       repeat first|refine gya ?_|refine gyr ?_|refine gna ?_|refine gyb (by(rintro v ⟨hgu,hB,hG,-⟩ N hN;have r:=hB.r;simp only[BxR]at r;obtain⟨y1,y2,y3,⟨l1,l2,l3,l4,l5⟩,h1,h2,h3,h4,h5⟩:=Hrd2.out v hG;go_simp;exact hN)) ?_
       refine gmn (by exact rfl) ?_;refine okf (by simp only[Act.put,List.setIfInBounds_toArray,List.set_cons_succ,List.set_cons_zero];exact rfl) ?_;refine gs ?_;refine geT hL ?_;clear hB hG hL L;rintro u ⟨hgu,hB,hG,-⟩;have HK2:=B9I (HK.out.grow hgu);clear HK;have HK:=HK2;clear HK2;clear hgu;refine B9J (rfl) ?_;refine B9K ?_;refine C5 ?_;refine A6 ?_;refine r0E ?_;refine A6 ?_;go_roundw
       case rel=>exact⟨j+1,by omega,by go_num,rfl,Hno2.out,hB.tail,HK.out,hG⟩
       case measure=>simp[intOf];omega
     ·obtain rfl:np=j:=by omega
      have hdecj:decide ((np:Int)<(np:Int))=false:=by simp
      have Hka:=B9I (show KA a=[]by rw[HKA.out];exact B7m λt q hq=>Hno.out t q (by have:=(List.getElem?_eq_some_iff.1 hq).1;have:=Hnp.out;omega) hq);refine r0T ?_;refine B9D ?_;refine B9J (rfl) ?_;refine B9n ?_;refine B9 ?_;refine B9 ?_;refine E4 ?_;refine C5 ?_;refine A6 ?_;refine r0E ?_;refine A6 ?_;go_roundw
      case rel=>exact⟨i+1,ks,_,by omega,by go_num,rfl,HK.out,by rw[Hts.out,Hka.out,List.append_nil];exact Hks.out,by omega,hG⟩
      case measure=>simp[intOf];omega
   ·obtain rfl:M=i:=by omega
    have hdec:decide ((M:Int)<(M:Int))=false:=by simp
    have hkk:ks.map C3=A1b F B LM top Lw (3^Lw):=by rw[Hks.out,B9k (by have:=HPS.out.1;omega),HKA.out,HPC.out,HPS.out.2.1];rfl
    obtain⟨Ak,ck,rfl,hlk⟩:=HK.out.lk;obtain⟨nk,hnk⟩:=exQ ks.length;have hmem:∀i,i<nk->qs (ksX ks i).1<=S/\(ksX ks i).2.2.length=Lw/\∀j,j<Lw->qs (gq (ksX ks i).2.2 j)<=3*S+1:=λi hi=>by
     obtain⟨e1,e2⟩:=A1y ks (i:=i) (by omega);obtain⟨m1,k,m2,m3⟩:=B5Y (hkk ▸ List.mem_map_of_mem (f:=C3) e2);obtain⟨z1,z2,-⟩:=HFz.out _ m2;have m1:qs (ksX ks i).1<=S:=Hplz.out _ m1;have m3:(ksX ks i).2.2=I6 (F k) (B k) Lw (ksX ks i).1:=m3;refine⟨m1,by rw[m3];unfold I6;simp,λj hj=>?_⟩;rw[m3];have:=B5k z1 z2 m1 hj;omega
    have hbe:=λW (hg:A4 u W) (hT:Tab W)=>B64 Ak ks nk ck Lw hnk.symm (by have:=Hne.out;rw[<-hkk,List.length_map]at this;omega) (by have:=HPS.out.2.2;omega) (by omega) (λi hi=>(hmem i hi).2.1) (3*S+1) (λi hi=>⟨by have:=(hmem i hi).1;omega,(hmem i hi).2.2⟩) (by omega) W (hlk.grow hg) hT;rw[<-hnk]at HK⊢;have Hbe:=B9I hbe;have Hkk:=B9I hkk;have Hnk:=B9I hnk;have HZ:=B9I HK.out.q;clear hbe hkk hlk hmem hnk hkl HK;refine r0T ?_;refine B9D ?_;refine B9J (rfl) ?_;refine B9n ?_;refine B9 ?_;refine B9 ?_;refine E4 ?_;refine A6 ?_;refine B9D (rsE O1 [0,1,0,0] hB hG λL hL=>?_);refine gs ?_;refine gxd (X:=Value) (λv=>v) (λv V=>V.ownsRow w.heap.size 84 6 v (Q8 ks Lw nk).length ((Q8 ks Lw nk).flatMap kqL)) (λx u u' hg h=>C0 h hg) (λx105=>?_) (C:=by(rintro v ⟨hgu,hB,hG,-⟩;exact(Hbe.out _ hgu (HTw.out.grow hG)).mono λe V ⟨v,g1,g2,g3⟩=>⟨v,g1,g2.mono hG.sz,g3⟩));refine gs ?_;refine geT hL ?_;clear hB hG hL L;rintro u ⟨⟨hgu,hB,hG,-⟩,hx105⟩;have HZ2:=B9I (λx hx=>(HZ.out x hx).grow hgu);clear HZ;clear hgu;refine wp_ret ?_;have hdf:u.heap[wE.heap.size]?=some (.deferred (some [])):=(hG.block _ (L7 HPw.out)).trans HPw.out;refine⟨by simp,.inl ⟨_,_,rfl,run_takeDeferred hdf,?_⟩⟩;refine⟨.tuple #[x105,.int .i64 0],?_,Q8 ks Lw nk,x105,rfl,(B1z hdf hx105).mono HG0.out.sz,λx hx=>((HZ2.out x ((A73 ks Lw (by have:=Hnk.out;omega)).2 x hx)).putD hdf).lq,?_,A2h (HG0.out.trans hG) HUD.out⟩
    ·simp only[results,Tryz.results49];go_simp
    ·rw[(A73 ks Lw (by have:=Hnk.out;omega)).1,Hkk.out,<-Hkk.out,List.length_map,<-Hnk.out]
end Go.Proofs.YtgpglgbcobeogaaGreatDoor
