import Derived.Test.YtgpglgbcobeogaaGreatDoorW48
set_option linter.unusedSimpArgs false
set_option linter.unusedVariables false
set_option maxHeartbeats 16000000
set_option maxRecDepth 100000
namespace Go.Proofs.YtgpglgbcobeogaaGreatDoor
open Go Go.RowKit Go.Shelf
attribute [local go_sem] Oper.semAt_some
theorem A23(d:Option Tmp)(ty:TypeId)(pos:String)(af:Array Edge)(gd:Option (Nat×Bool)):M8 Tryz.prog ⟨d,.alloc 165,ty,pos,af,gd⟩ = .cells #[.slice none 0 0,.slice none 0 0,.slice none 0 0,.bool false,.int .u64 0,.string ⟨#[]⟩,.int .u64 0,.string ⟨#[]⟩,.bool false,.int .u64 0,.string ⟨#[]⟩,.int .u64 0,.string ⟨#[]⟩] 165:=by kernel_rfl
theorem B0b(d:Option Tmp)(ty:TypeId)(pos:String)(af:Array Edge)(gd:Option (Nat×Bool)):M8 Tryz.prog ⟨d,.alloc 163,ty,pos,af,gd⟩ = .cells #[.slice none 0 0] 163:=by kernel_rfl
theorem A8U(d:Option Tmp)(ty:TypeId)(pos:String)(af:Array Edge)(gd:Option (Nat×Bool)):M8 Tryz.prog ⟨d,.alloc 35,ty,pos,af,gd⟩ = .cells #[.slice none 0 0] 35:=by kernel_rfl
theorem N1:∀t∈[44,46,48,183,115,108,165,163,35,84],O1 Tryz.prog t:=by
 intro t ht;simp only[List.mem_cons,List.not_mem_nil,or_false]at ht;rcases ht with rfl|rfl|rfl|rfl|rfl|rfl|rfl|rfl|rfl|rfl
 ·exact D3 _ (by simp)
 ·exact D3 _ (by simp)
 ·exact D3 _ (by simp)
 ·exact D3 _ (by simp)
 ·exact D3 _ (by simp)
 ·exact D3 _ (by simp)
 ·exact fun _ _ _ _ _ _=>by rw[A23];kernel_rfl
 ·exact fun _ _ _ _ _ _=>by rw[B0b];kernel_rfl
 ·exact fun _ _ _ _ _ _=>by rw[A8U];kernel_rfl
 ·exact X8 _ (by simp)
theorem B6S:EI 163 165 13 184:=A0l (by kernel_rfl) (by kernel_rfl) (by omega)
abbrev pcY(F B L:Value)(lo hi:Rat):List Value:=[F,B,L]++(qL lo++qL hi)
theorem B5j{W:World}{b B:Nat}{top:Rat}(h:Blk W b 48 #[.bool false,.int .u64 0,.string ⟨#[]⟩,.int .u64 0,.string ⟨#[]⟩,.bool (D6 top.num),.int .u64 (B8 top.num.natAbs),.string (B6 top.num.natAbs),.int .u64 (B8 (G9 top.den)),.string (B6 (G9 top.den))])(hb:B≤b){LM:Nat→List Lm}:W.ownsRow B 48 5 (.slice (some ⟨b,0,none⟩) 2 2) (I4 LM top 0).length ((I4 LM top 0).flatMap qL):=by
 have e0:I4 LM top 0=[0,top]:=by unfold I4 P6;simp
 have hz:qL 0=[.bool false,.int .u64 0,.string ⟨#[]⟩,.int .u64 0,.string ⟨#[]⟩]:=by kernel_rfl
 rw[e0];refine⟨rfl,.inr ⟨b,2,_,rfl,hb,h,by simp,by unfold maxLen;omega,rfl,?_⟩⟩;simp only[List.flatMap_cons,List.flatMap_nil,hz];rfl
theorem B2N(d:Nat){P:Program}{g:Operand}{p0:Tmp}{assign body:Code}{Q:Exit→Act→World→Prop}{a:Act}{wE:World}{gf:Nat}{lb:Array Value}(hg:a.eval g = .func (.func gf) #[] lb)(eg:∀args w,(callFunc gf args).run P w = .ok (.enter gf args) w)
  (N:Nat) (C:Nat→Value→World→Prop) (J:Nat→World→Prop)
  (it:∀(l:Nat) (Rd:Nat→World→Prop) (Rx:World→Prop) (W:World),KI wE W→wE.heap.size+2≤W.heap.size→(∀i u v,A4 u v→Rd i u→Rd i v)→(∀u v,A4 u v→Rx u→Rx v) →
   (∀i v W1,i<N→KI wE W1→Rd i W1→C i v W1→YieldAt Fence.wide 0 P l #[v] W1 fun e W'=>(e = .returned (.bool true)∧KI W1 W'∧Rd (i+1) W')∨(e = .returned (.bool false)∧Rx W')) →
   Rd 0 W→CallsIn Fence.wide 0 P gf (#[.func (.yield l) #[] #[]]++lb) W fun e W'=>(∃v,e = .returned v)∧((KI wE W'∧Rd N W')∨Rx W'))
  (hC:∀i v W o,C i v W→C i v (W.putObj (wE.heap.size+1) o)) (hJp:∀i W o b,b=wE.heap.size∨b=wE.heap.size+1→J i W→J i (W.putObj b o)) (hJg:∀i u v,A4 u v→J i u→J i v) (h0:J 0 wE)
  (hassign:∀(l:Nat) (v:Value) (W:World) (K:Act→World→Prop),K { tmps:=(a.tmps.setIfInBounds p0 v).setIfInBounds d v,defers:=[] } W→assign.wpIn (Fence.wide.inRound l) 0 P (Exit.then K (fun _ _ _=>False)) { tmps:=((#[p0]:Array Tmp).zip #[v]).foldl (fun t (p,v)=>t.setIfInBounds p v) a.tmps,defers:=[] } W)
  (hbody:∀(l i:Nat) (v:Value) (W:World),i<N→J i W→KI wE W→wE.heap.size+2≤W.heap.size→C i v W→body.wpIn (Fence.wide.inRound l) 0 P (A8A J i W) { tmps:=(a.tmps.setIfInBounds p0 v).setIfInBounds d v,defers:=[] } W)
  (hdone:∀W,KI wE W→J N W→W.heap[wE.heap.size]?=some (.deferred (some []))→Q .normal { a with defers:={ target:=.collected wE.heap.size,args:=#[] }::a.defers } W) :
  (Code.rangeFunc g #[p0] assign body).wpIn Fence.wide 0 P Q a wE:=B6W hg eg N C J (fun v=>{ tmps:=(a.tmps.setIfInBounds p0 v).setIfInBounds d v,defers:=[] }) it hC hJp hJg h0 hassign hbody hdone
theorem B3V(A:Option Addr)(rs:List Rq)(N Lw c:Nat)(Y:Ax)(y:List Rat)(hn:rs.length=N)(hN1:1≤N)(hN2:N≤20)(hL1:1≤Lw)(hL2:Lw≤6)(hrl:∀r∈rs,r.2.2.length=Lw)(hy:y.length=N)(s:Nat)(hs1:1≤s)(hs:s≤1000)(hX:∀i,i<N→∀j,j<Lw→qs (gq (B7 (rs.map (·.2.2)) i) j)≤s)(hys:∀i,i<N→qs (gq y i)≤s)
  (hun:(C9 N Lw (F0 (rs.map (·.2.2)),[]) Lw).2.length=Lw)
  (F B:Nat→List Rat) (LM:Nat→List Lm) (z S:Nat) (hS1:1≤S) (hS2:2*z≤S) (htop:qs (N3 (rs.map (·.2.2)) y N Lw)≤S) (hBz:40*S+100≤BIG) (hFl:∀k,k<3^Lw→(F k).length=Lw∧(B k).length=Lw∧(LM k).length≤1000) (hFz:∀k,k<3^Lw→(∀i,i<Lw→qs (gq (F k) i)≤z)∧(∀i,i<Lw→qs (gq (B k) i)≤z)∧∀x∈LM k,qs x.1≤z∧qs x.2≤z)
  (hsv:∀k,k<3^Lw→A1q Lw (J9 (rs.map (·.2.2)) N Lw) (I0 (rs.map (·.2.2)) y N Lw) (E6 Lw k) (F k) (B k) (LM k)) (hne:1≤(A1T F B LM (N3 (rs.map (·.2.2)) y N Lw) Lw (3^Lw)).length) (w:World) (h:Lrq w A rs) (h2:Lq w Y.1 y) (HT:Tab w) :
  Calls Tryz.prog 49 #[.slice A N c,.slice Y.1 N Y.2] w fun e w'=>∃(ks:List Kq) (v:Value),e = .returned (.tuple #[v,.int .i64 0])∧w'.ownsRow w.heap.size 84 6 v ks.length (ks.flatMap kqL)∧(∀x∈ks,Lq w' x.2.1.1 x.2.2)∧ks.map F9=A4E (A1T F B LM (N3 (rs.map (·.2.2)) y N Lw) Lw (3^Lw)) Lw (A1T F B LM (N3 (rs.map (·.2.2)) y N Lw) Lw (3^Lw)).length∧A4 w w':=by
 have hBB:100000000≤BIG:=by unfold BIG;omega
 have htp:=fun W (hg:A4 w W) (hT:Tab W)=>A5V A Y.1 rs y N Lw c Y.2 hn hN1 hN2 hrl hy hL1 (by omega) s hs1 (by omega) hX hys W (h.grow hg) (h2.grow hg) hT
 have huq:=fun W (hg:A4 w W) (hT:Tab W)=>A8v A rs N Lw c hn hN1 (by omega) hL1 (by omega) hrl s hs1 hX (by
  have h1:10^Lw≤10^6:=B9n (by omega) hL2;have h2:s*10^Lw≤1000*10^6:=C03 hs h1;have h3:30*(1000*10^6)≤BIG:=by unfold BIG;omega
  omega) W (h.grow hg) hT
 rw[hun]at huq;simp only[Nat.lt_irrefl,if_false]at huq;obtain⟨GR,hGR⟩:∃x,x=J9 (rs.map (·.2.2)) N Lw:=⟨_,rfl⟩
 obtain⟨PL,hPL⟩:∃x,x=I0 (rs.map (·.2.2)) y N Lw:=⟨_,rfl⟩
 obtain⟨GM,hGM⟩:∃x,x=K8 (rs.map (·.2.2)) N:=⟨_,rfl⟩
 obtain⟨top,htope⟩:∃x,x=N3 (rs.map (·.2.2)) y N Lw:=⟨_,rfl⟩
 have hGR2:GR=(List.range Lw).map (G0 GM Lw):=by rw[hGR,hGM];rfl
 have hpo:=fun W (hg:A4 w W) (hT:Tab W)=>(A9f A rs N Lw c Y y hn hN1 (by omega) hL1 (by omega) hrl hy s (by omega) hX hys W (h.grow hg) (h2.grow hg) hT).mono (R':=G1 (fun x:(Nat×(Nat→Nat)×(Nat→Nat))×Nat=>.agg #[.slice (some ⟨x.1.1,0,none⟩) Lw Lw,.slice (some ⟨x.2,0,none⟩) Lw Lw]) (fun x W'=>MatW w.heap.size Lw Lw x.1.1 Lw x.1.2.1 x.1.2.2 GM W'∧W'.ownsRow w.heap.size 48 5 (.slice (some ⟨x.2,0,none⟩) Lw Lw) Lw (PL.flatMap qL)) W) (by
  rintro e w' ⟨x,rfl,⟨g1,g2⟩,hg2⟩
  exact⟨x,rfl,⟨by rw[hGM];exact g1.mono hg.sz,by rw[hPL];exact g2.mono hg.sz⟩,hg2⟩)
 rw[←hGR,←hPL]at hsv;rw[←htope]at htop hne⊢;simp only[←htope]at htp;obtain⟨bb,ob,P0,eA,hP0⟩:=U5 hn hrl h (i:=0) (by omega);have hr0:=fun W hg=>(hP0 W hg).1;simp only[Nat.add_zero]at hr0;have hNi:(0:Int)<(N:Int):=by omega
 have hNn:0<N:=by omega
 obtain⟨YA,YC⟩:=Y;subst eA;have Htp:=B9g htp;have Huq:=B9g huq;have Hpo:=B9g hpo;have Hr0:=B9g hr0;have Hsv:=B9g hsv;have HFl:=B9g hFl;have HFz:=B9g hFz;replace hGR2:=B9g hGR2;have Hte:=B9g htope;have hplz:=B8U (LM:=LM) (top:=top) (K:=3^Lw) hS2 htop hS1 fun k hk=>(hFz k hk).2.2;have Hplz:=B9g hplz;have Hne:=B9g hne;clear hplz hne;clear htp huq hpo hr0 hsv hFl hFz hP0 hGR hPL hGM hun hX hys h h2 hrl hy hn hs1 hs htope;refine(callsIn_wide (n:=0)).1 (callsIn_of_wp_marks Tryz.func49 rfl trivial (wpIn_wide.2 ?_) rfl);simp only[Tryz.ntmps49,List.size_toArray,List.length_cons,List.length_nil,Nat.reduceAdd,Nat.reduceSub,Array.replicate_succ,Array.replicate_zero,List.push_toArray,List.append_toArray,List.nil_append,List.cons_append];refine en0 ?_;intro u hG hB hF;refine B9b (rsC N1 [0,0,1,0,0,0,2] hB hG fun K L hN hL=>?_);refine gs ?_;refine gmd (C:=fun v ⟨hgu,hB,hG,_⟩=>Htp.out _ hG (HT.grow hG)) ?_;refine gs ?_;refine gaa (J5 _ _ _ _ _) fun b6 hb6 hn6=>?_;replace hF:=hF.n1 [] hB hG hb6 hn6;refine geC hL ?_;clear hB hG hL L;rintro u ⟨⟨-,hB,hG,-⟩,h6⟩;replace hB:=hB.cons' h6;clear h6;clear hb6 hn6;refine gtT ?_;clear hN K;refine st hB hF hG 0 0 [_,_,_,_,_] ?_;clear hB hG;intro u hB hG;refine B9b ?_;refine r0T ?_;refine B9h (rfl) ?_;refine B9i ?_;refine A6 ?_;refine B9b ?_;refine B9b (rsE N1 [0,1,0] hB hG fun L hL=>?_);refine gs ?_;refine gmd (C:=fun v ⟨hgu,hB,hG,_⟩=>Huq.out _ hG (HT.grow hG)) ?_;refine gs ?_;refine geT hL ?_;clear hB hG hL L;rintro u ⟨-,hB,hG,-⟩;refine r0T ?_;refine B9h (rfl) ?_;refine B9i ?_;refine A6 ?_;refine B9b ?_
 skip
 refine rsC N1 [0,0,1,2] hB hG fun K L hN hL=>?_;refine gs ?_;refine gxd (X:=(Nat×(Nat→Nat)×(Nat→Nat))×Nat) (fun x:(Nat×(Nat→Nat)×(Nat→Nat))×Nat=>.agg #[.slice (some ⟨x.1.1,0,none⟩) Lw Lw,.slice (some ⟨x.2,0,none⟩) Lw Lw]) (fun x W'=>MatW w.heap.size Lw Lw x.1.1 Lw x.1.2.1 x.1.2.2 GM W'∧W'.ownsRow w.heap.size 48 5 (.slice (some ⟨x.2,0,none⟩) Lw Lw) Lw (PL.flatMap qL)) (fun x u u' hg h=>⟨h.1.grow hg,B9 h.2 hg⟩) (fun x35=>?_) (C:=by(rintro v ⟨hgu,hB,hG,-⟩;exact Hpo.out _ hG (HT.grow hG)));refine gaa (A4X _ _ _ _ _) fun b9 hb9 hn9=>?_;replace hF:=hF.n1 [] hB hG hb9 hn9;refine geC hL ?_;clear hB hG hL L;rintro u ⟨⟨⟨hgu,hB,hG,-⟩,hx35⟩,h9⟩;replace hB:=hB.cons' h9;clear h9;obtain⟨⟨bg,gg,cg⟩,bp⟩:=x35;obtain⟨hm,hp⟩:MatW w.heap.size Lw Lw bg Lw gg cg GM u∧u.ownsRow w.heap.size 48 5 (.slice (some ⟨bp,0,none⟩) Lw Lw) Lw (PL.flatMap qL):=hx35;have Hm:=B9g hm;have Hp:=B9g hp;clear hm hp;clear hb9 hn9;clear hgu;refine gtT ?_;clear hN K;have hbk:=hB.head;refine sv hB hF hG 0 0 [_,_] ?_;intro u hu hBG;have hm:=Hm.out.over ⟨fun e=>E5 Hm.out.hd hbk (by decide) (C0r some e.symm),fun i hi e=>E5 (Hm.out.row i hi) hbk (by decide) (C0r some e.symm)⟩ hu;have hp2:=H7 Hp.out (E5 Hp.out hbk (by decide)) hu;clear hB hG hu Hm Hp hbk;obtain⟨hB,hG⟩:=hBG;have Hm:=B9g hm;have Hp:=B9g hp2;obtain⟨U0,hU0⟩:=exQ u.heap.size;have HU6:=B9g (show b6<U0 from hU0 ▸ hB.tail.head.lt);have HU:=B9g (show(bg<U0∧bp<U0∧∀i,i<Lw→gg i<U0)∧w.heap.size≤U0 from hU0 ▸ ⟨⟨hm.b0lt.2,(hp2.lt bp rfl).2,fun i hi=>(hm.glt hi).2⟩,hG.size⟩);clear hm hp2;refine B9b (rsC N1 [0,0,1,2] hB hG fun K L hN hL=>?_)
 repeat first|refine gya ?_|refine gyr ?_|refine gna ?_|refine gyb (by(rintro v ⟨hgu,hB,hG,-⟩ N hN;have r:=hB.r;simp only[BxR]at r;(first|have q0:=Hr0.out v hG|skip);go_simp;exact hN)) ?_
 refine gx Nat (fun b=>.slice (some ⟨b,0,none⟩) 2 2) (fun b W=>Blk W b 48 #[.bool false,.int .u64 0,.string ⟨#[]⟩,.int .u64 0,.string ⟨#[]⟩,.bool (D6 top.num),.int .u64 (B8 top.num.natAbs),.string (B6 top.num.natAbs),.int .u64 (B8 (G9 top.den)),.string (B6 (G9 top.den))]∧U0≤b) (fun b u u' hg h=>⟨h.1.grow hg,h.2⟩) rfl ?_ (fun x38=>?_)
 ·(rintro v ⟨hgu,hB,hG,-⟩ N hN;go_simp;exact hN v.heap.size _ (⟨Blk.new v 48 #[.bool false,.int .u64 0,.string ⟨#[]⟩,.int .u64 0,.string ⟨#[]⟩,.bool (D6 top.num),.int .u64 (B8 top.num.natAbs),.string (B6 top.num.natAbs),.int .u64 (B8 (G9 top.den)),.string (B6 (G9 top.den))],by have:=hgu.size;omega⟩) (A4.alloc _ _))
 refine okf (by simp only[Act.put,List.setIfInBounds_toArray,List.set_cons_succ,List.set_cons_zero];exact rfl) ?_;refine gaa (A8U _ _ _ _ _) fun b10 hb10 hn10=>?_;replace hF:=hF.n1 [] hB hG hb10 hn10;refine geC hL ?_;clear hB hG hL L;rintro u ⟨⟨⟨hgu,hB,hG,-⟩,hx38⟩,h10⟩;replace hB:=hB.cons' h10;clear h10;have Hm2:=B9g (Hm.out.grow hgu);have Hp2:=B9g (B9 Hp.out hgu);have h10:U0≤b10:=by omega
 obtain⟨hx38a,hx38b⟩:=hx38;have Hpl:=B9g (B5j (B:=w.heap.size) (LM:=LM) hx38a (by have:=HU.out.2;omega));clear Hm Hp hU0 hx38a;have Hm:=Hm2;have Hp:=Hp2;clear Hm2 Hp2;clear hb10 hn10;clear hgu;refine gtT ?_;clear hN K;have hbk:=hB.head;refine sv hB hF hG 0 0 [_] ?_;intro u hu hBG;have hm:=Hm.out.over ⟨fun e=>by have:=HU.out.1.1;omega,fun i hi e=>E5 (Hm.out.row i hi) hbk (by decide) (C0r some e.symm)⟩ hu;have hp2:=H7 Hp.out (E5 Hp.out hbk (by decide)) hu;have hpl2:=H7 Hpl.out (E5 Hpl.out hbk (by decide)) hu;clear hB hG hu Hm Hp Hpl hbk;obtain⟨hB,hG⟩:=hBG;have Hm:=B9g hm;have Hp:=B9g hp2;have Hpl:=B9g hpl2;clear hm hp2 hpl2;refine B9b (rsE N1 [2] hB hG fun L hL=>?_);refine gaa (B0b _ _ _ _ _) fun b11 hb11 hn11=>?_;replace hF:=hF.n1 [] hB hG hb11 hn11;refine geT hL ?_;clear hB hG hL L;rintro u ⟨⟨hgu,hB,hG,-⟩,h11⟩;replace hB:=hB.cons' h11;clear h11;have Hm2:=B9g (Hm.out.grow hgu);have Hp2:=B9g (B9 Hp.out hgu);have Hpl2:=B9g (B9 Hpl.out hgu);clear Hm Hp Hpl;have Hm:=Hm2;have Hp:=Hp2;have Hpl:=Hpl2;clear Hm2 Hp2 Hpl2;clear hb11 hn11;clear hgu;refine B9b ?_;refine B9b (rsE N1 [0,0,0,0,1] hB hG fun L hL=>?_)
 repeat first|refine gya ?_|refine gyr ?_|refine gna ?_|refine gyb (by(rintro v ⟨hgu,hB,hG,-⟩ N hN;have r:=hB.r;simp only[BxR]at r;(first|have q0:=Hr0.out v hG|skip);go_simp;exact hN)) ?_
 refine gxd (X:=Nat) (fun b:Nat=>.func (.func 127) #[] #[.pointer (some ⟨b,0,none⟩)]) (fun b W=>Blk W b 3 #[.int .i64 (Lw:Nat)]) (fun b u u' hg h=>h.grow hg) (fun x43=>?_) (C:=fun v _=>A7y Lw _);refine geT hL ?_;clear hB hG hL L;rintro u ⟨⟨hgu,hB,hG,-⟩,hx43⟩;have Hm2:=B9g (Hm.out.grow hgu);have Hp2:=B9g (B9 Hp.out hgu);have Hpl2:=B9g (B9 Hpl.out hgu);clear Hm Hp Hpl;have Hm:=Hm2;have Hp:=Hp2;have Hpl:=Hpl2;clear Hm2 Hp2 Hpl2;have hbk:=hx43;clear hx43;clear hgu;refine B99 ?_;refine(wpIn_wide (n:=0)).1 ?_;obtain⟨wE,hwE⟩:=exQ u;rw[←hwE]at hB hG hbk Hm Hp Hpl⊢;clear hwE
 have hPJ:PJ w.heap.size wE.heap.size Lw F B LM bg bp gg cg GM PL (I4 LM top 0) (.slice (some ⟨x38,0,none⟩) 2 2) (.slice none 0 0) [] wE :=
  ⟨Hpl.out,C1B _ _ _ _,fun p hp=>absurd hp List.not_mem_nil,Hm.out,Hp.out,fun i hi=>⟨fun e=>by have:=HU.out.1.2.2 i hi;have e2:x38=gg i:=B9M e;omega,(Hm.out.glt hi).2⟩,⟨fun e=>by have:=HU.out.1.2.1;have e2:x38=bp:=B9M e;omega,(Hp.out.lt bp rfl).2⟩,Hm.out.b0lt.2,fun b hb=>.inl ((Hpl.out.lt b hb).2),fun b hb=>by cases hb⟩
 obtain⟨J,hJe⟩:∃J:Nat→World→Prop,J=fun i W=>∃(vpl vpc:Value) (ps:List Pd),PJ w.heap.size wE.heap.size Lw F B LM bg bp gg cg GM PL (I4 LM top i) vpl vpc ps W∧ps.map pdP=P6 LM top i∧Bx W [(b11,163,#[vpc]),(b10,35,#[vpl]),(b9,108,#[.slice (some ⟨bg,0,none⟩) Lw Lw,.slice (some ⟨bp,0,none⟩) Lw Lw]),(b6,48,S6 top)]∧A4 w W∧vpl.ownBlock≠some b6:=⟨_,rfl⟩
 have hJ0:J 0 wE:=by rw[hJe];exact⟨_,_,[],hPJ,rfl,hB,hG,fun e=>by have:=HU6.out;have e2:x38=b6:=B9M e;omega⟩
 have hlt:b11<wE.heap.size∧b10<wE.heap.size∧b9<wE.heap.size∧b6<wE.heap.size:=⟨hB.head.lt,hB.tail.head.lt,hB.tail.tail.head.lt,hB.tail.tail.tail.head.lt⟩
 have hws:w.heap.size≤wE.heap.size:=hG.size;have hJp:∀i W o b,b=wE.heap.size∨b=wE.heap.size+1→J i W→J i (W.putObj b o):=fun i W o b hb h=>by
  rw[hJe]at h⊢;obtain⟨vpl,vpc,ps,h1,h2,h3,h4,h5⟩:=h;refine⟨vpl,vpc,ps,h1.putObj hb,h2,fun e he=>?_,A2U h4 (by omega),h5⟩;have h9:=h3 e he;simp only[List.mem_cons,List.not_mem_nil,or_false]at he;obtain⟨g1,g2,g3,g4⟩:=hlt;rcases he with rfl|rfl|rfl|rfl<;>exact A19 h9 (by simp only;omega)
 have hJg:∀i u v,A4 u v→J i u→J i v:=fun i u v hg h=>by
  rw[hJe]at h⊢;obtain⟨vpl,vpc,ps,h1,h2,h3,h4,h5⟩:=h;exact⟨vpl,vpc,ps,h1.grow hg,h2,h3.grow hg,h4.trans hg,h5⟩
 have HJe:=B9g hJe;clear hPJ hJe;refine B2N 12 (gf:=127) (lb:=#[.pointer (some ⟨x43,0,none⟩)]) rfl (enters_of Tryz.func127 (by kernel_rfl) rfl) (3^Lw) (A35 (wE.heap.size+2) Lw) J (fun l Rd Rx W h1 h2 h3 h4 h5 h6=>B1i Lw x43 (by omega) wE hbk l Rd Rx W h1 h2 h3 h4 h5 h6) ?hC hJp hJg hJ0 ?assign ?body ?done
 case assign =>
  intro l v W K hK;simp only[List.setIfInBounds_toArray,List.set_cons_zero,List.set_cons_succ]at hK;gi_wp2;exact hK
 case hC =>
  rintro i v W o ⟨b,rfl,hb,hk⟩;exact⟨b,rfl,hb,A19 hk (by omega)⟩
 case body =>
  intro l i v W hi hJ hgW hsz hsg;simp only[List.setIfInBounds_toArray,List.set_cons_zero,List.set_cons_succ];rw[HJe.out]at hJ;obtain⟨vpl,vpc,ps,hPJ,hps,hB,hG,hv6⟩:=hJ;obtain⟨bs,rfl,hbs,hsb⟩:=hsg;obtain⟨F1,F2,F3⟩:=HFl.out i hi;obtain⟨Z1,Z2,Z3⟩:=HFz.out i hi;have hslv:∀W',A4 W W'→Tab W'→Calls Tryz.prog 61 #[.agg #[.slice (some ⟨bg,0,none⟩) Lw Lw,.slice (some ⟨bp,0,none⟩) Lw Lw],.slice (some ⟨bs,0,none⟩) Lw Lw] W' (G1 (fun z:Ax×Ax×Ax=>.agg #[.slice z.1.1 Lw z.1.2,.slice z.2.1.1 Lw z.2.1.2,.slice z.2.2.1 (LM i).length z.2.2.2]) (fun z V=>V.ownsRow W.heap.size 48 5 (.slice z.1.1 Lw z.1.2) Lw ((F i).flatMap qL)∧V.ownsRow W.heap.size 48 5 (.slice z.2.1.1 Lw z.2.1.2) Lw ((B i).flatMap qL)∧V.ownsRow W.heap.size 183 10 (.slice z.2.2.1 (LM i).length z.2.2.2) (LM i).length ((LM i).flatMap lmL)) W'):=fun W' hg hT=>by
   have hr2:=(hPJ.grow hg).gm.lrq;obtain⟨A9,c9,e9,-,-,hp,-⟩:=K9 (hPJ.grow hg).gp;cases e9;exact(Hsv.out i hi bg bp bs _ W' (by rw[hGR2.out,List.map_map];rfl) hr2 hp (hsb.grow hg) hT).mono fun e V ⟨z,g1,⟨g2,g3,g4⟩,g5⟩=>⟨z,g1,⟨g2.mono hg.size,g3.mono hg.size,g4.mono hg.size⟩,g5⟩
  have Hslv:=B9g hslv;have Hbd:=B9g (fun(b0:Nat) (FV BV:Value) (A3:Ax) (u:World) (hg:A4 w u) (hb00:w.heap.size≤b0) (hb:Blk u b0 165 #[FV,BV,.slice A3.1 (LM i).length A3.2,.bool false,.int .u64 0,.string ⟨#[]⟩,.int .u64 0,.string ⟨#[]⟩,.bool false,.int .u64 0,.string ⟨#[]⟩,.int .u64 0,.string ⟨#[]⟩]) (h:Le lmL 10 u A3.1 (LM i)) (hne:∀a,A3.1=some a→a.block≠b0)=>B6m b0 FV BV A3 (LM i).length (LM i) top _ _ _ _ _ _ _ _ _ _ rfl F3 z S Z3 hS1 hS2 htop (by omega) w u hg HT hb00 hb h hne)
  have hpc:A1L LM top i=match K7 (LM i) 0 top with
   | some (lo,hi)=>[(i,lo,hi)]
   | none=>[]:=rfl
  obtain⟨R,hR⟩:∃R,R=K7 (LM i) 0 top:=⟨_,rfl⟩
  rw[←hR]at Hbd hpc;obtain⟨m,hm⟩:∃m,m=(LM i).length:=⟨_,rfl⟩
  rw[←hm]at Hslv Hbd;obtain⟨Fi,hFi⟩:∃x,x=F i:=⟨_,rfl⟩
  obtain⟨Bi,hBi⟩:∃x,x=B i:=⟨_,rfl⟩
  rw[←hFi,←hBi]at Hslv;have HQ:=B9g (And.intro hFi (And.intro hBi hm));have Hps:=B9g hps;have Hpc:=B9g hpc;have HPJ:=B9g hPJ;have HsW:=B9g hsz;have hpsl:ps.length≤1000∧(I4 LM top i).length≤2000:=by
   have h1:ps.length=(P6 LM top i).length:=by rw[←hps,List.length_map]
   have h2:=A42 LM top i;have h3:=A6R LM top i;have h4:3^Lw≤3^6:=B9n (by omega) hL2;omega
  have Hpsl:=B9g hpsl;have HgW:=B9g hgW;clear hpsl F1 F2 F3 Z1 Z2 Z3 hslv hm hFi hBi hsb hpc hps hPJ hR hgW;refine A7W fun u hg0=>?_;replace hB:=hB.grow hg0;replace hG:=hG.trans hg0;cases R
  ·skip
   refine wpIn_block ?_;refine wpIn_seq (A3C N1 [0,0,1,0,2] hB hG fun K L hN hL=>?_)
   repeat first|refine gya ?_|refine gyr ?_|refine gna ?_|refine gyb (by(rintro v ⟨hgu,hB,hG,-⟩ N hN;have r:=hB.r;simp only[BxR]at r;(first|have q0:=Hr0.out v hG|skip);go_simp;exact hN)) ?_
   refine gxd (X:=Ax×Ax×Ax) (fun z:Ax×Ax×Ax=>.agg #[.slice z.1.1 Lw z.1.2,.slice z.2.1.1 Lw z.2.1.2,.slice z.2.2.1 m z.2.2.2]) (fun z V=>V.ownsRow W.heap.size 48 5 (.slice z.1.1 Lw z.1.2) Lw (Fi.flatMap qL)∧V.ownsRow W.heap.size 48 5 (.slice z.2.1.1 Lw z.2.1.2) Lw (Bi.flatMap qL)∧V.ownsRow W.heap.size 183 10 (.slice z.2.2.1 m z.2.2.2) m ((LM i).flatMap lmL)) (fun x u u' hg h=>⟨B9 h.1 hg,B9 h.2.1 hg,B9 h.2.2 hg⟩) (fun x47=>?_) (C:=by(rintro v ⟨hgu,hB,hG,-⟩;exact Hslv.out _ (hg0.trans hgu) (HT.grow hG)));refine gs ?_;refine gaa (A23 _ _ _ _ _) fun b13 hb13 hn13=>?_;replace hF:=hF.n1 [] hB hG hb13 hn13;refine geC hL ?_;clear hB hG hL L;rintro u ⟨⟨⟨hgu,hB,hG,-⟩,hx47⟩,h13⟩;replace hB:=hB.cons' h13;clear h13;obtain⟨⟨f1,f2⟩,⟨o1,o2⟩,⟨m1,m2⟩⟩:=x47;obtain⟨X1,X2,X3⟩:u.ownsRow W.heap.size 48 5 (.slice f1 Lw f2) Lw (Fi.flatMap qL)∧u.ownsRow W.heap.size 48 5 (.slice o1 Lw o2) Lw (Bi.flatMap qL)∧u.ownsRow W.heap.size 183 10 (.slice m1 m m2) m ((LM i).flatMap lmL):=hx47;have hw13:W.heap.size≤b13:=B9Y hg0.size hb13;replace hg0:=hg0.trans hgu;clear hb13 hn13;clear hgu;refine gtT ?_;clear hN K;have hbk:=hB.head;refine sv hB hF hG 0 0 [_,_,_,_,_,_,_,_,_,_,_,_,_] ?_;intro u hu hBG;replace X1:=H7 X1 (E5 X1 hbk (by decide)) hu;replace X2:=H7 X2 (E5 X2 hbk (by decide)) hu;replace X3:=H7 X3 (E5 X3 hbk (by decide)) hu;replace hg0:=A02 hg0 hw13 hu;clear hB hG hu hbk;obtain⟨hB,hG⟩:=hBG;refine wpIn_seq ?_;refine wpIn_seq ?_;have hbk13:=hB.head;have hPJu:=HPJ.out.grow hg0;have hv13:vpc.ownBlock≠some b13:=fun e=>by have:=(HPJ.out.pc.lt b13 e).2;omega
   have hg13:b13≠bg:=fun e=>by have:=hPJu.ab;have:=HsW.out;omega
   have hww:w.heap.size≤b13:=hF.1 b13 (by simp);obtain⟨A7,c7,e7,Y1,-⟩:=A3D X1;cases e7;obtain⟨A7,c7,e7,Y2,-⟩:=A3D X2;cases e7;obtain⟨A7,c7,e7,-,Y3,-⟩:=A1S (enc:=lmL) (fun _=>rfl) (by decide) X3;cases e7;have hro:∀(A:Option Addr) (c:Nat) (l:List Rat),u.ownsRow W.heap.size 48 5 (.slice A Lw c) Lw (l.flatMap qL)→A1W wE.heap.size vpl A:=fun A c l h b off hA=>by
    have h1:=(h.lt b (by rw[hA];rfl)).1;have:=HsW.out;exact⟨fun e=>by have:=(HPJ.out.pl.lt b e).2;omega,.inr (by omega)⟩
   have R1:=hro _ _ _ X1;have R2:=hro _ _ _ X2;have hne13:∀a,m1=some a→a.block≠b13:=fun a ha e=>E5 X3 hbk13 (by decide) (by rw[ha,←e];rfl);have hbd:=Hbd.out b13 (.slice f1 Lw f2) (.slice o1 Lw o2) (m1,m2) u hG hww hbk13 Y3 hne13;simp only[Option.isSome_none,Option.isSome_some]at hbd;clear Y3 hne13 hro X1 X2 X3;refine A87 ?_;intro K hN;have r:=hB.r;simp only[BxR]at r;go_wp2_with (go_at_call 115;refine hbd.mono ?_;rintro e w5 ⟨lo,hi5,rfl,hlo,hbk5,hgb5⟩);clear r hbd;refine NoK.norm (hN _ _ ?_);clear hN K;have hB5:=B06 hB hF hgb5 hbk5;have hG5:A4 w w5:=hG.grown hgb5 (fun k hk=>by have:=B9M hk;omega);have hg5:A4 W w5:=hg0.grown hgb5 (fun k hk=>by have:=B9M hk;omega);have HP5:=B9g (hPJu.gby hbk13 (by decide) hv13 hg13 hgb5);have HR5:=B9g (And.intro (And.intro (Y1.gby hbk13 (by decide) hgb5) R1) (And.intro (Y2.gby hbk13 (by decide) hgb5) R2));clear hB hG hg0 hPJu Y1 Y2 R1 R2 hbk13 hbk5 hgb5;have hB:=hB5;have hG:=hG5;have hg0:=hg5;clear hB5 hG5 hg5;obtain⟨u,rfl⟩:=exQ w5;refine A6 ?_;refine wpIn_cond_true (rfl) ?_;refine wpIn_exit ?_;refine C0 ?_;refine E4 ?_;exact⟨KI.ofGrow hg0,by rw[HJe.out];exact⟨vpl,vpc,ps,by rw[A6n,Hpc.out];simpa using HP5.out,by rw[A27,Hpc.out,Hps.out];simp,hB.tail,hG,hv6⟩⟩
  ·skip
   refine wpIn_block ?_;refine wpIn_seq (A3C N1 [0,0,1,0,2] hB hG fun K L hN hL=>?_)
   repeat first|refine gya ?_|refine gyr ?_|refine gna ?_|refine gyb (by(rintro v ⟨hgu,hB,hG,-⟩ N hN;have r:=hB.r;simp only[BxR]at r;(first|have q0:=Hr0.out v hG|skip);go_simp;exact hN)) ?_
   refine gxd (X:=Ax×Ax×Ax) (fun z:Ax×Ax×Ax=>.agg #[.slice z.1.1 Lw z.1.2,.slice z.2.1.1 Lw z.2.1.2,.slice z.2.2.1 m z.2.2.2]) (fun z V=>V.ownsRow W.heap.size 48 5 (.slice z.1.1 Lw z.1.2) Lw (Fi.flatMap qL)∧V.ownsRow W.heap.size 48 5 (.slice z.2.1.1 Lw z.2.1.2) Lw (Bi.flatMap qL)∧V.ownsRow W.heap.size 183 10 (.slice z.2.2.1 m z.2.2.2) m ((LM i).flatMap lmL)) (fun x u u' hg h=>⟨B9 h.1 hg,B9 h.2.1 hg,B9 h.2.2 hg⟩) (fun x47=>?_) (C:=by(rintro v ⟨hgu,hB,hG,-⟩;exact Hslv.out _ (hg0.trans hgu) (HT.grow hG)));refine gs ?_;refine gaa (A23 _ _ _ _ _) fun b13 hb13 hn13=>?_;replace hF:=hF.n1 [] hB hG hb13 hn13;refine geC hL ?_;clear hB hG hL L;rintro u ⟨⟨⟨hgu,hB,hG,-⟩,hx47⟩,h13⟩;replace hB:=hB.cons' h13;clear h13;obtain⟨⟨f1,f2⟩,⟨o1,o2⟩,⟨m1,m2⟩⟩:=x47;obtain⟨X1,X2,X3⟩:u.ownsRow W.heap.size 48 5 (.slice f1 Lw f2) Lw (Fi.flatMap qL)∧u.ownsRow W.heap.size 48 5 (.slice o1 Lw o2) Lw (Bi.flatMap qL)∧u.ownsRow W.heap.size 183 10 (.slice m1 m m2) m ((LM i).flatMap lmL):=hx47;have hw13:W.heap.size≤b13:=B9Y hg0.size hb13;replace hg0:=hg0.trans hgu;clear hb13 hn13;clear hgu;refine gtT ?_;clear hN K;have hbk:=hB.head;refine sv hB hF hG 0 0 [_,_,_,_,_,_,_,_,_,_,_,_,_] ?_;intro u hu hBG;replace X1:=H7 X1 (E5 X1 hbk (by decide)) hu;replace X2:=H7 X2 (E5 X2 hbk (by decide)) hu;replace X3:=H7 X3 (E5 X3 hbk (by decide)) hu;replace hg0:=A02 hg0 hw13 hu;clear hB hG hu hbk;obtain⟨hB,hG⟩:=hBG;refine wpIn_seq ?_;refine wpIn_seq ?_;have hbk13:=hB.head;have hPJu:=HPJ.out.grow hg0;have hv13:vpc.ownBlock≠some b13:=fun e=>by have:=(HPJ.out.pc.lt b13 e).2;omega
   have hg13:b13≠bg:=fun e=>by have:=hPJu.ab;have:=HsW.out;omega
   have hww:w.heap.size≤b13:=hF.1 b13 (by simp);obtain⟨A7,c7,e7,Y1,-⟩:=A3D X1;cases e7;obtain⟨A7,c7,e7,Y2,-⟩:=A3D X2;cases e7;obtain⟨A7,c7,e7,-,Y3,-⟩:=A1S (enc:=lmL) (fun _=>rfl) (by decide) X3;cases e7;have hro:∀(A:Option Addr) (c:Nat) (l:List Rat),u.ownsRow W.heap.size 48 5 (.slice A Lw c) Lw (l.flatMap qL)→A1W wE.heap.size vpl A:=fun A c l h b off hA=>by
    have h1:=(h.lt b (by rw[hA];rfl)).1;have:=HsW.out;exact⟨fun e=>by have:=(HPJ.out.pl.lt b e).2;omega,.inr (by omega)⟩
   have R1:=hro _ _ _ X1;have R2:=hro _ _ _ X2;have hne13:∀a,m1=some a→a.block≠b13:=fun a ha e=>E5 X3 hbk13 (by decide) (by rw[ha,←e];rfl);have hbd:=Hbd.out b13 (.slice f1 Lw f2) (.slice o1 Lw o2) (m1,m2) u hG hww hbk13 Y3 hne13;simp only[Option.isSome_none,Option.isSome_some]at hbd;clear Y3 hne13 hro X1 X2 X3;refine A87 ?_;intro K hN;have r:=hB.r;simp only[BxR]at r;go_wp2_with (go_at_call 115;refine hbd.mono ?_;rintro e w5 ⟨lo,hi5,rfl,hlo,hbk5,hgb5⟩);clear r hbd;refine NoK.norm (hN _ _ ?_);clear hN K;have hB5:=B06 hB hF hgb5 hbk5;have hG5:A4 w w5:=hG.grown hgb5 (fun k hk=>by have:=B9M hk;omega);have hg5:A4 W w5:=hg0.grown hgb5 (fun k hk=>by have:=B9M hk;omega);have HP5:=B9g (hPJu.gby hbk13 (by decide) hv13 hg13 hgb5);have HR5:=B9g (And.intro (And.intro (Y1.gby hbk13 (by decide) hgb5) R1) (And.intro (Y2.gby hbk13 (by decide) hgb5) R2));clear hB hG hg0 hPJu Y1 Y2 R1 R2 hbk13 hbk5 hgb5;have hB:=hB5;have hG:=hG5;have hg0:=hg5;clear hB5 hG5 hg5;obtain⟨u,rfl⟩:=exQ w5;refine A6 ?_;refine wpIn_cond_false (rfl) ?_;refine wpIn_skip ?_;refine A6 ?_;refine wpIn_seq ?_;refine A4B (w:=w) N1 3 [0,0,1] (by kernel_rfl) (by simp only[List.drop_succ_cons,List.drop_zero];exact rfl) hB hG ?_;intro K L hN hL;simp only[List.zip_cons_cons,List.zip_nil_left]
   repeat first|refine gya ?_|refine gyr ?_|refine gna ?_|refine gyb (by(rintro v ⟨hgu,hB,hG,-⟩ N hN;have r:=hB.r;simp only[BxR]at r;(first|have q0:=Hr0.out v hG|skip);go_simp;exact hN)) ?_
   refine gx Nat (fun b=>.slice (some ⟨b,0,none⟩) 1 1) (fun b W=>Blk W b 165 (pcY (.slice f1 Lw f2) (.slice o1 Lw o2) (.slice m1 m m2) lo hi5).toArray) (fun b u u' hg h=>h.grow hg) rfl ?_ (fun x54=>?_)
   ·(rintro v ⟨hgu,hB,hG,-⟩ N hN;go_simp;exact hN v.heap.size _ (Blk.new v 165 (pcY (.slice f1 Lw f2) (.slice o1 Lw o2) (.slice m1 m m2) lo hi5).toArray) (A4.alloc _ _))
   refine okf (by simp only[Act.put,List.setIfInBounds_toArray,List.set_cons_succ,List.set_cons_zero];exact rfl) ?_;refine H6 ?_;rintro v ⟨⟨hgu,hB1,hG1,-⟩,hx54⟩;have HP6:=B9g (HP5.out.grow hgu);have HR6:=B9g (And.intro (And.intro (HR5.out.1.1.grow hgu) HR5.out.1.2) (And.intro (HR5.out.2.1.grow hgu) HR5.out.2.2));have hki:=KI.ofGrow (hg0.trans hgu);clear HP5 HR5 hg0;clear hB hG;have hB:=hB1;have hG:=hG1;clear hB1 hG1;refine hL _ _ ?_;clear hL L hgu;obtain⟨u,rfl⟩:=exQ v;have r:=hB.r;simp only[BxR]at r;clear r;refine A7Z B6S w.heap.size vpc ps.length (ps.flatMap (pdL Lw LM)) x54 (pcY (.slice f1 Lw f2) (.slice o1 Lw o2) (.slice m1 m m2) lo hi5) rfl rfl hx54 rfl rfl HP6.out.pc (by have:=Hpsl.out;omega) (by have:=Hpsl.out;omega) hG.sz fun v' w' g1 g2 g3=>?_;obtain⟨gl,cl,rfl,-,-⟩:=X9 g1 (by omega);have HP7:=B9g (HP6.out.addPc (p:=⟨i,(f1,f2),(o1,o2),(m1,m2),lo,hi5⟩) (by unfold pdL;rw[←HQ.out.2.2];exact g1) g2 g3 (B9Y HsW.out hki.size) (by rw[←HQ.out.1,←HQ.out.2.1];exact HR6.out));have hki2:=hki.trans (KI.own HP6.out.pc (by rfl) g2)
   have hB2:=hB.grown_ g2 (fun x hx hxe=>by
    have hbx:=hB x hx;simp only[List.mem_cons,List.not_mem_nil,or_false]at hx;rcases hx with rfl|rfl|rfl|rfl|rfl
    ·exact hv13 hxe.symm
    all_goals exact E5 HP6.out.pc hbx (by simp) hxe.symm)
   have hG2:=N7 HP6.out.pc hG g2;clear HP6 HR6 hki hB hG g1 g2 g3 hx54;have hB:=hB2;have hG:=hG2;clear hB2 hG2;have HPc:=HP7;have r:=hB.r;simp only[BxR]at r;simp only[Act.put,List.setIfInBounds_toArray,List.set_cons_succ,List.set_cons_zero];go_wp2_with fail;generalize hu0:World.setCell w' _ _=u0;have hki3:=hki2.trans (KI.box (i:=0) (vs:=[_]) hB.tail.head (by rfl) hu0);have HP8:=B9g (HP7.out.over (j:=0) (vs:=[_]) hB.tail.head (by decide) (E5 HP7.out.pc hB.tail.head (by decide)) (fun e=>E5 HP7.out.gm.hd hB.tail.head (by decide) (C0r some e.symm)) hu0);have hBG:=U8 hB hF hG 1 rfl 0 [_] hu0;obtain⟨hBz,hGz⟩:=hBG;have hB:=hBz;have hG:=hGz;obtain⟨u,rfl⟩:=exQ u0;clear r
   skip
   refine NoK.norm (hN _ _ ?_);clear hN K;refine A6 ?_;refine A4B (w:=w) N1 6 [0,0,0,0,0,1] (by kernel_rfl) (by simp only[List.drop_succ_cons,List.drop_zero];exact rfl) hB hG ?_;intro K L hN hL;simp only[List.zip_cons_cons,List.zip_nil_left]
   repeat first|refine gya ?_|refine gyr ?_|refine gna ?_|refine gyb (by(rintro v ⟨hgu,hB,hG,-⟩ N hN;have r:=hB.r;simp only[BxR]at r;(first|have q0:=Hr0.out v hG|skip);go_simp;exact hN)) ?_
   refine gx Nat (fun b=>.slice (some ⟨b,0,none⟩) 2 2) (fun b W=>Blk W b 48 (qL lo++qL hi5).toArray) (fun b u u' hg h=>h.grow hg) rfl ?_ (fun x61=>?_)
   ·(rintro v ⟨hgu,hB,hG,-⟩ N hN;go_simp;exact hN v.heap.size _ (Blk.new v 48 (qL lo++qL hi5).toArray) (A4.alloc _ _))
   refine okf (by simp only[Act.put,List.setIfInBounds_toArray,List.set_cons_succ,List.set_cons_zero];exact rfl) ?_;refine H6 ?_;rintro v ⟨⟨hgu,hB1,hG1,-⟩,hx61⟩;have HP9:=B9g (HP8.out.grow hgu);have hki4:=hki3.trans (KI.ofGrow hgu);clear HP8 hki3;clear hB hG;have hB:=hB1;have hG:=hG1;clear hB1 hG1;refine hL _ _ ?_;clear hL L hgu;obtain⟨u,rfl⟩:=exQ v;have r:=hB.r;simp only[BxR]at r;clear r;refine A8H A2i w.heap.size vpl (I4 LM top i).length ((I4 LM top i).flatMap qL) x61 2 (qL lo++qL hi5) rfl rfl hx61 rfl rfl HP9.out.pl (by have:=Hpsl.out;omega) (by have:=Hpsl.out;omega) hG.sz fun v' w' g1 g2 g3=>?_;obtain⟨gl2,cl2,rfl,-,-⟩:=X9 g1 (by omega);have HP10:=B9g (HP9.out.addPl (more:=[lo,hi5]) (by simpa using g1) g2 g3 (B9Y HsW.out hki4.size));have hki5:=hki4.trans (KI.own HP9.out.pl (by rfl) g2);have hb6u:=hB.tail.tail.tail.tail.head.lt
   have Hv6:=B9g (show(Value.slice (some ⟨gl2,0,none⟩) ((I4 LM top i).length+2) cl2).ownBlock≠some b6 from fun e=>by
    rcases g3 with g3|g3
    ·exact hv6 (g3 ▸ e)
    ·rw[g3]at e;have:=B9M e
     omega)
   have hB2:=hB.grown_ g2 (fun x hx hxe=>by
    have hbx:=hB x hx;simp only[List.mem_cons,List.not_mem_nil,or_false]at hx;rcases hx with rfl|rfl|rfl|rfl|rfl
    ·exact E5 HP9.out.pl hbx (by simp) hxe.symm
    ·exact E5 HP9.out.pl hbx (by simp) hxe.symm
    ·exact E5 HP9.out.pl hbx (by simp) hxe.symm
    ·exact E5 HP9.out.pl hbx (by simp) hxe.symm
    ·exact hv6 hxe.symm)
   have hG2:=N7 HP9.out.pl hG g2;clear HP9 hki4 hB hG g1 g2 g3 hx61 hb6u;have hB:=hB2;have hG:=hG2;clear hB2 hG2;have r:=hB.r;simp only[BxR]at r;simp only[Act.put,List.setIfInBounds_toArray,List.set_cons_succ,List.set_cons_zero];go_wp2_with fail;generalize hu0:World.setCell w' _ _=u0;have hki6:=hki5.trans (KI.box (i:=0) (vs:=[_]) hB.tail.tail.head (by rfl) hu0);have HP11:=B9g (HP10.out.over (j:=0) (vs:=[_]) hB.tail.tail.head (by decide) (E5 HP10.out.pc hB.tail.tail.head (by decide)) (fun e=>by have:=HU.out.1.1;omega) hu0);have hBG:=U8 hB hF hG 2 rfl 0 [_] hu0;obtain⟨hBz,hGz⟩:=hBG;have hB:=hBz;have hG:=hGz;obtain⟨u,rfl⟩:=exQ u0;clear r
   skip
   refine NoK.norm (hN _ _ ?_);clear hN K;refine C8 ?_;have hpc2:=Hpc.out;rw[hlo _ rfl]at hpc2;simp only at hpc2;exact⟨hki6,by rw[HJe.out];exact⟨.slice (some ⟨gl2,0,none⟩) ((I4 LM top i).length+2) cl2,.slice (some ⟨gl,0,none⟩) (ps.length+1) cl,ps++[⟨i,(f1,f2),(o1,o2),(m1,m2),lo,hi5⟩],by rw[A6n,hpc2];simpa using HP11.out,by rw[A27,List.map_append,Hps.out,hpc2];rfl,hB.tail,hG,Hv6.out⟩⟩
 case done =>
  intro W hgW hJ hK;rw[HJe.out]at hJ;obtain⟨vpl,vpc,ps,hPJ,hps,hB,hG,hv6⟩:=hJ;obtain⟨u,hu⟩:=exQ W;rw[←hu]at hB hG hPJ hK hgW⊢;clear hu;obtain⟨U,hU⟩:=exQ u.heap.size;have HPR:=B9g (hU ▸ hPJ.toPR hK:PR U w.heap.size wE.heap.size Lw F B LM vpc ps u);have Hplz2:=Hplz.out;obtain⟨PLS,hPLS⟩:∃x,x=I4 LM top (3^Lw):=⟨_,rfl⟩
  have hPLe:=B9g hPLS;rw[←hPLS]at hPJ Hplz2;have hln:2≤PLS.length∧PLS.length≤2000:=by
   rw[hPLS,A6R];have h2:=A42 LM top (3^Lw);have h3:3^Lw≤3^6:=B9n (by omega) hL2;omega
  obtain⟨A9,c9,e9,-,-,hlq,-⟩:=K9 hPJ.pl;subst e9;obtain⟨n0,hn0⟩:=exQ PLS.length;rw[←hn0]at hln hB;have hBq:S+qs 0+(S+qs 0)+1≤BIG:=by
   have:qs 0≤1:=by decide
   omega
  have hso:∀V,A4 u V→Calls Tryz.prog 116 #[.slice A9 n0 c9] V (G1 (fun x:Nat×Nat=>.slice (some ⟨x.1,0,none⟩) n0 x.2) (fun x V'=>V'.ownsRow U 48 5 (.slice (some ⟨x.1,0,none⟩) n0 x.2) n0 ((W9 PLS).flatMap qL)) V):=fun V hg =>
   (B6Z A9 PLS c9 n0 hn0 (by omega) (by omega) S Hplz2 hBq V (hlq.grow hg)).mono fun e V' ⟨g,c,e1,e2,e3⟩=>⟨(g,c),e1,e2.mono (by rw[hU];exact hg.size),e3⟩
  have hrl:(W9 PLS).length=n0:=by rw[(A29 PLS).length_eq,hn0]
  have hrz:∀i,i<n0→qs (gq (W9 PLS) i)≤S:=fun i hi=>Hplz2 _ ((A29 PLS).mem_iff.1 (A4b (by omega)));have HUw:=B9g (show w.heap.size≤U by rw[hU];exact hG.size);have hco:=fun(g c:Nat) (V:World) (hg:A4 w V) (ho:V.ownsRow U 48 5 (.slice (some ⟨g,0,none⟩) n0 c) n0 ((W9 PLS).flatMap qL))=>B4k (s:=S) (W9 PLS) hrl (by omega) (by omega) hrz (by omega) w V hg HUw.out ho;obtain⟨CL,hCL⟩:∃x,x=G7 (W9 PLS) n0:=⟨_,rfl⟩
  rw[←hCL]at hco;obtain⟨M,hM⟩:=exQ CL.length;rw[←hM]at hco;have hCz:∀x∈CL,qs x≤S:=fun x hx=>Hplz2 _ ((A29 PLS).mem_iff.1 (A9J.1 (by rw[hrl,←hCL];exact hx)));have hMn:M≤n0:=by rw[hM,hCL];exact A6s _ _
  have hre:=fun(g c:Nat) (V:World) (ho:V.ownsRow U 48 5 (.slice (some ⟨g,0,none⟩) M c) M (CL.flatMap qL))=>B7o (s:=S) CL hM (by omega) hCz V ho;obtain⟨PS,hPS⟩:=exQ CL.reverse;rw[←hPS]at hre;have HPS:=B9g (show PS.length=M∧PS=K4 (I4 LM top (3^Lw))∧M≤2000 from⟨by rw[hPS,C0C,hM],by rw[hPS,hCL,←hPLS];unfold K4;rw[hrl],by omega⟩);obtain⟨RS,hRS⟩:∃x,x=W9 PLS:=⟨_,rfl⟩
  rw[←hRS]at hso hco;have hlt:b11<U∧b10<U∧b9<U∧b6<U:=hU ▸ ⟨hB.head.lt,hB.tail.head.lt,hB.tail.tail.head.lt,hB.tail.tail.tail.head.lt⟩;have HUD:=B9g hws;have hg1:=A4.refl u;obtain⟨u1,hu1⟩:=exQ u;rw[←hu1]at hso;replace hg1:A4 u1 u:=hu1 ▸ hg1;have Hso:=B9g hso;have Hco:=B9g hco;have Hre:=B9g hre;have Hps:=B9g hps;have Hlt:=B9g hlt;clear hPJ hps hv6 hK hgW hU hPLS Hplz2 hln hn0 hBq hso hrl hrz hco hCL hM hCz hMn hre hPS hRS hlt hu1 hlq;refine C8 ?_;refine A6 ?_;refine B9b (rsC N1 [0,1] hB hG fun K L hN hL=>?_)
  repeat first|refine gya ?_|refine gyr ?_|refine gna ?_|refine gyb (by(rintro v ⟨hgu,hB,hG,-⟩ N hN;have r:=hB.r;simp only[BxR]at r;(first|have q0:=Hr0.out v hG|skip);go_simp;exact hN)) ?_
  refine gxd (X:=Nat×Nat) (fun x:Nat×Nat=>.slice (some ⟨x.1,0,none⟩) n0 x.2) (fun x V=>V.ownsRow U 48 5 (.slice (some ⟨x.1,0,none⟩) n0 x.2) n0 (RS.flatMap qL)) (fun x u u' hg h=>B9 h hg) (fun x64=>?_) (C:=by(rintro v ⟨hgu,hB,hG,-⟩;exact Hso.out _ (hg1.trans hgu)));refine geC hL ?_;clear hB hG hL L;rintro u ⟨⟨hgu,hB,hG,-⟩,hx64⟩;obtain⟨gso,cs⟩:=x64;have Ho:=B9g hx64;have HPR2:=B9g (HPR.out.grow hgu);clear hx64 HPR hg1;clear hgu;refine gtT ?_;clear hN K;have hbk:=hB.tail.head;refine sv hB hF hG 1 0 [_] ?_;intro u hu hBG;have HPR:=B9g (HPR2.out.over hbk (by decide) (by decide) hu);have Ho2:=B9g (H7 Ho.out (E5 Ho.out hbk (by decide)) hu);clear hB hG hu hbk Ho HPR2;obtain⟨hB,hG⟩:=hBG;have Ho:=Ho2;clear Ho2;refine B9b ?_;refine L8 ?_;intro K hN;have r:=hB.r;simp only[BxR]at r
  have Hgb:∀w5:World,u.grownBy w5 (some gso)→Bx w5 _:=fun w5 hg5=>hB.grown_ hg5 (fun x hx hxe=>by
   have e:=B9M hxe;have hgU:=(Ho.out.lt gso rfl).1;obtain⟨z1,z2,z3,z4⟩:=Hlt.out;simp only[List.mem_cons,List.not_mem_nil,or_false]at hx
   rcases hx with rfl|rfl|rfl|rfl<;>(simp only at e;omega))
  go_wp2_with (go_at_call 117;refine(Hco.out gso cs _ hG Ho.out).mono ?_;rintro e w5 ⟨rfl,ho5,hg5⟩;have hB5:=Hgb _ hg5;have r5:=hB5.r;simp only[BxR]at r5);clear r r5 Hgb;generalize hu0:World.setCell w5 _ _=u0;have hu1:C2 w5 b10 0 [_]=u0:=hu0;have hG5:A4 w w5:=hG.grown hg5 (fun k hk=>by have:=(Ho.out.lt k hk).1;have:=HUw.out;omega);have HPR5:=HPR.out.gq Ho.out (B9G _) hg5;have HPR6:=B9g (HPR5.over hB5.tail.head (by decide) (by decide) hu1);have Ho6:=B9g (H7 ho5 (E5 ho5 hB5.tail.head (by decide)) hu1);have hBG:=hB5.over hF hG5 1 rfl 0 [_] hu1;simp only[List.modify_succ_cons,List.modify_zero_cons,I2,List.setIfInBounds_toArray,List.set_cons_zero,List.set_cons_succ,Nat.zero_add,Nat.reduceAdd]at hBG;clear hB hB5 hG hG5 hg5 hu0 hu1 ho5 HPR HPR5 Ho;obtain⟨hB,hG⟩:=hBG;have HPR:=HPR6;have Ho:=Ho6;clear HPR6 Ho6;obtain⟨u,rfl⟩:=exQ u0;refine NoK.norm (hN _ _ ?_);clear hN K;refine A6 ?_;refine B9b ?_;refine L8 ?_;intro K hN;have r:=hB.r;simp only[BxR]at r;go_wp2_with (go_at_call 119;refine(Hre.out gso cs _ Ho.out).mono ?_;rintro e w5 ⟨rfl,ho5,hg5⟩);clear r
  have hB5:=hB.grown_ hg5 (fun x hx hxe=>by
   have e:=B9M hxe;have hgU:=(Ho.out.lt gso rfl).1;obtain⟨z1,z2,z3,z4⟩:=Hlt.out;simp only[List.mem_cons,List.not_mem_nil,or_false]at hx
   rcases hx with rfl|rfl|rfl|rfl<;>(simp only at e;omega))
  have hG5:A4 w w5:=hG.grown hg5 (fun k hk=>by have:=(Ho.out.lt k hk).1;have:=HUw.out;omega);have HPR5:=B9g (HPR.out.gq Ho.out (B9G _) hg5);have Ho5:=B9g ho5;clear hB hG hg5 ho5 HPR Ho;have hB:=hB5;have hG:=hG5;have HPR:=HPR5;have Ho:=Ho5;clear hB5 hG5 HPR5 Ho5;obtain⟨u,rfl⟩:=exQ w5;refine NoK.norm (hN _ _ ?_);clear hN K;refine A6 ?_;refine r0T ?_;refine B9b ?_;refine B9b ?_;have HBK:=B9g hB.head
  (first|have q0:=Hr0.out u hG|skip)
  refine r0N ?_;have HG0:=B9g hG;clear hB hF hG;obtain⟨w0,rfl⟩:=exQ w;obtain⟨w,hwu⟩:=exQ u;rw[←hwu]at HG0 HBK HPR Ho;have hB:=Bx.nil u;have hF:=Fr.nil w;have hG:A4 w u:=hwu ▸ A4.refl u;clear hwu;obtain⟨Apc,cpc,rfl,hpcr⟩:=HPR.out.read;have HTw:=B9g (HT.grow HG0.out);have hlqP:∃A c,(Value.slice (some ⟨gso,0,none⟩) M cs) = .slice A M c∧Lq w A PS:=by
   obtain⟨A9,c9,e9,-,-,h9,-⟩:=K9 Ho.out;exact⟨A9,c9,e9,h9⟩
  obtain⟨A9,c9,e9,hlqP⟩:=hlqP;cases e9;have Hpr:=B9g (fun i (hi:i<M) W (hg:A4 w W)=>(show Cq W gso (i*5) (gq PS i)by have h:=(hlqP.grow hg).read (i:=i) (by have:=HPS.out.1;omega);rw[Nat.zero_add]at h;exact h));obtain⟨np,hnp⟩:=exQ ps.length;rw[←hnp]at HBK;have H11:=B9g (fun W (hg:A4 w W)=>(show W.cell? ⟨b11,0,none⟩=some (.slice Apc np cpc)by rw[(HBK.out.grow hg).cell 0];rfl));obtain⟨PCs,hPCs⟩:∃x,x=P6 LM top (3^Lw):=⟨_,rfl⟩
  have hat:∀j,j<np→∃(b o:Nat) (p:Pd),Apc=some ⟨b,o,none⟩∧PCs[j]?=some (p.k,p.lo,p.hi)∧(qs p.lo≤S∧qs p.hi≤S)∧(∀W,A4 w W→C13 W b (o+j*13) Lw (LM p.k).length p)∧∀(a:Rat),qs a≤S→∀W,A4 w W→Tab W→Calls Tryz.prog 63 #[.agg #[.slice p.a1.1 Lw p.a1.2,.slice p.a2.1 Lw p.a2.2,.slice p.a3.1 (LM p.k).length p.a3.2],qV a] W (G1 (fun x:Ax=>.slice x.1 Lw x.2) (fun x V=>Lqt V x.1 (I5 (F p.k) (B p.k) Lw a)) W):=fun j hj=>by
   have hj':j<ps.length:=by omega
   obtain⟨b,o,e1,hc⟩:=hpcr j hj';have hmem:=B9U hj';have hpp:PCs[j]?=some (ps[j].k,ps[j].lo,ps[j].hi):=by
    rw[hPCs,←Hps.out,List.getElem?_map,B9w hj'];rfl
   obtain⟨hk3,hbt⟩:=A3b.1 (hPCs ▸ B9X hpp);have hk3:ps[j].k<3^Lw:=hk3;obtain⟨z1,z2,z3⟩:=HFz.out _ hk3;obtain⟨l1,l2,-⟩:=HFl.out _ hk3;obtain⟨⟨q1,-⟩,q2,-⟩:=HPR.out.rw _ hmem;have hin:∀x,(x=ps[j].lo∨x=ps[j].hi)→qs x≤S:=fun x hx=>Hplz.out x (List.mem_append.2 (.inr (List.mem_flatMap.2 ⟨_,hPCs ▸ B9X hpp,by rcases hx with e|e<;>simp[e]⟩)));refine⟨b,o,ps[j],e1,hpp,⟨hin _ (.inl rfl),hin _ (.inr rfl)⟩,fun W hg=>B7W fun t v hv=>hc W hg t v hv,fun a ha W hg hT=>?_⟩;refine(A9L ps[j].a1 ps[j].a2 ps[j].a3 Lw (LM ps[j].k).length (F ps[j].k) (B ps[j].k) a l1 l2 (by omega) S (fun i hi=>by have:=z1 i hi;omega) (fun i hi=>by have:=z2 i hi;omega) ha (by omega) W (q1.lq.grow hg) (q2.lq.grow hg) hT).mono ?_;rintro e V ⟨x,g1,⟨g2,-⟩,g3⟩;obtain⟨A7,c7,e7,g4,-⟩:=A3D g2;cases e7;exact⟨x,g1,g4,g3⟩
  have Hat:=B9g hat;have HPw:=B9g HPR.out.df;have Hnp:=B9g (show PCs.length=np by rw[hPCs,←Hps.out,List.length_map,hnp]);have hnp1:np≤1000:=by
   have h1:=Hnp.out;have h2:=A42 LM top (3^Lw);have h3:3^Lw≤3^6:=B9n (by omega) hL2;rw[hPCs]at h1;omega
  obtain⟨KA,hKA⟩:∃x,x=knA F B Lw PCs:=⟨_,rfl⟩
  have HKA:=B9g hKA;have HPC:=B9g hPCs;clear hat hpcr hlqP hPCs hnp hKA HPR Ho HBK;refine B99 ?_;clear hB hF;go_loopw [71,14] (fun s0 s1 wr=>∃(i:Nat) (ks:List Kq) (kv:Value),i≤M∧s0 = .int .i64 i∧kv=s1∧KnR w.heap.size kv ks wr∧ks.map F9=(PS.take i).flatMap KA∧ks.length≤i∧A4 w wr) (fun s0 _ _=>M-(intOf s0).toNat)
  case atStart=>exact⟨0,[],_,B9y _,rfl,rfl,KnR.start _ _,rfl,B9G _,hG⟩
  case round =>
   clear hG;obtain⟨i,ks,kv,hi,rfl,rfl,hK,hks,hkl,hG⟩:=hrel;obtain⟨u,rfl⟩:=exQ wr;have hB:=Bx.nil u;have hF:=Fr.nil w;have HK:=B9g hK;have Hks:=B9g hks;clear hK hks;have hM2:M≤2000:=HPS.out.2.2;rcases B9H i M with hlt|hge
   ·have hdec:decide ((i:Int)<(M:Int))=true:=by simp;omega
    have hin:(i:Int)<(M:Int):=by omega
    have hrd:=Hpr.out i hlt;have hts:=B6i (l:=PS) (f:=KA) (i:=i) (by have:=HPS.out.1;omega);have hgi:PS[i]'(by have:=HPS.out.1;omega)=gq PS i:=by unfold gq;rw[B9w (by have:=HPS.out.1;omega)];rfl
    rw[hgi]at hts;have haz:qs (gq PS i)≤S:=Hplz.out _ (A16.1 (HPS.out.2.1 ▸ A4b (by have:=HPS.out.1;omega)));obtain⟨a,ha⟩:∃x,x=gq PS i:=⟨_,rfl⟩
    rw[←ha]at hrd hts haz;have Hrd:=B9g hrd;have Hts:=B9g hts;clear hrd hts hgi ha;refine r0T ?_;refine B9b ?_;refine B9j (rfl) ?_;refine B9i ?_;refine A6 ?_;refine B9b ?_;refine B99 ?_;refine B9b (rsC N1 [0,0,2] hB hG fun K L hN hL=>?_)
    repeat first|refine gya ?_|refine gyr ?_|refine gna ?_|refine gyb (by(rintro v ⟨hgu,hB,hG,-⟩ N hN;have r:=hB.r;simp only[BxR]at r;obtain⟨y1,y2,y3,y4,y5⟩:=Hrd.out v hG;have q11:=H11.out _ hG;go_simp;exact hN)) ?_
    refine gaa (J5 _ _ _ _ _) fun b16 hb16 hn16=>?_;replace hF:=hF.n1 [] hB hG hb16 hn16;refine geC hL ?_;clear hB hG hL L;rintro u ⟨⟨hgu,hB,hG,-⟩,h16⟩;replace hB:=hB.cons' h16;clear h16;have hne16:=HK.out.lt hb16;have HK2:=B9g (HK.out.grow hgu);clear HK;clear hb16 hn16;clear hgu;refine gtT ?_;clear hN K;have hbk:=hB.head;refine sv hB hF hG 0 0 [_,_,_,_,_] ?_;intro u2 hu hBG;have HK:=B9g (HK2.out.over hbk (by decide) (.inr hne16) hu);clear hB hG HK2 hu hbk hne16;obtain⟨hB,hG⟩:=hBG;obtain⟨u,rfl⟩:=exQ u2;refine B9b ?_
    (first|have q11:=H11.out _ hG|skip)
    refine r0N ?_;refine B99 ?_;go_loopw [77,14] (fun s0 s1 wr=>∃(j:Nat),j≤np∧s0 = .int .i64 j∧kv=s1∧(∀(t:Nat) (q:Pc),t<j→PCs[t]?=some q→¬(q.2.1≤a∧a≤q.2.2))∧Bx wr [(b16,48,S6 a)]∧KnR w.heap.size kv ks wr∧A4 w wr) (fun s0 _ _=>np-(intOf s0).toNat)
    case atStart=>exact⟨0,B9y _,rfl,rfl,fun t q ht=>absurd ht (C1R _),hB,HK.out,hG⟩
    case round =>
     clear hB hG HK;obtain⟨j,hj,rfl,rfl,hno,hB,hK,hG⟩:=hrel;obtain⟨u,rfl⟩:=exQ wr;have HK:=B9g hK;have Hno:=B9g hno;clear hK hno;rcases B9H j np with hltj|hgej
     ·have hdecj:decide ((j:Int)<(np:Int))=true:=by simp;omega
      have hjn:(j:Int)<(np:Int):=by omega
      obtain⟨bpc,opc,⟨pk,⟨a1,c1⟩,⟨a2,c2⟩,⟨a3,c3⟩,lo,hi⟩,rfl,hpp,⟨hzl,hzh⟩,hrd,hwt⟩:=Hat.out j hltj;have hwt2:=hwt a haz
      try dsimp only at hpp
      try dsimp only at hzl
      try dsimp only at hzh
      try dsimp only at hrd
      try dsimp only at hwt2
      obtain⟨m3,hm3⟩:∃m,m=(LM pk).length:=⟨_,rfl⟩
      have hwl:(I5 (F pk) (B pk) Lw a).length=Lw:=by unfold I5;simp
      rw[←hm3]at hrd hwt2;obtain⟨WQ,hWQ⟩:∃x,x=I5 (F pk) (B pk) Lw a:=⟨_,rfl⟩
      rw[←hWQ]at hwl hwt2;have hc1:=fun(W:World)=>A1m lo a W (by omega);have hc2:=fun(W:World)=>A1m a hi W (by omega);have hp1:I3 lo a≤0↔lo≤a:=A7F;have hp2:I3 a hi≤0↔a≤hi:=A7F;obtain⟨P1,hP1⟩:∃x,x=I3 lo a:=⟨_,rfl⟩
      obtain⟨P2,hP2⟩:∃x,x=I3 a hi:=⟨_,rfl⟩
      rw[←hP1]at hp1;rw[←hP2]at hp2;simp only[←hP1]at hc1;simp only[←hP2]at hc2;have Hrd2:=B9g hrd;have Hwt:=B9g hwt2;have Hc1:=B9g hc1;have Hc2:=B9g hc2;have Hpp:=B9g hpp;have HWQ:=B9g hWQ;clear hrd hwt hwt2 hc1 hc2 hP1 hP2 hm3 hpp hzl hzh hWQ;by_cases hb1:P1≤0
      ·have f1:decide (P1≤0)=true:=C0L hb1;by_cases hb2:P2≤0
       ·have f2:decide (P2≤0)=true:=C0L hb2;have Hka:=B9g (show KA a=[(a,WQ)]by rw[HKA.out,HWQ.out];exact B4J Hpp.out Hno.out ⟨hp1.1 hb1,hp2.1 hb2⟩);clear hb1 hb2 hp1 hp2;refine r0T ?_;refine B9b ?_;refine B9j (rfl) ?_;refine B9i ?_;refine A6 ?_;refine B9b ?_;refine B99 ?_;refine B9b (rsC N1 [0,0,2] hB hG fun K L hN hL=>?_)
        repeat first|refine gya ?_|refine gyr ?_|refine gna ?_|refine gyb (by(rintro v ⟨hgu,hB,hG,-⟩ N hN;have r:=hB.r;simp only[BxR]at r;obtain⟨y1,y2,y3,⟨l1,l2,l3,l4,l5⟩,h1,h2,h3,h4,h5⟩:=Hrd2.out v hG;go_simp;exact hN)) ?_
        refine gaa (A23 _ _ _ _ _) fun b18 hb18 hn18=>?_;replace hF:=hF.n1 [] hB hG hb18 hn18;refine geC hL ?_;clear hB hG hL L;rintro u ⟨⟨hgu,hB,hG,-⟩,h18⟩;replace hB:=hB.cons' h18;clear h18;have HK2:=B9g (HK.out.grow hgu);clear HK;clear hb18 hn18;clear hgu;refine gtT ?_;clear hN K;have hbk:=hB.head;refine sv hB hF hG 0 0 [_,_,_,_,_,_,_,_,_,_,_,_,_] ?_;intro u2 hu hBG;have HK:=B9g (HK2.out.over hbk (by decide) (.inl (by decide)) hu);clear hB hG HK2 hu hbk;obtain⟨hB,hG⟩:=hBG;obtain⟨u,rfl⟩:=exQ u2;refine B9b (rsE N1 [0,0,0,1,0,0,0,0,0,1,0,0] hB hG fun L hL=>?_)
        repeat first|refine gya ?_|refine gyr ?_|refine gna ?_|refine gyb (by(rintro v ⟨hgu,hB,hG,-⟩ N hN;have r:=hB.r;simp only[BxR]at r;obtain⟨y1,y2,y3,⟨l1,l2,l3,l4,l5⟩,h1,h2,h3,h4,h5⟩:=Hrd2.out v hG;go_simp;exact hN)) ?_
        refine gmw (C:=fun v=>Hc1.out _) ?_
        repeat first|refine gya ?_|refine gyr ?_|refine gna ?_|refine gyb (by(rintro v ⟨hgu,hB,hG,-⟩ N hN;have r:=hB.r;simp only[BxR]at r;obtain⟨y1,y2,y3,⟨l1,l2,l3,l4,l5⟩,h1,h2,h3,h4,h5⟩:=Hrd2.out v hG;go_simp;exact hN)) ?_
        first|refine gmw (C:=fun v=>Hc2.out _) ?_|refine M9 ?_
        refine gs ?_;refine geT hL ?_;clear hB hG hL L;rintro u ⟨hgu,hB,hG,-⟩;have HK2:=B9g (HK.out.grow hgu);clear HK;have HK:=HK2;clear HK2;clear hgu;refine B9j (rfl) ?_;refine B9b ?_;have Ho:=B9g HK.out.o;refine A18 (w:=w) N1 7 [0] [(0,0),(0,1),(0,2),(0,3),(0,4),(1,5),(0,6)] (by kernel_rfl) (by kernel_rfl) (by simp only[List.drop_succ_cons,List.drop_zero];exact rfl) (fun _=>True) noG hB hG trivial ?_;intro K L hN hL;simp only[G6,List.getElem?_toArray,List.getElem?_cons_zero,List.getElem?_cons_succ]
        repeat first|refine gya ?_|refine gyr ?_|refine gna ?_|refine gyb (by(rintro v ⟨hgu,hB,hG,-⟩ N hN;have r:=hB.r;simp only[BxR]at r;obtain⟨y1,y2,y3,⟨l1,l2,l3,l4,l5⟩,h1,h2,h3,h4,h5⟩:=Hrd2.out v hG;go_simp;exact hN)) ?_
        refine gxd (X:=Ax) (fun x:Ax=>.slice x.1 Lw x.2) (fun x V=>Lqt V x.1 WQ) (fun x u u' hg h=>h.grow hg) (fun x98=>?_) (C:=by(rintro v ⟨hgu,hB,hG,-⟩;exact Hwt.out _ hG (HTw.out.grow hG)));refine gs ?_;refine H6 ?_;rintro v ⟨⟨hgu,hB1,hG1,-⟩,hx98⟩;have ROWn:=B9g (B9 Ho.out hgu);clear Ho;have Ho:=ROWn;clear ROWn;have HK2:=B9g (HK.out.grow hgu);clear HK;have HK:=HK2;clear HK2;clear hB hG;have hB:=hB1;have hG:=hG1;clear hB1 hG1;refine hL _ _ ?_;clear hL L hgu;obtain⟨u,rfl⟩:=exQ v;refine S9 A4z w.heap.size _ _ _ _ (kqL (a,x98,WQ)) rfl rfl (A46 a x98 WQ Lw hwl u) rfl (fun _=>rfl) (fun _=>rfl) (fun _ _=>rfl) Ho.out (by omega) (by omega) hG.sz fun p v' w' g1 g2 g3=>?_;have hBn:=A6i Ho.out hB (by simp) g2;have HK2:=B9g (KnR.add (y:=(a,x98,WQ)) HK.out hx98 g1 g2);clear HK;have HK:=HK2;clear HK2;have hGn:=S7 Ho.out hG g2;clear Ho hB hG;have Ho:=B9g g1;have hB:=hBn;have hG:=hGn;clear g1 g2 g3 hBn hGn;obtain⟨u,rfl⟩:=exQ w';simp only[Act.put,List.setIfInBounds_toArray,List.set_cons_succ,List.set_cons_zero];refine NoK.norm (hN _ _ ?_);clear hN K;refine A6 ?_;refine C0B ?_;refine A9m (by decide) ?_;refine C0 ?_;refine C0 ?_;refine E4 ?_;refine C8 ?_;refine A6 ?_;refine r0E ?_;refine A6 ?_;go_roundw
        case rel=>exact⟨i+1,ks++[(a,x98,WQ)],_,by omega,by go_num,rfl,HK.out,by rw[Hts.out,List.map_append,Hks.out,Hka.out];rfl,by rw[List.length_append];simp;omega,hG⟩
        case measure=>simp[intOf];omega
       ·have f2:decide (P2≤0)=false:=C0Q hb2
        have Hno2:=B9g (show ∀(t:Nat) (q:Pc),t<j+1→PCs[t]?=some q→¬(q.2.1≤a∧a≤q.2.2)from fun t q ht hq=>by
         rcases B9H t j with h|h
         ·exact Hno.out t q h hq
         ·obtain rfl:t=j:=by omega
          rw[Hpp.out]at hq;cases hq
          exact fun h=>hb2 (hp2.2 h.2))
        clear hb1 hb2 hp1 hp2;refine r0T ?_;refine B9b ?_;refine B9j (rfl) ?_;refine B9i ?_;refine A6 ?_;refine B9b ?_;refine B99 ?_;refine B9b (rsC N1 [0,0,2] hB hG fun K L hN hL=>?_)
        repeat first|refine gya ?_|refine gyr ?_|refine gna ?_|refine gyb (by(rintro v ⟨hgu,hB,hG,-⟩ N hN;have r:=hB.r;simp only[BxR]at r;obtain⟨y1,y2,y3,⟨l1,l2,l3,l4,l5⟩,h1,h2,h3,h4,h5⟩:=Hrd2.out v hG;go_simp;exact hN)) ?_
        refine gaa (A23 _ _ _ _ _) fun b18 hb18 hn18=>?_;replace hF:=hF.n1 [] hB hG hb18 hn18;refine geC hL ?_;clear hB hG hL L;rintro u ⟨⟨hgu,hB,hG,-⟩,h18⟩;replace hB:=hB.cons' h18;clear h18;have HK2:=B9g (HK.out.grow hgu);clear HK;clear hb18 hn18;clear hgu;refine gtT ?_;clear hN K;have hbk:=hB.head;refine sv hB hF hG 0 0 [_,_,_,_,_,_,_,_,_,_,_,_,_] ?_;intro u2 hu hBG;have HK:=B9g (HK2.out.over hbk (by decide) (.inl (by decide)) hu);clear hB hG HK2 hu hbk;obtain⟨hB,hG⟩:=hBG;obtain⟨u,rfl⟩:=exQ u2;refine B9b (rsE N1 [0,0,0,1,0,0,0,0,0,1,0,0] hB hG fun L hL=>?_)
        repeat first|refine gya ?_|refine gyr ?_|refine gna ?_|refine gyb (by(rintro v ⟨hgu,hB,hG,-⟩ N hN;have r:=hB.r;simp only[BxR]at r;obtain⟨y1,y2,y3,⟨l1,l2,l3,l4,l5⟩,h1,h2,h3,h4,h5⟩:=Hrd2.out v hG;go_simp;exact hN)) ?_
        refine gmw (C:=fun v=>Hc1.out _) ?_
        repeat first|refine gya ?_|refine gyr ?_|refine gna ?_|refine gyb (by(rintro v ⟨hgu,hB,hG,-⟩ N hN;have r:=hB.r;simp only[BxR]at r;obtain⟨y1,y2,y3,⟨l1,l2,l3,l4,l5⟩,h1,h2,h3,h4,h5⟩:=Hrd2.out v hG;go_simp;exact hN)) ?_
        first|refine gmw (C:=fun v=>Hc2.out _) ?_|refine M9 ?_
        refine gs ?_;refine geT hL ?_;clear hB hG hL L;rintro u ⟨hgu,hB,hG,-⟩;have HK2:=B9g (HK.out.grow hgu);clear HK;have HK:=HK2;clear HK2;clear hgu;refine B9h (rfl) ?_;refine B9i ?_;refine C8 ?_;refine A6 ?_;refine r0E ?_;refine A6 ?_;go_roundw
        case rel=>exact⟨j+1,by omega,by go_num,rfl,Hno2.out,hB.tail,HK.out,hG⟩
        case measure=>simp[intOf];omega
      ·have f1:decide (P1≤0)=false:=C0Q hb1
       have Hno2:=B9g (show ∀(t:Nat) (q:Pc),t<j+1→PCs[t]?=some q→¬(q.2.1≤a∧a≤q.2.2)from fun t q ht hq=>by
        rcases B9H t j with h|h
        ·exact Hno.out t q h hq
        ·obtain rfl:t=j:=by omega
         rw[Hpp.out]at hq;cases hq
         exact fun h=>hb1 (hp1.2 h.1))
       clear hb1 hp1 hp2;refine r0T ?_;refine B9b ?_;refine B9j (rfl) ?_;refine B9i ?_;refine A6 ?_;refine B9b ?_;refine B99 ?_;refine B9b (rsC N1 [0,0,2] hB hG fun K L hN hL=>?_)
       repeat first|refine gya ?_|refine gyr ?_|refine gna ?_|refine gyb (by(rintro v ⟨hgu,hB,hG,-⟩ N hN;have r:=hB.r;simp only[BxR]at r;obtain⟨y1,y2,y3,⟨l1,l2,l3,l4,l5⟩,h1,h2,h3,h4,h5⟩:=Hrd2.out v hG;go_simp;exact hN)) ?_
       refine gaa (A23 _ _ _ _ _) fun b18 hb18 hn18=>?_;replace hF:=hF.n1 [] hB hG hb18 hn18;refine geC hL ?_;clear hB hG hL L;rintro u ⟨⟨hgu,hB,hG,-⟩,h18⟩;replace hB:=hB.cons' h18;clear h18;have HK2:=B9g (HK.out.grow hgu);clear HK;clear hb18 hn18;clear hgu;refine gtT ?_;clear hN K;have hbk:=hB.head;refine sv hB hF hG 0 0 [_,_,_,_,_,_,_,_,_,_,_,_,_] ?_;intro u2 hu hBG;have HK:=B9g (HK2.out.over hbk (by decide) (.inl (by decide)) hu);clear hB hG HK2 hu hbk;obtain⟨hB,hG⟩:=hBG;obtain⟨u,rfl⟩:=exQ u2;refine B9b (rsE N1 [0,0,0,1,0,0,0,0,0,1,0,0] hB hG fun L hL=>?_)
       repeat first|refine gya ?_|refine gyr ?_|refine gna ?_|refine gyb (by(rintro v ⟨hgu,hB,hG,-⟩ N hN;have r:=hB.r;simp only[BxR]at r;obtain⟨y1,y2,y3,⟨l1,l2,l3,l4,l5⟩,h1,h2,h3,h4,h5⟩:=Hrd2.out v hG;go_simp;exact hN)) ?_
       refine gmw (C:=fun v=>Hc1.out _) ?_
       repeat first|refine gya ?_|refine gyr ?_|refine gna ?_|refine gyb (by(rintro v ⟨hgu,hB,hG,-⟩ N hN;have r:=hB.r;simp only[BxR]at r;obtain⟨y1,y2,y3,⟨l1,l2,l3,l4,l5⟩,h1,h2,h3,h4,h5⟩:=Hrd2.out v hG;go_simp;exact hN)) ?_
       refine gmn (by exact rfl) ?_;refine okf (by simp only[Act.put,List.setIfInBounds_toArray,List.set_cons_succ,List.set_cons_zero];exact rfl) ?_;refine gs ?_;refine geT hL ?_;clear hB hG hL L;rintro u ⟨hgu,hB,hG,-⟩;have HK2:=B9g (HK.out.grow hgu);clear HK;have HK:=HK2;clear HK2;clear hgu;refine B9h (rfl) ?_;refine B9i ?_;refine C8 ?_;refine A6 ?_;refine r0E ?_;refine A6 ?_;go_roundw
       case rel=>exact⟨j+1,by omega,by go_num,rfl,Hno2.out,hB.tail,HK.out,hG⟩
       case measure=>simp[intOf];omega
     ·obtain rfl:np=j:=by omega
      have hdecj:decide ((np:Int)<(np:Int))=false:=by simp
      have Hka:=B9g (show KA a=[]by rw[HKA.out];exact B2H fun t q hq=>Hno.out t q (by have:=(List.getElem?_eq_some_iff.1 hq).1;have:=Hnp.out;omega) hq);refine r0T ?_;refine B9b ?_;refine B9h (rfl) ?_;refine C0B ?_;refine C0 ?_;refine C0 ?_;refine E4 ?_;refine C8 ?_;refine A6 ?_;refine r0E ?_;refine A6 ?_;go_roundw
      case rel=>exact⟨i+1,ks,_,by omega,by go_num,rfl,HK.out,by rw[Hts.out,Hka.out,List.append_nil];exact Hks.out,by omega,hG⟩
      case measure=>simp[intOf];omega
   ·obtain rfl:M=i:=by omega
    have hdec:decide ((M:Int)<(M:Int))=false:=by simp
    have hkk:ks.map F9=A1T F B LM top Lw (3^Lw):=by rw[Hks.out,B98 (by have:=HPS.out.1;omega),HKA.out,HPC.out,HPS.out.2.1];rfl
    obtain⟨Ak,ck,rfl,hlk⟩:=HK.out.lk;obtain⟨nk,hnk⟩:=exQ ks.length;have hmem:∀i,i<nk→qs (ksX ks i).1≤S∧(ksX ks i).2.2.length=Lw∧∀j,j<Lw→qs (gq (ksX ks i).2.2 j)≤3*S+1:=fun i hi=>by
     obtain⟨e1,e2⟩:=A2C ks (i:=i) (by omega);obtain⟨m1,k,m2,m3⟩:=B2w (hkk ▸ List.mem_map_of_mem (f:=F9) e2);obtain⟨z1,z2,-⟩:=HFz.out _ m2;have m1:qs (ksX ks i).1≤S:=Hplz.out _ m1;have m3:(ksX ks i).2.2=I5 (F k) (B k) Lw (ksX ks i).1:=m3;refine⟨m1,by rw[m3];unfold I5;simp,fun j hj=>?_⟩;rw[m3];have:=B5q z1 z2 m1 hj;omega
    have hbe:=fun W (hg:A4 u W) (hT:Tab W)=>B3j Ak ks nk ck Lw hnk.symm (by have:=Hne.out;rw[←hkk,List.length_map]at this;omega) (by have:=HPS.out.2.2;omega) (by omega) (fun i hi=>(hmem i hi).2.1) (3*S+1) (fun i hi=>⟨by have:=(hmem i hi).1;omega,(hmem i hi).2.2⟩) (by omega) W (hlk.grow hg) hT;rw[←hnk]at HK⊢;have Hbe:=B9g hbe;have Hkk:=B9g hkk;have Hnk:=B9g hnk;have HZ:=B9g HK.out.q;clear hbe hkk hlk hmem hnk hkl HK;refine r0T ?_;refine B9b ?_;refine B9h (rfl) ?_;refine C0B ?_;refine C0 ?_;refine C0 ?_;refine E4 ?_;refine A6 ?_;refine B9b (rsE N1 [0,1,0,0] hB hG fun L hL=>?_);refine gs ?_;refine gxd (X:=Value) (fun v=>v) (fun v V=>V.ownsRow w.heap.size 84 6 v (Q8 ks Lw nk).length ((Q8 ks Lw nk).flatMap kqL)) (fun x u u' hg h=>B9 h hg) (fun x105=>?_) (C:=by(rintro v ⟨hgu,hB,hG,-⟩;exact(Hbe.out _ hgu (HTw.out.grow hG)).mono fun e V ⟨v,g1,g2,g3⟩=>⟨v,g1,g2.mono hG.sz,g3⟩));refine gs ?_;refine geT hL ?_;clear hB hG hL L;rintro u ⟨⟨hgu,hB,hG,-⟩,hx105⟩;have HZ2:=B9g (fun x hx=>(HZ.out x hx).grow hgu);clear HZ;clear hgu;refine wp_ret ?_;have hdf:u.heap[wE.heap.size]?=some (.deferred (some [])):=(hG.block _ (J3 HPw.out)).trans HPw.out;refine⟨by simp,.inl ⟨_,_,rfl,run_takeDeferred hdf,?_⟩⟩;refine⟨.tuple #[x105,.int .i64 0],?_,Q8 ks Lw nk,x105,rfl,(B22 hdf hx105).mono HG0.out.sz,fun x hx=>((HZ2.out x ((A8P ks Lw (by have:=Hnk.out;omega)).2 x hx)).putD hdf).lq,?_,A2U (HG0.out.trans hG) HUD.out⟩
    ·simp only[results,Tryz.results49];go_simp
    ·rw[(A8P ks Lw (by have:=Hnk.out;omega)).1,Hkk.out,←Hkk.out,List.length_map,←Hnk.out]
end Go.Proofs.YtgpglgbcobeogaaGreatDoor
