import Derived.Test.YtgpglgbcobeogaaGreatDoorN30
import Derived.Test.YtgpglgbcobeogaaGreatDoorN31
set_option linter.unusedSimpArgs false
set_option linter.unusedVariables false
set_option maxHeartbeats 16000000
set_option maxRecDepth 100000
namespace Go.Proofs.YtgpglgbcobeogaaGreatDoor
open Go Go.RowKit
theorem A9J{n L:Nat}{s:Gs}(h:∀x∈s.2,x<0):∀c,(∀x∈(C9 n L s c).2,x<c)/\((C9 n L s c).2.Pairwise (· < ·)\/¬s.2.Pairwise (· < ·))
 | 0=>⟨h,by
  by_cases hp:s.2.Pairwise (· < ·)
  ·exact .inl hp
  ·exact .inr hp⟩
 | c+1=>by
  obtain⟨h1,h2⟩:=A9J h c;show(∀x∈(O0 n L (C9 n L s c) c).2,x<c+1)/\((O0 n L (C9 n L s c) c).2.Pairwise (· < ·)\/_);unfold O0;split
  ·refine⟨λx hx=>?_,?_⟩
   ·rcases List.mem_append.1 hx with hx|hx
    ·exact Nat.lt_succ_of_lt (h1 x hx)
    ·have:x=c:=by simpa using hx
     omega
   ·rcases h2 with h2|h2
    ·left;rw[List.pairwise_append];refine⟨h2,by simp,λa ha b hb=>?_⟩;have:b=c:=by simpa using hb
     rw[this];exact h1 a ha
    ·exact .inr h2
  ·exact⟨λx hx=>Nat.lt_succ_of_lt (h1 x hx),h2⟩
theorem B0L(n L:Nat)(M:Mx)(c:Nat):(C9 n L (M,[]) c).2.Pairwise (· < ·)/\∀x∈(C9 n L (M,[]) c).2,x<c:=by
 obtain⟨h1,h2⟩:=A9J (n:=n) (L:=L) (s:=(M,[])) (λx hx=>(by cases hx)) c;exact⟨h2.resolve_right (λh=>h List.Pairwise.nil),h1⟩
def nx(l:List Nat)(i:Nat):Nat:=(l[i]?).getD 0
theorem Q3{l:List Nat}{i:Nat}(h:i<l.length):nx l i∈l:=by
 unfold nx;rw[B9Y h];exact B86 h
theorem A4j{W:World}{A:Option Addr}{le:List Nat}(h:Li W A (M9 le)){i:Nat}(hi:i<le.length):∃b o,A=some ⟨b,o,none⟩/\∀W',A4 W W'->W'.cell? ⟨b,o+i,none⟩=some (.int .i64 (nx le i:Nat)):=by
 have hil:i<(M9 le).length:=by rw[A3e];exact hi
 obtain⟨b,o,e,-⟩:=h.cell hil;refine⟨b,o,e,λW' hg=>?_⟩;obtain⟨b',o',e',hc⟩:=(h.grow hg).cell hil;rw[e]at e';cases e';rw[hc];have:gi (M9 le) i=((nx le i:Nat):Int):=by
  unfold gi nx M9;rw[List.getElem?_map,B9Y hi];rfl
 rw[this]
theorem B5Z(b0 m:Nat)(ld:Ax)(hm:m<=300)(w:World)(hl:Li w ld.1 (M9 (List.range m))) :
  Calls Tryz.prog 163 #[.agg #[.slice (some ⟨b0,0,none⟩) m m,.slice ld.1 m ld.2],.int .i64 (m:Nat)] w λe w'=>e = .returned (.slice none 0 0)/\A4 w w':=by
 have hli:∀i,i<m->∃b o,ld.1=some ⟨b,o,none⟩/\∀W',A4 w W'->W'.cell? ⟨b,o+i,none⟩=some (.int .i64 (i:Nat)):=λi hi=>by
  obtain⟨b,o,e,h⟩:=A4j hl (i:=i) (by simpa using hi);have e2:nx (List.range m) i=i:=by unfold nx;simp[hi]
  rw[e2]at h;exact⟨b,o,e,h⟩
 obtain⟨LA,LC⟩:=ld;have Hli:=B9I hli;clear hli hl;go_enter Tryz.func163,Tryz.ntmps163;refine en1 ?_;intro u hG b2 hB hF;refine r0T ?_;refine r0T ?_;refine B9D ?_;refine r0T ?_;refine B9l ?_;clear hF;go_loopw [12,5,6] (λs0 s2 s1 wr=>∃k:Nat,k<=m/\s0 = .int .i64 k/\s2 = .slice none 0 0/\s1 = .int .i64 k/\Bx wr [(b2,216,#[.slice (some ⟨b0,0,none⟩) m m,.slice LA m LC])]/\A4 w wr) (λs0 _ _ _=>m-(intOf s0).toNat)
 case atStart=>exact⟨0,B9a _,rfl,rfl,rfl,hB,hG⟩
 case round =>
  clear hB hG;obtain⟨k,hk,rfl,rfl,rfl,hB,hG⟩:=hrel;obtain⟨u,rfl⟩:=exQ wr;rcases B8t k m with hlt|hge
  ·have hdec:decide ((k:Int)<(m:Int))=true:=by simp;omega
   have hkm:(k:Int)<(m:Int):=by omega
   have fk:IntKind.i64.wrap ((k:Int)+1)=((k+1:Nat):Int):=by rw[B9Z _ (by omega)];omega
   obtain⟨bl0,ol,el,hlc⟩:=Hli.out k hlt;simp only at el;subst el;have fx:((k:Int) == (k:Int))=true:=by simp
   have Hlc:=B9I hlc;clear hlc;refine r0T ?_;refine B9D ?_;refine B9L (rfl) ?_;refine B9K ?_;refine A6 ?_;refine B9D ?_;refine B9l ?_;refine r0T ?_;refine B9D ?_;refine B9D ?_;have q0:=Hlc.out u hG;refine r0N ?_;refine B9L (rfl) ?_;refine r0T ?_;refine B9n ?_;refine B9 ?_;refine E4 ?_;refine A6 ?_;refine r0E ?_;refine A6 ?_;go_roundw
   case rel=>exact⟨k+1,by omega,by go_num,rfl,by go_num,hB,hG⟩
   case measure=>simp[intOf];omega
  ·obtain rfl:m=k:=by omega
   have hdec:decide ((m:Int)<(m:Int))=false:=by simp
   refine r0T ?_;refine B9D ?_;refine B9J (rfl) ?_;refine B9n ?_;refine B9 ?_;refine B9 ?_;refine E4 ?_;refine A6 ?_;refine r0T ?_;refine rt Tryz.results163 ?_;exact⟨rfl,hG⟩
def aug(X:List (List Rat))(y:List Rat)(m:Nat):List (List Rat):=(List.range m).map λi=>B7 X i++[gq y i]
theorem A2Y{m i:Nat}{f:Nat->List Rat}(h:i<m):B7 ((List.range m).map f) i=f i:=by
 unfold B7;rw[List.getElem?_map,C0z h];rfl
theorem B8e(A:Option Addr)(bb ob:Nat)(rs:List Rq)(y:List Rat)(m c d:Nat)(hn:rs.length=m)(hm1:1<=m)(hm2:m<=19)(hrl:∀r∈rs,r.2.2.length=m)(hrc:∀r∈rs,m<=r.2.1)(hy:y.length=m)(hd:m<=d)(s:Nat)(hs1:1<=s)(hs:∀i,i<m->∀j,j<m->qs (gq (B7 (rs.map (·.2.2)) i) j)<=s)(hys:∀i,i<m->qs (gq y i)<=s)(hBz:30*(s*10^(m+1))<=BIG)
  (hfull:(C9 m (m+1) (F6 (aug (rs.map (·.2.2)) y m),[]) (m+1)).2=List.range m) (w:World) (h:Lrq w A rs) (h2:Lq w (some ⟨bb,ob,none⟩) y) (HT:Tab w) :
  Calls Tryz.prog 128 #[.slice A m c,.slice (some ⟨bb,ob,none⟩) m d] w (G9 (λx:Ax=>.tuple #[.slice x.1 m x.2,.slice none 0 0,.int .i64 0]) (λx W=>Lq W x.1 ((List.range m).map λi=>(C9 m (m+1) (F6 (aug (rs.map (·.2.2)) y m),[]) (m+1)).1 i m)/\∃b,x.1=some ⟨b,0,none⟩/\w.heap.size<=b) w):=by
 have hri:=λW (hg:A4 w W)=>A7d A rs m m c hn hm1 (by omega) hm1 hrl W (h.grow hg);have hcl:=λW (hg:A4 w W)=>B6b bb ob m d y hy (by omega) hd W (h2.grow hg);obtain⟨b9,o9,P0,eA,hP0⟩:=U9 hn hrl h (i:=0) (by omega);have hr0:=λW hg=>(hP0 W hg).1;simp only[Nat.add_zero]at hr0;obtain⟨rc,hrcd⟩:∃rc:List Rq,rc=(List.range m).map λi=>((some ⟨bb,ob+i*5,none⟩,1,[gq y i]):Rq):=⟨_,rfl⟩
 rw[<-hrcd]at hcl;have hrc1:rc.length=m:=by rw[hrcd];simp
 have hrc2:∀r∈rc,r.2.2.length=1:=λr hr=>by
  rw[hrcd]at hr;obtain⟨i,-,rfl⟩:=List.mem_map.1 hr;rfl
 obtain⟨BM,hBM⟩:∃M,M=A2d (rs.map (·.2.2)) (rc.map (·.2.2)):=⟨_,rfl⟩
 have hbs:=λW (x:Nat) (hg:A4 w W) (hx:Lrq W (some ⟨x,0,none⟩) rc)=>B4M A (some ⟨x,0,none⟩) rs rc m m 1 c m hn hrc1 (by omega) hm1 (by omega) (by omega) (by omega) hrl hrc hrc2 W (h.grow hg) hx;rw[<-hBM]at hbs;have hrow:∀i,i<m->G1 BM (m+1) i=B7 (rs.map (·.2.2)) i++[gq y i]:=λi hi=>by
  have e1:B7 (rc.map (·.2.2)) i=[gq y i]:=by
   rw[hrcd,List.map_map];exact A2Y hi
  obtain⟨b7,o7,P7,e7,hP⟩:=U9 hn hrl h hi;rw[hBM,A8J (by rw[e1,List.length_append,(hP w (A4.refl w)).2.2];rfl),e1]
 have hrd:=λW (x:Nat×(Nat->Nat)×(Nat->Nat)) (hg:A4 w W) (hx:MatW w.heap.size m (m+1) x.1 m x.2.1 x.2.2 BM W)=>by
  have e2:((List.range m).map λi=>((some ⟨x.2.1 i,0,none⟩,x.2.2 i,G1 BM (m+1) i):Rq)).map (·.2.2)=aug (rs.map (·.2.2)) y m:=by
   rw[List.map_map];refine C0u λi hi=>?_;exact hrow i (List.mem_range.1 hi)
  have h5:=A8K (some ⟨x.1,0,none⟩) ((List.range m).map λi=>((some ⟨x.2.1 i,0,none⟩,x.2.2 i,G1 BM (m+1) i):Rq)) m (m+1) m (by simp) hm1 (by omega) (by omega) (by omega) (λr hr=>by
   obtain⟨i,-,rfl⟩:=List.mem_map.1 hr;exact A15 _ _ _) s hs1 (λi hi j hj=>by
   rw[e2];unfold aug;rw[A2Y hi];obtain⟨b7,o7,P7,e7,hP⟩:=U9 hn hrl h hi;have hl:=(hP w (A4.refl w)).2.2;unfold gq;rcases B8t j m with h6|h6
   ·rw[C0k (by omega)];exact hs i hi j h6
   ·rw[C0l (by omega),show j-(B7 (rs.map (·.2.2)) i).length=0 by omega]
    exact hys i hi) hBz W hx.lrq (HT.grow hg)
  rw[e2]at h5;exact h5
 simp only[hfull,List.length_range]at hrd;obtain⟨GM,hGM⟩:∃G,G=(C9 m (m+1) (F6 (aug (rs.map (·.2.2)) y m),[]) (m+1)).1:=⟨_,rfl⟩
 simp only[<-hGM]at hrd⊢;obtain⟨f,hf⟩:∃f:Nat->Rat,f=λi=>GM i m:=⟨_,rfl⟩
 have hfi:∀i,GM i m=f i:=by rw[hf];exact λ_=>rfl
 rw[<-hf];have hmk:=A1E m (by omega) (m:Int) rfl;have hni:(0:Int)<(m:Int):=by omega
 have hnp:0<m:=by omega
 have fn:decide ((0:Int)<(m:Int))=true:=by simp;omega
 have fnn:decide (0<m)=true:=by simp;omega
 have fmm:((m:Int) != (m:Int))=false:=by simp
 obtain⟨m1,hm1e⟩:∃x,x=m-1:=⟨_,rfl⟩
 have fm1:IntKind.i64.wrap ((m:Int)-1)=(m1:Int):=by rw[B9Z _ (by omega)];omega
 have hm1i:(m1:Int)<(m:Int):=by omega
 have fm2:((m1:Int) == (m:Int))=false:=by simp;omega
 have fm3:decide (m1=m)=false:=by simp;omega
 have Hri:=B9I hri;have Hcl:=B9I hcl;have Hr0:=B9I hr0;have Hbs:=B9I hbs;have Hrd:=B9I hrd;have Hmk:=B9I hmk;have Hfi:=B9I hfi;subst eA;clear hri hcl hr0 hbs hrd hmk hfi hf hGM hBM hrcd hrow hrc1 hrc2 hP0 hs hs1 hys hBz hfull h h2 hrl hrc hn hy hd hm1e;go_enter Tryz.func128,Tryz.ntmps128;refine en0 ?_;intro u hG hB hF;refine B9D ?_;refine B9D (rsE X4 [0,1,0,0,0,0,0,0,0,0] hB hG λL hL=>?_);refine gs ?_;refine gmd (C:=λv ⟨hgu,hB,hG,_⟩=>Hri.out _ hG) ?_;refine gs ?_;refine geT hL ?_;clear hB hG hL L;rintro u ⟨-,hB,hG,-⟩;refine B9J (rfl) ?_;refine B9K ?_;refine A6 ?_;refine B9D ?_
 (first|have q0:=Hr0.out u hG|skip)
 refine r0N ?_;refine B9D (rsC X4 [0,0,1,1,1,0,0,0,2] hB hG λK L hN hL=>?_);refine gs ?_;refine gxd (X:=Nat) (λx:Nat=>.slice (some ⟨x,0,none⟩) m m) (λx W=>Lrq W (some ⟨x,0,none⟩) rc) (λx u u' hg h=>Lrq.grow h hg) (λx30=>?_) (C:=by(rintro v ⟨hgu,hB,hG,-⟩;exact Hcl.out _ hG));refine gxd (X:=(Nat×(Nat->Nat)×(Nat->Nat))) (λx:Nat×(Nat->Nat)×(Nat->Nat)=>.slice (some ⟨x.1,0,none⟩) m m) (λx W=>MatW w.heap.size m (m+1) x.1 m x.2.1 x.2.2 BM W) (λx u u' hg h=>MatW.grow h hg) (λx31=>?_) (C:=by(rintro v ⟨⟨hgu,hB,hG,-⟩,hx30⟩;exact(Hbs.out _ x30 hG hx30).mono λe w' ⟨x,g1,g2,g3⟩=>⟨x,g1,g2.mono hG.sz,g3⟩));refine gxd (X:=((Nat×(Nat->Nat)×(Nat->Nat))×Ax)) (λx:(Nat×(Nat->Nat)×(Nat->Nat))×Ax=>.tuple #[.agg #[.slice (some ⟨x.1.1,0,none⟩) m m,.slice x.2.1 m x.2.2],.int .i64 0]) (λx W=>MatW w.heap.size m (m+1) x.1.1 m x.1.2.1 x.1.2.2 GM W/\W.ownsRow w.heap.size 3 1 (.slice x.2.1 m x.2.2) m (A0M (M9 (List.range m)))) (λx u u' hg h=>⟨h.1.grow hg,C0 h.2 hg⟩) (λx32=>?_) (C:=by(rintro v ⟨⟨⟨hgu,hB,hG,-⟩,hx30⟩,hx31⟩;exact(Hrd.out _ x31 hG hx31).mono λe w' ⟨x,g1,g2,g3⟩=>⟨x,g1,⟨g2.1.mono hG.sz,g2.2.mono hG.sz⟩,g3⟩));refine gs ?_;refine gaa (A5q _ _ _ _ _) λb8 hb8 hn8=>?_;replace hF:=hF.n1 [] hB hG hb8 hn8;refine geC hL ?_;clear hB hG hL L;rintro u ⟨⟨⟨⟨⟨hgu,hB,hG,-⟩,hx30⟩,hx31⟩,hx32⟩,h8⟩;replace hB:=hB.cons' h8;clear h8;obtain⟨⟨b0,g,cp⟩,LA,LC⟩:=x32;have hm32:MatW w.heap.size m (m+1) b0 m g cp GM u:=hx32.1;have ho32:u.ownsRow w.heap.size 3 1 (.slice LA m LC) m (A0M (M9 (List.range m))):=hx32.2;clear hx30 hx31 hx32;clear hb8 hn8;clear hgu;refine gtT ?_;clear hN K;refine sv hB hF hG 0 0 [_,_] ?_;intro u hu hBG;have hm2:=hm32.over ⟨λe=>E8 hm32.hd hB.head (by decide) (by rw[e];rfl),λi hi e=>E8 (hm32.row i hi) hB.head (by decide) (by rw[e];rfl)⟩ hu;have ho2:=H5 ho32 (E8 ho32 hB.head (by decide)) hu;clear hB hG hu hm32 ho32;obtain⟨hB,hG⟩:=hBG;obtain⟨w1,hw1⟩:=exQ u;have hwle:w.heap.size<=w1.heap.size:=hw1 ▸ hG.sz;have Hm:=B9I (show MatW w.heap.size m (m+1) b0 m g cp GM w1 from hw1 ▸ hm2);obtain⟨A5,c5,e5,-,hLi⟩:=A5A (l:=M9 (List.range m)) ho2 (by rw[A3e,List.length_range]);cases e5;have hwle:w.heap.size<=w1.heap.size:=hw1 ▸ hG.sz;have Hlw:=B9I (show Li w1 LA (M9 (List.range m))from hw1 ▸ hLi);have hG1:A4 w1 u:=hw1 ▸ A4.refl u;clear hm2 ho2 hLi hw1;have hli:∀i,i<m->∃b o,LA=some ⟨b,o,none⟩/\∀W',A4 w1 W'->W'.cell? ⟨b,o+i,none⟩=some (.int .i64 (i:Nat)):=λi hi=>by
  obtain⟨b,o,e,h⟩:=A4j Hlw.out (i:=i) (by simpa using hi);have e2:nx (List.range m) i=i:=by unfold nx;simp[hi]
  rw[e2]at h;exact⟨b,o,e,h⟩
 obtain⟨bl0,ol,eL,-⟩:=hli 0 hnp;subst eL;have hli2:∀i,i<m->∀W',A4 w1 W'->W'.cell? ⟨bl0,ol+i,none⟩=some (.int .i64 (i:Nat)):=λi hi W' hg=>by
  obtain⟨b,o,e,h⟩:=hli i hi;cases e;exact h W' hg
 have Hli:=B9I hli2;clear hli hli2;refine B9D ?_;refine B9D ?_
 (first|have q0:=Hr0.out u hG|skip)
 refine r0N ?_;refine B9D ?_;have q1:=Hli.out m1 (by omega) u hG1
 (first|have q0:=Hr0.out u hG|skip)
 refine r0N ?_;clear q1;refine B9J (rfl) ?_;refine B9K ?_;refine A6 ?_;refine B9D ?_;have hmk:=Hmk.out;refine M6 ?_;intro K hN;go_wp2_with fail;generalize hv:World.alloc u _=v;have hrow:=A0v hG1.size (by omega) hv;have hgv:A4 u v:=hv ▸ A4.alloc u _;have hG2:=hG.trans hgv;have hG12:=hG1.trans hgv;have hB2:=hB.grow hgv;have hg8:u.heap.size≠b8:=C0L hB.head.lt;clear hv hG hB hmk hgv hG1;rw[<-A2H f m]at hrow;generalize u.heap.size=gx at hrow hg8⊢;have Ho:=B9I hrow;have hG:=hG2;have hG1:=hG12;have hB:=hB2;clear hrow hG2 hG12 hB2;obtain⟨u,rfl⟩:=exQ v;refine NoK.norm (hN _ _ ?_);clear hN K;refine A6 ?_;refine B9D ?_;refine B9D ?_
 (first|have q0:=Hr0.out u hG|skip)
 refine r0N ?_;refine B9l ?_;clear hF;go_loopw [55] (λs0 wr=>∃i:Nat,i<=m/\s0 = .int .i64 i/\wr.ownsRow w1.heap.size 48 5 (.slice (some ⟨gx,0,none⟩) m m) m ((K7 f m i).flatMap qL)/\Bx wr [(b8,216,#[.slice (some ⟨b0,0,none⟩) m m,.slice (some ⟨bl0,ol,none⟩) m LC])]/\A4 w wr/\A4 w1 wr) (λs0 _=>m-(intOf s0).toNat)
 case atStart=>exact⟨0,B9a _,rfl,Ho.out,hB,hG,hG1⟩
 case round =>
  clear hG Ho hB hG1;obtain⟨i,hi,rfl,ho,hB,hG,hG1⟩:=hrel;obtain⟨u,rfl⟩:=exQ wr;have Ho:=B9I ho;clear ho;rcases B8t i m with hlt|hge
  ·have hdec:decide ((i:Int)<(m:Int))=true:=by simp;omega
   have hin:(i:Int)<(m:Int):=by omega
   have hmL:(m:Int)<((m+1:Nat):Int):=by omega
   have hmL2:(m:Int)<(m:Int)+1:=by omega
   have hst:=A2A (f:=f) hlt;have hmx:∀W,A4 w1 W->W.cell? ⟨b0,i,none⟩=some (.slice (some ⟨g i,0,none⟩) (m+1) (cp i))/\Cq W (g i) (m*5) (f i):=λW hg=>⟨(Hm.out.grow hg).read hlt,by rw[<-Hfi.out];exact(Hm.out.grow hg).cq hlt (by omega)⟩
   have hlx:=Hli.out i hlt;obtain⟨Q,hQ⟩:∃q,q=f i:=⟨_,rfl⟩
   rw[<-hQ]at hst;simp only[<-hQ]at hmx;have Hst:=B9I hst;have Hmx:=B9I hmx;have Hlx:=B9I hlx;clear hst hmx hlx hQ;refine r0T ?_;refine B9D ?_;refine B9L (rfl) ?_;refine B9K ?_;refine A6 ?_;refine B9D ?_;refine B9l ?_;refine B9D ?_;have q1:=Hlx.out u hG1;refine r0N ?_;obtain⟨q2,y1,y2,y3,y4,y5⟩:=Hmx.out u hG1;obtain⟨z0,z1,z2,z3,z4,o0,o1,o2,o3,o4,hfz⟩:=Z6 (enc:=qL) (λ_=>rfl) Ho.out (N2 f m i).symm i (by rw[N2];exact hlt);have q1:=Hlx.out u hG1;refine r0E ?_;clear q2 y1 y2 y3 y4 y5 o0 o1 o2 o3 o4 hfz;generalize hu0:World.setCell (World.setCell (World.setCell (World.setCell (World.setCell u _ _) _ _) _ _) _ _) _ _=u0;have hu1:C2 u gx (i*5) (qL Q)=u0:=hu0;have hP:=R4 (enc:=qL) (size:=5) (ps:=K7 f m i) (λ_=>rfl) Ho.out i Q (by rw[N2];exact hlt);rw[Hst.out,hu1]at hP;have hgx:=(Ho.out.lt gx rfl).1;have hG12:=N4 Ho.out hG1 hP.2
   have hG2:A4 w u0:=hG.grown hP.2 (λk hk=>by
    have e:gx=k:=B8y hk.symm |>.symm
    have:=hwle
    omega)
   have hB2:=hB.grown_ hP.2 (λe he hxe=>by
    have e1:e=_:=List.mem_singleton.1 he;subst e1
    exact hg8 (B8y hxe).symm)
   have Ho2:=B9I hP.1;clear hG hB Ho hP hu1 hu0 hG1 hgx;have hG:=hG2;have hB:=hB2;have hG1:=hG12;have Ho:=Ho2;clear hG2 Ho2 hB2 hG12;obtain⟨u,rfl⟩:=exQ u0;refine C5 ?_;refine A6 ?_;refine r0E ?_;refine A6 ?_;go_roundw
   case rel=>exact⟨i+1,by omega,by go_num,Ho.out,hB,hG,hG1⟩
   case measure=>simp[intOf];omega
  ·obtain rfl:m=i:=by omega
   have hdec:decide ((m:Int)<(m:Int))=false:=by simp
   have ho:=Ho.out;rw[A1n]at ho;obtain⟨A9,c9,e9,-,-,hL,-⟩:=K8 ho;cases e9;obtain⟨w2,hw2⟩:=exQ u;have HL:=B9I (show Lq w2 (some ⟨gx,0,none⟩) ((List.range m).map f)from hw2 ▸ hL);have hgx0:w.heap.size<=gx:=by have:=hwle;have:=(Ho.out.lt gx rfl).1;omega
   have hG3:A4 w2 u:=hw2 ▸ A4.refl u;clear ho hL Ho hw2;refine r0T ?_;refine B9D ?_;refine B9J (rfl) ?_;refine B9n ?_;refine B9 ?_;refine B9 ?_;refine E4 ?_;refine A6 ?_;refine B9D (rsE X4 [0,0,0,1,0,0,0] hB hG λL hL=>?_)
   repeat first|refine gya ?_|refine gyr ?_|refine gna ?_|refine gyb (by(rintro v ⟨hgu,hB,hG,-⟩ N hN;have r:=hB.r;simp only[BxR]at r;(first|have q0:=Hr0.out v hG|skip);go_simp;exact hN)) ?_
   refine gmd (C:=λv ⟨hgu,hB,hG,_⟩=>B5Z b0 m (some ⟨bl0,ol,none⟩,LC) (by omega) _ (Hlw.out.grow (hG1.trans hgu))) ?_;refine gs ?_;refine geT hL ?_;clear hB hG hL L;rintro u ⟨hgu,hB,hG,-⟩;replace hG3:=hG3.trans hgu;clear hgu;refine rt Tryz.results128 ?_;exact⟨(some ⟨gx,0,none⟩,m),rfl,⟨HL.out.grow hG3,gx,rfl,hgx0⟩,hG⟩
def Le{α:Type}(enc:α->List Value)(k:Nat)(u:World)(A:Option Addr)(l:List α):Prop :=
 l≠[]->∃b off,A=some ⟨b,off,none⟩/\b<u.heap.size/\∀i x,l[i]?=some x->∀j v,(enc x)[j]?=some v->u.cell? ⟨b,off+i*k+j,none⟩=some v
theorem Le.grow{α:Type}{enc:α->List Value}{k:Nat}{u u':World}{A:Option Addr}{l:List α}(h:Le enc k u A l)(hg:A4 u u'):Le enc k u' A l:=λhn=>by
 obtain⟨b,off,e,hb,hc⟩:=h hn;exact⟨b,off,e,B9N hb hg.size,λi q hi j v hj=>(hg.cell (p:=⟨b,off+i*k+j,none⟩) hb).trans (hc i q hi j v hj)⟩
theorem A01{α:Type}{enc:α->List Value}{k:Nat}(he:∀x,(enc x).length=k)(hk:0<k){u:World}{B n:Nat}{e:TypeId}{v:Value}{l:List α}(h:u.ownsRow B e k v n (l.flatMap enc)):∃A c,v = .slice A n c/\n<=c/\Le enc k u A l/\n=l.length:=by
 have hn:n=l.length:=by
  have h1:=h.1;rw[A4V he]at h1;exact(Nat.eq_of_mul_eq_mul_right hk h1).symm
 obtain⟨_,h|⟨g,cap,cur,rfl,hb,hh,hn',hc,hs,ht⟩⟩:=h
 ·obtain⟨rfl,h0⟩:=h;exact⟨none,0,by rw[h0],by omega,λhne=>absurd (B8w (l:=l) (by omega)) hne,hn⟩
 ·refine⟨_,cap,rfl,hn',λ_=>⟨g,0,rfl,L7 hh,λi q hi j v hj=>?_⟩,hn⟩;have hil:i<l.length:=(List.getElem?_eq_some_iff.1 hi).1;have er:l[i]=q:=by rw[B9Y hil]at hi;exact B8y hi
  have hjl:j<k:=by have:=(List.getElem?_eq_some_iff.1 hj).1;rw[he]at this;exact this
  rw[B84 u g _ cur e (0,0) hh,Nat.zero_add];have h1:(cur.toList.take (n*k))[i*k+j]?=some v:=by rw[ht,A8s he l i j hil hjl,er,hj]
  have hlt:i*k+j<n*k:=by
   have:i*k+k<=l.length*k:=by rw[<-Nat.succ_mul];exact B9g _ hil
   rw[hn];omega
  rw[C0R,if_pos hlt]at h1
  simpa using h1
theorem Le.at{α:Type}{enc:α->List Value}{k:Nat}{u:World}{A:Option Addr}{l:List α}(h:Le enc k u A l){i:Nat}(hi:i<l.length):∃b off,A=some ⟨b,off,none⟩/\∀W,A4 u W->∀j v,(enc l[i])[j]?=some v->W.cell? ⟨b,off+i*k+j,none⟩=some v:=by
 obtain⟨b,off,e,hb,hc⟩:=h (λe=>by rw[e]at hi;simp at hi);exact⟨b,off,e,λW hg j v hj=>(hg.cell (p:=⟨b,off+i*k+j,none⟩) hb).trans (hc i _ (B9Y hi) j v hj)⟩
theorem B1R(A:Option Addr)(rs:List Rq)(n Lw c:Nat)(hn:rs.length=n)(hn1:1<=n)(hn2:n<=300)(hL1:1<=Lw)(hL2:Lw<=20)(hrl:∀r∈rs,r.2.2.length=Lw)(s:Nat)(hs1:1<=s)(hs:∀i,i<n->∀j,j<Lw->qs (gq (B7 (rs.map (·.2.2)) i) j)<=s)(hBz:30*(s*10^Lw)<=BIG)(w:World)(h:Lrq w A rs)(HT:Tab w) :
  Calls Tryz.prog 126 #[.slice A n c] w λe w'=>e = .returned (.tuple #[.int .i64 ((C9 n Lw (F6 (rs.map (·.2.2)),[]) Lw).2.length:Nat),.int .i64 0])/\A4 w w':=by
 have hrd:∀W,A4 w W->Calls Tryz.prog 159 #[.slice A n c] W (G9 (λx:(Nat×(Nat->Nat)×(Nat->Nat))×Ax=>.tuple #[.agg #[.slice (some ⟨x.1.1,0,none⟩) (C9 n Lw (F6 (rs.map (·.2.2)),[]) Lw).2.length (C9 n Lw (F6 (rs.map (·.2.2)),[]) Lw).2.length,.slice x.2.1 (C9 n Lw (F6 (rs.map (·.2.2)),[]) Lw).2.length x.2.2],.int .i64 0]) (λ_ _=>True) W):=λW hg=>(A8K A rs n Lw c hn hn1 hn2 hL1 hL2 hrl s hs1 hs hBz W (h.grow hg) (HT.grow hg)).mono λe w' ⟨x,g1,_,g3⟩=>⟨x,g1,trivial,g3⟩
 obtain⟨r,hr⟩:∃r,r=(C9 n Lw (F6 (rs.map (·.2.2)),[]) Lw).2.length:=⟨_,rfl⟩
 rw[<-hr];simp only[<-hr]at hrd;have Hrd:=B9I hrd;clear hrd hr h hs hrl hn hBz;go_enter Tryz.func126,Tryz.ntmps126;refine en0 ?_;intro u hG hB hF;refine B9D (rsC X4 [0,1,0,0,0,2] hB hG λK L hN hL=>?_);refine gs ?_;refine gxd (X:=((Nat×(Nat->Nat)×(Nat->Nat))×Ax)) (λx:(Nat×(Nat->Nat)×(Nat->Nat))×Ax=>.tuple #[.agg #[.slice (some ⟨x.1.1,0,none⟩) r r,.slice x.2.1 r x.2.2],.int .i64 0]) (λ_ _=>True) (λ_ _ _ _ h=>h) (λx8=>?_) (C:=by(rintro v ⟨hgu,hB,hG,-⟩;exact Hrd.out _ hG));refine gs ?_;refine gaa (A5q _ _ _ _ _) λb4 hb4 hn4=>?_;replace hF:=hF.n1 [] hB hG hb4 hn4;refine geC hL ?_;clear hB hG hL L;rintro u ⟨⟨⟨-,hB,hG,-⟩,hx8⟩,h4⟩;replace hB:=hB.cons' h4;clear h4;clear hb4 hn4;refine gtT ?_;clear hN K;refine st hB hF hG 0 0 [_,_] ?_;clear hB hG;intro u hB hG;refine r0T ?_;refine rt Tryz.results126 ?_;exact⟨rfl,hG⟩
theorem A5p(A:Option Addr)(rs:List Rq)(n Lw c:Nat)(hn:rs.length=n)(hn1:1<=n)(hn2:n<=300)(hL1:1<=Lw)(hL2:Lw<=6)(hrl:∀r∈rs,r.2.2.length=Lw)(s:Nat)(hs1:1<=s)(hs:∀i,i<n->∀j,j<Lw->qs (gq (B7 (rs.map (·.2.2)) i) j)<=s)(hBz:30*(s*10^Lw)<=BIG)(w:World)(h:Lrq w A rs)(HT:Tab w) :
  Calls Tryz.prog 58 #[.slice A n c] w λe w'=>e = .returned (.int .i64 (if (C9 n Lw (F6 (rs.map (·.2.2)),[]) Lw).2.length<Lw then 9 else 0))/\A4 w w':=by
 have hrk:=λW (hg:A4 w W)=>B1R A rs n Lw c hn hn1 hn2 hL1 (by omega) hrl s hs1 hs hBz W (h.grow hg) (HT.grow hg);obtain⟨bb,ob,P0,eA,hP0⟩:=U9 hn hrl h (i:=0) (by omega);have hr0:=λW hg=>(hP0 W hg).1;simp only[Nat.add_zero]at hr0;subst eA;have hni:(0:Int)<(n:Int):=by omega
 have hnp:0<n:=by omega
 have fn:decide ((0:Int)<(n:Int))=true:=by simp;omega
 have fnn:decide (0<n)=true:=by simp;omega
 have f6:decide ((6:Int)<(Lw:Int))=false:=by simp;omega
 have f6n:decide (6<Lw)=false:=by simp;omega
 obtain⟨r,hr⟩:∃r,r=(C9 n Lw (F6 (rs.map (·.2.2)),[]) Lw).2.length:=⟨_,rfl⟩
 rw[<-hr];simp only[<-hr]at hrk;have Hrk:=B9I hrk;have Hr0:=B9I hr0;clear hrk hr0 hr h hP0 hs hrl hn hBz;by_cases hrL:r<Lw
 ·have fr:decide ((r:Int)<(Lw:Int))=true:=by simp;omega
  have frn:decide (r<Lw)=true:=by simp;omega
  rw[if_pos hrL];clear hrL;go_enter Tryz.func58,Tryz.ntmps58;refine en0 ?_;intro u hG hB hF;refine B9D ?_;refine B9D ?_;have q0:=Hr0.out u hG;refine r0N ?_;refine B9J (rfl) ?_;refine B9K ?_;refine A6 ?_;refine B9D ?_;refine B9D (rsE A8 [0,1,0,0,0,0,0] hB hG λL hL=>?_);refine gs ?_;refine gmd (C:=λv ⟨hgu,hB,hG,_⟩=>Hrk.out _ hG) ?_;refine gs ?_;refine geT hL ?_;clear hB hG hL L;rintro u ⟨-,hB,hG,-⟩;refine B9D ?_;have q0:=Hr0.out u hG;refine r0N ?_;refine B9L (rfl) ?_;refine r0T ?_;refine rt Tryz.results58 ?_;exact⟨rfl,hG⟩
 ·have fr:decide ((r:Int)<(Lw:Int))=false:=by simp;omega
  have frn:decide (r<Lw)=false:=by simp;omega
  rw[if_neg hrL];clear hrL;go_enter Tryz.func58,Tryz.ntmps58;refine en0 ?_;intro u hG hB hF;refine B9D ?_;refine B9D ?_;have q0:=Hr0.out u hG;refine r0N ?_;refine B9J (rfl) ?_;refine B9K ?_;refine A6 ?_;refine B9D ?_;refine B9D (rsE A8 [0,1,0,0,0,0,0] hB hG λL hL=>?_);refine gs ?_;refine gmd (C:=λv ⟨hgu,hB,hG,_⟩=>Hrk.out _ hG) ?_;refine gs ?_;refine geT hL ?_;clear hB hG hL L;rintro u ⟨-,hB,hG,-⟩;refine B9D ?_;have q0:=Hr0.out u hG;refine r0N ?_;refine B9J (rfl) ?_;refine B9K ?_;refine A6 ?_;refine r0T ?_;refine rt Tryz.results58 ?_;exact⟨rfl,hG⟩
abbrev Lm:=Rat×Rat
def lmL(x:Lm):List Value:=qL x.1++qL x.2
def W4(a:Rat)(x:Lm):Bool:=decide (¬G5 (D5 x.1 a) x.2<0)
def J9(l:List Lm)(i:Nat):Lm:=(l[i]?).getD (0,0)
def H7(a:Rat)(l:List Lm):Bool:=l.all (W4 a)
theorem A9Y{u:World}{A:Option Addr}{l:List Lm}(h:Le lmL 10 u A l){i:Nat}(hi:i<l.length):∃b o,A=some ⟨b,o,none⟩/\∀W,A4 u W->Cq W b (o+i*10) (J9 l i).1/\Cq W b (o+i*10+5) (J9 l i).2:=by
 obtain⟨b,o,e,hc⟩:=h.at hi;have e2:J9 l i=l[i]:=by unfold J9;rw[B9Y hi];rfl
 rw[e2];exact⟨b,o,e,λW hg=>⟨⟨hc W hg 0 _ rfl,hc W hg 1 _ rfl,hc W hg 2 _ rfl,hc W hg 3 _ rfl,hc W hg 4 _ rfl⟩,hc W hg 5 _ rfl,hc W hg 6 _ rfl,hc W hg 7 _ rfl,hc W hg 8 _ rfl,hc W hg 9 _ rfl⟩⟩
theorem A2E(d:Option Tmp)(ty:TypeId)(pos:String)(af:Array Edge)(gd:Option (Nat×Bool)):N5 Tryz.prog ⟨d,.alloc 183,ty,pos,af,gd⟩ = .cells #[.bool false,.int .u64 0,.string ⟨#[]⟩,.int .u64 0,.string ⟨#[]⟩,.bool false,.int .u64 0,.string ⟨#[]⟩,.int .u64 0,.string ⟨#[]⟩] 183:=by kernel_rfl
theorem A42(d:Option Tmp)(ty:TypeId)(pos:String)(af:Array Edge)(gd:Option (Nat×Bool)):N5 Tryz.prog ⟨d,.alloc 115,ty,pos,af,gd⟩ = .cells #[.slice none 0 0,.slice none 0 0,.slice none 0 0] 115:=by kernel_rfl
theorem A5B(d:Option Tmp)(ty:TypeId)(pos:String)(af:Array Edge)(gd:Option (Nat×Bool)):N5 Tryz.prog ⟨d,.alloc 108,ty,pos,af,gd⟩ = .cells #[.slice none 0 0,.slice none 0 0] 108:=by kernel_rfl
theorem C4:∀t∈[44,46,48,183,115,108],N8 Tryz.prog t:=by
 intro t ht;simp only[List.mem_cons,List.not_mem_nil,or_false]at ht;rcases ht with rfl|rfl|rfl|rfl|rfl|rfl
 ·exact λ_ _ _ _ _ _=>by rw[L8];kernel_rfl
 ·exact λ_ _ _ _ _ _=>by rw[A2m];kernel_rfl
 ·exact λ_ _ _ _ _ _=>by rw[G6];kernel_rfl
 ·exact λ_ _ _ _ _ _=>by rw[A2E];kernel_rfl
 ·exact λ_ _ _ _ _ _=>by rw[A42];kernel_rfl
 ·exact λ_ _ _ _ _ _=>by rw[A5B];kernel_rfl
def I6(f b:List Rat)(n:Nat)(a:Rat):List Rat:=(List.range n).map λi=>G5 (gq f i) (D5 (gq b i) a)
theorem B4R(A1 A2 A3:Ax)(n1 n2 n:Nat)(l:List Lm)(a:Rat)(hl:l.length=n)(hn:n<=1000)(s:Nat)(hs:∀x∈l,qs x.1<=s/\qs x.2<=s)(ha:qs a<=s)(hBz:4*s+10<=BIG)(w:World)(h:Le lmL 10 w A3.1 l)(HT:Tab w) :
  Calls Tryz.prog 62 #[.agg #[.slice A1.1 n1 A1.2,.slice A2.1 n2 A2.2,.slice A3.1 n A3.2],qV a] w λe w'=>e = .returned (.bool (H7 a l))/\A4 w w':=by
 have hBm:=J7;obtain⟨F1,F2,F3,F4⟩:=A2e (λi=>W4 a (J9 l i)) n 0;obtain⟨F,hF0⟩:∃F,F=W6 (λi=>W4 a (J9 l i)) n 0:=⟨_,rfl⟩
 rw[<-hF0]at F1 F2 F3 F4;have hyes:F=n->H7 a l=true:=λe=>by
  unfold H7;rw[List.all_eq_true];intro x hx;obtain⟨i,hi,ei⟩:=C0m hx;have h1:=F3 i (B9a _) (by omega);have e2:J9 l i=x:=by unfold J9;rw[B9Y hi,ei];rfl
  rw[e2]at h1;exact h1
 have hno:F<n->H7 a l=false:=λe=>by
  have h1:=F4 (by omega);have hi:F<l.length:=by omega
  have e2:J9 l F=l[F]:=by unfold J9;rw[B9Y hi];rfl
  rw[e2]at h1;unfold H7;rw[List.all_eq_false];exact⟨l[F],B86 hi,by rw[h1];simp⟩
 have hat:∀i,i<n->∃b o,A3.1=some ⟨b,o,none⟩/\∀W,A4 w W->Cq W b (o+i*10) (J9 l i).1/\Cq W b (o+i*10+5) (J9 l i).2:=λi hi=>A9Y h (by omega);have hsz:∀i,i<n->qs (J9 l i).1<=s/\qs (J9 l i).2<=s:=λi hi=>by
  have hi:i<l.length:=by omega
  have e2:J9 l i=l[i]:=by unfold J9;rw[B9Y hi];rfl
  rw[e2];exact hs _ (B86 hi)
 obtain⟨R,hR⟩:∃r,r=H7 a l:=⟨_,rfl⟩
 rw[<-hR]at hyes hno⊢;obtain⟨A3,c3⟩:=A3;simp only at hat;have Hat:=B9I hat;have Hsz:=B9I hsz;have Hyes:=B9I hyes;have Hno:=B9I hno;have HF3:=B9I F3;have HF4:=B9I F4;have F2':F<=n:=by omega
 clear hat hsz hyes hno F3 F4 F1 F2 hF0 hR h hs hl;go_enter Tryz.func62,Tryz.ntmps62;refine en2 ?_;intro u hG b3 b2 hB hF;refine B9D ?_;refine B9D ?_;have h2w:=hF.1 b2 (by simp);have h3w:=hF.1 b3 (by simp);have h23:b2≠b3:=λe=>by
  have:=hF.2;simp[e]at this
 refine r0N ?_;refine B9l ?_;clear hF;go_loopw [10] (λs0 wr=>∃i:Nat,i<=F/\s0 = .int .i64 i/\Bx wr [(b2,115,#[.slice A1.1 n1 A1.2,.slice A2.1 n2 A2.2,.slice A3 n c3]),(b3,48,L9 a)]/\A4 w wr) (λs0 _=>n-(intOf s0).toNat)
 case atStart=>exact⟨0,B9a _,rfl,hB,hG⟩
 case round =>
  clear hB hG;obtain⟨i,hi,rfl,hB,hG⟩:=hrel;obtain⟨u,rfl⟩:=exQ wr
  have hF:Fr w [b2,b3]:=⟨λb hb=>by
   simp only[List.mem_cons,List.not_mem_nil,or_false]at hb;rcases hb with rfl|rfl
   ·exact h2w
   ·exact h3w,by simp;exact h23⟩
  rcases B8t i n with hlt|hge
  ·have hdec:decide ((i:Int)<(n:Int))=true:=by simp;omega
   have hin:(i:Int)<(n:Int):=by omega
   obtain⟨bl0,ol,eL,hrd⟩:=Hat.out i hlt;subst eL;obtain⟨z1,z2⟩:=Hsz.out i hlt;have hy:=λh=>HF3.out i (B9a _) h;have hn1:¬i<F->W4 a (J9 l i)=false:=λh=>by
    have e:F=i:=by omega
    have h4:=HF4.out (by omega);rw[e]at h4;exact h4
   obtain⟨⟨X,Y⟩,hX⟩:∃X,X=J9 l i:=⟨_,rfl⟩
   rw[<-hX]at z1 z2 hy hn1;simp only[<-hX]at hrd;simp only at z1 z2;have z3:=Z8 X a;have hml:=λW hT=>A0q X a W (by omega) hT;have hh:W4 a (X,Y)=decide (¬G5 (D5 X a) Y<0):=rfl;rw[hh]at hy hn1;obtain⟨D,hD⟩:∃D,D=D5 X a:=⟨_,rfl⟩
   rw[<-hD]at hy hn1;simp only[<-hD]at hml;have z4:qs D<=s+s:=by rw[hD];unfold D5;omega
   have z5:=A3i D Y;have had:=λW hT=>A1M D Y W (by omega) hT;obtain⟨E,hE⟩:∃D',D'=G5 D Y:=⟨_,rfl⟩
   rw[<-hE]at hy hn1;simp only[<-hE]at had;have z6:qs E<=3*s+1:=by rw[hE];unfold G5;omega
   have hsg:=λW=>M8 E (by have:=G3 E;omega) W;have hneg:=@A2C E;obtain⟨S,hS⟩:∃S,S=E.num.sign:=⟨_,rfl⟩
   have hrg:=A2V E;rw[<-hS]at hneg hrg;simp only[<-hS]at hsg;have Hrd:=B9I hrd;have Hml:=B9I hml;have Had:=B9I had;have Hsg:=B9I hsg;clear hrd hml had hsg hX hD hE hS hh z1 z2 z3 z4 z5 z6;by_cases hiF:i<F
   ·have h0:=hy hiF;have fS:decide (S<0)=false:=by
     have h1:¬E<0:=B9w h0;have h2:S ≠ -1:=λe=>h1 (hneg.1 e);simp;omega
    clear hy hn1 h0 hneg hrg;refine r0T ?_;refine B9D ?_;refine B9L (rfl) ?_;refine B9K ?_;refine A6 ?_;refine B9D ?_;refine B9l ?_;refine B9D (rsC C4 [0,0,2] hB hG λK L hN hL=>?_)
    repeat first|refine gya ?_|refine gyr ?_|refine gna ?_|refine gyb (by(rintro v ⟨hgu,hB,hG,-⟩ N hN;have r:=hB.r;simp only[BxR]at r;(try obtain⟨⟨y1,y2,y3,y4,y5⟩,x1,x2,x3,x4,x5⟩:=Hrd.out v hG);go_simp;exact hN)) ?_
    refine gaa (A2E _ _ _ _ _) λb6 hb6 hn6=>?_;replace hF:=hF.n1 [] hB hG hb6 hn6;refine geC hL ?_;clear hB hG hL L;rintro u ⟨⟨-,hB,hG,-⟩,h6⟩;replace hB:=hB.cons' h6;clear h6;clear hb6 hn6;refine gtT ?_;clear hN K;refine st hB hF hG 0 0 [_,_,_,_,_,_,_,_,_,_] ?_;clear hB hG;intro u hB hG;refine B9D (rdC C4 [] [(0,0),(0,1),(0,2),(0,4),(0,5),(1,3),(1,6),(1,7)] hB hG λK L hN hL=>?_)
    repeat first|refine gya ?_|refine gyr ?_|refine gna ?_|refine gyb (by(rintro v ⟨hgu,hB,hG,-⟩ N hN;have r:=hB.r;simp only[BxR]at r;(try obtain⟨⟨y1,y2,y3,y4,y5⟩,x1,x2,x3,x4,x5⟩:=Hrd.out v hG);go_simp;exact hN)) ?_
    refine gmd (C:=λv ⟨hgu,hB,hG,_⟩=>Hml.out _ (HT.grow hG)) ?_;refine gmd (C:=λv ⟨hgu,hB,hG,_⟩=>Had.out _ (HT.grow hG)) ?_;refine gmw (C:=λv=>Hsg.out _) ?_;refine geC hL ?_;clear hB hG hL L;rintro u ⟨-,hB,hG,-⟩;refine gtT ?_;clear hN K;refine B9J (rfl) ?_;refine B9K ?_;refine C5 ?_;refine A6 ?_;refine r0E ?_;refine A6 ?_;go_roundw
    case rel=>exact⟨i+1,by omega,by go_num,hB.tail,hG⟩
    case measure=>simp[intOf];omega
   ·have h0:=hn1 hiF;have fS:decide (S<0)=true:=by
     have h1:E<0:=by simpa using h0
     rw[hneg.2 h1];rfl
    have HR:=B9I (Hno.out (by omega));clear hy hn1 h0 hneg hrg;refine r0T ?_;refine B9D ?_;refine B9L (rfl) ?_;refine B9K ?_;refine A6 ?_;refine B9D ?_;refine B9l ?_;refine B9D (rsC C4 [0,0,2] hB hG λK L hN hL=>?_)
    repeat first|refine gya ?_|refine gyr ?_|refine gna ?_|refine gyb (by(rintro v ⟨hgu,hB,hG,-⟩ N hN;have r:=hB.r;simp only[BxR]at r;(try obtain⟨⟨y1,y2,y3,y4,y5⟩,x1,x2,x3,x4,x5⟩:=Hrd.out v hG);go_simp;exact hN)) ?_
    refine gaa (A2E _ _ _ _ _) λb6 hb6 hn6=>?_;replace hF:=hF.n1 [] hB hG hb6 hn6;refine geC hL ?_;clear hB hG hL L;rintro u ⟨⟨-,hB,hG,-⟩,h6⟩;replace hB:=hB.cons' h6;clear h6;clear hb6 hn6;refine gtT ?_;clear hN K;refine st hB hF hG 0 0 [_,_,_,_,_,_,_,_,_,_] ?_;clear hB hG;intro u hB hG;refine B9D (rdC C4 [] [(0,0),(0,1),(0,2),(0,4),(0,5),(1,3),(1,6),(1,7)] hB hG λK L hN hL=>?_)
    repeat first|refine gya ?_|refine gyr ?_|refine gna ?_|refine gyb (by(rintro v ⟨hgu,hB,hG,-⟩ N hN;have r:=hB.r;simp only[BxR]at r;(try obtain⟨⟨y1,y2,y3,y4,y5⟩,x1,x2,x3,x4,x5⟩:=Hrd.out v hG);go_simp;exact hN)) ?_
    refine gmd (C:=λv ⟨hgu,hB,hG,_⟩=>Hml.out _ (HT.grow hG)) ?_;refine gmd (C:=λv ⟨hgu,hB,hG,_⟩=>Had.out _ (HT.grow hG)) ?_;refine gmw (C:=λv=>Hsg.out _) ?_;refine geC hL ?_;clear hB hG hL L;rintro u ⟨-,hB,hG,-⟩;refine gtT ?_;clear hN K;refine B9L (rfl) ?_;refine r0T ?_;refine rt Tryz.results62 ?_;exact⟨by rw[HR.out],hG⟩
  ·obtain rfl:n=i:=by omega
   have hdec:decide ((n:Int)<(n:Int))=false:=by simp
   have HR:=B9I (Hyes.out (by omega));refine r0T ?_;refine B9D ?_;refine B9J (rfl) ?_;refine B9n ?_;refine B9 ?_;refine B9 ?_;refine E4 ?_;refine A6 ?_;refine r0T ?_;refine rt Tryz.results62 ?_;exact⟨by rw[HR.out],hG⟩
end Go.Proofs.YtgpglgbcobeogaaGreatDoor
