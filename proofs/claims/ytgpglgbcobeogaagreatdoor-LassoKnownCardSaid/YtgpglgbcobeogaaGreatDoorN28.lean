import Derived.Test.YtgpglgbcobeogaaGreatDoorN27
set_option linter.unusedSimpArgs false
set_option linter.unusedVariables false
set_option maxHeartbeats 4000000
set_option maxRecDepth 100000
namespace Go.Proofs.YtgpglgbcobeogaaGreatDoor
open Go Go.RowKit Go.Shelf
theorem A7h(A:Option Addr)(c n:Nat)(l:List Rat)(hn:n=l.length)(hn0:0<n)(hm:n<=1099511627776)(w:World)(h:Lq w A l) :
  Calls Tryz.prog 110 #[.slice A n c] w λe w'=>∃v,e = .returned v/\w'.ownsRow w.heap.size 48 5 v n (l.flatMap qL)/\A4 w w':=by
 obtain⟨b,off,rfl,hb,hc⟩:=h (λe=>by rw[e]at hn;simp at hn;omega);obtain⟨-,⟨i0,z,hi,hz,h1,h2,h3⟩,-⟩:=A3N;refine(AnyE.slices_Clone Tryz.cloneQ i0 z 5 56 hi hz h1 h2 h3 (by omega) Tryz.sizeOf48 b off n c (l.flatMap qL) w (by rw[X8];omega) (by unfold maxLen;omega) (by omega) ?_ ?_).mono ?_
 ·intro t u hu;have htl:=(List.getElem?_eq_some_iff.1 hu).1;rw[X8]at htl;have hq:l[t/5]?=some (l[t/5]'(by omega)):=B9Y (by omega);have h6:=A2L l hq (j:=t%5) (by omega);rw[show t/5*5+t%5=t by omega,hu]at h6;have h7:=hc _ _ hq _ _ h6.symm
  rwa [show off+t/5*5+t%5=off+t by omega]at h7
 ·intro u hu;obtain⟨q,-,hq⟩:=List.mem_flatMap.1 hu;simp[qL]at hq;rcases hq with rfl|rfl|rfl|rfl|rfl<;>rfl
 ·rintro e w' ⟨v',rfl,ho,hne,hg⟩;exact⟨v',rfl,ho,hg⟩
theorem A7d(A:Option Addr)(rs:List Rq)(N L c:Nat)(hn:rs.length=N)(hN:1<=N)(hN2:N<=300)(hL1:1<=L)(hrl:∀r∈rs,r.2.2.length=L)(w:World)(h:Lrq w A rs) :
  Calls Tryz.prog 160 #[.slice A N c] w λe w'=>e = .returned (.bool true)/\A4 w w':=by
 obtain⟨bb,ob,rfl⟩:=h.addr (by omega);have hrow:∀i,i<N->∃(Ar:Option Addr) (cr:Nat),∀W,A4 w W->W.cell? ⟨bb,ob+i,none⟩=some (.slice Ar L cr):=λi hi=>by
  have hil:i<rs.length:=by omega
  refine⟨rs[i].1,rs[i].2.1,λW hg=>?_⟩;have h3:=((h.grow hg).read (B9Y hil)).1;rw[hrl _ (B86 hil)]at h3;exact h3
 obtain⟨A0,c0,hrow0⟩:=hrow 0 (by omega);rw[Nat.add_zero]at hrow0;have f1:((N:Int) == 0)=false:=by simp;omega
 have f1n:decide (N=0)=false:=by simp;omega
 have f4:((L:Int) == 0)=false:=by simp;omega
 have f4n:decide (L=0)=false:=by simp;omega
 have f6:((L:Int) != (L:Int))=false:=by simp
 have hni:(0:Int)<(N:Int):=by omega
 have hnp:0<N:=by omega
 have fn:decide ((0:Int)<(N:Int))=true:=by simp;omega
 have fnn:decide (0<N)=true:=by simp;omega
 have Hrow:=B9I hrow;have Hrow0:=B9I hrow0;clear hrow hrow0 h hrl hn;go_enter Tryz.func160,Tryz.ntmps160;refine en0 ?_;intro u hG hB hF;refine B9D ?_;refine B9D ?_;have q0:=Hrow0.out u hG;refine r0N ?_;refine B9J (rfl) ?_;refine B9K ?_;refine A6 ?_;refine B9D ?_;refine r0T ?_;refine B9l ?_;clear hB hF;go_loopw [17] (λs0 wr=>∃i:Nat,i<=N/\s0 = .int .i64 i/\A4 w wr) (λs0 _=>N-(intOf s0).toNat)
 case atStart=>exact⟨0,B9a _,rfl,hG⟩
 case round =>
  clear hG;obtain⟨i,hi,rfl,hG⟩:=hrel;obtain⟨u,rfl⟩:=exQ wr;have hB:=Bx.nil u;have hF:=Fr.nil w;rcases B8t i N with hlt|hge
  ·have hdec:decide ((i:Int)<(N:Int))=true:=by simp;omega
   have hiN:(i:Int)<(N:Int):=by omega
   obtain⟨Ar,cr,hrw⟩:=Hrow.out i hlt;have Hrw:=B9I hrw;clear hrw;refine r0T ?_;refine B9D ?_;refine B9L (rfl) ?_;refine B9K ?_;refine A6 ?_;refine B9D ?_;refine B9l ?_;refine B9D ?_;have q0:=Hrow0.out u hG;have q1:=Hrw.out u hG;refine r0N ?_;refine B9D ?_;have q0:=Hrow0.out u hG;have q1:=Hrw.out u hG;refine r0N ?_;refine B9J (rfl) ?_;refine B9K ?_;refine C5 ?_;refine A6 ?_;refine r0E ?_;refine A6 ?_;go_roundw
   case rel=>exact⟨i+1,by omega,by go_num,hG⟩
   case measure=>simp[intOf];omega
  ·obtain rfl:N=i:=by omega
   have hdec:decide ((N:Int)<(N:Int))=false:=by simp
   refine r0T ?_;refine B9D ?_;refine B9J (rfl) ?_;refine B9n ?_;refine B9 ?_;refine B9 ?_;refine E4 ?_;refine A6 ?_;refine r0T ?_;refine rt Tryz.results160 ?_;exact⟨rfl,hG⟩
theorem A7F(A:Option Addr)(c L:Nat)(l:List Rat)(hl:l.length=L)(hL1:1<=L)(hL:L<=1000)(w:World)(h:Lq w A l) :
  Calls Tryz.prog 110 #[.slice A L c] w (G9 (λx:Nat×Nat=>.slice (some ⟨x.1,0,none⟩) L x.2) (λx W=>w.heap.size<=x.1/\W.ownsRow w.heap.size 48 5 (.slice (some ⟨x.1,0,none⟩) L x.2) L (l.flatMap qL)) w) :=
 (A7h A c L l hl.symm (by omega) (by omega) w h).mono λe w' ⟨v,he,ho,hg⟩=>by
  have ho2:=ho;obtain⟨_,h1|⟨g,cap,cur,rfl,hb,-⟩⟩:=ho
  ·exact absurd h1.2 (by omega)
  ·exact⟨(g,cap),he,⟨hb,ho2⟩,hg⟩
theorem B3A:(Tryz.prog.info? 35).map (λi=>(i.zero,i.size,i.bytes))=some (some (.slice none 0 0),1,24):=by kernel_rfl
theorem B6u(n:Nat):madeCells (Value.slice none 0 0).cells (n*1)=(List.replicate n (Value.slice none 0 0)).toArray:=by
 unfold madeCells;refine Array.ext (by simp) λi h1 h2=>?_;simp[Value.cells,Nat.mod_one]
theorem A48(n:Nat)(hn:n<=1048576)(x:Int)(hx:x=n)(W:World):(Instr.makeSlice 39 (.int .i64 x) (.int .i64 x)).run Tryz.prog W =
  .ok (.slice (some ⟨W.heap.size,0,none⟩) n n) (W.alloc (.cells (List.replicate n (Value.slice none 0 0)).toArray 35)):=by
 obtain⟨i0,hi0,hz0,hz1,hz2⟩:=B9T B3A;have hr:=run_make (P:=Tryz.prog) W 39 35 i0 (.slice none 0 0) Tryz.underlying39 hi0 hz0 .i64 .i64 n n (by omega) (by omega) (by rw[hz2];omega) (by omega);rw[hx];rw[hr,hz1];simp only[Int.toNat_natCast];rw[B6u]
def Q4(g cp:Nat->Nat)(L n k:Nat):List Value:=(List.range n).map λt=>if t<k then R6 g cp L t else .slice none 0 0
theorem A0Q(g cp:Nat->Nat)(L n k:Nat):(Q4 g cp L n k).length=n:=by unfold Q4;simp
theorem B1x(g cp:Nat->Nat)(L n:Nat):Q4 g cp L n 0=List.replicate n (.slice none 0 0):=by
 unfold Q4;apply B88
 ·simp
 ·intro i h1 h2;simp
theorem B7x(g cp:Nat->Nat)(L n:Nat):Q4 g cp L n n=A0l g cp L n:=by
 unfold Q4 A0l;refine C0u λj hj=>?_;rw[if_pos (List.mem_range.1 hj)]
def upd(f:Nat->Nat)(k x:Nat):Nat->Nat:=λi=>if i=k then x else f i
theorem B7s{g cp:Nat->Nat}{L n k:Nat}(h:k<n)(x y:Nat):(Q4 g cp L n k).set k (.slice (some ⟨x,0,none⟩) L y)=Q4 (upd g k x) (upd cp k y) L n (k+1):=by
 unfold Q4;apply B88
 ·simp
 ·intro j h1 h2;rw[C0t];simp only[List.getElem_map,List.getElem_range];unfold R6 upd;by_cases e:k=j
  ·subst e;simp
  ·rw[if_neg e];by_cases hj:j<k
   ·rw[if_pos hj,if_pos (by omega),if_neg (λe2=>e e2.symm),if_neg (λe2=>e e2.symm)]
   ·rw[if_neg hj,if_neg (by omega)]
theorem A5k{u v:World}{B n:Nat}(g cp:Nat->Nat)(L:Nat)(hB:B<=u.heap.size)(hn:n<=1048576)(hv:u.alloc (.cells (List.replicate n (Value.slice none 0 0)).toArray 35)=v):v.ownsRow B 35 1 (.slice (some ⟨u.heap.size,0,none⟩) n n) n ((Q4 g cp L n 0).flatMap J8):=by
 subst hv;have h:=World.ownsRow_lit (base:=B) (e:=35) (size:=1) u (List.replicate n (Value.slice none 0 0)).toArray n hB (by unfold maxLen;omega) (by simp);rw[B1x,show(List.replicate n (Value.slice none 0 0)).flatMap J8=List.replicate n (Value.slice none 0 0)from by simp[List.flatMap_singleton']]
 simpa using h
structure MatP(B n L b0:Nat)(g cp:Nat->Nat)(M:Mx)(k:Nat)(W:World):Prop where
 hd:W.ownsRow B 35 1 (.slice (some ⟨b0,0,none⟩) n n) n ((Q4 g cp L n k).flatMap J8)
 row:∀i,i<k->W.ownsRow B 48 5 (.slice (some ⟨g i,0,none⟩) L (cp i)) L ((G1 M L i).flatMap qL)
 inj:∀i j,i<k->j<k->g i=g j->i=j
theorem MatP.grow{B n L b0 k:Nat}{g cp:Nat->Nat}{M:Mx}{W W':World}(h:MatP B n L b0 g cp M k W)(hg:A4 W W'):MatP B n L b0 g cp M k W':=⟨C0 h.hd hg,λi hi=>C0 (h.row i hi) hg,h.inj⟩
theorem MatP.step{B n L b0 k x y:Nat}{g cp:Nat->Nat}{M:Mx}{u W W':World}(h0:MatP B n L b0 g cp M k u)(hG:A4 u W)(hk:k<n)(hx:u.heap.size<=x)(hr:W.ownsRow B 48 5 (.slice (some ⟨x,0,none⟩) L y) L ((G1 M L k).flatMap qL))(hu:C2 W b0 k [.slice (some ⟨x,0,none⟩) L y]=W'):MatP B n L b0 (upd g k x) (upd cp k y) M (k+1) W'/\W.grownBy W' (some b0):=by
 have h:=h0.grow hG;have q1:=R4 (enc:=J8) (size:=1) (ps:=Q4 g cp L n k) (λ_=>rfl) h.hd k (.slice (some ⟨x,0,none⟩) L y) (by rw[A0Q];exact hk);rw[C0F,hu,B7s hk]at q1;have hb0:b0<u.heap.size:=(h0.hd.lt b0 rfl).2;have hne:∀i,i<k->g i≠b0:=λi hi e=>N7 h.hd (h.row i hi) (by decide) b0 rfl (by rw[<-e];rfl);refine⟨⟨q1.1,λi hi=>?_,λi j hi hj e=>?_⟩,q1.2⟩
 ·unfold upd;by_cases e:i=k
  ·subst e;simp only[if_true];exact hr.kept q1.2 (.inr λe2=>by have:=B8y e2;simp only at this;omega)
  ·simp only[if_neg e];exact(h.row i (by omega)).kept q1.2 (.inr λe2=>hne i (by omega) (B8y e2))
 ·have hlt:∀i,i<k->g i<u.heap.size:=λi hi=>((h0.row i hi).lt (g i) rfl).2;unfold upd at e;by_cases e1:i=k
  ·by_cases e2:j=k
   ·omega
   ·rw[if_pos e1,if_neg e2]at e;have:=hlt j (by omega);omega
  ·by_cases e2:j=k
   ·rw[if_neg e1,if_pos e2]at e;have:=hlt i (by omega);omega
   ·rw[if_neg e1,if_neg e2]at e;exact h.inj i j (by omega) (by omega) e
theorem MatP.done{B n L b0:Nat}{g cp:Nat->Nat}{M:Mx}{W:World}(h:MatP B n L b0 g cp M n W):MatW B n L b0 n g cp M W:=⟨by have:=h.hd;rw[B7x]at this;exact this,h.row,h.inj⟩
def F6(X:List (List Rat)):Mx:=λi j=>gq (B7 X i) j
theorem B3B{X:List (List Rat)}{L i:Nat}(h:(B7 X i).length=L):G1 (F6 X) L i=B7 X i:=by
 unfold G1 F6;apply B88
 ·simp[h]
 ·intro j h1 h2;simp only[List.getElem_map,List.getElem_range];unfold gq;rw[B9Y h2];rfl
theorem B28(A:Option Addr)(rs:List Rq)(N Lw c:Nat)(hn:rs.length=N)(hN2:N<=300)(hL1:1<=Lw)(hL2:Lw<=1000)(hrl:∀r∈rs,r.2.2.length=Lw)(w:World)(h:Lrq w A rs) :
  Calls Tryz.prog 193 #[.slice A N c] w (G9 (λx:Nat×(Nat->Nat)×(Nat->Nat)=>.slice (some ⟨x.1,0,none⟩) N N) (λx W=>MatW w.heap.size N Lw x.1 N x.2.1 x.2.2 (F6 (rs.map (·.2.2))) W) w):=by
 have hat:∀i,i<N->∃(bb ob:Nat) (P:Ax),A=some ⟨bb,ob,none⟩/\∀W,A4 w W->W.cell? ⟨bb,ob+i,none⟩=some (.slice P.1 Lw P.2)/\Calls Tryz.prog 110 #[.slice P.1 Lw P.2] W (G9 (λx:Nat×Nat=>.slice (some ⟨x.1,0,none⟩) Lw x.2) (λx W'=>W.heap.size<=x.1/\W'.ownsRow W.heap.size 48 5 (.slice (some ⟨x.1,0,none⟩) Lw x.2) Lw ((G1 (F6 (rs.map (·.2.2))) Lw i).flatMap qL)) W):=λi hi=>by
  obtain⟨bb,ob,P,e,hP⟩:=U9 hn hrl h hi;refine⟨bb,ob,P,e,λW hg=>?_⟩;obtain⟨h4,h5,h6⟩:=hP W hg;refine⟨h4,?_⟩;rw[B3B h6];exact A7F P.1 P.2 Lw _ h6 hL1 hL2 W h5
 obtain⟨M,hM⟩:∃M,M=F6 (rs.map (·.2.2)):=⟨_,rfl⟩
 rw[<-hM];simp only[<-hM]at hat;have hmk:=A48 N (by omega) (N:Int) rfl;have Hat:=B9I hat;have Hmk:=B9I hmk;clear hat hmk hM h hrl hn;go_enter Tryz.func193,Tryz.ntmps193;refine en0 ?_;intro u hG hB hF;refine B9D ?_;have hmk:=Hmk.out;refine M6 ?_;intro K hN;go_wp2_with fail;generalize hv:World.alloc u _=v;have hrow:=A5k (λ_=>0) (λ_=>0) Lw hG.sz (by omega) hv;have hgv:A4 u v:=hv ▸ A4.alloc u _;have hG2:=hG.trans hgv;clear hv hG hB hmk hgv;generalize u.heap.size=b0 at hrow⊢;have Ho:=B9I (MatP.mk hrow (λi hi=>absurd hi (C03 _)) (λi j hi=>absurd hi (C03 _)):MatP w.heap.size N Lw b0 (λ_=>0) (λ_=>0) M 0 v);have hG:=hG2;have hB:=Bx.nil v;have hF:=Fr.nil w;clear hrow hG2;obtain⟨u,rfl⟩:=exQ v;refine NoK.norm (hN _ _ ?_);clear hN K;refine A6 ?_;refine B9D ?_;refine r0T ?_;refine B9l ?_;clear hB hF;go_loopw [11] (λs0 wr=>∃(i:Nat) (g cp:Nat->Nat),i<=N/\s0 = .int .i64 i/\MatP w.heap.size N Lw b0 g cp M i wr/\A4 w wr) (λs0 _=>N-(intOf s0).toNat)
 case atStart=>exact⟨0,_,_,B9a _,rfl,Ho.out,hG⟩
 case round =>
  clear hG Ho;obtain⟨i,g,cp,hi,rfl,ho,hG⟩:=hrel;obtain⟨u,rfl⟩:=exQ wr;have Ho:=B9I ho;have hB:=Bx.nil u;have hF:=Fr.nil w;clear ho;rcases B8t i N with hlt|hge
  ·have hdec:decide ((i:Int)<(N:Int))=true:=by simp;omega
   have hin:(i:Int)<(N:Int):=by omega
   obtain⟨bb,ob,P,rfl,hrd⟩:=Hat.out i hlt;have Hrd:=B9I hrd;clear hrd;refine r0T ?_;refine B9D ?_;refine B9L (rfl) ?_;refine B9K ?_;refine A6 ?_;refine B9D ?_;refine B9l ?_;refine B9D ?_;have q0:=(Hrd.out u hG).1;refine r0N ?_;obtain⟨u5,hu5⟩:=exQ u;have Hcl:=B9I (λW (hg:A4 u W)=>((Hrd.out W (hG.trans hg)).2).mono λe w' ⟨x,g1,g2,g3⟩=>(⟨x,g1,⟨B9A hg.size g2.1,g2.2.mono (hG.trans hg).sz⟩,g3⟩:G9 (λx:Nat×Nat=>.slice (some ⟨x.1,0,none⟩) Lw x.2) (λx W'=>u.heap.size<=x.1/\W'.ownsRow w.heap.size 48 5 (.slice (some ⟨x.1,0,none⟩) Lw x.2) Lw ((G1 M Lw i).flatMap qL)) W e w'));rw[<-hu5]at Ho;refine rsC A8 [0,0,0,1,0] hB hG λK L hN hL=>?_;refine gs ?_;refine gxd (X:=(Nat×Nat)) (λx:Nat×Nat=>.slice (some ⟨x.1,0,none⟩) Lw x.2) (λx W'=>u5.heap.size<=x.1/\W'.ownsRow w.heap.size 48 5 (.slice (some ⟨x.1,0,none⟩) Lw x.2) Lw ((G1 M Lw i).flatMap qL)) (λx u u' hg h=>⟨h.1,C0 h.2 hg⟩) (λx19=>?_) (C:=by(rintro v ⟨hgu,hB,hG,-⟩;exact(hu5 ▸ Hcl.out _ hgu)));refine gs ?_;refine geC hL ?_;clear hB hG hL L;rintro u ⟨⟨hgu,hB,hG,-⟩,hx19⟩;have hG5:A4 u5 u:=hu5 ▸ hgu;have Hx:=B9I hx19;have hsp:=X6 (enc:=J8) (size:=1) (λ_=>rfl) (Ho.out.grow hG5).hd (A0Q g cp Lw N i).symm i 0 (by rw[A0Q];exact hlt) (by omega);have hfz:=(Ho.out.grow hG5).hd.frozenAt;rw[C0F,Nat.add_zero,show(J8 ((Q4 g cp Lw N i)[i]'(by rw[A0Q];exact hlt)))[0]?=some ((Q4 g cp Lw N i)[i]'(by rw[A0Q];exact hlt))from rfl]at hsp;clear hx19 Hcl;clear hgu;refine gt ?_;clear hN K;clear hsp hfz;generalize hu0:World.setCell u _ _=u0;have hu1:C2 u b0 i [.slice (some ⟨x19.1,0,none⟩) Lw x19.2]=u0:=hu0;have hP:=MatP.step Ho.out hG5 hlt Hx.out.1 Hx.out.2 hu1;have hG2:=N4 (Ho.out.grow hG5).hd hG hP.2;have Ho2:=B9I hP.1;clear hG hB Ho hP hu1 hu0 hG5 Hx hu5;have hG:=hG2;have hB:=Bx.nil u0;have hF:=Fr.nil w;have Ho:=Ho2;clear hG2 Ho2 u5;obtain⟨u,rfl⟩:=exQ u0;refine C5 ?_;refine A6 ?_;refine r0E ?_;refine A6 ?_;go_roundw
   case rel=>exact⟨i+1,_,_,by omega,by go_num,Ho.out,hG⟩
   case measure=>simp[intOf];omega
  ·obtain rfl:N=i:=by omega
   have hdec:decide ((N:Int)<(N:Int))=false:=by simp
   have HL:=B9I Ho.out.done;clear Ho;refine r0T ?_;refine B9D ?_;refine B9J (rfl) ?_;refine B9n ?_;refine B9 ?_;refine B9 ?_;refine E4 ?_;refine A6 ?_;refine r0T ?_;refine rt Tryz.results193 ?_;exact⟨(b0,g,cp),rfl,HL.out,hG⟩
end Go.Proofs.YtgpglgbcobeogaaGreatDoor
namespace Go.Proofs.YtgpglgbcobeogaaGreatDoor
open Go Go.RowKit
theorem B3j{P:Program}{fn:Func}{R:Ending->World->Prop}{a:Act}{w:World}(hd:a.defers=[])(hr:(results fn a.tmps).run P w = .ok (.tuple #[]) w)(h:R (.returned (.tuple #[])) w):bodyPost P fn R .normal a w:=bodyPost_end hr hd h
theorem F0{a b c:World}{r:Option Nat}(h:a.grownBy b r)(hg:A4 b c):a.grownBy c r:=A3G h ⟨hg.os,hg.tape,hg.output,hg.size,λk hk _=>hg.block k hk⟩
theorem A44(a:World)(r:Option Nat):a.grownBy a r:=⟨rfl,rfl,rfl,B8s _,λ_ _ _=>rfl⟩
theorem A1f{a u u':World}{r:Option Nat}{b i:Nat}{vs:List Value}(h:a.grownBy u r)(hb:a.heap.size<=b)(hu:C2 u b i vs=u'):a.grownBy u' r:=by
 subst hu;have h2:=V6 b vs i u;exact⟨h2.os.trans h.os,h2.tape.trans h.tape,h2.output.trans h.output,B9A h.size h2.size,λk hk hne=>(h2.block k (B9N hk h.size) (λe=>by have:=B8y e;omega)).trans (h.block k hk hne)⟩
theorem A1r{a u u':World}{g:Nat}(h:a.grownBy u (some g))(h2:u.grownBy u' (some g)):a.grownBy u' (some g):=A3G h h2
theorem A89{q:Rat}:(q.num.sign != 0) = !decide (q=0):=by
 by_cases h:q=0
 ·subst h;rfl
 ·have h1:q.num≠0:=λe=>h (Rat.num_eq_zero.1 e);have h2:q.num.sign≠0:=λe=>h1 (Int.sign_eq_zero_iff_zero.1 e);simp[h,h2]
theorem A8m{q:Rat}:(q.num.sign == 0)=decide (q=0):=by
 by_cases h:q=0
 ·subst h;rfl
 ·have h1:q.num≠0:=λe=>h (Rat.num_eq_zero.1 e);have h2:q.num.sign≠0:=λe=>h1 (Int.sign_eq_zero_iff_zero.1 e);simp[h,h2]
theorem B7Q{B n L b0 c0:Nat}{g cp:Nat->Nat}{M:Mx}(hn:n<=300)(top col:Nat)(ht:top<=n)(hc:col<L)(hL:L<=1000)(hs:∀i,i<n->qs (M i col)<=BIG)(w:World)(h:MatW B n L b0 c0 g cp M w) :
  Calls Tryz.prog 194 #[.slice (some ⟨b0,0,none⟩) n c0,.int .i64 (top:Nat),.int .i64 (col:Nat)] w λe w'=>e = .returned (.int .i64 (if M3 M n top col<n then(M3 M n top col:Nat)else -1))/\A4 w w':=by
 have hBm:=J7;obtain⟨q1,q2,q3,q4⟩:=A2e (λi=>decide (M i col=0)) (n-top) top;have hPle:M3 M n top col<=n:=by unfold M3;omega
 have hPge:top<=M3 M n top col:=q1;have hzero:=(A1e M n top col).2;have hnz:=(A1e M n top col).1;have hat:∀i,i<n->∀W,A4 w W->W.cell? ⟨b0,i,none⟩=some (.slice (some ⟨g i,0,none⟩) L (cp i))/\Cq W (g i) (col*5) (M i col):=λi hi W hg=>⟨(h.grow hg).read hi,(h.grow hg).cq hi hc⟩
 obtain⟨P,hP⟩:∃P,P=M3 M n top col:=⟨_,rfl⟩
 rw[<-hP]at hPle hPge hzero hnz⊢;obtain⟨R,hR⟩:∃r:Int,r=(if P<n then(P:Int)else -1):=⟨_,rfl⟩
 rw[<-hR];have hcL:(col:Int)<(L:Int):=by omega
 have Hat:=B9I hat;have Hz:=B9I hzero;have Hnz:=B9I hnz;have HR:=B9I hR;have Hs:=B9I hs;clear hat hzero hnz hR hs q1 q2 q3 q4 hP h;go_enter Tryz.func194,Tryz.ntmps194;refine en0 ?_;intro u hG hB hF;refine B9D ?_;refine r0T ?_;refine B9l ?_;clear hB hF;go_loopw [7] (λs0 wr=>∃i:Nat,top<=i/\i<=P/\s0 = .int .i64 i/\A4 w wr) (λs0 _=>n-(intOf s0).toNat)
 case atStart=>exact⟨top,B8s _,hPge,rfl,hG⟩
 case round =>
  clear hG;obtain⟨i,hti,hi,rfl,hG⟩:=hrel;obtain⟨u,rfl⟩:=exQ wr;have hB:=Bx.nil u;have hF:=Fr.nil w;rcases B8t i n with hlt|hge
  ·have hdec:decide ((i:Int)<(n:Int))=true:=by simp;omega
   have hin:(i:Int)<(n:Int):=by omega
   have hrd:=Hat.out i hlt;have zs:=Hs.out i hlt;have hsn:=@A89 (M i col);have hsg:=λW=>M8 (M i col) (by have:=G3 (M i col);omega) W;have hz:=λh=>Hz.out i hti h;have hnz:i=P->M i col≠0:=λe=>by
    subst e;exact(Hnz.out hlt).2
   obtain⟨X,hX⟩:∃X,X=M i col:=⟨_,rfl⟩
   rw[<-hX]at hsn hsg hz hnz;simp only[<-hX]at hrd;obtain⟨S,hS⟩:∃S,S=X.num.sign:=⟨_,rfl⟩
   rw[<-hS]at hsn;simp only[<-hS]at hsg;have Hrd:=B9I hrd;have Hsg:=B9I hsg;clear hrd hsg hX zs hS;by_cases hiP:i<P
   ·have fS:(S != 0)=false:=by rw[hsn,B9x (hz hiP)];rfl
    clear hsn hz hnz;refine B9D ?_;refine r0T ?_;refine B9L (rfl) ?_;refine B9K ?_;refine A6 ?_;refine B9D ?_;refine B9l ?_;refine B9D (rsE A8 [0,0,0,0,0,0,0,1,0] hB hG λL hL=>?_)
    repeat first|refine gya ?_|refine gyr ?_|refine gna ?_|refine gyb (by(rintro v ⟨hgu,hB,hG,-⟩ N hN;have r:=hB.r;simp only[BxR]at r;obtain⟨q0,y1,y2,y3,y4,y5⟩:=Hrd.out v hG;go_simp;exact hN)) ?_
    refine gmw (C:=λv=>Hsg.out _) ?_;refine gs ?_;refine geT hL ?_;clear hB hG hL L;rintro u ⟨-,hB,hG,-⟩;refine B9J (rfl) ?_;refine B9K ?_;refine C5 ?_;refine A6 ?_;refine r0E ?_;refine A6 ?_;go_roundw
    case rel=>exact⟨i+1,by omega,by omega,by go_num,hG⟩
    case measure=>simp[intOf];omega
   ·have eP:P=i:=by omega
    have fS:(S != 0)=true:=by rw[hsn,B92 (hnz eP.symm)];rfl
    have HR2:=B9I (show R=(i:Int)by rw[HR.out,eP,if_pos hlt]);clear hsn hz hnz hiP eP;refine B9D ?_;refine r0T ?_;refine B9L (rfl) ?_;refine B9K ?_;refine A6 ?_;refine B9D ?_;refine B9l ?_;refine B9D (rsE A8 [0,0,0,0,0,0,0,1,0] hB hG λL hL=>?_)
    repeat first|refine gya ?_|refine gyr ?_|refine gna ?_|refine gyb (by(rintro v ⟨hgu,hB,hG,-⟩ N hN;have r:=hB.r;simp only[BxR]at r;obtain⟨q0,y1,y2,y3,y4,y5⟩:=Hrd.out v hG;go_simp;exact hN)) ?_
    refine gmw (C:=λv=>Hsg.out _) ?_;refine gs ?_;refine geT hL ?_;clear hB hG hL L;rintro u ⟨-,hB,hG,-⟩;refine B9L (rfl) ?_;refine r0T ?_;refine rt Tryz.results194 ?_;exact⟨by rw[HR2.out],hG⟩
  ·have eP:¬P<n:=by omega
   obtain rfl:n=i:=by omega
   have hdec:decide ((n:Int)<(n:Int))=false:=by simp
   have HR2:=B9I (show R = -1 by rw[HR.out,if_neg eP]);clear eP;refine B9D ?_;refine r0T ?_;refine B9J (rfl) ?_;refine B9n ?_;refine B9 ?_;refine B9 ?_;refine E4 ?_;refine A6 ?_;refine r0T ?_;refine rt Tryz.results194 ?_;exact⟨by rw[HR2.out],hG⟩
theorem B1d{M:Mx}{i t L:Nat}:J4 M i t 0 L=M:=by
 funext i' j;unfold J4;split
 ·unfold D9 D5;grind
 ·rfl
theorem B25{M:Mx}{i t:Nat}{k:Rat}:J4 M i t k 0=M:=by
 funext i' j;unfold J4;rw[if_neg (by omega)]
theorem B2t{M:Mx}{i t j i' j':Nat}{k:Rat}(h:i'≠i):J4 M i t k j i' j'=M i' j':=by
 unfold J4;rw[if_neg (λe=>h e.1)]
theorem B6d{M:Mx}{i t j i' j':Nat}{k:Rat}(h:j<=j'):J4 M i t k j i' j'=M i' j':=by
 unfold J4;rw[if_neg (by omega)]
theorem B5g{M:Mx}{i t j:Nat}{k:Rat}(ht:t≠i):A0A (J4 M i t k j) i j (D9 (M i j) (D5 k (M t j)))=J4 M i t k (j+1):=by
 funext i' j';unfold A0A J4;by_cases e1:i'=i
 ·subst e1;by_cases e2:j'=j
  ·subst e2;simp
  ·rw[if_neg (λe=>e2 e.2)];by_cases e3:j'<j
   ·rw[if_pos ⟨rfl,e3⟩,if_pos ⟨rfl,by omega⟩]
   ·rw[if_neg (by omega),if_neg (by omega)]
 ·rw[if_neg (λe=>e1 e.1),if_neg (λe=>e1 e.1),if_neg (λe=>e1 e.1)]
theorem B6X{M:Mx}{i t j:Nat}{k:Rat}(h:M t j=0):J4 M i t k j=J4 M i t k (j+1):=by
 funext i' j';unfold J4;by_cases e1:i'=i
 ·subst e1;by_cases e2:j'=j
  ·subst e2;rw[if_neg (by omega),if_pos ⟨rfl,by omega⟩,h];unfold D9 D5;grind
  ·by_cases e3:j'<j
   ·rw[if_pos ⟨rfl,e3⟩,if_pos ⟨rfl,by omega⟩]
   ·rw[if_neg (by omega),if_neg (by omega)]
 ·rw[if_neg (λe=>e1 e.1),if_neg (λe=>e1 e.1)]
theorem B37{B n Lw b0 c0:Nat}{g cp:Nat->Nat}{M:Mx}(hLw:Lw<=1000)(i t:Nat)(hi:i<n)(ht:t<n)(hit:t≠i)(k:Rat)(s:Nat)(hk:qs k<=s)(hs1:∀j,j<Lw->qs (M i j)<=s)(hs2:∀j,j<Lw->qs (M t j)<=s)(hBz:4*s+10<=BIG)(w0 w:World)(hG0:A4 w0 w)(hB0:w0.heap.size<=B)(h:MatW B n Lw b0 c0 g cp M w)(HT:Tab w0) :
  Calls Tryz.prog 195 #[R6 g cp Lw i,R6 g cp Lw t,qV k] w λe w'=>e = .returned (.tuple #[])/\MatW B n Lw b0 c0 g cp (J4 M i t k Lw) w'/\w.grownBy w' (some (g i)):=by
 have hBm:=J7;have hsk:=@A8m k;have hsg:=λW=>M8 k (by have:=G3 k;omega) W;obtain⟨S,hS⟩:∃S,S=k.num.sign:=⟨_,rfl⟩
 rw[<-hS]at hsk;simp only[<-hS]at hsg;have Hm:=B9I h;have Hsg:=B9I hsg;have HG0:=B9I hG0;have Hs1:=B9I hs1;have Hs2:=B9I hs2;by_cases hk0:k=0
 ·have e0:J4 M i t k Lw=M:=by rw[hk0];exact B1d
  rw[e0];have fS:(S == 0)=true:=by rw[hsk];exact B9x hk0
  clear hsk hS hsg h hG0 hs1 hs2 hk0 e0;go_enter Tryz.func195,Tryz.ntmps195;refine en1 ?_;intro u hG b5 hB hF;refine B9D ?_;refine B9D (rsE A8 [0,1,0] hB hG λL hL=>?_);refine gs ?_;refine gmw (C:=λv=>Hsg.out _) ?_;refine gs ?_;refine geT hL ?_;clear hB hG hL L;rintro u ⟨-,hB,hG,-⟩;refine B9L (rfl) ?_;refine rt Tryz.results195 ?_;exact⟨rfl,Hm.out.grow hG,F0 (A44 _ _) hG⟩
 ·have fS:(S == 0)=false:=by rw[hsk];exact B92 hk0
  clear hsk hS hsg h hG0 hs1 hs2;go_enter Tryz.func195,Tryz.ntmps195;refine en1 ?_;intro u hG b5 hB hF;refine B9D ?_;refine B9D (rsE A8 [0,1,0] hB hG λL hL=>?_);refine gs ?_;refine gmw (C:=λv=>Hsg.out _) ?_;refine gs ?_;refine geT hL ?_;clear hB hG hL L;rintro u ⟨-,hB,hG,-⟩;refine B9J (rfl) ?_;refine B9K ?_;refine A6 ?_;refine r0T ?_;have hG2:=HG0.out.trans hG;have h5w:=hF.1 b5 (by simp);have hgb:=F0 (A44 w (some (g i))) hG;have hm:=Hm.out.grow hG;have hgi:=(Hm.out.glt hi).2;have h05:w0.heap.size<=b5:=B9A HG0.out.size h5w;clear hG hF HG0 Hm;obtain⟨w1,rfl⟩:=exQ w;obtain⟨w,rfl⟩:=exQ w0;have hG:=hG2
  have hF:Fr w [b5]:=⟨λb hb=>by
   have e:b=b5:=by simpa using hb
   rw[e]
   exact h05,by simp⟩
  clear hG2;refine B9l ?_;clear hF;go_loopw [13] (λs0 wr=>∃j:Nat,j<=Lw/\s0 = .int .i64 j/\MatW B n Lw b0 c0 g cp (J4 M i t k j) wr/\Bx wr [(b5,48,L9 k)]/\A4 w wr/\w1.grownBy wr (some (g i))) (λs0 _=>Lw-(intOf s0).toNat)
  case atStart=>exact⟨0,B9a _,rfl,by rw[B25];exact hm,hB,hG,hgb⟩
  case round =>
   clear hB hG hm hgb;obtain⟨j,hj,rfl,hm,hB,hG,hgb⟩:=hrel;obtain⟨u,rfl⟩:=exQ wr
   have hF:Fr w [b5]:=⟨λb hb=>by
    have e:b=b5:=by simpa using hb
    rw[e]
    exact h05,by simp⟩
   rcases B8t j Lw with hlt|hge
   ·have hdec:decide ((j:Int)<(Lw:Int))=true:=by simp;omega
    have hjn:(j:Int)<(Lw:Int):=by omega
    obtain⟨M',hM'⟩:∃M',M'=J4 M i t k j:=⟨_,rfl⟩
    have et:M' t j=M t j:=by rw[hM'];exact B2t hit
    have ei:M' i j=M i j:=by rw[hM'];exact B6d (B8s _)
    rw[<-hM']at hm;have hrt:=λW (hg:A4 u W)=>(hm.grow hg).cq ht hlt;rw[et]at hrt;have z1:=Hs1.out j hlt;have z2:=Hs2.out j hlt;have hst:=B5g (M:=M) (j:=j) (k:=k) hit;have hsp:=λh=>B6X (M:=M) (i:=i) (t:=t) (j:=j) (k:=k) h;rw[<-hM']at hst hsp;obtain⟨X,hX⟩:∃X,X=M t j:=⟨_,rfl⟩
    obtain⟨Y,hY⟩:∃X,X=M i j:=⟨_,rfl⟩
    rw[<-hX]at hst hsp z2;simp only[<-hX]at hrt;rw[<-hY]at hst z1 ei;have hsx:=@A89 X;have hsg:=λW=>M8 X (by have:=G3 X;omega) W;obtain⟨S2,hS2⟩:∃S,S=X.num.sign:=⟨_,rfl⟩
    rw[<-hS2]at hsx;simp only[<-hS2]at hsg;have z3:=Z8 k X;have hml:=λW hT=>A0q k X W (by omega) hT;obtain⟨D,hD⟩:∃D,D=D5 k X:=⟨_,rfl⟩
    rw[<-hD]at hst;simp only[<-hD]at hml;have z4:qs D<=s+s:=by rw[hD];unfold D5;omega
    have hsb:=λW hT=>A16 Y D W (by omega) hT;obtain⟨E,hE⟩:∃D',D'=D9 Y D:=⟨_,rfl⟩
    rw[<-hE]at hst;simp only[<-hE]at hsb;have Hrt:=B9I hrt;have Hei:=B9I ei;have Hst:=B9I hst;have Hsg2:=B9I hsg;have Hml:=B9I hml;have Hsb:=B9I hsb;have Hm:=B9I hm;have Hgb:=B9I hgb;clear hrt ei hst hsg hml hsb hm hgb hX hY hD hE hS2 et hM' z1 z2 z3 z4;by_cases hx0:X=0
    ·have fX:(S2 != 0)=false:=by rw[hsx,B9x hx0];rfl
     have Hsp:=B9I (hsp hx0);clear hsx hsp hx0;refine r0T ?_;refine B9D ?_;refine B9L (rfl) ?_;refine B9K ?_;refine A6 ?_;refine B9D ?_;refine B9l ?_;refine B9D (rsC A8 [0,0,0,2,0] hB hG λK L hN hL=>?_)
     repeat first|refine gya ?_|refine gyr ?_|refine gna ?_|refine gyb (by(rintro v ⟨hgu,hB,hG,-⟩ N hN;have r:=hB.r;simp only[BxR]at r;(first|obtain⟨y1,y2,y3,y4,y5⟩:=Hrt.out v hgu|skip);go_simp;exact hN)) ?_
     refine gaa (G6 _ _ _ _ _) λb7 hb7 hn7=>?_;refine gs ?_;replace hF:=hF.n1 [] hB hG hb7 hn7;refine geC hL ?_;clear hB hG hL L;rintro u ⟨⟨hgu,hB,hG,-⟩,h7⟩;replace hB:=hB.cons' h7;clear h7;clear Hrt;obtain⟨hfr1,hfr2⟩:=Hm.out.fresh hb7;have hw17:w1.heap.size<=b7:=B9A Hgb.out.size hb7;have Hm2:=B9I (Hm.out.grow hgu);have Hgb2:=B9I (F0 Hgb.out hgu);clear Hm Hgb;have Hm:=Hm2;have Hgb:=Hgb2;clear Hm2 Hgb2;clear hb7 hn7;clear hgu;refine gtT ?_;clear hN K;refine sv hB hF hG 0 0 [_,_,_,_,_] ?_;intro u hu hBG;have Hm2:=B9I (Hm.out.over ⟨hfr1,hfr2⟩ hu);have Hgb2:=B9I (A1f Hgb.out hw17 hu);clear hB hG Hm Hgb hu hfr1 hfr2 hw17;have Hm:=Hm2;have Hgb:=Hgb2;clear Hm2 Hgb2;obtain⟨hB,hG⟩:=hBG;refine B9D (rsE A8 [0,1,0] hB hG λL hL=>?_)
     repeat first|refine gya ?_|refine gyr ?_|refine gna ?_|refine gyb (by(rintro v ⟨hgu,hB,hG,-⟩ N hN;have r:=hB.r;simp only[BxR]at r;(first|obtain⟨y1,y2,y3,y4,y5⟩:=Hrt.out v hgu|skip);go_simp;exact hN)) ?_
     refine gmw (C:=λv=>Hsg2.out _) ?_;refine gs ?_;refine geT hL ?_;clear hB hG hL L;rintro u ⟨hgu,hB,hG,-⟩;have Hm2:=B9I (Hm.out.grow hgu);have Hgb2:=B9I (F0 Hgb.out hgu);clear Hm Hgb;have Hm:=Hm2;have Hgb:=Hgb2;clear Hm2 Hgb2;clear hgu;refine B9J (rfl) ?_;refine B9K ?_;refine C5 ?_;refine A6 ?_;refine r0E ?_;refine A6 ?_;go_roundw
     case rel=>exact⟨j+1,by omega,by go_num,Hsp.out ▸ Hm.out,hB.tail,hG,Hgb.out⟩
     case measure=>simp[intOf];omega
    ·have fX:(S2 != 0)=true:=by rw[hsx,B92 hx0];rfl
     clear hsx hsp hx0;refine r0T ?_;refine B9D ?_;refine B9L (rfl) ?_;refine B9K ?_;refine A6 ?_;refine B9D ?_;refine B9l ?_;refine B9D (rsC A8 [0,0,0,2,0] hB hG λK L hN hL=>?_)
     repeat first|refine gya ?_|refine gyr ?_|refine gna ?_|refine gyb (by(rintro v ⟨hgu,hB,hG,-⟩ N hN;have r:=hB.r;simp only[BxR]at r;(first|obtain⟨y1,y2,y3,y4,y5⟩:=Hrt.out v hgu|obtain⟨y1,y2,y3,y4,y5⟩:=Hri.out v hgu|skip);go_simp;exact hN)) ?_
     refine gaa (G6 _ _ _ _ _) λb7 hb7 hn7=>?_;refine gs ?_;replace hF:=hF.n1 [] hB hG hb7 hn7;refine geC hL ?_;clear hB hG hL L;rintro u ⟨⟨hgu,hB,hG,-⟩,h7⟩;replace hB:=hB.cons' h7;clear h7;clear Hrt;obtain⟨hfr1,hfr2⟩:=Hm.out.fresh hb7;have hw17:w1.heap.size<=b7:=B9A Hgb.out.size hb7;have Hm2:=B9I (Hm.out.grow hgu);have Hgb2:=B9I (F0 Hgb.out hgu);clear Hm Hgb;have Hm:=Hm2;have Hgb:=Hgb2;clear Hm2 Hgb2;clear hb7 hn7;clear hgu;refine gtT ?_;clear hN K;refine sv hB hF hG 0 0 [_,_,_,_,_] ?_;intro u hu hBG;have Hm2:=B9I (Hm.out.over ⟨hfr1,hfr2⟩ hu);have Hgb2:=B9I (A1f Hgb.out hw17 hu);clear hB hG Hm Hgb hu hfr1 hfr2 hw17;have Hm:=Hm2;have Hgb:=Hgb2;clear Hm2 Hgb2;obtain⟨hB,hG⟩:=hBG;refine B9D (rsE A8 [0,1,0] hB hG λL hL=>?_)
     repeat first|refine gya ?_|refine gyr ?_|refine gna ?_|refine gyb (by(rintro v ⟨hgu,hB,hG,-⟩ N hN;have r:=hB.r;simp only[BxR]at r;(first|obtain⟨y1,y2,y3,y4,y5⟩:=Hrt.out v hgu|obtain⟨y1,y2,y3,y4,y5⟩:=Hri.out v hgu|skip);go_simp;exact hN)) ?_
     refine gmw (C:=λv=>Hsg2.out _) ?_;refine gs ?_;refine geT hL ?_;clear hB hG hL L;rintro u ⟨hgu,hB,hG,-⟩;have Hm2:=B9I (Hm.out.grow hgu);have Hgb2:=B9I (F0 Hgb.out hgu);clear Hm Hgb;have Hm:=Hm2;have Hgb:=Hgb2;clear Hm2 Hgb2;clear hgu;refine B9L (rfl) ?_;have Hri:=B9I (λW (hg:A4 u W)=>Hei.out ▸ (Hm.out.grow hg).cq hi hlt);refine rdC A8 [] [(0,0),(0,1),(0,2),(0,3),(0,4),(0,5),(0,6),(0,7),(1,8),(1,9),(0,10)] hB hG λK L hN hL=>?_
     repeat first|refine gya ?_|refine gyr ?_|refine gna ?_|refine gyb (by(rintro v ⟨hgu,hB,hG,-⟩ N hN;have r:=hB.r;simp only[BxR]at r;(first|obtain⟨y1,y2,y3,y4,y5⟩:=Hrt.out v hgu|obtain⟨y1,y2,y3,y4,y5⟩:=Hri.out v hgu|skip);go_simp;exact hN)) ?_
     refine gmd (C:=λv ⟨hgu,hB,hG,_⟩=>Hml.out _ (HT.grow hG)) ?_;refine gmd (C:=λv ⟨hgu,hB,hG,_⟩=>Hsb.out _ (HT.grow hG)) ?_;refine gs ?_;refine geC hL ?_;clear hB hG hL L;rintro u ⟨hgu,hB,hG,-⟩;clear Hri;have Hm2:=B9I (Hm.out.grow hgu);have Hgb2:=B9I (F0 Hgb.out hgu);clear Hm Hgb;have Hm:=Hm2;have Hgb:=Hgb2;clear Hm2 Hgb2;obtain⟨o0,o1,o2,o3,o4⟩:=Hm.out.cq hi hlt;have hfz:=(Hm.out.row i hi).frozenAt;clear hgu;refine gt ?_;clear hN K;clear o0 o1 o2 o3 o4 hfz;generalize hu0:World.setCell (World.setCell (World.setCell (World.setCell (World.setCell u _ _) _ _) _ _) _ _) _ _=u0;have hu1:C2 u (g i) (j*5) (qL E)=u0:=hu0;have hP:=Hm.out.put hi hlt E rfl hu1;rw[Hst.out]at hP
     have hG2:A4 w u0:=hG.grown hP.2 (λk hk=>by
      have e:=B8y hk;have:=(Hm.out.glt hi).1
      omega)
     have hB2:=hB.tail.grown_ hP.2 (λe he hxe=>by
      have e1:e=_:=List.mem_singleton.1 he;subst e1;have:=B8y hxe;simp only at this
      omega)
     have Hgb2:=B9I (A1r Hgb.out hP.2);have Hm2:=B9I hP.1;clear hG hB Hm Hgb hP hu1 hu0;have hG:=hG2;have hB:=hB2;have Hm:=Hm2;have Hgb:=Hgb2;clear hG2 hB2 Hm2 Hgb2;obtain⟨u,rfl⟩:=exQ u0;refine C5 ?_;refine A6 ?_;refine r0E ?_;refine A6 ?_;go_roundw
     case rel=>exact⟨j+1,by omega,by go_num,Hm.out,hB,hG,Hgb.out⟩
     case measure=>simp[intOf];omega
   ·obtain rfl:Lw=j:=by omega
    have hdec:decide ((Lw:Int)<(Lw:Int))=false:=by simp
    have Hm:=B9I hm;have Hgb:=B9I hgb;clear hm hgb;refine r0T ?_;refine B9D ?_;refine B9J (rfl) ?_;refine B9n ?_;refine B9 ?_;refine B9 ?_;refine E4 ?_;refine B3j rfl (results_none rfl _ _ _) ⟨rfl,Hm.out,Hgb.out⟩
end Go.Proofs.YtgpglgbcobeogaaGreatDoor
