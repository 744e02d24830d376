import Derived.Test.YtgpglgbcobeogaaGreatDoorL30
set_option linter.unusedSimpArgs false
set_option linter.unusedVariables false
set_option maxHeartbeats 4000000
set_option maxRecDepth 100000
namespace Go.Proofs
open Go.Shelf
def Tryz.cloneQ_ren:Go.Shelf.Ren:=⟨fun|41=>110|n=>n,fun|22=>35|23=>48|4=>4|n=>n,fun|n=>n⟩
theorem Tryz.cloneQ:Go.Proofs.SlLaysE0.n41 Tryz.prog Tryz.cloneQ_ren:={
 mixed:=by kernel_rfl
 f41:=⟨Tryz.f110.name,by decide,Tryz.func110.trans (congrArg some (by kernel_rfl))⟩
 t4:=Tryz.underlying4
 a4:=Tryz.isAgg4
 z4:=Tryz.sizeOf4
 v4:=Tryz.zeroValue4
 t22:=Tryz.underlying35
 a22:=Tryz.isAgg35
 z22:=Tryz.sizeOf35
 v22:=Tryz.zeroValue35 }
end Go.Proofs
namespace Go.Proofs.YtgpglgbcobeogaaGreatDoor
open Go Go.RowKit Go.Shelf
theorem B6X(A:Option Addr)(c n:Nat)(l:List Rat)(hn:n=l.length)(hn0:0<n)(hm:n<=1099511627776)(w:World)(h:Lq w A l) :
  Calls Tryz.prog 110 #[.slice A n c] w λe w'=>∃v,e = .returned v/\w'.ownsRow w.heap.size 48 5 v n (l.flatMap qL)/\A4 w w':=by
 obtain⟨b,off,rfl,hb,hc⟩:=h (λe=>by rw[e]at hn;simp at hn;omega);obtain⟨-,⟨i0,z,hi,hz,h1,h2,h3⟩,-⟩:=A3S;refine(AnyE.slices_Clone Tryz.cloneQ i0 z 5 56 hi hz h1 h2 h3 (by omega) Tryz.sizeOf48 b off n c (l.flatMap qL) w (by rw[A1I];omega) (by unfold maxLen;omega) (by omega) ?_ ?_).mono ?_
 ·intro t u hu;have htl:=(List.getElem?_eq_some_iff.1 hu).1;rw[A1I]at htl;have hq:l[t/5]?=some (l[t/5]'(by omega)):=B8i (by omega);have h6:=A3t l hq (j:=t%5) (by omega);rw[show t/5*5+t%5=t by omega,hu]at h6;have h7:=hc _ _ hq _ _ h6.symm
  rwa [show off+t/5*5+t%5=off+t by omega]at h7
 ·intro u hu;obtain⟨q,-,hq⟩:=List.mem_flatMap.1 hu;simp[qL]at hq;rcases hq with rfl|rfl|rfl|rfl|rfl<;>rfl
 ·rintro e w' ⟨v',rfl,ho,hne,hg⟩;exact⟨v',rfl,ho,hg⟩
theorem A8g(A:Option Addr)(rs:List Rq)(N L c:Nat)(hn:rs.length=N)(hN:1<=N)(hN2:N<=300)(hL1:1<=L)(hrl:∀r∈rs,r.2.2.length=L)(w:World)(h:Lrq w A rs) :
  Calls Tryz.prog 160 #[.slice A N c] w λe w'=>e = .returned (.bool true)/\A4 w w':=by
 obtain⟨bb,ob,rfl⟩:=h.addr (by omega);have hrow:∀i,i<N->∃(Ar:Option Addr) (cr:Nat),∀W,A4 w W->W.cell? ⟨bb,ob+i,none⟩=some (.slice Ar L cr):=λi hi=>by
  have hil:i<rs.length:=by omega
  refine⟨rs[i].1,rs[i].2.1,λW hg=>?_⟩;have h3:=((h.grow hg).read (B8i hil)).1;rw[hrl _ (B8G hil)]at h3;exact h3
 obtain⟨A0,c0,hrow0⟩:=hrow 0 (by omega);rw[Nat.add_zero]at hrow0;have f1:((N:Int) == 0)=false:=by simp;omega
 have f1n:decide (N=0)=false:=by simp;omega
 have f4:((L:Int) == 0)=false:=by simp;omega
 have f4n:decide (L=0)=false:=by simp;omega
 have f6:((L:Int) != (L:Int))=false:=by simp
 have hni:(0:Int)<(N:Int):=by omega
 have hnp:0<N:=by omega
 have fn:decide ((0:Int)<(N:Int))=true:=by simp;omega
 have fnn:decide (0<N)=true:=by simp;omega
 have Hrow:=B8S hrow;have Hrow0:=B8S hrow0;clear hrow hrow0 h hrl hn;go_enter Tryz.func160,Tryz.ntmps160;refine en0 ?_;intro u hG hB hF;refine B8N ?_;refine B8N ?_;have q0:=Hrow0.out u hG;refine r0N ?_;refine B8T (rfl) ?_;refine B8U ?_;refine A6 ?_;refine B8N ?_;refine r0T ?_;refine B8v ?_;clear hB hF;go_loopw [17] (λs0 wr=>∃i:Nat,i<=N/\s0 = .int .i64 i/\A4 w wr) (λs0 _=>N-(intOf s0).toNat)
 case atStart=>exact⟨0,B8k _,rfl,hG⟩
 case round =>
  clear hG;obtain⟨i,hi,rfl,hG⟩:=hrel;obtain⟨u,rfl⟩:=exQ wr;have hB:=Bx.nil u;have hF:=Fr.nil w;rcases B73 i N with hlt|hge
  ·have hdec:decide ((i:Int)<(N:Int))=true:=by simp;omega
   have hiN:(i:Int)<(N:Int):=by omega
   obtain⟨Ar,cr,hrw⟩:=Hrow.out i hlt;have Hrw:=B8S hrw;clear hrw;refine r0T ?_;refine B8N ?_;refine B8V (rfl) ?_;refine B8U ?_;refine A6 ?_;refine B8N ?_;refine B8v ?_;refine B8N ?_;have q0:=Hrow0.out u hG;have q1:=Hrw.out u hG;refine r0N ?_;refine B8N ?_;have q0:=Hrow0.out u hG;have q1:=Hrw.out u hG;refine r0N ?_;refine B8T (rfl) ?_;refine B8U ?_;refine C8 ?_;refine A6 ?_;refine r0E ?_;refine A6 ?_;go_roundw
   case rel=>exact⟨i+1,by omega,by go_num,hG⟩
   case measure=>simp[intOf];omega
  ·obtain rfl:N=i:=by omega
   have hdec:decide ((N:Int)<(N:Int))=false:=by simp
   refine r0T ?_;refine B8N ?_;refine B8T (rfl) ?_;refine B8x ?_;refine B7 ?_;refine B7 ?_;refine D0 ?_;refine A6 ?_;refine r0T ?_;refine rt Tryz.results160 ?_;exact⟨rfl,hG⟩
theorem B0u(A:Option Addr)(c L:Nat)(l:List Rat)(hl:l.length=L)(hL1:1<=L)(hL:L<=1000)(w:World)(h:Lq w A l) :
  Calls Tryz.prog 110 #[.slice A L c] w (E9 (λx:Nat×Nat=>.slice (some ⟨x.1,0,none⟩) L x.2) (λx W=>w.heap.size<=x.1/\W.ownsRow w.heap.size 48 5 (.slice (some ⟨x.1,0,none⟩) L x.2) L (l.flatMap qL)) w) :=
 (B6X A c L l hl.symm (by omega) (by omega) w h).mono λe w' ⟨v,he,ho,hg⟩=>by
  have ho2:=ho;obtain⟨_,h1|⟨g,cap,cur,rfl,hb,-⟩⟩:=ho
  ·exact absurd h1.2 (by omega)
  ·exact⟨(g,cap),he,⟨hb,ho2⟩,hg⟩
theorem B3W:(Tryz.prog.info? 35).map (λi=>(i.zero,i.size,i.bytes))=some (some (.slice none 0 0),1,24):=by kernel_rfl
theorem B7m(n:Nat):madeCells (Value.slice none 0 0).cells (n*1)=(List.replicate n (Value.slice none 0 0)).toArray:=by
 unfold madeCells;refine Array.ext (by simp) λi h1 h2=>?_;simp[Value.cells,Nat.mod_one]
theorem A4e(n:Nat)(hn:n<=1048576)(x:Int)(hx:x=n)(W:World):(Instr.makeSlice 39 (.int .i64 x) (.int .i64 x)).run Tryz.prog W =
  .ok (.slice (some ⟨W.heap.size,0,none⟩) n n) (W.alloc (.cells (List.replicate n (Value.slice none 0 0)).toArray 35)):=by
 obtain⟨i0,hi0,hz0,hz1,hz2⟩:=B8d B3W;have hr:=run_make (P:=Tryz.prog) W 39 35 i0 (.slice none 0 0) Tryz.underlying39 hi0 hz0 .i64 .i64 n n (by omega) (by omega) (by rw[hz2];omega) (by omega);rw[hx];rw[hr,hz1];simp only[Int.toNat_natCast];rw[B7m]
def R8(g cp:Nat->Nat)(L n k:Nat):List Value:=(List.range n).map λt=>if t<k then T4 g cp L t else .slice none 0 0
theorem A0M(g cp:Nat->Nat)(L n k:Nat):(R8 g cp L n k).length=n:=by unfold R8;simp
theorem B5L(g cp:Nat->Nat)(L n:Nat):R8 g cp L n 0=List.replicate n (.slice none 0 0):=by
 unfold R8;apply B8I
 ·simp
 ·intro i h1 h2;simp
theorem B7x(g cp:Nat->Nat)(L n:Nat):R8 g cp L n n=A0b g cp L n:=by
 unfold R8 A0b;refine B96 λj hj=>?_;rw[if_pos (List.mem_range.1 hj)]
def upd(f:Nat->Nat)(k x:Nat):Nat->Nat:=λi=>if i=k then x else f i
theorem B0r{g cp:Nat->Nat}{L n k:Nat}(h:k<n)(x y:Nat):(R8 g cp L n k).set k (.slice (some ⟨x,0,none⟩) L y)=R8 (upd g k x) (upd cp k y) L n (k+1):=by
 unfold R8;apply B8I
 ·simp
 ·intro j h1 h2;rw[B95];simp only[List.getElem_map,List.getElem_range];unfold T4 upd;by_cases e:k=j
  ·subst e;simp
  ·rw[if_neg e];by_cases hj:j<k
   ·rw[if_pos hj,if_pos (by omega),if_neg (λe2=>e e2.symm),if_neg (λe2=>e e2.symm)]
   ·rw[if_neg hj,if_neg (by omega)]
theorem A6x{u v:World}{B n:Nat}(g cp:Nat->Nat)(L:Nat)(hB:B<=u.heap.size)(hn:n<=1048576)(hv:u.alloc (.cells (List.replicate n (Value.slice none 0 0)).toArray 35)=v):v.ownsRow B 35 1 (.slice (some ⟨u.heap.size,0,none⟩) n n) n ((R8 g cp L n 0).flatMap K5):=by
 subst hv;have h:=World.ownsRow_lit (base:=B) (e:=35) (size:=1) u (List.replicate n (Value.slice none 0 0)).toArray n hB (by unfold maxLen;omega) (by simp);rw[B5L,show(List.replicate n (Value.slice none 0 0)).flatMap K5=List.replicate n (Value.slice none 0 0)from by simp[List.flatMap_singleton']]
 simpa using h
structure MatP(B n L b0:Nat)(g cp:Nat->Nat)(M:Mx)(k:Nat)(W:World):Prop where
 hd:W.ownsRow B 35 1 (.slice (some ⟨b0,0,none⟩) n n) n ((R8 g cp L n k).flatMap K5)
 row:∀i,i<k->W.ownsRow B 48 5 (.slice (some ⟨g i,0,none⟩) L (cp i)) L ((C9 M L i).flatMap qL)
 inj:∀i j,i<k->j<k->g i=g j->i=j
theorem MatP.grow{B n L b0 k:Nat}{g cp:Nat->Nat}{M:Mx}{W W':World}(h:MatP B n L b0 g cp M k W)(hg:A4 W W'):MatP B n L b0 g cp M k W':=⟨C5 h.hd hg,λi hi=>C5 (h.row i hi) hg,h.inj⟩
theorem MatP.step{B n L b0 k x y:Nat}{g cp:Nat->Nat}{M:Mx}{u W W':World}(h0:MatP B n L b0 g cp M k u)(hG:A4 u W)(hk:k<n)(hx:u.heap.size<=x)(hr:W.ownsRow B 48 5 (.slice (some ⟨x,0,none⟩) L y) L ((C9 M L k).flatMap qL))(hu:C7 W b0 k [.slice (some ⟨x,0,none⟩) L y]=W'):MatP B n L b0 (upd g k x) (upd cp k y) M (k+1) W'/\W.grownBy W' (some b0):=by
 have h:=h0.grow hG;have q1:=P6 (enc:=K5) (size:=1) (ps:=R8 g cp L n k) (λ_=>rfl) h.hd k (.slice (some ⟨x,0,none⟩) L y) (by rw[A0M];exact hk);rw[B9P,hu,B0r hk]at q1;have hb0:b0<u.heap.size:=(h0.hd.lt b0 rfl).2;have hne:∀i,i<k->g i≠b0:=λi hi e=>O0 h.hd (h.row i hi) (by decide) b0 rfl (by rw[<-e];rfl);refine⟨⟨q1.1,λi hi=>?_,λi j hi hj e=>?_⟩,q1.2⟩
 ·unfold upd;by_cases e:i=k
  ·subst e;simp only[if_true];exact hr.kept q1.2 (.inr λe2=>by have:=B78 e2;simp only at this;omega)
  ·simp only[if_neg e];exact(h.row i (by omega)).kept q1.2 (.inr λe2=>hne i (by omega) (B78 e2))
 ·have hlt:∀i,i<k->g i<u.heap.size:=λi hi=>((h0.row i hi).lt (g i) rfl).2;unfold upd at e;by_cases e1:i=k
  ·by_cases e2:j=k
   ·omega
   ·rw[if_pos e1,if_neg e2]at e;have:=hlt j (by omega);omega
  ·by_cases e2:j=k
   ·rw[if_neg e1,if_pos e2]at e;have:=hlt i (by omega);omega
   ·rw[if_neg e1,if_neg e2]at e;exact h.inj i j (by omega) (by omega) e
theorem MatP.done{B n L b0:Nat}{g cp:Nat->Nat}{M:Mx}{W:World}(h:MatP B n L b0 g cp M n W):MatW B n L b0 n g cp M W:=⟨by have:=h.hd;rw[B7x]at this;exact this,h.row,h.inj⟩
def D7(X:List (List Rat)):Mx:=λi j=>gq (B6 X i) j
theorem B7P{X:List (List Rat)}{L i:Nat}(h:(B6 X i).length=L):C9 (D7 X) L i=B6 X i:=by
 unfold C9 D7;apply B8I
 ·simp[h]
 ·intro j h1 h2;simp only[List.getElem_map,List.getElem_range];unfold gq;rw[B8i h2];rfl
theorem B1o(A:Option Addr)(rs:List Rq)(N Lw c:Nat)(hn:rs.length=N)(hN2:N<=300)(hL1:1<=Lw)(hL2:Lw<=1000)(hrl:∀r∈rs,r.2.2.length=Lw)(w:World)(h:Lrq w A rs) :
  Calls Tryz.prog 193 #[.slice A N c] w (E9 (λx:Nat×(Nat->Nat)×(Nat->Nat)=>.slice (some ⟨x.1,0,none⟩) N N) (λx W=>MatW w.heap.size N Lw x.1 N x.2.1 x.2.2 (D7 (rs.map (·.2.2))) W) w):=by
 have hat:∀i,i<N->∃(bb ob:Nat) (P:Ax),A=some ⟨bb,ob,none⟩/\∀W,A4 w W->W.cell? ⟨bb,ob+i,none⟩=some (.slice P.1 Lw P.2)/\Calls Tryz.prog 110 #[.slice P.1 Lw P.2] W (E9 (λx:Nat×Nat=>.slice (some ⟨x.1,0,none⟩) Lw x.2) (λx W'=>W.heap.size<=x.1/\W'.ownsRow W.heap.size 48 5 (.slice (some ⟨x.1,0,none⟩) Lw x.2) Lw ((C9 (D7 (rs.map (·.2.2))) Lw i).flatMap qL)) W):=λi hi=>by
  obtain⟨bb,ob,P,e,hP⟩:=X8 hn hrl h hi;refine⟨bb,ob,P,e,λW hg=>?_⟩;obtain⟨h4,h5,h6⟩:=hP W hg;refine⟨h4,?_⟩;rw[B7P h6];exact B0u P.1 P.2 Lw _ h6 hL1 hL2 W h5
 obtain⟨M,hM⟩:∃M,M=D7 (rs.map (·.2.2)):=⟨_,rfl⟩
 rw[<-hM];simp only[<-hM]at hat;have hmk:=A4e N (by omega) (N:Int) rfl;have Hat:=B8S hat;have Hmk:=B8S hmk;clear hat hmk hM h hrl hn;go_enter Tryz.func193,Tryz.ntmps193;refine en0 ?_;intro u hG hB hF;refine B8N ?_;have hmk:=Hmk.out;refine N5 ?_;intro K hN;go_wp2_with fail;generalize hv:World.alloc u _=v;have hrow:=A6x (λ_=>0) (λ_=>0) Lw hG.sz (by omega) hv;have hgv:A4 u v:=hv ▸ A4.alloc u _;have hG2:=hG.trans hgv;clear hv hG hB hmk hgv;generalize u.heap.size=b0 at hrow⊢;have Ho:=B8S (MatP.mk hrow (λi hi=>absurd hi (C0C _)) (λi j hi=>absurd hi (C0C _)):MatP w.heap.size N Lw b0 (λ_=>0) (λ_=>0) M 0 v);have hG:=hG2;have hB:=Bx.nil v;have hF:=Fr.nil w;clear hrow hG2;obtain⟨u,rfl⟩:=exQ v;refine NoK.norm (hN _ _ ?_);clear hN K;refine A6 ?_;refine B8N ?_;refine r0T ?_;refine B8v ?_;clear hB hF;go_loopw [11] (λs0 wr=>∃(i:Nat) (g cp:Nat->Nat),i<=N/\s0 = .int .i64 i/\MatP w.heap.size N Lw b0 g cp M i wr/\A4 w wr) (λs0 _=>N-(intOf s0).toNat)
 case atStart=>exact⟨0,_,_,B8k _,rfl,Ho.out,hG⟩
 case round =>
  clear hG Ho;obtain⟨i,g,cp,hi,rfl,ho,hG⟩:=hrel;obtain⟨u,rfl⟩:=exQ wr;have Ho:=B8S ho;have hB:=Bx.nil u;have hF:=Fr.nil w;clear ho;rcases B73 i N with hlt|hge
  ·have hdec:decide ((i:Int)<(N:Int))=true:=by simp;omega
   have hin:(i:Int)<(N:Int):=by omega
   obtain⟨bb,ob,P,rfl,hrd⟩:=Hat.out i hlt;have Hrd:=B8S hrd;clear hrd;refine r0T ?_;refine B8N ?_;refine B8V (rfl) ?_;refine B8U ?_;refine A6 ?_;refine B8N ?_;refine B8v ?_;refine B8N ?_;have q0:=(Hrd.out u hG).1;refine r0N ?_;obtain⟨u5,hu5⟩:=exQ u;have Hcl:=B8S (λW (hg:A4 u W)=>((Hrd.out W (hG.trans hg)).2).mono λe w' ⟨x,g1,g2,g3⟩=>(⟨x,g1,⟨B8K hg.size g2.1,g2.2.mono (hG.trans hg).sz⟩,g3⟩:E9 (λx:Nat×Nat=>.slice (some ⟨x.1,0,none⟩) Lw x.2) (λx W'=>u.heap.size<=x.1/\W'.ownsRow w.heap.size 48 5 (.slice (some ⟨x.1,0,none⟩) Lw x.2) Lw ((C9 M Lw i).flatMap qL)) W e w'));rw[<-hu5]at Ho;refine rsC A8 [0,0,0,1,0] hB hG λK L hN hL=>?_;refine gs ?_;refine gxd (X:=(Nat×Nat)) (λx:Nat×Nat=>.slice (some ⟨x.1,0,none⟩) Lw x.2) (λx W'=>u5.heap.size<=x.1/\W'.ownsRow w.heap.size 48 5 (.slice (some ⟨x.1,0,none⟩) Lw x.2) Lw ((C9 M Lw i).flatMap qL)) (λx u u' hg h=>⟨h.1,C5 h.2 hg⟩) (λx19=>?_) (C:=by(rintro v ⟨hgu,hB,hG,-⟩;exact(hu5 ▸ Hcl.out _ hgu)));refine gs ?_;refine geC hL ?_;clear hB hG hL L;rintro u ⟨⟨hgu,hB,hG,-⟩,hx19⟩;have hG5:A4 u5 u:=hu5 ▸ hgu;have Hx:=B8S hx19;have hsp:=V6 (enc:=K5) (size:=1) (λ_=>rfl) (Ho.out.grow hG5).hd (A0M g cp Lw N i).symm i 0 (by rw[A0M];exact hlt) (by omega);have hfz:=(Ho.out.grow hG5).hd.frozenAt;rw[B9P,Nat.add_zero,show(K5 ((R8 g cp Lw N i)[i]'(by rw[A0M];exact hlt)))[0]?=some ((R8 g cp Lw N i)[i]'(by rw[A0M];exact hlt))from rfl]at hsp;clear hx19 Hcl;clear hgu;refine gt ?_;clear hN K;clear hsp hfz;generalize hu0:World.setCell u _ _=u0;have hu1:C7 u b0 i [.slice (some ⟨x19.1,0,none⟩) Lw x19.2]=u0:=hu0;have hP:=MatP.step Ho.out hG5 hlt Hx.out.1 Hx.out.2 hu1;have hG2:=O5 (Ho.out.grow hG5).hd hG hP.2;have Ho2:=B8S hP.1;clear hG hB Ho hP hu1 hu0 hG5 Hx hu5;have hG:=hG2;have hB:=Bx.nil u0;have hF:=Fr.nil w;have Ho:=Ho2;clear hG2 Ho2 u5;obtain⟨u,rfl⟩:=exQ u0;refine C8 ?_;refine A6 ?_;refine r0E ?_;refine A6 ?_;go_roundw
   case rel=>exact⟨i+1,_,_,by omega,by go_num,Ho.out,hG⟩
   case measure=>simp[intOf];omega
  ·obtain rfl:N=i:=by omega
   have hdec:decide ((N:Int)<(N:Int))=false:=by simp
   have HL:=B8S Ho.out.done;clear Ho;refine r0T ?_;refine B8N ?_;refine B8T (rfl) ?_;refine B8x ?_;refine B7 ?_;refine B7 ?_;refine D0 ?_;refine A6 ?_;refine r0T ?_;refine rt Tryz.results193 ?_;exact⟨(b0,g,cp),rfl,HL.out,hG⟩
end Go.Proofs.YtgpglgbcobeogaaGreatDoor
namespace Go.Proofs.YtgpglgbcobeogaaGreatDoor
open Go Go.RowKit
theorem B5z{P:Program}{fn:Func}{R:Ending->World->Prop}{a:Act}{w:World}(hd:a.defers=[])(hr:(results fn a.tmps).run P w = .ok (.tuple #[]) w)(h:R (.returned (.tuple #[])) w):bodyPost P fn R .normal a w:=bodyPost_end hr hd h
theorem A1y{a b c:World}{r:Option Nat}(h:a.grownBy b r)(hg:A4 b c):a.grownBy c r:=A3w h ⟨hg.os,hg.tape,hg.output,hg.size,λk hk _=>hg.block k hk⟩
theorem A71(a:World)(r:Option Nat):a.grownBy a r:=⟨rfl,rfl,rfl,K2 _,λ_ _ _=>rfl⟩
theorem A9L{a u u':World}{r:Option Nat}{b i:Nat}{vs:List Value}(h:a.grownBy u r)(hb:a.heap.size<=b)(hu:C7 u b i vs=u'):a.grownBy u' r:=by
 subst hu;have h2:=A1F b vs i u;exact⟨h2.os.trans h.os,h2.tape.trans h.tape,h2.output.trans h.output,B8K h.size h2.size,λk hk hne=>(h2.block k (B8X hk h.size) (λe=>by have:=B78 e;omega)).trans (h.block k hk hne)⟩
theorem B0c{a u u':World}{g:Nat}(h:a.grownBy u (some g))(h2:u.grownBy u' (some g)):a.grownBy u' (some g):=A3w h h2
theorem B0F{q:Rat}:(q.num.sign != 0) = !decide (q=0):=by
 by_cases h:q=0
 ·subst h;rfl
 ·have h1:q.num≠0:=λe=>h (Rat.num_eq_zero.1 e);have h2:q.num.sign≠0:=λe=>h1 (Int.sign_eq_zero_iff_zero.1 e);simp[h,h2]
theorem B0V{q:Rat}:(q.num.sign == 0)=decide (q=0):=by
 by_cases h:q=0
 ·subst h;rfl
 ·have h1:q.num≠0:=λe=>h (Rat.num_eq_zero.1 e);have h2:q.num.sign≠0:=λe=>h1 (Int.sign_eq_zero_iff_zero.1 e);simp[h,h2]
theorem B02{B n L b0 c0:Nat}{g cp:Nat->Nat}{M:Mx}(hn:n<=300)(top col:Nat)(ht:top<=n)(hc:col<L)(hL:L<=1000)(hs:∀i,i<n->qs (M i col)<=BIG)(w:World)(h:MatW B n L b0 c0 g cp M w) :
  Calls Tryz.prog 194 #[.slice (some ⟨b0,0,none⟩) n c0,.int .i64 (top:Nat),.int .i64 (col:Nat)] w λe w'=>e = .returned (.int .i64 (if K8 M n top col<n then(K8 M n top col:Nat)else -1))/\A4 w w':=by
 have hBm:=I6;obtain⟨q1,q2,q3,q4⟩:=A16 (λi=>decide (M i col=0)) (n-top) top;have hPle:K8 M n top col<=n:=by unfold K8;omega
 have hPge:top<=K8 M n top col:=q1;have hzero:=(A0s M n top col).2;have hnz:=(A0s M n top col).1;have hat:∀i,i<n->∀W,A4 w W->W.cell? ⟨b0,i,none⟩=some (.slice (some ⟨g i,0,none⟩) L (cp i))/\Cq W (g i) (col*5) (M i col):=λi hi W hg=>⟨(h.grow hg).read hi,(h.grow hg).cq hi hc⟩
 obtain⟨P,hP⟩:∃P,P=K8 M n top col:=⟨_,rfl⟩
 rw[<-hP]at hPle hPge hzero hnz⊢;obtain⟨R,hR⟩:∃r:Int,r=(if P<n then(P:Int)else -1):=⟨_,rfl⟩
 rw[<-hR];have hcL:(col:Int)<(L:Int):=by omega
 have Hat:=B8S hat;have Hz:=B8S hzero;have Hnz:=B8S hnz;have HR:=B8S hR;have Hs:=B8S hs;clear hat hzero hnz hR hs q1 q2 q3 q4 hP h;go_enter Tryz.func194,Tryz.ntmps194;refine en0 ?_;intro u hG hB hF;refine B8N ?_;refine r0T ?_;refine B8v ?_;clear hB hF;go_loopw [7] (λs0 wr=>∃i:Nat,top<=i/\i<=P/\s0 = .int .i64 i/\A4 w wr) (λs0 _=>n-(intOf s0).toNat)
 case atStart=>exact⟨top,K2 _,hPge,rfl,hG⟩
 case round =>
  clear hG;obtain⟨i,hti,hi,rfl,hG⟩:=hrel;obtain⟨u,rfl⟩:=exQ wr;have hB:=Bx.nil u;have hF:=Fr.nil w;rcases B73 i n with hlt|hge
  ·have hdec:decide ((i:Int)<(n:Int))=true:=by simp;omega
   have hin:(i:Int)<(n:Int):=by omega
   have hrd:=Hat.out i hlt;have zs:=Hs.out i hlt;have hsn:=@B0F (M i col);have hsg:=λW=>U4 (M i col) (by have:=G6 (M i col);omega) W;have hz:=λh=>Hz.out i hti h;have hnz:i=P->M i col≠0:=λe=>by
    subst e;exact(Hnz.out hlt).2
   obtain⟨X,hX⟩:∃X,X=M i col:=⟨_,rfl⟩
   rw[<-hX]at hsn hsg hz hnz;simp only[<-hX]at hrd;obtain⟨S,hS⟩:∃S,S=X.num.sign:=⟨_,rfl⟩
   rw[<-hS]at hsn;simp only[<-hS]at hsg;have Hrd:=B8S hrd;have Hsg:=B8S hsg;clear hrd hsg hX zs hS;by_cases hiP:i<P
   ·have fS:(S != 0)=false:=by rw[hsn,B87 (hz hiP)];rfl
    clear hsn hz hnz;refine B8N ?_;refine r0T ?_;refine B8V (rfl) ?_;refine B8U ?_;refine A6 ?_;refine B8N ?_;refine B8v ?_;refine B8N (rsE A8 [0,0,0,0,0,0,0,1,0] hB hG λL hL=>?_)
    repeat first|refine gya ?_|refine gyr ?_|refine gna ?_|refine gyb (by(rintro v ⟨hgu,hB,hG,-⟩ N hN;have r:=hB.r;simp only[BxR]at r;obtain⟨q0,y1,y2,y3,y4,y5⟩:=Hrd.out v hG;go_simp;exact hN)) ?_
    refine gmw (C:=λv=>Hsg.out _) ?_;refine gs ?_;refine geT hL ?_;clear hB hG hL L;rintro u ⟨-,hB,hG,-⟩;refine B8T (rfl) ?_;refine B8U ?_;refine C8 ?_;refine A6 ?_;refine r0E ?_;refine A6 ?_;go_roundw
    case rel=>exact⟨i+1,by omega,by omega,by go_num,hG⟩
    case measure=>simp[intOf];omega
   ·have eP:P=i:=by omega
    have fS:(S != 0)=true:=by rw[hsn,B9C (hnz eP.symm)];rfl
    have HR2:=B8S (show R=(i:Int)by rw[HR.out,eP,if_pos hlt]);clear hsn hz hnz hiP eP;refine B8N ?_;refine r0T ?_;refine B8V (rfl) ?_;refine B8U ?_;refine A6 ?_;refine B8N ?_;refine B8v ?_;refine B8N (rsE A8 [0,0,0,0,0,0,0,1,0] hB hG λL hL=>?_)
    repeat first|refine gya ?_|refine gyr ?_|refine gna ?_|refine gyb (by(rintro v ⟨hgu,hB,hG,-⟩ N hN;have r:=hB.r;simp only[BxR]at r;obtain⟨q0,y1,y2,y3,y4,y5⟩:=Hrd.out v hG;go_simp;exact hN)) ?_
    refine gmw (C:=λv=>Hsg.out _) ?_;refine gs ?_;refine geT hL ?_;clear hB hG hL L;rintro u ⟨-,hB,hG,-⟩;refine B8V (rfl) ?_;refine r0T ?_;refine rt Tryz.results194 ?_;exact⟨by rw[HR2.out],hG⟩
  ·have eP:¬P<n:=by omega
   obtain rfl:n=i:=by omega
   have hdec:decide ((n:Int)<(n:Int))=false:=by simp
   have HR2:=B8S (show R = -1 by rw[HR.out,if_neg eP]);clear eP;refine B8N ?_;refine r0T ?_;refine B8T (rfl) ?_;refine B8x ?_;refine B7 ?_;refine B7 ?_;refine D0 ?_;refine A6 ?_;refine r0T ?_;refine rt Tryz.results194 ?_;exact⟨by rw[HR2.out],hG⟩
theorem B0z{M:Mx}{i t L:Nat}:I4 M i t 0 L=M:=by
 funext i' j;unfold I4;split
 ·unfold G0 C3;grind
 ·rfl
theorem B1g{M:Mx}{i t:Nat}{k:Rat}:I4 M i t k 0=M:=by
 funext i' j;unfold I4;rw[if_neg (by omega)]
theorem B1N{M:Mx}{i t j i' j':Nat}{k:Rat}(h:i'≠i):I4 M i t k j i' j'=M i' j':=by
 unfold I4;rw[if_neg (λe=>h e.1)]
theorem B11{M:Mx}{i t j i' j':Nat}{k:Rat}(h:j<=j'):I4 M i t k j i' j'=M i' j':=by
 unfold I4;rw[if_neg (by omega)]
theorem B3X{M:Mx}{i t j:Nat}{k:Rat}(ht:t≠i):Z6 (I4 M i t k j) i j (G0 (M i j) (C3 k (M t j)))=I4 M i t k (j+1):=by
 funext i' j';unfold Z6 I4;by_cases e1:i'=i
 ·subst e1;by_cases e2:j'=j
  ·subst e2;simp
  ·rw[if_neg (λe=>e2 e.2)];by_cases e3:j'<j
   ·rw[if_pos ⟨rfl,e3⟩,if_pos ⟨rfl,by omega⟩]
   ·rw[if_neg (by omega),if_neg (by omega)]
 ·rw[if_neg (λe=>e1 e.1),if_neg (λe=>e1 e.1),if_neg (λe=>e1 e.1)]
theorem B4e{M:Mx}{i t j:Nat}{k:Rat}(h:M t j=0):I4 M i t k j=I4 M i t k (j+1):=by
 funext i' j';unfold I4;by_cases e1:i'=i
 ·subst e1;by_cases e2:j'=j
  ·subst e2;rw[if_neg (by omega),if_pos ⟨rfl,by omega⟩,h];unfold G0 C3;grind
  ·by_cases e3:j'<j
   ·rw[if_pos ⟨rfl,e3⟩,if_pos ⟨rfl,by omega⟩]
   ·rw[if_neg (by omega),if_neg (by omega)]
 ·rw[if_neg (λe=>e1 e.1),if_neg (λe=>e1 e.1)]
theorem B3B{B n Lw b0 c0:Nat}{g cp:Nat->Nat}{M:Mx}(hLw:Lw<=1000)(i t:Nat)(hi:i<n)(ht:t<n)(hit:t≠i)(k:Rat)(s:Nat)(hk:qs k<=s)(hs1:∀j,j<Lw->qs (M i j)<=s)(hs2:∀j,j<Lw->qs (M t j)<=s)(hBz:4*s+10<=BIG)(w0 w:World)(hG0:A4 w0 w)(hB0:w0.heap.size<=B)(h:MatW B n Lw b0 c0 g cp M w)(HT:Tab w0) :
  Calls Tryz.prog 195 #[T4 g cp Lw i,T4 g cp Lw t,qV k] w λe w'=>e = .returned (.tuple #[])/\MatW B n Lw b0 c0 g cp (I4 M i t k Lw) w'/\w.grownBy w' (some (g i)):=by
 have hBm:=I6;have hsk:=@B0V k;have hsg:=λW=>U4 k (by have:=G6 k;omega) W;obtain⟨S,hS⟩:∃S,S=k.num.sign:=⟨_,rfl⟩
 rw[<-hS]at hsk;simp only[<-hS]at hsg;have Hm:=B8S h;have Hsg:=B8S hsg;have HG0:=B8S hG0;have Hs1:=B8S hs1;have Hs2:=B8S hs2;by_cases hk0:k=0
 ·have e0:I4 M i t k Lw=M:=by rw[hk0];exact B0z
  rw[e0];have fS:(S == 0)=true:=by rw[hsk];exact B87 hk0
  clear hsk hS hsg h hG0 hs1 hs2 hk0 e0;go_enter Tryz.func195,Tryz.ntmps195;refine en1 ?_;intro u hG b5 hB hF;refine B8N ?_;refine B8N (rsE A8 [0,1,0] hB hG λL hL=>?_);refine gs ?_;refine gmw (C:=λv=>Hsg.out _) ?_;refine gs ?_;refine geT hL ?_;clear hB hG hL L;rintro u ⟨-,hB,hG,-⟩;refine B8V (rfl) ?_;refine rt Tryz.results195 ?_;exact⟨rfl,Hm.out.grow hG,A1y (A71 _ _) hG⟩
 ·have fS:(S == 0)=false:=by rw[hsk];exact B9C hk0
  clear hsk hS hsg h hG0 hs1 hs2;go_enter Tryz.func195,Tryz.ntmps195;refine en1 ?_;intro u hG b5 hB hF;refine B8N ?_;refine B8N (rsE A8 [0,1,0] hB hG λL hL=>?_);refine gs ?_;refine gmw (C:=λv=>Hsg.out _) ?_;refine gs ?_;refine geT hL ?_;clear hB hG hL L;rintro u ⟨-,hB,hG,-⟩;refine B8T (rfl) ?_;refine B8U ?_;refine A6 ?_;refine r0T ?_;have hG2:=HG0.out.trans hG;have h5w:=hF.1 b5 (by simp);have hgb:=A1y (A71 w (some (g i))) hG;have hm:=Hm.out.grow hG;have hgi:=(Hm.out.glt hi).2;have h05:w0.heap.size<=b5:=B8K HG0.out.size h5w;clear hG hF HG0 Hm;obtain⟨w1,rfl⟩:=exQ w;obtain⟨w,rfl⟩:=exQ w0;have hG:=hG2
  have hF:Fr w [b5]:=⟨λb hb=>by
   have e:b=b5:=by simpa using hb
   rw[e]
   exact h05,by simp⟩
  clear hG2;refine B8v ?_;clear hF;go_loopw [13] (λs0 wr=>∃j:Nat,j<=Lw/\s0 = .int .i64 j/\MatW B n Lw b0 c0 g cp (I4 M i t k j) wr/\Bx wr [(b5,48,A0E k)]/\A4 w wr/\w1.grownBy wr (some (g i))) (λs0 _=>Lw-(intOf s0).toNat)
  case atStart=>exact⟨0,B8k _,rfl,by rw[B1g];exact hm,hB,hG,hgb⟩
  case round =>
   clear hB hG hm hgb;obtain⟨j,hj,rfl,hm,hB,hG,hgb⟩:=hrel;obtain⟨u,rfl⟩:=exQ wr
   have hF:Fr w [b5]:=⟨λb hb=>by
    have e:b=b5:=by simpa using hb
    rw[e]
    exact h05,by simp⟩
   rcases B73 j Lw with hlt|hge
   ·have hdec:decide ((j:Int)<(Lw:Int))=true:=by simp;omega
    have hjn:(j:Int)<(Lw:Int):=by omega
    obtain⟨M',hM'⟩:∃M',M'=I4 M i t k j:=⟨_,rfl⟩
    have et:M' t j=M t j:=by rw[hM'];exact B1N hit
    have ei:M' i j=M i j:=by rw[hM'];exact B11 (K2 _)
    rw[<-hM']at hm;have hrt:=λW (hg:A4 u W)=>(hm.grow hg).cq ht hlt;rw[et]at hrt;have z1:=Hs1.out j hlt;have z2:=Hs2.out j hlt;have hst:=B3X (M:=M) (j:=j) (k:=k) hit;have hsp:=λh=>B4e (M:=M) (i:=i) (t:=t) (j:=j) (k:=k) h;rw[<-hM']at hst hsp;obtain⟨X,hX⟩:∃X,X=M t j:=⟨_,rfl⟩
    obtain⟨Y,hY⟩:∃X,X=M i j:=⟨_,rfl⟩
    rw[<-hX]at hst hsp z2;simp only[<-hX]at hrt;rw[<-hY]at hst z1 ei;have hsx:=@B0F X;have hsg:=λW=>U4 X (by have:=G6 X;omega) W;obtain⟨S2,hS2⟩:∃S,S=X.num.sign:=⟨_,rfl⟩
    rw[<-hS2]at hsx;simp only[<-hS2]at hsg;have z3:=Y4 k X;have hml:=λW hT=>A1d k X W (by omega) hT;obtain⟨D,hD⟩:∃D,D=C3 k X:=⟨_,rfl⟩
    rw[<-hD]at hst;simp only[<-hD]at hml;have z4:qs D<=s+s:=by rw[hD];unfold C3;omega
    have hsb:=λW hT=>A4x Y D W (by omega) hT;obtain⟨E,hE⟩:∃D',D'=G0 Y D:=⟨_,rfl⟩
    rw[<-hE]at hst;simp only[<-hE]at hsb;have Hrt:=B8S hrt;have Hei:=B8S ei;have Hst:=B8S hst;have Hsg2:=B8S hsg;have Hml:=B8S hml;have Hsb:=B8S hsb;have Hm:=B8S hm;have Hgb:=B8S hgb;clear hrt ei hst hsg hml hsb hm hgb hX hY hD hE hS2 et hM' z1 z2 z3 z4;by_cases hx0:X=0
    ·have fX:(S2 != 0)=false:=by rw[hsx,B87 hx0];rfl
     have Hsp:=B8S (hsp hx0);clear hsx hsp hx0;refine r0T ?_;refine B8N ?_;refine B8V (rfl) ?_;refine B8U ?_;refine A6 ?_;refine B8N ?_;refine B8v ?_;refine B8N (rsC A8 [0,0,0,2,0] hB hG λK L hN hL=>?_)
     repeat first|refine gya ?_|refine gyr ?_|refine gna ?_|refine gyb (by(rintro v ⟨hgu,hB,hG,-⟩ N hN;have r:=hB.r;simp only[BxR]at r;(first|obtain⟨y1,y2,y3,y4,y5⟩:=Hrt.out v hgu|skip);go_simp;exact hN)) ?_
     refine gaa (Q3 _ _ _ _ _) λb7 hb7 hn7=>?_;refine gs ?_;replace hF:=hF.n1 [] hB hG hb7 hn7;refine geC hL ?_;clear hB hG hL L;rintro u ⟨⟨hgu,hB,hG,-⟩,h7⟩;replace hB:=hB.cons' h7;clear h7;clear Hrt;obtain⟨hfr1,hfr2⟩:=Hm.out.fresh hb7;have hw17:w1.heap.size<=b7:=B8K Hgb.out.size hb7;have Hm2:=B8S (Hm.out.grow hgu);have Hgb2:=B8S (A1y Hgb.out hgu);clear Hm Hgb;have Hm:=Hm2;have Hgb:=Hgb2;clear Hm2 Hgb2;clear hb7 hn7;clear hgu;refine gtT ?_;clear hN K;refine sv hB hF hG 0 0 [_,_,_,_,_] ?_;intro u hu hBG;have Hm2:=B8S (Hm.out.over ⟨hfr1,hfr2⟩ hu);have Hgb2:=B8S (A9L Hgb.out hw17 hu);clear hB hG Hm Hgb hu hfr1 hfr2 hw17;have Hm:=Hm2;have Hgb:=Hgb2;clear Hm2 Hgb2;obtain⟨hB,hG⟩:=hBG;refine B8N (rsE A8 [0,1,0] hB hG λL hL=>?_)
     repeat first|refine gya ?_|refine gyr ?_|refine gna ?_|refine gyb (by(rintro v ⟨hgu,hB,hG,-⟩ N hN;have r:=hB.r;simp only[BxR]at r;(first|obtain⟨y1,y2,y3,y4,y5⟩:=Hrt.out v hgu|skip);go_simp;exact hN)) ?_
     refine gmw (C:=λv=>Hsg2.out _) ?_;refine gs ?_;refine geT hL ?_;clear hB hG hL L;rintro u ⟨hgu,hB,hG,-⟩;have Hm2:=B8S (Hm.out.grow hgu);have Hgb2:=B8S (A1y Hgb.out hgu);clear Hm Hgb;have Hm:=Hm2;have Hgb:=Hgb2;clear Hm2 Hgb2;clear hgu;refine B8T (rfl) ?_;refine B8U ?_;refine C8 ?_;refine A6 ?_;refine r0E ?_;refine A6 ?_;go_roundw
     case rel=>exact⟨j+1,by omega,by go_num,Hsp.out ▸ Hm.out,hB.tail,hG,Hgb.out⟩
     case measure=>simp[intOf];omega
    ·have fX:(S2 != 0)=true:=by rw[hsx,B9C hx0];rfl
     clear hsx hsp hx0;refine r0T ?_;refine B8N ?_;refine B8V (rfl) ?_;refine B8U ?_;refine A6 ?_;refine B8N ?_;refine B8v ?_;refine B8N (rsC A8 [0,0,0,2,0] hB hG λK L hN hL=>?_)
     repeat first|refine gya ?_|refine gyr ?_|refine gna ?_|refine gyb (by(rintro v ⟨hgu,hB,hG,-⟩ N hN;have r:=hB.r;simp only[BxR]at r;(first|obtain⟨y1,y2,y3,y4,y5⟩:=Hrt.out v hgu|obtain⟨y1,y2,y3,y4,y5⟩:=Hri.out v hgu|skip);go_simp;exact hN)) ?_
     refine gaa (Q3 _ _ _ _ _) λb7 hb7 hn7=>?_;refine gs ?_;replace hF:=hF.n1 [] hB hG hb7 hn7;refine geC hL ?_;clear hB hG hL L;rintro u ⟨⟨hgu,hB,hG,-⟩,h7⟩;replace hB:=hB.cons' h7;clear h7;clear Hrt;obtain⟨hfr1,hfr2⟩:=Hm.out.fresh hb7;have hw17:w1.heap.size<=b7:=B8K Hgb.out.size hb7;have Hm2:=B8S (Hm.out.grow hgu);have Hgb2:=B8S (A1y Hgb.out hgu);clear Hm Hgb;have Hm:=Hm2;have Hgb:=Hgb2;clear Hm2 Hgb2;clear hb7 hn7;clear hgu;refine gtT ?_;clear hN K;refine sv hB hF hG 0 0 [_,_,_,_,_] ?_;intro u hu hBG;have Hm2:=B8S (Hm.out.over ⟨hfr1,hfr2⟩ hu);have Hgb2:=B8S (A9L Hgb.out hw17 hu);clear hB hG Hm Hgb hu hfr1 hfr2 hw17;have Hm:=Hm2;have Hgb:=Hgb2;clear Hm2 Hgb2;obtain⟨hB,hG⟩:=hBG;refine B8N (rsE A8 [0,1,0] hB hG λL hL=>?_)
     repeat first|refine gya ?_|refine gyr ?_|refine gna ?_|refine gyb (by(rintro v ⟨hgu,hB,hG,-⟩ N hN;have r:=hB.r;simp only[BxR]at r;(first|obtain⟨y1,y2,y3,y4,y5⟩:=Hrt.out v hgu|obtain⟨y1,y2,y3,y4,y5⟩:=Hri.out v hgu|skip);go_simp;exact hN)) ?_
     refine gmw (C:=λv=>Hsg2.out _) ?_;refine gs ?_;refine geT hL ?_;clear hB hG hL L;rintro u ⟨hgu,hB,hG,-⟩;have Hm2:=B8S (Hm.out.grow hgu);have Hgb2:=B8S (A1y Hgb.out hgu);clear Hm Hgb;have Hm:=Hm2;have Hgb:=Hgb2;clear Hm2 Hgb2;clear hgu;refine B8V (rfl) ?_;have Hri:=B8S (λW (hg:A4 u W)=>Hei.out ▸ (Hm.out.grow hg).cq hi hlt);refine rdC A8 [] [(0,0),(0,1),(0,2),(0,3),(0,4),(0,5),(0,6),(0,7),(1,8),(1,9),(0,10)] hB hG λK L hN hL=>?_
     repeat first|refine gya ?_|refine gyr ?_|refine gna ?_|refine gyb (by(rintro v ⟨hgu,hB,hG,-⟩ N hN;have r:=hB.r;simp only[BxR]at r;(first|obtain⟨y1,y2,y3,y4,y5⟩:=Hrt.out v hgu|obtain⟨y1,y2,y3,y4,y5⟩:=Hri.out v hgu|skip);go_simp;exact hN)) ?_
     refine gmd (C:=λv ⟨hgu,hB,hG,_⟩=>Hml.out _ (HT.grow hG)) ?_;refine gmd (C:=λv ⟨hgu,hB,hG,_⟩=>Hsb.out _ (HT.grow hG)) ?_;refine gs ?_;refine geC hL ?_;clear hB hG hL L;rintro u ⟨hgu,hB,hG,-⟩;clear Hri;have Hm2:=B8S (Hm.out.grow hgu);have Hgb2:=B8S (A1y Hgb.out hgu);clear Hm Hgb;have Hm:=Hm2;have Hgb:=Hgb2;clear Hm2 Hgb2;obtain⟨o0,o1,o2,o3,o4⟩:=Hm.out.cq hi hlt;have hfz:=(Hm.out.row i hi).frozenAt;clear hgu;refine gt ?_;clear hN K;clear o0 o1 o2 o3 o4 hfz;generalize hu0:World.setCell (World.setCell (World.setCell (World.setCell (World.setCell u _ _) _ _) _ _) _ _) _ _=u0;have hu1:C7 u (g i) (j*5) (qL E)=u0:=hu0;have hP:=Hm.out.put hi hlt E rfl hu1;rw[Hst.out]at hP
     have hG2:A4 w u0:=hG.grown hP.2 (λk hk=>by
      have e:=B78 hk;have:=(Hm.out.glt hi).1
      omega)
     have hB2:=hB.tail.grown_ hP.2 (λe he hxe=>by
      have e1:e=_:=List.mem_singleton.1 he;subst e1;have:=B78 hxe;simp only at this
      omega)
     have Hgb2:=B8S (B0c Hgb.out hP.2);have Hm2:=B8S hP.1;clear hG hB Hm Hgb hP hu1 hu0;have hG:=hG2;have hB:=hB2;have Hm:=Hm2;have Hgb:=Hgb2;clear hG2 hB2 Hm2 Hgb2;obtain⟨u,rfl⟩:=exQ u0;refine C8 ?_;refine A6 ?_;refine r0E ?_;refine A6 ?_;go_roundw
     case rel=>exact⟨j+1,by omega,by go_num,Hm.out,hB,hG,Hgb.out⟩
     case measure=>simp[intOf];omega
   ·obtain rfl:Lw=j:=by omega
    have hdec:decide ((Lw:Int)<(Lw:Int))=false:=by simp
    have Hm:=B8S hm;have Hgb:=B8S hgb;clear hm hgb;refine r0T ?_;refine B8N ?_;refine B8T (rfl) ?_;refine B8x ?_;refine B7 ?_;refine B7 ?_;refine D0 ?_;refine B5z rfl (results_none rfl _ _ _) ⟨rfl,Hm.out,Hgb.out⟩
end Go.Proofs.YtgpglgbcobeogaaGreatDoor
