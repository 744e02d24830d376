import Derived.Test.YtgpglgbcobeogaaGreatDoorK28
import Derived.Test.YtgpglgbcobeogaaGreatDoorK29
set_option linter.unusedSimpArgs false
set_option linter.unusedVariables false
set_option maxHeartbeats 4000000
set_option maxRecDepth 100000
namespace Go.Proofs
open Go.Shelf
def Tryz.sortQ_ren:Go.Shelf.Ren:=⟨fun|6=>157|15=>192|14=>191|28=>215|29=>164|20=>207|21=>208|22=>209|23=>210|24=>211|25=>212|26=>213|27=>214|46=>218|47=>219|48=>220|49=>221|50=>222|57=>223|n=>n,fun|22=>35|24=>48|25=>176|3=>3|39=>194|0=>0|53=>193|55=>42|4=>4|46=>264|45=>263|50=>268|5=>5|9=>9|66=>275|70=>279|76=>281|77=>282|n=>n,fun|n=>n⟩
theorem Tryz.sortQ:Go.Proofs.SlLaysF0.n6 Tryz.prog Tryz.sortQ_ren:={
 mixed:=by kernel_rfl
 f6:=⟨Tryz.f157.name,by decide,Tryz.func157.trans (congrArg some (by kernel_rfl))⟩
 f14:=⟨Tryz.f191.name,by decide,Tryz.func191.trans (congrArg some (by kernel_rfl))⟩
 f15:=Tryz.func192.trans (congrArg some (by kernel_rfl))
 f20:=⟨Tryz.f207.name,by decide,Tryz.func207.trans (congrArg some (by kernel_rfl))⟩
 f21:=⟨Tryz.f208.name,by decide,Tryz.func208.trans (congrArg some (by kernel_rfl))⟩
 f22:=⟨Tryz.f209.name,by decide,Tryz.func209.trans (congrArg some (by kernel_rfl))⟩
 f23:=⟨Tryz.f210.name,by decide,Tryz.func210.trans (congrArg some (by kernel_rfl))⟩
 f24:=⟨Tryz.f211.name,by decide,Tryz.func211.trans (congrArg some (by kernel_rfl))⟩
 f25:=⟨Tryz.f212.name,by decide,Tryz.func212.trans (congrArg some (by kernel_rfl))⟩
 f26:=⟨Tryz.f213.name,by decide,Tryz.func213.trans (congrArg some (by kernel_rfl))⟩
 f27:=⟨Tryz.f214.name,by decide,Tryz.func214.trans (congrArg some (by kernel_rfl))⟩
 f28:=Tryz.func215.trans (congrArg some (by kernel_rfl))
 f29:=Tryz.func164.trans (congrArg some (by kernel_rfl))
 f46:=⟨Tryz.f218.name,by decide,Tryz.func218.trans (congrArg some (by kernel_rfl))⟩
 f47:=Tryz.func219.trans (congrArg some (by kernel_rfl))
 f48:=Tryz.func220.trans (congrArg some (by kernel_rfl))
 f49:=⟨Tryz.f221.name,by decide,Tryz.func221.trans (congrArg some (by kernel_rfl))⟩
 f50:=⟨Tryz.f222.name,by decide,Tryz.func222.trans (congrArg some (by kernel_rfl))⟩
 f57:=⟨Tryz.f223.name,by decide,Tryz.func223.trans (congrArg some (by kernel_rfl))⟩
 t0:=Tryz.underlying0
 a0:=Tryz.isAgg0
 z0:=Tryz.sizeOf0
 v0:=Tryz.zeroValue0
 t3:=Tryz.underlying3
 a3:=Tryz.isAgg3
 z3:=Tryz.sizeOf3
 v3:=Tryz.zeroValue3
 t4:=Tryz.underlying4
 a4:=Tryz.isAgg4
 z4:=Tryz.sizeOf4
 v4:=Tryz.zeroValue4
 t5:=Tryz.underlying5
 a5:=Tryz.isAgg5
 z5:=Tryz.sizeOf5
 v5:=Tryz.zeroValue5
 t9:=Tryz.underlying9
 a9:=Tryz.isAgg9
 z9:=Tryz.sizeOf9
 v9:=Tryz.zeroValue9
 t22:=Tryz.underlying35
 a22:=Tryz.isAgg35
 z22:=Tryz.sizeOf35
 v22:=Tryz.zeroValue35
 t25:=Tryz.underlying176
 a25:=Tryz.isAgg176
 z25:=Tryz.sizeOf176
 v25:=Tryz.zeroValue176
 t39:=Tryz.underlying194
 a39:=Tryz.isAgg194
 z39:=Tryz.sizeOf194
 v39:=Tryz.zeroValue194
 t45:=Tryz.underlying263
 a45:=Tryz.isAgg263
 z45:=Tryz.sizeOf263
 v45:=Tryz.zeroValue263
 t46:=Tryz.underlying264
 a46:=Tryz.isAgg264
 z46:=Tryz.sizeOf264
 v46:=Tryz.zeroValue264
 t50:=Tryz.underlying268
 a50:=Tryz.isAgg268
 z50:=Tryz.sizeOf268
 v50:=Tryz.zeroValue268
 t53:=Tryz.underlying193
 a53:=Tryz.isAgg193
 z53:=Tryz.sizeOf193
 v53:=Tryz.zeroValue193
 t55:=Tryz.underlying42
 a55:=Tryz.isAgg42
 z55:=Tryz.sizeOf42
 v55:=Tryz.zeroValue42
 t66:=Tryz.underlying275
 a66:=Tryz.isAgg275
 z66:=Tryz.sizeOf275
 v66:=Tryz.zeroValue275
 t70:=Tryz.underlying279
 a70:=Tryz.isAgg279
 z70:=Tryz.sizeOf279
 v70:=Tryz.zeroValue279
 t76:=Tryz.underlying281
 a76:=Tryz.isAgg281
 z76:=Tryz.sizeOf281
 v76:=Tryz.zeroValue281
 t77:=Tryz.underlying282
 a77:=Tryz.isAgg282
 z77:=Tryz.sizeOf282
 v77:=Tryz.zeroValue282 }
def Tryz.cloneQ_ren:Go.Shelf.Ren:=⟨fun|41=>110|n=>n,fun|22=>35|23=>48|4=>4|n=>n,fun|n=>n⟩
theorem Tryz.cloneQ:Go.Proofs.SlLaysE0.n41 Tryz.prog Tryz.cloneQ_ren:={
 mixed:=by kernel_rfl
 f41:=⟨Tryz.f110.name,by decide,Tryz.func110.trans (congrArg some (by kernel_rfl))⟩
 t4:=Tryz.underlying4
 a4:=Tryz.isAgg4
 z4:=Tryz.sizeOf4
 v4:=Tryz.zeroValue4
 t22:=Tryz.underlying35
 a22:=Tryz.isAgg35
 z22:=Tryz.sizeOf35
 v22:=Tryz.zeroValue35 }
end Go.Proofs
namespace Go.Proofs.YtgpglgbcobeogaaGreatDoor
open Go Go.RowKit Go.Shelf
theorem B0D(A:Option Addr)(c n:Nat)(l:List Rat)(hn:n=l.length)(hn0:0<n)(hm:n<=1099511627776)(w:World)(h:Lq w A l) :
  Calls Tryz.prog 110 #[.slice A n c] w λe w'=>∃v,e = .returned v/\w'.ownsRow w.heap.size 48 5 v n (l.flatMap qL)/\A4 w w':=by
 obtain⟨b,off,rfl,hb,hc⟩:=h (λe=>by rw[e]at hn;simp at hn;omega);obtain⟨-,⟨i0,z,hi,hz,h1,h2,h3⟩,-⟩:=A2k;refine(AnyE.slices_Clone Tryz.cloneQ i0 z 5 56 hi hz h1 h2 h3 (by omega) Tryz.sizeOf48 b off n c (l.flatMap qL) w (by rw[A0A];omega) (by unfold maxLen;omega) (by omega) ?_ ?_).mono ?_
 ·intro t u hu;have htl:=(List.getElem?_eq_some_iff.1 hu).1;rw[A0A]at htl;have hq:l[t/5]?=some (l[t/5]'(by omega)):=B99 (by omega);have h6:=A3H l hq (j:=t%5) (by omega);rw[show t/5*5+t%5=t by omega,hu]at h6;have h7:=hc _ _ hq _ _ h6.symm
  rwa [show off+t/5*5+t%5=off+t by omega]at h7
 ·intro u hu;obtain⟨q,-,hq⟩:=List.mem_flatMap.1 hu;simp[qL]at hq;rcases hq with rfl|rfl|rfl|rfl|rfl<;>rfl
 ·rintro e w' ⟨v',rfl,ho,hne,hg⟩;exact⟨v',rfl,ho,hg⟩
theorem B01(A:Option Addr)(rs:List Rq)(N L c:Nat)(hn:rs.length=N)(hN:1<=N)(hN2:N<=300)(hL1:1<=L)(hrl:∀r∈rs,r.2.2.length=L)(w:World)(h:Lrq w A rs) :
  Calls Tryz.prog 160 #[.slice A N c] w λe w'=>e = .returned (.bool true)/\A4 w w':=by
 obtain⟨bb,ob,rfl⟩:=h.addr (by omega);have hrow:∀i,i<N->∃(Ar:Option Addr) (cr:Nat),∀W,A4 w W->W.cell? ⟨bb,ob+i,none⟩=some (.slice Ar L cr):=λi hi=>by
  have hil:i<rs.length:=by omega
  refine⟨rs[i].1,rs[i].2.1,λW hg=>?_⟩;have h3:=((h.grow hg).read (B99 hil)).1;rw[hrl _ (B9h hil)]at h3;exact h3
 obtain⟨A0,c0,hrow0⟩:=hrow 0 (by omega);rw[Nat.add_zero]at hrow0;have f1:((N:Int) == 0)=false:=by simp;omega
 have f1n:decide (N=0)=false:=by simp;omega
 have f4:((L:Int) == 0)=false:=by simp;omega
 have f4n:decide (L=0)=false:=by simp;omega
 have f6:((L:Int) != (L:Int))=false:=by simp
 have hni:(0:Int)<(N:Int):=by omega
 have hnp:0<N:=by omega
 have fn:decide ((0:Int)<(N:Int))=true:=by simp;omega
 have fnn:decide (0<N)=true:=by simp;omega
 have Hrow:=B9t hrow;have Hrow0:=B9t hrow0;clear hrow hrow0 h hrl hn;go_enter Tryz.func160,Tryz.ntmps160;refine en0 ?_;intro u hG hB hF;refine B9o ?_;refine B9o ?_;have q0:=Hrow0.out u hG;refine r0N ?_;refine B9u (rfl) ?_;refine B9v ?_;refine A6 ?_;refine B9o ?_;refine r0T ?_;refine C0M ?_;clear hB hF;go_loopw [17] (λs0 wr=>∃i:Nat,i<=N/\s0 = .int .i64 i/\A4 w wr) (λs0 _=>N-(intOf s0).toNat)
 case atStart=>exact⟨0,C0B _,rfl,hG⟩
 case round =>
  clear hG;obtain⟨i,hi,rfl,hG⟩:=hrel;obtain⟨u,rfl⟩:=exQ wr;have hB:=Bx.nil u;have hF:=Fr.nil w;rcases B9U i N with hlt|hge
  ·have hdec:decide ((i:Int)<(N:Int))=true:=by simp;omega
   have hiN:(i:Int)<(N:Int):=by omega
   obtain⟨Ar,cr,hrw⟩:=Hrow.out i hlt;have Hrw:=B9t hrw;clear hrw;refine r0T ?_;refine B9o ?_;refine B9w (rfl) ?_;refine B9v ?_;refine A6 ?_;refine B9o ?_;refine C0M ?_;refine B9o ?_;have q0:=Hrow0.out u hG;have q1:=Hrw.out u hG;refine r0N ?_;refine B9o ?_;have q0:=Hrow0.out u hG;have q1:=Hrw.out u hG;refine r0N ?_;refine B9u (rfl) ?_;refine B9v ?_;refine C7 ?_;refine A6 ?_;refine r0E ?_;refine A6 ?_;go_roundw
   case rel=>exact⟨i+1,by omega,by go_num,hG⟩
   case measure=>simp[intOf];omega
  ·obtain rfl:N=i:=by omega
   have hdec:decide ((N:Int)<(N:Int))=false:=by simp
   refine r0T ?_;refine B9o ?_;refine B9u (rfl) ?_;refine C0O ?_;refine B9 ?_;refine B9 ?_;refine E3 ?_;refine A6 ?_;refine r0T ?_;refine rt Tryz.results160 ?_;exact⟨rfl,hG⟩
theorem B2B(A:Option Addr)(c L:Nat)(l:List Rat)(hl:l.length=L)(hL1:1<=L)(hL:L<=1000)(w:World)(h:Lq w A l) :
  Calls Tryz.prog 110 #[.slice A L c] w (G5 (λx:Nat×Nat=>.slice (some ⟨x.1,0,none⟩) L x.2) (λx W=>w.heap.size<=x.1/\W.ownsRow w.heap.size 48 5 (.slice (some ⟨x.1,0,none⟩) L x.2) L (l.flatMap qL)) w) :=
 (B0D A c L l hl.symm (by omega) (by omega) w h).mono λe w' ⟨v,he,ho,hg⟩=>by
  have ho2:=ho;obtain⟨_,h1|⟨g,cap,cur,rfl,hb,-⟩⟩:=ho
  ·exact absurd h1.2 (by omega)
  ·exact⟨(g,cap),he,⟨hb,ho2⟩,hg⟩
theorem B3s:(Tryz.prog.info? 35).map (λi=>(i.zero,i.size,i.bytes))=some (some (.slice none 0 0),1,24):=by kernel_rfl
theorem B2h(n:Nat):madeCells (Value.slice none 0 0).cells (n*1)=(List.replicate n (Value.slice none 0 0)).toArray:=by
 unfold madeCells;refine Array.ext (by simp) λi h1 h2=>?_;simp[Value.cells,Nat.mod_one]
theorem A4G(n:Nat)(hn:n<=1048576)(x:Int)(hx:x=n)(W:World):(Instr.makeSlice 39 (.int .i64 x) (.int .i64 x)).run Tryz.prog W =
  .ok (.slice (some ⟨W.heap.size,0,none⟩) n n) (W.alloc (.cells (List.replicate n (Value.slice none 0 0)).toArray 35)):=by
 obtain⟨i0,hi0,hz0,hz1,hz2⟩:=B94 B3s;have hr:=run_make (P:=Tryz.prog) W 39 35 i0 (.slice none 0 0) Tryz.underlying39 hi0 hz0 .i64 .i64 n n (by omega) (by omega) (by rw[hz2];omega) (by omega);rw[hx];rw[hr,hz1];simp only[Int.toNat_natCast];rw[B2h]
def R8(g cp:Nat->Nat)(L n k:Nat):List Value:=(List.range n).map λt=>if t<k then T9 g cp L t else .slice none 0 0
theorem A0W(g cp:Nat->Nat)(L n k:Nat):(R8 g cp L n k).length=n:=by unfold R8;simp
theorem B7n(g cp:Nat->Nat)(L n:Nat):R8 g cp L n 0=List.replicate n (.slice none 0 0):=by
 unfold R8;apply B9j
 ·simp
 ·intro i h1 h2;simp
theorem B6M(g cp:Nat->Nat)(L n:Nat):R8 g cp L n n=A0l g cp L n:=by
 unfold R8 A0l;refine C1X λj hj=>?_;rw[if_pos (List.mem_range.1 hj)]
def upd(f:Nat->Nat)(k x:Nat):Nat->Nat:=λi=>if i=k then x else f i
theorem B3v{g cp:Nat->Nat}{L n k:Nat}(h:k<n)(x y:Nat):(R8 g cp L n k).set k (.slice (some ⟨x,0,none⟩) L y)=R8 (upd g k x) (upd cp k y) L n (k+1):=by
 unfold R8;apply B9j
 ·simp
 ·intro j h1 h2;rw[C1W];simp only[List.getElem_map,List.getElem_range];unfold T9 upd;by_cases e:k=j
  ·subst e;simp
  ·rw[if_neg e];by_cases hj:j<k
   ·rw[if_pos hj,if_pos (by omega),if_neg (λe2=>e e2.symm),if_neg (λe2=>e e2.symm)]
   ·rw[if_neg hj,if_neg (by omega)]
theorem A6D{u v:World}{B n:Nat}(g cp:Nat->Nat)(L:Nat)(hB:B<=u.heap.size)(hn:n<=1048576)(hv:u.alloc (.cells (List.replicate n (Value.slice none 0 0)).toArray 35)=v):v.ownsRow B 35 1 (.slice (some ⟨u.heap.size,0,none⟩) n n) n ((R8 g cp L n 0).flatMap L6):=by
 subst hv;have h:=World.ownsRow_lit (base:=B) (e:=35) (size:=1) u (List.replicate n (Value.slice none 0 0)).toArray n hB (by unfold maxLen;omega) (by simp);rw[B7n,show(List.replicate n (Value.slice none 0 0)).flatMap L6=List.replicate n (Value.slice none 0 0)from by simp[List.flatMap_singleton']]
 simpa using h
structure MatP(B n L b0:Nat)(g cp:Nat->Nat)(M:Mx)(k:Nat)(W:World):Prop where
 hd:W.ownsRow B 35 1 (.slice (some ⟨b0,0,none⟩) n n) n ((R8 g cp L n k).flatMap L6)
 row:∀i,i<k->W.ownsRow B 48 5 (.slice (some ⟨g i,0,none⟩) L (cp i)) L ((G4 M L i).flatMap qL)
 inj:∀i j,i<k->j<k->g i=g j->i=j
theorem MatP.grow{B n L b0 k:Nat}{g cp:Nat->Nat}{M:Mx}{W W':World}(h:MatP B n L b0 g cp M k W)(hg:A4 W W'):MatP B n L b0 g cp M k W':=⟨C0 h.hd hg,λi hi=>C0 (h.row i hi) hg,h.inj⟩
theorem MatP.step{B n L b0 k x y:Nat}{g cp:Nat->Nat}{M:Mx}{u W W':World}(h0:MatP B n L b0 g cp M k u)(hG:A4 u W)(hk:k<n)(hx:u.heap.size<=x)(hr:W.ownsRow B 48 5 (.slice (some ⟨x,0,none⟩) L y) L ((G4 M L k).flatMap qL))(hu:C3 W b0 k [.slice (some ⟨x,0,none⟩) L y]=W'):MatP B n L b0 (upd g k x) (upd cp k y) M (k+1) W'/\W.grownBy W' (some b0):=by
 have h:=h0.grow hG;have q1:=V4 (enc:=L6) (size:=1) (ps:=R8 g cp L n k) (λ_=>rfl) h.hd k (.slice (some ⟨x,0,none⟩) L y) (by rw[A0W];exact hk);rw[C0q,hu,B3v hk]at q1;have hb0:b0<u.heap.size:=(h0.hd.lt b0 rfl).2;have hne:∀i,i<k->g i≠b0:=λi hi e=>P4 h.hd (h.row i hi) (by decide) b0 rfl (by rw[<-e];rfl);refine⟨⟨q1.1,λi hi=>?_,λi j hi hj e=>?_⟩,q1.2⟩
 ·unfold upd;by_cases e:i=k
  ·subst e;simp only[if_true];exact hr.kept q1.2 (.inr λe2=>by have:=B9Z e2;simp only at this;omega)
  ·simp only[if_neg e];exact(h.row i (by omega)).kept q1.2 (.inr λe2=>hne i (by omega) (B9Z e2))
 ·have hlt:∀i,i<k->g i<u.heap.size:=λi hi=>((h0.row i hi).lt (g i) rfl).2;unfold upd at e;by_cases e1:i=k
  ·by_cases e2:j=k
   ·omega
   ·rw[if_pos e1,if_neg e2]at e;have:=hlt j (by omega);omega
  ·by_cases e2:j=k
   ·rw[if_neg e1,if_pos e2]at e;have:=hlt i (by omega);omega
   ·rw[if_neg e1,if_neg e2]at e;exact h.inj i j (by omega) (by omega) e
theorem MatP.done{B n L b0:Nat}{g cp:Nat->Nat}{M:Mx}{W:World}(h:MatP B n L b0 g cp M n W):MatW B n L b0 n g cp M W:=⟨by have:=h.hd;rw[B6M]at this;exact this,h.row,h.inj⟩
def E8(X:List (List Rat)):Mx:=λi j=>gq (B7 X i) j
theorem B5W{X:List (List Rat)}{L i:Nat}(h:(B7 X i).length=L):G4 (E8 X) L i=B7 X i:=by
 unfold G4 E8;apply B9j
 ·simp[h]
 ·intro j h1 h2;simp only[List.getElem_map,List.getElem_range];unfold gq;rw[B99 h2];rfl
theorem B9J(A:Option Addr)(rs:List Rq)(N Lw c:Nat)(hn:rs.length=N)(hN2:N<=300)(hL1:1<=Lw)(hL2:Lw<=1000)(hrl:∀r∈rs,r.2.2.length=Lw)(w:World)(h:Lrq w A rs) :
  Calls Tryz.prog 193 #[.slice A N c] w (G5 (λx:Nat×(Nat->Nat)×(Nat->Nat)=>.slice (some ⟨x.1,0,none⟩) N N) (λx W=>MatW w.heap.size N Lw x.1 N x.2.1 x.2.2 (E8 (rs.map (·.2.2))) W) w):=by
 have hat:∀i,i<N->∃(bb ob:Nat) (P:Ax),A=some ⟨bb,ob,none⟩/\∀W,A4 w W->W.cell? ⟨bb,ob+i,none⟩=some (.slice P.1 Lw P.2)/\Calls Tryz.prog 110 #[.slice P.1 Lw P.2] W (G5 (λx:Nat×Nat=>.slice (some ⟨x.1,0,none⟩) Lw x.2) (λx W'=>W.heap.size<=x.1/\W'.ownsRow W.heap.size 48 5 (.slice (some ⟨x.1,0,none⟩) Lw x.2) Lw ((G4 (E8 (rs.map (·.2.2))) Lw i).flatMap qL)) W):=λi hi=>by
  obtain⟨bb,ob,P,e,hP⟩:=Y7 hn hrl h hi;refine⟨bb,ob,P,e,λW hg=>?_⟩;obtain⟨h4,h5,h6⟩:=hP W hg;refine⟨h4,?_⟩;rw[B5W h6];exact B2B P.1 P.2 Lw _ h6 hL1 hL2 W h5
 obtain⟨M,hM⟩:∃M,M=E8 (rs.map (·.2.2)):=⟨_,rfl⟩
 rw[<-hM];simp only[<-hM]at hat;have hmk:=A4G N (by omega) (N:Int) rfl;have Hat:=B9t hat;have Hmk:=B9t hmk;clear hat hmk hM h hrl hn;go_enter Tryz.func193,Tryz.ntmps193;refine en0 ?_;intro u hG hB hF;refine B9o ?_;have hmk:=Hmk.out;refine N3 ?_;intro K hN;go_wp2_with fail;generalize hv:World.alloc u _=v;have hrow:=A6D (λ_=>0) (λ_=>0) Lw hG.sz (by omega) hv;have hgv:A4 u v:=hv ▸ A4.alloc u _;have hG2:=hG.trans hgv;clear hv hG hB hmk hgv;generalize u.heap.size=b0 at hrow⊢;have Ho:=B9t (MatP.mk hrow (λi hi=>absurd hi (C1f _)) (λi j hi=>absurd hi (C1f _)):MatP w.heap.size N Lw b0 (λ_=>0) (λ_=>0) M 0 v);have hG:=hG2;have hB:=Bx.nil v;have hF:=Fr.nil w;clear hrow hG2;obtain⟨u,rfl⟩:=exQ v;refine NoK.norm (hN _ _ ?_);clear hN K;refine A6 ?_;refine B9o ?_;refine r0T ?_;refine C0M ?_;clear hB hF;go_loopw [11] (λs0 wr=>∃(i:Nat) (g cp:Nat->Nat),i<=N/\s0 = .int .i64 i/\MatP w.heap.size N Lw b0 g cp M i wr/\A4 w wr) (λs0 _=>N-(intOf s0).toNat)
 case atStart=>exact⟨0,_,_,C0B _,rfl,Ho.out,hG⟩
 case round =>
  clear hG Ho;obtain⟨i,g,cp,hi,rfl,ho,hG⟩:=hrel;obtain⟨u,rfl⟩:=exQ wr;have Ho:=B9t ho;have hB:=Bx.nil u;have hF:=Fr.nil w;clear ho;rcases B9U i N with hlt|hge
  ·have hdec:decide ((i:Int)<(N:Int))=true:=by simp;omega
   have hin:(i:Int)<(N:Int):=by omega
   obtain⟨bb,ob,P,rfl,hrd⟩:=Hat.out i hlt;have Hrd:=B9t hrd;clear hrd;refine r0T ?_;refine B9o ?_;refine B9w (rfl) ?_;refine B9v ?_;refine A6 ?_;refine B9o ?_;refine C0M ?_;refine B9o ?_;have q0:=(Hrd.out u hG).1;refine r0N ?_;obtain⟨u5,hu5⟩:=exQ u;have Hcl:=B9t (λW (hg:A4 u W)=>((Hrd.out W (hG.trans hg)).2).mono λe w' ⟨x,g1,g2,g3⟩=>(⟨x,g1,⟨B9l hg.size g2.1,g2.2.mono (hG.trans hg).sz⟩,g3⟩:G5 (λx:Nat×Nat=>.slice (some ⟨x.1,0,none⟩) Lw x.2) (λx W'=>u.heap.size<=x.1/\W'.ownsRow w.heap.size 48 5 (.slice (some ⟨x.1,0,none⟩) Lw x.2) Lw ((G4 M Lw i).flatMap qL)) W e w'));rw[<-hu5]at Ho;refine rsC A8 [0,0,0,1,0] hB hG λK L hN hL=>?_;refine gs ?_;refine gxd (X:=(Nat×Nat)) (λx:Nat×Nat=>.slice (some ⟨x.1,0,none⟩) Lw x.2) (λx W'=>u5.heap.size<=x.1/\W'.ownsRow w.heap.size 48 5 (.slice (some ⟨x.1,0,none⟩) Lw x.2) Lw ((G4 M Lw i).flatMap qL)) (λx u u' hg h=>⟨h.1,C0 h.2 hg⟩) (λx19=>?_) (C:=by(rintro v ⟨hgu,hB,hG,-⟩;exact(hu5 ▸ Hcl.out _ hgu)));refine gs ?_;refine geC hL ?_;clear hB hG hL L;rintro u ⟨⟨hgu,hB,hG,-⟩,hx19⟩;have hG5:A4 u5 u:=hu5 ▸ hgu;have Hx:=B9t hx19;have hsp:=A0E (enc:=L6) (size:=1) (λ_=>rfl) (Ho.out.grow hG5).hd (A0W g cp Lw N i).symm i 0 (by rw[A0W];exact hlt) (by omega);have hfz:=(Ho.out.grow hG5).hd.frozenAt;rw[C0q,Nat.add_zero,show(L6 ((R8 g cp Lw N i)[i]'(by rw[A0W];exact hlt)))[0]?=some ((R8 g cp Lw N i)[i]'(by rw[A0W];exact hlt))from rfl]at hsp;clear hx19 Hcl;clear hgu;refine gt ?_;clear hN K;clear hsp hfz;generalize hu0:World.setCell u _ _=u0;have hu1:C3 u b0 i [.slice (some ⟨x19.1,0,none⟩) Lw x19.2]=u0:=hu0;have hP:=MatP.step Ho.out hG5 hlt Hx.out.1 Hx.out.2 hu1;have hG2:=O5 (Ho.out.grow hG5).hd hG hP.2;have Ho2:=B9t hP.1;clear hG hB Ho hP hu1 hu0 hG5 Hx hu5;have hG:=hG2;have hB:=Bx.nil u0;have hF:=Fr.nil w;have Ho:=Ho2;clear hG2 Ho2 u5;obtain⟨u,rfl⟩:=exQ u0;refine C7 ?_;refine A6 ?_;refine r0E ?_;refine A6 ?_;go_roundw
   case rel=>exact⟨i+1,_,_,by omega,by go_num,Ho.out,hG⟩
   case measure=>simp[intOf];omega
  ·obtain rfl:N=i:=by omega
   have hdec:decide ((N:Int)<(N:Int))=false:=by simp
   have HL:=B9t Ho.out.done;clear Ho;refine r0T ?_;refine B9o ?_;refine B9u (rfl) ?_;refine C0O ?_;refine B9 ?_;refine B9 ?_;refine E3 ?_;refine A6 ?_;refine r0T ?_;refine rt Tryz.results193 ?_;exact⟨(b0,g,cp),rfl,HL.out,hG⟩
end Go.Proofs.YtgpglgbcobeogaaGreatDoor
namespace Go.Proofs.YtgpglgbcobeogaaGreatDoor
open Go Go.RowKit
theorem B2N{P:Program}{fn:Func}{R:Ending->World->Prop}{a:Act}{w:World}(hd:a.defers=[])(hr:(results fn a.tmps).run P w = .ok (.tuple #[]) w)(h:R (.returned (.tuple #[])) w):bodyPost P fn R .normal a w:=bodyPost_end hr hd h
theorem F0{a b c:World}{r:Option Nat}(h:a.grownBy b r)(hg:A4 b c):a.grownBy c r:=A3U h ⟨hg.os,hg.tape,hg.output,hg.size,λk hk _=>hg.block k hk⟩
theorem A40(a:World)(r:Option Nat):a.grownBy a r:=⟨rfl,rfl,rfl,K2 _,λ_ _ _=>rfl⟩
theorem A1l{a u u':World}{r:Option Nat}{b i:Nat}{vs:List Value}(h:a.grownBy u r)(hb:a.heap.size<=b)(hu:C3 u b i vs=u'):a.grownBy u' r:=by
 subst hu;have h2:=X7 b vs i u;exact⟨h2.os.trans h.os,h2.tape.trans h.tape,h2.output.trans h.output,B9l h.size h2.size,λk hk hne=>(h2.block k (B9y hk h.size) (λe=>by have:=B9Z e;omega)).trans (h.block k hk hne)⟩
theorem A2K{a u u':World}{g:Nat}(h:a.grownBy u (some g))(h2:u.grownBy u' (some g)):a.grownBy u' (some g):=A3U h h2
theorem A8A{q:Rat}:(q.num.sign != 0) = !decide (q=0):=by
 by_cases h:q=0
 ·subst h;rfl
 ·have h1:q.num≠0:=λe=>h (Rat.num_eq_zero.1 e);have h2:q.num.sign≠0:=λe=>h1 (Int.sign_eq_zero_iff_zero.1 e);simp[h,h2]
theorem A75{q:Rat}:(q.num.sign == 0)=decide (q=0):=by
 by_cases h:q=0
 ·subst h;rfl
 ·have h1:q.num≠0:=λe=>h (Rat.num_eq_zero.1 e);have h2:q.num.sign≠0:=λe=>h1 (Int.sign_eq_zero_iff_zero.1 e);simp[h,h2]
theorem B8d{B n L b0 c0:Nat}{g cp:Nat->Nat}{M:Mx}(hn:n<=300)(top col:Nat)(ht:top<=n)(hc:col<L)(hL:L<=1000)(hs:∀i,i<n->qs (M i col)<=BIG)(w:World)(h:MatW B n L b0 c0 g cp M w) :
  Calls Tryz.prog 194 #[.slice (some ⟨b0,0,none⟩) n c0,.int .i64 (top:Nat),.int .i64 (col:Nat)] w λe w'=>e = .returned (.int .i64 (if N2 M n top col<n then(N2 M n top col:Nat)else -1))/\A4 w w':=by
 have hBm:=M6;obtain⟨q1,q2,q3,q4⟩:=A4o (λi=>decide (M i col=0)) (n-top) top;have hPle:N2 M n top col<=n:=by unfold N2;omega
 have hPge:top<=N2 M n top col:=q1;have hzero:=(A1Z M n top col).2;have hnz:=(A1Z M n top col).1;have hat:∀i,i<n->∀W,A4 w W->W.cell? ⟨b0,i,none⟩=some (.slice (some ⟨g i,0,none⟩) L (cp i))/\Cq W (g i) (col*5) (M i col):=λi hi W hg=>⟨(h.grow hg).read hi,(h.grow hg).cq hi hc⟩
 obtain⟨P,hP⟩:∃P,P=N2 M n top col:=⟨_,rfl⟩
 rw[<-hP]at hPle hPge hzero hnz⊢;obtain⟨R,hR⟩:∃r:Int,r=(if P<n then(P:Int)else -1):=⟨_,rfl⟩
 rw[<-hR];have hcL:(col:Int)<(L:Int):=by omega
 have Hat:=B9t hat;have Hz:=B9t hzero;have Hnz:=B9t hnz;have HR:=B9t hR;have Hs:=B9t hs;clear hat hzero hnz hR hs q1 q2 q3 q4 hP h;go_enter Tryz.func194,Tryz.ntmps194;refine en0 ?_;intro u hG hB hF;refine B9o ?_;refine r0T ?_;refine C0M ?_;clear hB hF;go_loopw [7] (λs0 wr=>∃i:Nat,top<=i/\i<=P/\s0 = .int .i64 i/\A4 w wr) (λs0 _=>n-(intOf s0).toNat)
 case atStart=>exact⟨top,K2 _,hPge,rfl,hG⟩
 case round =>
  clear hG;obtain⟨i,hti,hi,rfl,hG⟩:=hrel;obtain⟨u,rfl⟩:=exQ wr;have hB:=Bx.nil u;have hF:=Fr.nil w;rcases B9U i n with hlt|hge
  ·have hdec:decide ((i:Int)<(n:Int))=true:=by simp;omega
   have hin:(i:Int)<(n:Int):=by omega
   have hrd:=Hat.out i hlt;have zs:=Hs.out i hlt;have hsn:=@A8A (M i col);have hsg:=λW=>S8 (M i col) (by have:=I0 (M i col);omega) W;have hz:=λh=>Hz.out i hti h;have hnz:i=P->M i col≠0:=λe=>by
    subst e;exact(Hnz.out hlt).2
   obtain⟨X,hX⟩:∃X,X=M i col:=⟨_,rfl⟩
   rw[<-hX]at hsn hsg hz hnz;simp only[<-hX]at hrd;obtain⟨S,hS⟩:∃S,S=X.num.sign:=⟨_,rfl⟩
   rw[<-hS]at hsn;simp only[<-hS]at hsg;have Hrd:=B9t hrd;have Hsg:=B9t hsg;clear hrd hsg hX zs hS;by_cases hiP:i<P
   ·have fS:(S != 0)=false:=by rw[hsn,C0Y (hz hiP)];rfl
    clear hsn hz hnz;refine B9o ?_;refine r0T ?_;refine B9w (rfl) ?_;refine B9v ?_;refine A6 ?_;refine B9o ?_;refine C0M ?_;refine B9o (rsE A8 [0,0,0,0,0,0,0,1,0] hB hG λL hL=>?_)
    repeat first|refine gya ?_|refine gyr ?_|refine gna ?_|refine gyb (by(rintro v ⟨hgu,hB,hG,-⟩ N hN;have r:=hB.r;simp only[BxR]at r;obtain⟨q0,y1,y2,y3,y4,y5⟩:=Hrd.out v hG;go_simp;exact hN)) ?_
    refine gmw (C:=λv=>Hsg.out _) ?_;refine gs ?_;refine geT hL ?_;clear hB hG hL L;rintro u ⟨-,hB,hG,-⟩;refine B9u (rfl) ?_;refine B9v ?_;refine C7 ?_;refine A6 ?_;refine r0E ?_;refine A6 ?_;go_roundw
    case rel=>exact⟨i+1,by omega,by omega,by go_num,hG⟩
    case measure=>simp[intOf];omega
   ·have eP:P=i:=by omega
    have fS:(S != 0)=true:=by rw[hsn,C0d (hnz eP.symm)];rfl
    have HR2:=B9t (show R=(i:Int)by rw[HR.out,eP,if_pos hlt]);clear hsn hz hnz hiP eP;refine B9o ?_;refine r0T ?_;refine B9w (rfl) ?_;refine B9v ?_;refine A6 ?_;refine B9o ?_;refine C0M ?_;refine B9o (rsE A8 [0,0,0,0,0,0,0,1,0] hB hG λL hL=>?_)
    repeat first|refine gya ?_|refine gyr ?_|refine gna ?_|refine gyb (by(rintro v ⟨hgu,hB,hG,-⟩ N hN;have r:=hB.r;simp only[BxR]at r;obtain⟨q0,y1,y2,y3,y4,y5⟩:=Hrd.out v hG;go_simp;exact hN)) ?_
    refine gmw (C:=λv=>Hsg.out _) ?_;refine gs ?_;refine geT hL ?_;clear hB hG hL L;rintro u ⟨-,hB,hG,-⟩;refine B9w (rfl) ?_;refine r0T ?_;refine rt Tryz.results194 ?_;exact⟨by rw[HR2.out],hG⟩
  ·have eP:¬P<n:=by omega
   obtain rfl:n=i:=by omega
   have hdec:decide ((n:Int)<(n:Int))=false:=by simp
   have HR2:=B9t (show R = -1 by rw[HR.out,if_neg eP]);clear eP;refine B9o ?_;refine r0T ?_;refine B9u (rfl) ?_;refine C0O ?_;refine B9 ?_;refine B9 ?_;refine E3 ?_;refine A6 ?_;refine r0T ?_;refine rt Tryz.results194 ?_;exact⟨by rw[HR2.out],hG⟩
theorem B4p{M:Mx}{i t L:Nat}:K7 M i t 0 L=M:=by
 funext i' j;unfold K7;split
 ·unfold C4 D5;grind
 ·rfl
theorem B1y{M:Mx}{i t:Nat}{k:Rat}:K7 M i t k 0=M:=by
 funext i' j;unfold K7;rw[if_neg (by omega)]
theorem B6o{M:Mx}{i t j i' j':Nat}{k:Rat}(h:i'≠i):K7 M i t k j i' j'=M i' j':=by
 unfold K7;rw[if_neg (λe=>h e.1)]
theorem B1m{M:Mx}{i t j i' j':Nat}{k:Rat}(h:j<=j'):K7 M i t k j i' j'=M i' j':=by
 unfold K7;rw[if_neg (by omega)]
theorem B78{M:Mx}{i t j:Nat}{k:Rat}(ht:t≠i):A0H (K7 M i t k j) i j (C4 (M i j) (D5 k (M t j)))=K7 M i t k (j+1):=by
 funext i' j';unfold A0H K7;by_cases e1:i'=i
 ·subst e1;by_cases e2:j'=j
  ·subst e2;simp
  ·rw[if_neg (λe=>e2 e.2)];by_cases e3:j'<j
   ·rw[if_pos ⟨rfl,e3⟩,if_pos ⟨rfl,by omega⟩]
   ·rw[if_neg (by omega),if_neg (by omega)]
 ·rw[if_neg (λe=>e1 e.1),if_neg (λe=>e1 e.1),if_neg (λe=>e1 e.1)]
theorem B28{M:Mx}{i t j:Nat}{k:Rat}(h:M t j=0):K7 M i t k j=K7 M i t k (j+1):=by
 funext i' j';unfold K7;by_cases e1:i'=i
 ·subst e1;by_cases e2:j'=j
  ·subst e2;rw[if_neg (by omega),if_pos ⟨rfl,by omega⟩,h];unfold C4 D5;grind
  ·by_cases e3:j'<j
   ·rw[if_pos ⟨rfl,e3⟩,if_pos ⟨rfl,by omega⟩]
   ·rw[if_neg (by omega),if_neg (by omega)]
 ·rw[if_neg (λe=>e1 e.1),if_neg (λe=>e1 e.1)]
theorem B8p{B n Lw b0 c0:Nat}{g cp:Nat->Nat}{M:Mx}(hLw:Lw<=1000)(i t:Nat)(hi:i<n)(ht:t<n)(hit:t≠i)(k:Rat)(s:Nat)(hk:qs k<=s)(hs1:∀j,j<Lw->qs (M i j)<=s)(hs2:∀j,j<Lw->qs (M t j)<=s)(hBz:4*s+10<=BIG)(w0 w:World)(hG0:A4 w0 w)(hB0:w0.heap.size<=B)(h:MatW B n Lw b0 c0 g cp M w)(HT:Tab w0) :
  Calls Tryz.prog 195 #[T9 g cp Lw i,T9 g cp Lw t,qV k] w λe w'=>e = .returned (.tuple #[])/\MatW B n Lw b0 c0 g cp (K7 M i t k Lw) w'/\w.grownBy w' (some (g i)):=by
 have hBm:=M6;have hsk:=@A75 k;have hsg:=λW=>S8 k (by have:=I0 k;omega) W;obtain⟨S,hS⟩:∃S,S=k.num.sign:=⟨_,rfl⟩
 rw[<-hS]at hsk;simp only[<-hS]at hsg;have Hm:=B9t h;have Hsg:=B9t hsg;have HG0:=B9t hG0;have Hs1:=B9t hs1;have Hs2:=B9t hs2;by_cases hk0:k=0
 ·have e0:K7 M i t k Lw=M:=by rw[hk0];exact B4p
  rw[e0];have fS:(S == 0)=true:=by rw[hsk];exact C0Y hk0
  clear hsk hS hsg h hG0 hs1 hs2 hk0 e0;go_enter Tryz.func195,Tryz.ntmps195;refine en1 ?_;intro u hG b5 hB hF;refine B9o ?_;refine B9o (rsE A8 [0,1,0] hB hG λL hL=>?_);refine gs ?_;refine gmw (C:=λv=>Hsg.out _) ?_;refine gs ?_;refine geT hL ?_;clear hB hG hL L;rintro u ⟨-,hB,hG,-⟩;refine B9w (rfl) ?_;refine rt Tryz.results195 ?_;exact⟨rfl,Hm.out.grow hG,F0 (A40 _ _) hG⟩
 ·have fS:(S == 0)=false:=by rw[hsk];exact C0d hk0
  clear hsk hS hsg h hG0 hs1 hs2;go_enter Tryz.func195,Tryz.ntmps195;refine en1 ?_;intro u hG b5 hB hF;refine B9o ?_;refine B9o (rsE A8 [0,1,0] hB hG λL hL=>?_);refine gs ?_;refine gmw (C:=λv=>Hsg.out _) ?_;refine gs ?_;refine geT hL ?_;clear hB hG hL L;rintro u ⟨-,hB,hG,-⟩;refine B9u (rfl) ?_;refine B9v ?_;refine A6 ?_;refine r0T ?_;have hG2:=HG0.out.trans hG;have h5w:=hF.1 b5 (by simp);have hgb:=F0 (A40 w (some (g i))) hG;have hm:=Hm.out.grow hG;have hgi:=(Hm.out.glt hi).2;have h05:w0.heap.size<=b5:=B9l HG0.out.size h5w;clear hG hF HG0 Hm;obtain⟨w1,rfl⟩:=exQ w;obtain⟨w,rfl⟩:=exQ w0;have hG:=hG2
  have hF:Fr w [b5]:=⟨λb hb=>by
   have e:b=b5:=by simpa using hb
   rw[e]
   exact h05,by simp⟩
  clear hG2;refine C0M ?_;clear hF;go_loopw [13] (λs0 wr=>∃j:Nat,j<=Lw/\s0 = .int .i64 j/\MatW B n Lw b0 c0 g cp (K7 M i t k j) wr/\Bx wr [(b5,48,U7 k)]/\A4 w wr/\w1.grownBy wr (some (g i))) (λs0 _=>Lw-(intOf s0).toNat)
  case atStart=>exact⟨0,C0B _,rfl,by rw[B1y];exact hm,hB,hG,hgb⟩
  case round =>
   clear hB hG hm hgb;obtain⟨j,hj,rfl,hm,hB,hG,hgb⟩:=hrel;obtain⟨u,rfl⟩:=exQ wr
   have hF:Fr w [b5]:=⟨λb hb=>by
    have e:b=b5:=by simpa using hb
    rw[e]
    exact h05,by simp⟩
   rcases B9U j Lw with hlt|hge
   ·have hdec:decide ((j:Int)<(Lw:Int))=true:=by simp;omega
    have hjn:(j:Int)<(Lw:Int):=by omega
    obtain⟨M',hM'⟩:∃M',M'=K7 M i t k j:=⟨_,rfl⟩
    have et:M' t j=M t j:=by rw[hM'];exact B6o hit
    have ei:M' i j=M i j:=by rw[hM'];exact B1m (K2 _)
    rw[<-hM']at hm;have hrt:=λW (hg:A4 u W)=>(hm.grow hg).cq ht hlt;rw[et]at hrt;have z1:=Hs1.out j hlt;have z2:=Hs2.out j hlt;have hst:=B78 (M:=M) (j:=j) (k:=k) hit;have hsp:=λh=>B28 (M:=M) (i:=i) (t:=t) (j:=j) (k:=k) h;rw[<-hM']at hst hsp;obtain⟨X,hX⟩:∃X,X=M t j:=⟨_,rfl⟩
    obtain⟨Y,hY⟩:∃X,X=M i j:=⟨_,rfl⟩
    rw[<-hX]at hst hsp z2;simp only[<-hX]at hrt;rw[<-hY]at hst z1 ei;have hsx:=@A8A X;have hsg:=λW=>S8 X (by have:=I0 X;omega) W;obtain⟨S2,hS2⟩:∃S,S=X.num.sign:=⟨_,rfl⟩
    rw[<-hS2]at hsx;simp only[<-hS2]at hsg;have z3:=Z4 k X;have hml:=λW hT=>A1D k X W (by omega) hT;obtain⟨D,hD⟩:∃D,D=D5 k X:=⟨_,rfl⟩
    rw[<-hD]at hst;simp only[<-hD]at hml;have z4:qs D<=s+s:=by rw[hD];unfold D5;omega
    have hsb:=λW hT=>A09 Y D W (by omega) hT;obtain⟨E,hE⟩:∃D',D'=C4 Y D:=⟨_,rfl⟩
    rw[<-hE]at hst;simp only[<-hE]at hsb;have Hrt:=B9t hrt;have Hei:=B9t ei;have Hst:=B9t hst;have Hsg2:=B9t hsg;have Hml:=B9t hml;have Hsb:=B9t hsb;have Hm:=B9t hm;have Hgb:=B9t hgb;clear hrt ei hst hsg hml hsb hm hgb hX hY hD hE hS2 et hM' z1 z2 z3 z4;by_cases hx0:X=0
    ·have fX:(S2 != 0)=false:=by rw[hsx,C0Y hx0];rfl
     have Hsp:=B9t (hsp hx0);clear hsx hsp hx0;refine r0T ?_;refine B9o ?_;refine B9w (rfl) ?_;refine B9v ?_;refine A6 ?_;refine B9o ?_;refine C0M ?_;refine B9o (rsC A8 [0,0,0,2,0] hB hG λK L hN hL=>?_)
     repeat first|refine gya ?_|refine gyr ?_|refine gna ?_|refine gyb (by(rintro v ⟨hgu,hB,hG,-⟩ N hN;have r:=hB.r;simp only[BxR]at r;(first|obtain⟨y1,y2,y3,y4,y5⟩:=Hrt.out v hgu|skip);go_simp;exact hN)) ?_
     refine gaa (J3 _ _ _ _ _) λb7 hb7 hn7=>?_;refine gs ?_;replace hF:=hF.n1 [] hB hG hb7 hn7;refine geC hL ?_;clear hB hG hL L;rintro u ⟨⟨hgu,hB,hG,-⟩,h7⟩;replace hB:=hB.cons' h7;clear h7;clear Hrt;obtain⟨hfr1,hfr2⟩:=Hm.out.fresh hb7;have hw17:w1.heap.size<=b7:=B9l Hgb.out.size hb7;have Hm2:=B9t (Hm.out.grow hgu);have Hgb2:=B9t (F0 Hgb.out hgu);clear Hm Hgb;have Hm:=Hm2;have Hgb:=Hgb2;clear Hm2 Hgb2;clear hb7 hn7;clear hgu;refine gtT ?_;clear hN K;refine sv hB hF hG 0 0 [_,_,_,_,_] ?_;intro u hu hBG;have Hm2:=B9t (Hm.out.over ⟨hfr1,hfr2⟩ hu);have Hgb2:=B9t (A1l Hgb.out hw17 hu);clear hB hG Hm Hgb hu hfr1 hfr2 hw17;have Hm:=Hm2;have Hgb:=Hgb2;clear Hm2 Hgb2;obtain⟨hB,hG⟩:=hBG;refine B9o (rsE A8 [0,1,0] hB hG λL hL=>?_)
     repeat first|refine gya ?_|refine gyr ?_|refine gna ?_|refine gyb (by(rintro v ⟨hgu,hB,hG,-⟩ N hN;have r:=hB.r;simp only[BxR]at r;(first|obtain⟨y1,y2,y3,y4,y5⟩:=Hrt.out v hgu|skip);go_simp;exact hN)) ?_
     refine gmw (C:=λv=>Hsg2.out _) ?_;refine gs ?_;refine geT hL ?_;clear hB hG hL L;rintro u ⟨hgu,hB,hG,-⟩;have Hm2:=B9t (Hm.out.grow hgu);have Hgb2:=B9t (F0 Hgb.out hgu);clear Hm Hgb;have Hm:=Hm2;have Hgb:=Hgb2;clear Hm2 Hgb2;clear hgu;refine B9u (rfl) ?_;refine B9v ?_;refine C7 ?_;refine A6 ?_;refine r0E ?_;refine A6 ?_;go_roundw
     case rel=>exact⟨j+1,by omega,by go_num,Hsp.out ▸ Hm.out,hB.tail,hG,Hgb.out⟩
     case measure=>simp[intOf];omega
    ·have fX:(S2 != 0)=true:=by rw[hsx,C0d hx0];rfl
     clear hsx hsp hx0;refine r0T ?_;refine B9o ?_;refine B9w (rfl) ?_;refine B9v ?_;refine A6 ?_;refine B9o ?_;refine C0M ?_;refine B9o (rsC A8 [0,0,0,2,0] hB hG λK L hN hL=>?_)
     repeat first|refine gya ?_|refine gyr ?_|refine gna ?_|refine gyb (by(rintro v ⟨hgu,hB,hG,-⟩ N hN;have r:=hB.r;simp only[BxR]at r;(first|obtain⟨y1,y2,y3,y4,y5⟩:=Hrt.out v hgu|obtain⟨y1,y2,y3,y4,y5⟩:=Hri.out v hgu|skip);go_simp;exact hN)) ?_
     refine gaa (J3 _ _ _ _ _) λb7 hb7 hn7=>?_;refine gs ?_;replace hF:=hF.n1 [] hB hG hb7 hn7;refine geC hL ?_;clear hB hG hL L;rintro u ⟨⟨hgu,hB,hG,-⟩,h7⟩;replace hB:=hB.cons' h7;clear h7;clear Hrt;obtain⟨hfr1,hfr2⟩:=Hm.out.fresh hb7;have hw17:w1.heap.size<=b7:=B9l Hgb.out.size hb7;have Hm2:=B9t (Hm.out.grow hgu);have Hgb2:=B9t (F0 Hgb.out hgu);clear Hm Hgb;have Hm:=Hm2;have Hgb:=Hgb2;clear Hm2 Hgb2;clear hb7 hn7;clear hgu;refine gtT ?_;clear hN K;refine sv hB hF hG 0 0 [_,_,_,_,_] ?_;intro u hu hBG;have Hm2:=B9t (Hm.out.over ⟨hfr1,hfr2⟩ hu);have Hgb2:=B9t (A1l Hgb.out hw17 hu);clear hB hG Hm Hgb hu hfr1 hfr2 hw17;have Hm:=Hm2;have Hgb:=Hgb2;clear Hm2 Hgb2;obtain⟨hB,hG⟩:=hBG;refine B9o (rsE A8 [0,1,0] hB hG λL hL=>?_)
     repeat first|refine gya ?_|refine gyr ?_|refine gna ?_|refine gyb (by(rintro v ⟨hgu,hB,hG,-⟩ N hN;have r:=hB.r;simp only[BxR]at r;(first|obtain⟨y1,y2,y3,y4,y5⟩:=Hrt.out v hgu|obtain⟨y1,y2,y3,y4,y5⟩:=Hri.out v hgu|skip);go_simp;exact hN)) ?_
     refine gmw (C:=λv=>Hsg2.out _) ?_;refine gs ?_;refine geT hL ?_;clear hB hG hL L;rintro u ⟨hgu,hB,hG,-⟩;have Hm2:=B9t (Hm.out.grow hgu);have Hgb2:=B9t (F0 Hgb.out hgu);clear Hm Hgb;have Hm:=Hm2;have Hgb:=Hgb2;clear Hm2 Hgb2;clear hgu;refine B9w (rfl) ?_;have Hri:=B9t (λW (hg:A4 u W)=>Hei.out ▸ (Hm.out.grow hg).cq hi hlt);refine rdC A8 [] [(0,0),(0,1),(0,2),(0,3),(0,4),(0,5),(0,6),(0,7),(1,8),(1,9),(0,10)] hB hG λK L hN hL=>?_
     repeat first|refine gya ?_|refine gyr ?_|refine gna ?_|refine gyb (by(rintro v ⟨hgu,hB,hG,-⟩ N hN;have r:=hB.r;simp only[BxR]at r;(first|obtain⟨y1,y2,y3,y4,y5⟩:=Hrt.out v hgu|obtain⟨y1,y2,y3,y4,y5⟩:=Hri.out v hgu|skip);go_simp;exact hN)) ?_
     refine gmd (C:=λv ⟨hgu,hB,hG,_⟩=>Hml.out _ (HT.grow hG)) ?_;refine gmd (C:=λv ⟨hgu,hB,hG,_⟩=>Hsb.out _ (HT.grow hG)) ?_;refine gs ?_;refine geC hL ?_;clear hB hG hL L;rintro u ⟨hgu,hB,hG,-⟩;clear Hri;have Hm2:=B9t (Hm.out.grow hgu);have Hgb2:=B9t (F0 Hgb.out hgu);clear Hm Hgb;have Hm:=Hm2;have Hgb:=Hgb2;clear Hm2 Hgb2;obtain⟨o0,o1,o2,o3,o4⟩:=Hm.out.cq hi hlt;have hfz:=(Hm.out.row i hi).frozenAt;clear hgu;refine gt ?_;clear hN K;clear o0 o1 o2 o3 o4 hfz;generalize hu0:World.setCell (World.setCell (World.setCell (World.setCell (World.setCell u _ _) _ _) _ _) _ _) _ _=u0;have hu1:C3 u (g i) (j*5) (qL E)=u0:=hu0;have hP:=Hm.out.put hi hlt E rfl hu1;rw[Hst.out]at hP
     have hG2:A4 w u0:=hG.grown hP.2 (λk hk=>by
      have e:=B9Z hk;have:=(Hm.out.glt hi).1
      omega)
     have hB2:=hB.tail.grown_ hP.2 (λe he hxe=>by
      have e1:e=_:=List.mem_singleton.1 he;subst e1;have:=B9Z hxe;simp only at this
      omega)
     have Hgb2:=B9t (A2K Hgb.out hP.2);have Hm2:=B9t hP.1;clear hG hB Hm Hgb hP hu1 hu0;have hG:=hG2;have hB:=hB2;have Hm:=Hm2;have Hgb:=Hgb2;clear hG2 hB2 Hm2 Hgb2;obtain⟨u,rfl⟩:=exQ u0;refine C7 ?_;refine A6 ?_;refine r0E ?_;refine A6 ?_;go_roundw
     case rel=>exact⟨j+1,by omega,by go_num,Hm.out,hB,hG,Hgb.out⟩
     case measure=>simp[intOf];omega
   ·obtain rfl:Lw=j:=by omega
    have hdec:decide ((Lw:Int)<(Lw:Int))=false:=by simp
    have Hm:=B9t hm;have Hgb:=B9t hgb;clear hm hgb;refine r0T ?_;refine B9o ?_;refine B9u (rfl) ?_;refine C0O ?_;refine B9 ?_;refine B9 ?_;refine E3 ?_;refine B2N rfl (results_none rfl _ _ _) ⟨rfl,Hm.out,Hgb.out⟩
end Go.Proofs.YtgpglgbcobeogaaGreatDoor
namespace Go.Proofs.YtgpglgbcobeogaaGreatDoor
open Go Go.RowKit Go.Sort Go.Shelf
abbrev Bq(s:Nat):={x:Rat // qs x<=s+qs 0}
instance (s:Nat):Inhabited (Bq s):=⟨⟨0,Nat.le_add_left _ _⟩⟩
abbrev O9(s:Nat)(x:Bq s):List Value:=qL x.1
abbrev cfB(s:Nat)(x y:Bq s):Int:=H6 x.1 y.1
theorem ltB(s:Nat)(x y:Bq s):ltOf (cfB s) x y=decide (x.1<y.1):=by
 unfold ltOf cfB H6;by_cases h1:x.1<y.1
 ·simp[h1]
 ·by_cases h2:y.1<x.1<;>simp[h1,h2]
theorem B11(s:Nat):SWO (ltOf (cfB s)) where
 irrefl x:=by rw[ltB];exact C0d (Rat.not_lt.2 C1g)
 trans x y z h1 h2:=by
  rw[ltB]at *;exact C0Y (C1Z λh=>Rat.not_lt.2 (C1h (Rat.le_of_lt (C0X h2)) (Rat.not_lt.1 h)) (C0X h1))
 ntrans x y z h1 h2:=by
  rw[ltB]at *;exact C0d (Rat.not_lt.2 (C1h (Rat.not_lt.1 (C0b h2)) (Rat.not_lt.1 (C0b h1))))
theorem B7I(s:Nat)(hB:s+qs 0+(s+qs 0)+1<=BIG)(blk off size:Nat)(w:World):CmpLays Tryz.prog 30 #[] (O9 s) 5 (cfB s) blk off size w :=
 λ_ _ _ _ x y=>B1u (A1A x.1 y.1 _ (by have:=x.2;have:=y.2;omega))
theorem B4i(s:Nat)(hB:s+qs 0+(s+qs 0)+1<=BIG)(blk off cap:Nat)(d:Array (Bq s))(w:World)(hH:HoldsK (O9 s) 5 w blk off d)(hblk:blk<w.heap.size)(hsz:d.size<4611686018427387904) :
  Calls Tryz.prog 157 #[.slice (some ⟨blk,off,none⟩) d.size cap,.func (.func 30) #[] #[]] w λe w' =>
   e = .returned (.tuple #[])/\∃d' n os,PermIn 0 d.size d d'/\SortedIn (ltOf (cfB s)) 0 d.size d'/\w'=sortWorldK (O9 s) 5 w blk off n d' os :=
 AnyQ.slices_SortFunc Tryz.sortQ 5 Tryz.isAgg48 Tryz.sizeOf48 (O9 s) (λ_=>rfl) (λx v hv=>by simp[O9,qL]at hv;rcases hv with rfl|rfl|rfl|rfl|rfl<;>rfl) (cfB s) (B11 s) 30 #[] blk off cap d w
  (enters_of Tryz.func30 (by kernel_rfl) rfl) (B7I s hB blk off d.size w) hH hblk hsz
def toB(s:Nat)(l:List Rat)(h:∀x∈l,qs x<=s):Array (Bq s):=(l.attach.map λx=>(⟨x.1,B9l (h x.1 x.2) (Nat.le_add_right _ _)⟩:Bq s)).toArray
theorem A61(s:Nat)(l:List Rat)(h:∀x∈l,qs x<=s):(toB s l h).toList.map (·.1)=l:=by
 unfold toB;simp only[List.map_map];exact(C1X λa _=>rfl).trans (List.attach_map_subtype_val l)
theorem A3h(s:Nat)(l:List Rat)(h:∀x∈l,qs x<=s):(toB s l h).size=l.length:=by
 unfold toB;simp
theorem B5S(s:Nat)(l:List Rat)(h:∀x∈l,qs x<=s){i:Nat}{q:Rat}(hi:l[i]?=some q):((toB s l h)[i]!).1=q:=by
 have hl:i<l.length:=(List.getElem?_eq_some_iff.1 hi).1;have e:=C04 (·[i]?) (A61 s l h);simp only[List.getElem?_map,hi]at e;rw[getElem!_pos _ i (by rw[A3h];exact hl)];rw[Array.getElem?_toList,Array.getElem?_eq_getElem (by rw[A3h];exact hl)]at e
 simpa using e
theorem B2U{s:Nat}{w:World}{b:Nat}{d:Array (Bq s)}(hc:∀i,i<d.size->∀j v,(qL (d[i]!).1)[j]?=some v->w.cell? ⟨b,0+i*5+j,none⟩=some v)(hf:∀i,w.frozen? ⟨b,i,none⟩=false):HoldsK (O9 s) 5 w b 0 d:=by
 intro t ht;rw[size_flatK]at ht;refine⟨?_,hf _⟩;rw[get_flatK _ _ _ _ ht];have hlt:t/5<d.size:=by omega
 have h5:t%5<(O9 s d[t/5]!).length:=by show t%5<5;omega
 have:=hc (t/5) hlt (t%5) _ (B99 h5);rw[show 0+t/5*5+t%5=0+t by omega]at this;rw[this];exact C04 some (getElem!_pos (O9 s d[t/5]!) (t%5) h5).symm
theorem B4k{s:Nat}{w:World}{b:Nat}{d:Array (Bq s)}(h:HoldsK (O9 s) 5 w b 0 d)(hb:b<w.heap.size):Lq w (some ⟨b,0,none⟩) (d.toList.map (·.1)):=λ_=>by
 refine⟨b,0,rfl,hb,λi q hi j v hj=>?_⟩;rw[List.getElem?_map,Array.getElem?_toList]at hi;have hil:i<d.size:=by
  refine C1Z λhh=>?_;rw[Array.getElem?_eq_none (by omega)]at hi;cases hi
 have hj5:j<5:=(List.getElem?_eq_some_iff.1 hj).1;have ht:i*5+j<(flatK (O9 s) 5 d).size:=by rw[size_flatK];omega
 have h1:=(h (i*5+j) ht).1;rw[get_flatK _ _ _ _ (by omega),show(i*5+j)/5=i by omega,show(i*5+j)%5=j by omega,getElem!_pos d i hil]at h1;rw[Array.getElem?_eq_getElem hil]at hi;simp only[Option.map_some,Option.some.injEq]at hi;rw[<-hi]at hj;rw[show 0+i*5+j=0+(i*5+j)by omega,h1];have hjl:j<(O9 s d[i]).length:=hj5;rw[getElem!_pos _ j hjl];rw[B99 hjl]at hj;exact hj
theorem B3T{s:Nat}{d d':Array (Bq s)}(hp:PermIn 0 d.size d d')(hs:SortedIn (ltOf (cfB s)) 0 d.size d'):(d'.toList.map (·.1)).Perm (d.toList.map (·.1))/\(d'.toList.map (·.1)).Pairwise (· <= ·):=by
 obtain⟨h1,-,h2⟩:=hp;constructor
 ·rw[<-h1]at h2;have e1:d'.extract 0 d'.size=d':=by simp
  have e2:d.extract 0 d'.size=d:=by rw[h1];simp
  rw[e1,e2]at h2;exact h2.map _
 ·rw[List.pairwise_iff_getElem];intro i j hi hj hij;simp only[List.length_map,Array.length_toList]at hi hj;have h3:=hs i j (C0B _) hij (by omega);rw[ltB,getElem!_pos d' i hi,getElem!_pos d' j hj]at h3;simp only[List.getElem_map,Array.getElem_toList];exact Rat.not_lt.1 (C0b h3)
def W5(l:List Rat):List Rat:=l.mergeSort λa b=>decide (a<=b)
theorem A2Y(l:List Rat):(W5 l).Perm l:=List.mergeSort_perm l _
theorem B0F(l:List Rat):(W5 l).Pairwise (· <= ·):=by
 have h:=List.pairwise_mergeSort (le:=λa b:Rat=>decide (a<=b)) (λa b c h1 h2=>C0Y (C1h (C0X h1) (C0X h2))) (λa b=>by
  by_cases h:a<=b
  ·simp[h]
  ·simp[Rat.le_of_lt (Rat.not_le.1 h)]) l
 exact h.imp λh=>C0X h
theorem B4c{l l':List Rat}(h1:l'.Perm l)(h2:l'.Pairwise (· <= ·)):l'=W5 l :=
 List.Perm.eq_of_pairwise (le:=λa b:Rat=>a<=b) (λa b _ _ h1 h2=>Rat.le_antisymm h1 h2) h2 (B0F l) (h1.trans (A2Y l).symm)
end Go.Proofs.YtgpglgbcobeogaaGreatDoor
