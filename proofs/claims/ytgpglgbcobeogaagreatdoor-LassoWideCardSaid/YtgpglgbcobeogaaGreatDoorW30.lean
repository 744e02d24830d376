import Derived.Test.YtgpglgbcobeogaaGreatDoorW28
import Derived.Test.YtgpglgbcobeogaaGreatDoorW29
set_option linter.unusedSimpArgs false
set_option linter.unusedVariables false
set_option maxHeartbeats 4000000
set_option maxRecDepth 100000
namespace Go.Proofs
open Go.Shelf
def Tryz.sortQ_ren:Go.Shelf.Ren:=⟨fun|6=>157|15=>192|14=>191|28=>215|29=>164|20=>207|21=>208|22=>209|23=>210|24=>211|25=>212|26=>213|27=>214|46=>218|47=>219|48=>220|49=>221|50=>222|57=>223|n=>n,fun|22=>35|24=>48|25=>176|3=>3|39=>194|0=>0|53=>193|55=>42|4=>4|46=>264|45=>263|50=>268|5=>5|9=>9|66=>275|70=>279|76=>281|77=>282|n=>n,fun|n=>n⟩
theorem Tryz.sortQ:Go.Proofs.SlLaysF0.n6 Tryz.prog Tryz.sortQ_ren:={
 mixed:=by kernel_rfl
 f6:=⟨Tryz.f157.name,by decide,Tryz.func157.trans (congrArg some (by kernel_rfl))⟩
 f14:=⟨Tryz.f191.name,by decide,Tryz.func191.trans (congrArg some (by kernel_rfl))⟩
 f15:=Tryz.func192.trans (congrArg some (by kernel_rfl))
 f20:=⟨Tryz.f207.name,by decide,Tryz.func207.trans (congrArg some (by kernel_rfl))⟩
 f21:=⟨Tryz.f208.name,by decide,Tryz.func208.trans (congrArg some (by kernel_rfl))⟩
 f22:=⟨Tryz.f209.name,by decide,Tryz.func209.trans (congrArg some (by kernel_rfl))⟩
 f23:=⟨Tryz.f210.name,by decide,Tryz.func210.trans (congrArg some (by kernel_rfl))⟩
 f24:=⟨Tryz.f211.name,by decide,Tryz.func211.trans (congrArg some (by kernel_rfl))⟩
 f25:=⟨Tryz.f212.name,by decide,Tryz.func212.trans (congrArg some (by kernel_rfl))⟩
 f26:=⟨Tryz.f213.name,by decide,Tryz.func213.trans (congrArg some (by kernel_rfl))⟩
 f27:=⟨Tryz.f214.name,by decide,Tryz.func214.trans (congrArg some (by kernel_rfl))⟩
 f28:=Tryz.func215.trans (congrArg some (by kernel_rfl))
 f29:=Tryz.func164.trans (congrArg some (by kernel_rfl))
 f46:=⟨Tryz.f218.name,by decide,Tryz.func218.trans (congrArg some (by kernel_rfl))⟩
 f47:=Tryz.func219.trans (congrArg some (by kernel_rfl))
 f48:=Tryz.func220.trans (congrArg some (by kernel_rfl))
 f49:=⟨Tryz.f221.name,by decide,Tryz.func221.trans (congrArg some (by kernel_rfl))⟩
 f50:=⟨Tryz.f222.name,by decide,Tryz.func222.trans (congrArg some (by kernel_rfl))⟩
 f57:=⟨Tryz.f223.name,by decide,Tryz.func223.trans (congrArg some (by kernel_rfl))⟩
 t0:=Tryz.underlying0
 a0:=Tryz.isAgg0
 z0:=Tryz.sizeOf0
 v0:=Tryz.zeroValue0
 t3:=Tryz.underlying3
 a3:=Tryz.isAgg3
 z3:=Tryz.sizeOf3
 v3:=Tryz.zeroValue3
 t4:=Tryz.underlying4
 a4:=Tryz.isAgg4
 z4:=Tryz.sizeOf4
 v4:=Tryz.zeroValue4
 t5:=Tryz.underlying5
 a5:=Tryz.isAgg5
 z5:=Tryz.sizeOf5
 v5:=Tryz.zeroValue5
 t9:=Tryz.underlying9
 a9:=Tryz.isAgg9
 z9:=Tryz.sizeOf9
 v9:=Tryz.zeroValue9
 t22:=Tryz.underlying35
 a22:=Tryz.isAgg35
 z22:=Tryz.sizeOf35
 v22:=Tryz.zeroValue35
 t25:=Tryz.underlying176
 a25:=Tryz.isAgg176
 z25:=Tryz.sizeOf176
 v25:=Tryz.zeroValue176
 t39:=Tryz.underlying194
 a39:=Tryz.isAgg194
 z39:=Tryz.sizeOf194
 v39:=Tryz.zeroValue194
 t45:=Tryz.underlying263
 a45:=Tryz.isAgg263
 z45:=Tryz.sizeOf263
 v45:=Tryz.zeroValue263
 t46:=Tryz.underlying264
 a46:=Tryz.isAgg264
 z46:=Tryz.sizeOf264
 v46:=Tryz.zeroValue264
 t50:=Tryz.underlying268
 a50:=Tryz.isAgg268
 z50:=Tryz.sizeOf268
 v50:=Tryz.zeroValue268
 t53:=Tryz.underlying193
 a53:=Tryz.isAgg193
 z53:=Tryz.sizeOf193
 v53:=Tryz.zeroValue193
 t55:=Tryz.underlying42
 a55:=Tryz.isAgg42
 z55:=Tryz.sizeOf42
 v55:=Tryz.zeroValue42
 t66:=Tryz.underlying275
 a66:=Tryz.isAgg275
 z66:=Tryz.sizeOf275
 v66:=Tryz.zeroValue275
 t70:=Tryz.underlying279
 a70:=Tryz.isAgg279
 z70:=Tryz.sizeOf279
 v70:=Tryz.zeroValue279
 t76:=Tryz.underlying281
 a76:=Tryz.isAgg281
 z76:=Tryz.sizeOf281
 v76:=Tryz.zeroValue281
 t77:=Tryz.underlying282
 a77:=Tryz.isAgg282
 z77:=Tryz.sizeOf282
 v77:=Tryz.zeroValue282 }
def Tryz.cloneQ_ren:Go.Shelf.Ren:=⟨fun|41=>110|n=>n,fun|22=>35|23=>48|4=>4|n=>n,fun|n=>n⟩
theorem Tryz.cloneQ:Go.Proofs.SlLaysE0.n41 Tryz.prog Tryz.cloneQ_ren:={
 mixed:=by kernel_rfl
 f41:=⟨Tryz.f110.name,by decide,Tryz.func110.trans (congrArg some (by kernel_rfl))⟩
 t4:=Tryz.underlying4
 a4:=Tryz.isAgg4
 z4:=Tryz.sizeOf4
 v4:=Tryz.zeroValue4
 t22:=Tryz.underlying35
 a22:=Tryz.isAgg35
 z22:=Tryz.sizeOf35
 v22:=Tryz.zeroValue35 }
end Go.Proofs
namespace Go.Proofs.YtgpglgbcobeogaaGreatDoor
open Go Go.RowKit Go.Shelf
theorem A9K(A:Option Addr)(c n:Nat)(l:List Rat)(hn:n=l.length)(hn0:0<n)(hm:n≤1099511627776)(w:World)(h:Lq w A l) :
  Calls Tryz.prog 110 #[.slice A n c] w fun e w'=>∃v,e = .returned v∧w'.ownsRow w.heap.size 48 5 v n (l.flatMap qL)∧A4 w w':=by
 obtain⟨b,off,rfl,hb,hc⟩:=h (fun e=>by rw[e]at hn;simp at hn;omega);obtain⟨-,⟨i0,z,hi,hz,h1,h2,h3⟩,-⟩:=A2i;refine(AnyE.slices_Clone Tryz.cloneQ i0 z 5 56 hi hz h1 h2 h3 (by omega) Tryz.sizeOf48 b off n c (l.flatMap qL) w (by rw[X6];omega) (by unfold maxLen;omega) (by omega) ?_ ?_).mono ?_
 ·intro t u hu;have htl:=(List.getElem?_eq_some_iff.1 hu).1;rw[X6]at htl;have hq:l[t/5]?=some (l[t/5]'(by omega)):=B9w (by omega);have h6:=A2T l hq (j:=t%5) (by omega);rw[show t/5*5+t%5=t by omega,hu]at h6;have h7:=hc _ _ hq _ _ h6.symm
  rwa [show off+t/5*5+t%5=off+t by omega]at h7
 ·intro u hu;obtain⟨q,-,hq⟩:=List.mem_flatMap.1 hu;simp[qL]at hq;rcases hq with rfl|rfl|rfl|rfl|rfl<;>rfl
 ·rintro e w' ⟨v',rfl,ho,hne,hg⟩;exact⟨v',rfl,ho,hg⟩
theorem B0f(A:Option Addr)(rs:List Rq)(N L c:Nat)(hn:rs.length=N)(hN:1≤N)(hN2:N≤300)(hL1:1≤L)(hrl:∀r∈rs,r.2.2.length=L)(w:World)(h:Lrq w A rs) :
  Calls Tryz.prog 160 #[.slice A N c] w fun e w'=>e = .returned (.bool true)∧A4 w w':=by
 obtain⟨bb,ob,rfl⟩:=h.addr (by omega);have hrow:∀i,i<N→∃(Ar:Option Addr) (cr:Nat),∀W,A4 w W→W.cell? ⟨bb,ob+i,none⟩=some (.slice Ar L cr):=fun i hi=>by
  have hil:i<rs.length:=by omega
  refine⟨rs[i].1,rs[i].2.1,fun W hg=>?_⟩;have h3:=((h.grow hg).read (B9w hil)).1;rw[hrl _ (B9U hil)]at h3;exact h3
 obtain⟨A0,c0,hrow0⟩:=hrow 0 (by omega);rw[Nat.add_zero]at hrow0;have f1:((N:Int) == 0)=false:=by simp;omega
 have f1n:decide (N=0)=false:=by simp;omega
 have f4:((L:Int) == 0)=false:=by simp;omega
 have f4n:decide (L=0)=false:=by simp;omega
 have f6:((L:Int) != (L:Int))=false:=by simp
 have hni:(0:Int)<(N:Int):=by omega
 have hnp:0<N:=by omega
 have fn:decide ((0:Int)<(N:Int))=true:=by simp;omega
 have fnn:decide (0<N)=true:=by simp;omega
 have Hrow:=B9g hrow;have Hrow0:=B9g hrow0;clear hrow hrow0 h hrl hn;go_enter Tryz.func160,Tryz.ntmps160;refine en0 ?_;intro u hG hB hF;refine B9b ?_;refine B9b ?_;have q0:=Hrow0.out u hG;refine r0N ?_;refine B9h (rfl) ?_;refine B9i ?_;refine A6 ?_;refine B9b ?_;refine r0T ?_;refine B99 ?_;clear hB hF;go_loopw [17] (fun s0 wr=>∃i:Nat,i≤N∧s0 = .int .i64 i∧A4 w wr) (fun s0 _=>N-(intOf s0).toNat)
 case atStart=>exact⟨0,B9y _,rfl,hG⟩
 case round =>
  clear hG;obtain⟨i,hi,rfl,hG⟩:=hrel;obtain⟨u,rfl⟩:=exQ wr;have hB:=Bx.nil u;have hF:=Fr.nil w;rcases B9H i N with hlt|hge
  ·have hdec:decide ((i:Int)<(N:Int))=true:=by simp;omega
   have hiN:(i:Int)<(N:Int):=by omega
   obtain⟨Ar,cr,hrw⟩:=Hrow.out i hlt;have Hrw:=B9g hrw;clear hrw;refine r0T ?_;refine B9b ?_;refine B9j (rfl) ?_;refine B9i ?_;refine A6 ?_;refine B9b ?_;refine B99 ?_;refine B9b ?_;have q0:=Hrow0.out u hG;have q1:=Hrw.out u hG;refine r0N ?_;refine B9b ?_;have q0:=Hrow0.out u hG;have q1:=Hrw.out u hG;refine r0N ?_;refine B9h (rfl) ?_;refine B9i ?_;refine C8 ?_;refine A6 ?_;refine r0E ?_;refine A6 ?_;go_roundw
   case rel=>exact⟨i+1,by omega,by go_num,hG⟩
   case measure=>simp[intOf];omega
  ·obtain rfl:N=i:=by omega
   have hdec:decide ((N:Int)<(N:Int))=false:=by simp
   refine r0T ?_;refine B9b ?_;refine B9h (rfl) ?_;refine C0B ?_;refine C0 ?_;refine C0 ?_;refine E4 ?_;refine A6 ?_;refine r0T ?_;refine rt Tryz.results160 ?_;exact⟨rfl,hG⟩
theorem B5b(A:Option Addr)(c L:Nat)(l:List Rat)(hl:l.length=L)(hL1:1≤L)(hL:L≤1000)(w:World)(h:Lq w A l) :
  Calls Tryz.prog 110 #[.slice A L c] w (G1 (fun x:Nat×Nat=>.slice (some ⟨x.1,0,none⟩) L x.2) (fun x W=>w.heap.size≤x.1∧W.ownsRow w.heap.size 48 5 (.slice (some ⟨x.1,0,none⟩) L x.2) L (l.flatMap qL)) w) :=
 (A9K A c L l hl.symm (by omega) (by omega) w h).mono fun e w' ⟨v,he,ho,hg⟩=>by
  have ho2:=ho;obtain⟨_,h1|⟨g,cap,cur,rfl,hb,-⟩⟩:=ho
  ·exact absurd h1.2 (by omega)
  ·exact⟨(g,cap),he,⟨hb,ho2⟩,hg⟩
theorem B6C:(Tryz.prog.info? 35).map (fun i=>(i.zero,i.size,i.bytes))=some (some (.slice none 0 0),1,24):=by kernel_rfl
theorem B17(n:Nat):madeCells (Value.slice none 0 0).cells (n*1)=(List.replicate n (Value.slice none 0 0)).toArray:=by
 unfold madeCells;refine Array.ext (by simp) fun i h1 h2=>?_;simp[Value.cells,Nat.mod_one]
theorem A4S(n:Nat)(hn:n≤1048576)(x:Int)(hx:x=n)(W:World):(Instr.makeSlice 39 (.int .i64 x) (.int .i64 x)).run Tryz.prog W =
  .ok (.slice (some ⟨W.heap.size,0,none⟩) n n) (W.alloc (.cells (List.replicate n (Value.slice none 0 0)).toArray 35)):=by
 obtain⟨i0,hi0,hz0,hz1,hz2⟩:=B9r B6C;have hr:=run_make (P:=Tryz.prog) W 39 35 i0 (.slice none 0 0) Tryz.underlying39 hi0 hz0 .i64 .i64 n n (by omega) (by omega) (by rw[hz2];omega) (by omega);rw[hx];rw[hr,hz1];simp only[Int.toNat_natCast];rw[B17]
def Q6(g cp:Nat→Nat)(L n k:Nat):List Value:=(List.range n).map fun t=>if t<k then R8 g cp L t else .slice none 0 0
theorem A0M(g cp:Nat→Nat)(L n k:Nat):(Q6 g cp L n k).length=n:=by unfold Q6;simp
theorem B8r(g cp:Nat→Nat)(L n:Nat):Q6 g cp L n 0=List.replicate n (.slice none 0 0):=by
 unfold Q6;apply B9W
 ·simp
 ·intro i h1 h2;simp
theorem B5u(g cp:Nat→Nat)(L n:Nat):Q6 g cp L n n=A0a g cp L n:=by
 unfold Q6 A0a;refine C1J fun j hj=>?_;rw[if_pos (List.mem_range.1 hj)]
def upd(f:Nat→Nat)(k x:Nat):Nat→Nat:=fun i=>if i=k then x else f i
theorem B2k{g cp:Nat→Nat}{L n k:Nat}(h:k<n)(x y:Nat):(Q6 g cp L n k).set k (.slice (some ⟨x,0,none⟩) L y)=Q6 (upd g k x) (upd cp k y) L n (k+1):=by
 unfold Q6;apply B9W
 ·simp
 ·intro j h1 h2;rw[C1I];simp only[List.getElem_map,List.getElem_range];unfold R8 upd;by_cases e:k=j
  ·subst e;simp
  ·rw[if_neg e];by_cases hj:j<k
   ·rw[if_pos hj,if_pos (by omega),if_neg (fun e2=>e e2.symm),if_neg (fun e2=>e e2.symm)]
   ·rw[if_neg hj,if_neg (by omega)]
theorem A56{u v:World}{B n:Nat}(g cp:Nat→Nat)(L:Nat)(hB:B≤u.heap.size)(hn:n≤1048576)(hv:u.alloc (.cells (List.replicate n (Value.slice none 0 0)).toArray 35)=v):v.ownsRow B 35 1 (.slice (some ⟨u.heap.size,0,none⟩) n n) n ((Q6 g cp L n 0).flatMap J6):=by
 subst hv;have h:=World.ownsRow_lit (base:=B) (e:=35) (size:=1) u (List.replicate n (Value.slice none 0 0)).toArray n hB (by unfold maxLen;omega) (by simp);rw[B8r,show(List.replicate n (Value.slice none 0 0)).flatMap J6=List.replicate n (Value.slice none 0 0)from by simp[List.flatMap_singleton']]
 simpa using h
structure MatP(B n L b0:Nat)(g cp:Nat→Nat)(M:Mx)(k:Nat)(W:World):Prop where
 hd:W.ownsRow B 35 1 (.slice (some ⟨b0,0,none⟩) n n) n ((Q6 g cp L n k).flatMap J6)
 row:∀i,i<k→W.ownsRow B 48 5 (.slice (some ⟨g i,0,none⟩) L (cp i)) L ((G0 M L i).flatMap qL)
 inj:∀i j,i<k→j<k→g i=g j→i=j
theorem MatP.grow{B n L b0 k:Nat}{g cp:Nat→Nat}{M:Mx}{W W':World}(h:MatP B n L b0 g cp M k W)(hg:A4 W W'):MatP B n L b0 g cp M k W':=⟨B9 h.hd hg,fun i hi=>B9 (h.row i hi) hg,h.inj⟩
theorem MatP.step{B n L b0 k x y:Nat}{g cp:Nat→Nat}{M:Mx}{u W W':World}(h0:MatP B n L b0 g cp M k u)(hG:A4 u W)(hk:k<n)(hx:u.heap.size≤x)(hr:W.ownsRow B 48 5 (.slice (some ⟨x,0,none⟩) L y) L ((G0 M L k).flatMap qL))(hu:C2 W b0 k [.slice (some ⟨x,0,none⟩) L y]=W'):MatP B n L b0 (upd g k x) (upd cp k y) M (k+1) W'∧W.grownBy W' (some b0):=by
 have h:=h0.grow hG;have q1:=O7 (enc:=J6) (size:=1) (ps:=Q6 g cp L n k) (fun _=>rfl) h.hd k (.slice (some ⟨x,0,none⟩) L y) (by rw[A0M];exact hk);rw[C0d,hu,B2k hk]at q1;have hb0:b0<u.heap.size:=(h0.hd.lt b0 rfl).2;have hne:∀i,i<k→g i≠b0:=fun i hi e=>N9 h.hd (h.row i hi) (by decide) b0 rfl (by rw[←e];rfl);refine⟨⟨q1.1,fun i hi=>?_,fun i j hi hj e=>?_⟩,q1.2⟩
 ·unfold upd;by_cases e:i=k
  ·subst e;simp only[if_true];exact hr.kept q1.2 (.inr fun e2=>by have:=B9M e2;simp only at this;omega)
  ·simp only[if_neg e];exact(h.row i (by omega)).kept q1.2 (.inr fun e2=>hne i (by omega) (B9M e2))
 ·have hlt:∀i,i<k→g i<u.heap.size:=fun i hi=>((h0.row i hi).lt (g i) rfl).2;unfold upd at e;by_cases e1:i=k
  ·by_cases e2:j=k
   ·omega
   ·rw[if_pos e1,if_neg e2]at e;have:=hlt j (by omega);omega
  ·by_cases e2:j=k
   ·rw[if_neg e1,if_pos e2]at e;have:=hlt i (by omega);omega
   ·rw[if_neg e1,if_neg e2]at e;exact h.inj i j (by omega) (by omega) e
theorem MatP.done{B n L b0:Nat}{g cp:Nat→Nat}{M:Mx}{W:World}(h:MatP B n L b0 g cp M n W):MatW B n L b0 n g cp M W:=⟨by have:=h.hd;rw[B5u]at this;exact this,h.row,h.inj⟩
def F0(X:List (List Rat)):Mx:=fun i j=>gq (B7 X i) j
theorem B7i{X:List (List Rat)}{L i:Nat}(h:(B7 X i).length=L):G0 (F0 X) L i=B7 X i:=by
 unfold G0 F0;apply B9W
 ·simp[h]
 ·intro j h1 h2;simp only[List.getElem_map,List.getElem_range];unfold gq;rw[B9w h2];rfl
theorem B4s(A:Option Addr)(rs:List Rq)(N Lw c:Nat)(hn:rs.length=N)(hN2:N≤300)(hL1:1≤Lw)(hL2:Lw≤1000)(hrl:∀r∈rs,r.2.2.length=Lw)(w:World)(h:Lrq w A rs) :
  Calls Tryz.prog 193 #[.slice A N c] w (G1 (fun x:Nat×(Nat→Nat)×(Nat→Nat)=>.slice (some ⟨x.1,0,none⟩) N N) (fun x W=>MatW w.heap.size N Lw x.1 N x.2.1 x.2.2 (F0 (rs.map (·.2.2))) W) w):=by
 have hat:∀i,i<N→∃(bb ob:Nat) (P:Ax),A=some ⟨bb,ob,none⟩∧∀W,A4 w W→W.cell? ⟨bb,ob+i,none⟩=some (.slice P.1 Lw P.2)∧Calls Tryz.prog 110 #[.slice P.1 Lw P.2] W (G1 (fun x:Nat×Nat=>.slice (some ⟨x.1,0,none⟩) Lw x.2) (fun x W'=>W.heap.size≤x.1∧W'.ownsRow W.heap.size 48 5 (.slice (some ⟨x.1,0,none⟩) Lw x.2) Lw ((G0 (F0 (rs.map (·.2.2))) Lw i).flatMap qL)) W):=fun i hi=>by
  obtain⟨bb,ob,P,e,hP⟩:=U5 hn hrl h hi;refine⟨bb,ob,P,e,fun W hg=>?_⟩;obtain⟨h4,h5,h6⟩:=hP W hg;refine⟨h4,?_⟩;rw[B7i h6];exact B5b P.1 P.2 Lw _ h6 hL1 hL2 W h5
 obtain⟨M,hM⟩:∃M,M=F0 (rs.map (·.2.2)):=⟨_,rfl⟩
 rw[←hM];simp only[←hM]at hat;have hmk:=A4S N (by omega) (N:Int) rfl;have Hat:=B9g hat;have Hmk:=B9g hmk;clear hat hmk hM h hrl hn;go_enter Tryz.func193,Tryz.ntmps193;refine en0 ?_;intro u hG hB hF;refine B9b ?_;have hmk:=Hmk.out;refine L8 ?_;intro K hN;go_wp2_with fail;generalize hv:World.alloc u _=v;have hrow:=A56 (fun _=>0) (fun _=>0) Lw hG.sz (by omega) hv;have hgv:A4 u v:=hv ▸ A4.alloc u _;have hG2:=hG.trans hgv;clear hv hG hB hmk hgv;generalize u.heap.size=b0 at hrow⊢;have Ho:=B9g (MatP.mk hrow (fun i hi=>absurd hi (C1R _)) (fun i j hi=>absurd hi (C1R _)):MatP w.heap.size N Lw b0 (fun _=>0) (fun _=>0) M 0 v);have hG:=hG2;have hB:=Bx.nil v;have hF:=Fr.nil w;clear hrow hG2;obtain⟨u,rfl⟩:=exQ v;refine NoK.norm (hN _ _ ?_);clear hN K;refine A6 ?_;refine B9b ?_;refine r0T ?_;refine B99 ?_;clear hB hF;go_loopw [11] (fun s0 wr=>∃(i:Nat) (g cp:Nat→Nat),i≤N∧s0 = .int .i64 i∧MatP w.heap.size N Lw b0 g cp M i wr∧A4 w wr) (fun s0 _=>N-(intOf s0).toNat)
 case atStart=>exact⟨0,_,_,B9y _,rfl,Ho.out,hG⟩
 case round =>
  clear hG Ho;obtain⟨i,g,cp,hi,rfl,ho,hG⟩:=hrel;obtain⟨u,rfl⟩:=exQ wr;have Ho:=B9g ho;have hB:=Bx.nil u;have hF:=Fr.nil w;clear ho;rcases B9H i N with hlt|hge
  ·have hdec:decide ((i:Int)<(N:Int))=true:=by simp;omega
   have hin:(i:Int)<(N:Int):=by omega
   obtain⟨bb,ob,P,rfl,hrd⟩:=Hat.out i hlt;have Hrd:=B9g hrd;clear hrd;refine r0T ?_;refine B9b ?_;refine B9j (rfl) ?_;refine B9i ?_;refine A6 ?_;refine B9b ?_;refine B99 ?_;refine B9b ?_;have q0:=(Hrd.out u hG).1;refine r0N ?_;obtain⟨u5,hu5⟩:=exQ u;have Hcl:=B9g (fun W (hg:A4 u W)=>((Hrd.out W (hG.trans hg)).2).mono fun e w' ⟨x,g1,g2,g3⟩=>(⟨x,g1,⟨B9Y hg.size g2.1,g2.2.mono (hG.trans hg).sz⟩,g3⟩:G1 (fun x:Nat×Nat=>.slice (some ⟨x.1,0,none⟩) Lw x.2) (fun x W'=>u.heap.size≤x.1∧W'.ownsRow w.heap.size 48 5 (.slice (some ⟨x.1,0,none⟩) Lw x.2) Lw ((G0 M Lw i).flatMap qL)) W e w'));rw[←hu5]at Ho;refine rsC A8 [0,0,0,1,0] hB hG fun K L hN hL=>?_;refine gs ?_;refine gxd (X:=(Nat×Nat)) (fun x:Nat×Nat=>.slice (some ⟨x.1,0,none⟩) Lw x.2) (fun x W'=>u5.heap.size≤x.1∧W'.ownsRow w.heap.size 48 5 (.slice (some ⟨x.1,0,none⟩) Lw x.2) Lw ((G0 M Lw i).flatMap qL)) (fun x u u' hg h=>⟨h.1,B9 h.2 hg⟩) (fun x19=>?_) (C:=by(rintro v ⟨hgu,hB,hG,-⟩;exact(hu5 ▸ Hcl.out _ hgu)));refine gs ?_;refine geC hL ?_;clear hB hG hL L;rintro u ⟨⟨hgu,hB,hG,-⟩,hx19⟩;have hG5:A4 u5 u:=hu5 ▸ hgu;have Hx:=B9g hx19;have hsp:=R9 (enc:=J6) (size:=1) (fun _=>rfl) (Ho.out.grow hG5).hd (A0M g cp Lw N i).symm i 0 (by rw[A0M];exact hlt) (by omega);have hfz:=(Ho.out.grow hG5).hd.frozenAt;rw[C0d,Nat.add_zero,show(J6 ((Q6 g cp Lw N i)[i]'(by rw[A0M];exact hlt)))[0]?=some ((Q6 g cp Lw N i)[i]'(by rw[A0M];exact hlt))from rfl]at hsp;clear hx19 Hcl;clear hgu;refine gt ?_;clear hN K;clear hsp hfz;generalize hu0:World.setCell u _ _=u0;have hu1:C2 u b0 i [.slice (some ⟨x19.1,0,none⟩) Lw x19.2]=u0:=hu0;have hP:=MatP.step Ho.out hG5 hlt Hx.out.1 Hx.out.2 hu1;have hG2:=N7 (Ho.out.grow hG5).hd hG hP.2;have Ho2:=B9g hP.1;clear hG hB Ho hP hu1 hu0 hG5 Hx hu5;have hG:=hG2;have hB:=Bx.nil u0;have hF:=Fr.nil w;have Ho:=Ho2;clear hG2 Ho2 u5;obtain⟨u,rfl⟩:=exQ u0;refine C8 ?_;refine A6 ?_;refine r0E ?_;refine A6 ?_;go_roundw
   case rel=>exact⟨i+1,_,_,by omega,by go_num,Ho.out,hG⟩
   case measure=>simp[intOf];omega
  ·obtain rfl:N=i:=by omega
   have hdec:decide ((N:Int)<(N:Int))=false:=by simp
   have HL:=B9g Ho.out.done;clear Ho;refine r0T ?_;refine B9b ?_;refine B9h (rfl) ?_;refine C0B ?_;refine C0 ?_;refine C0 ?_;refine E4 ?_;refine A6 ?_;refine r0T ?_;refine rt Tryz.results193 ?_;exact⟨(b0,g,cp),rfl,HL.out,hG⟩
end Go.Proofs.YtgpglgbcobeogaaGreatDoor
namespace Go.Proofs.YtgpglgbcobeogaaGreatDoor
open Go Go.RowKit Go.Sort Go.Shelf
abbrev Bq(s:Nat):={x:Rat // qs x≤s+qs 0}
instance (s:Nat):Inhabited (Bq s):=⟨⟨0,Nat.le_add_left _ _⟩⟩
abbrev O2(s:Nat)(x:Bq s):List Value:=qL x.1
abbrev cfB(s:Nat)(x y:Bq s):Int:=I3 x.1 y.1
theorem ltB(s:Nat)(x y:Bq s):ltOf (cfB s) x y=decide (x.1<y.1):=by
 unfold ltOf cfB I3;by_cases h1:x.1<y.1
 ·simp[h1]
 ·by_cases h2:y.1<x.1<;>simp[h1,h2]
theorem B4a(s:Nat):SWO (ltOf (cfB s)) where
 irrefl x:=by rw[ltB];exact C0Q (Rat.not_lt.2 C1S)
 trans x y z h1 h2:=by
  rw[ltB]at *;exact C0L (C1L fun h=>Rat.not_lt.2 (C1T (Rat.le_of_lt (C0K h2)) (Rat.not_lt.1 h)) (C0K h1))
 ntrans x y z h1 h2:=by
  rw[ltB]at *;exact C0Q (Rat.not_lt.2 (C1T (Rat.not_lt.1 (C0O h2)) (Rat.not_lt.1 (C0O h1))))
theorem B3X(s:Nat)(hB:s+qs 0+(s+qs 0)+1≤BIG)(blk off size:Nat)(w:World):CmpLays Tryz.prog 30 #[] (O2 s) 5 (cfB s) blk off size w :=
 fun _ _ _ _ x y=>B2b (A1m x.1 y.1 _ (by have:=x.2;have:=y.2;omega))
theorem B8K(s:Nat)(hB:s+qs 0+(s+qs 0)+1≤BIG)(blk off cap:Nat)(d:Array (Bq s))(w:World)(hH:HoldsK (O2 s) 5 w blk off d)(hblk:blk<w.heap.size)(hsz:d.size<4611686018427387904) :
  Calls Tryz.prog 157 #[.slice (some ⟨blk,off,none⟩) d.size cap,.func (.func 30) #[] #[]] w fun e w' =>
   e = .returned (.tuple #[])∧∃d' n os,PermIn 0 d.size d d'∧SortedIn (ltOf (cfB s)) 0 d.size d'∧w'=sortWorldK (O2 s) 5 w blk off n d' os :=
 AnyQ.slices_SortFunc Tryz.sortQ 5 Tryz.isAgg48 Tryz.sizeOf48 (O2 s) (fun _=>rfl) (fun x v hv=>by simp[O2,qL]at hv;rcases hv with rfl|rfl|rfl|rfl|rfl<;>rfl) (cfB s) (B4a s) 30 #[] blk off cap d w
  (enters_of Tryz.func30 (by kernel_rfl) rfl) (B3X s hB blk off d.size w) hH hblk hsz
def toB(s:Nat)(l:List Rat)(h:∀x∈l,qs x≤s):Array (Bq s):=(l.attach.map fun x=>(⟨x.1,B9Y (h x.1 x.2) (Nat.le_add_right _ _)⟩:Bq s)).toArray
theorem A5d(s:Nat)(l:List Rat)(h:∀x∈l,qs x≤s):(toB s l h).toList.map (·.1)=l:=by
 unfold toB;simp only[List.map_map];exact(C1J fun a _=>rfl).trans (List.attach_map_subtype_val l)
theorem A3r(s:Nat)(l:List Rat)(h:∀x∈l,qs x≤s):(toB s l h).size=l.length:=by
 unfold toB;simp
theorem B8t(s:Nat)(l:List Rat)(h:∀x∈l,qs x≤s){i:Nat}{q:Rat}(hi:l[i]?=some q):((toB s l h)[i]!).1=q:=by
 have hl:i<l.length:=(List.getElem?_eq_some_iff.1 hi).1;have e:=C0r (·[i]?) (A5d s l h);simp only[List.getElem?_map,hi]at e;rw[getElem!_pos _ i (by rw[A3r];exact hl)];rw[Array.getElem?_toList,Array.getElem?_eq_getElem (by rw[A3r];exact hl)]at e
 simpa using e
theorem B59{s:Nat}{w:World}{b:Nat}{d:Array (Bq s)}(hc:∀i,i<d.size→∀j v,(qL (d[i]!).1)[j]?=some v→w.cell? ⟨b,0+i*5+j,none⟩=some v)(hf:∀i,w.frozen? ⟨b,i,none⟩=false):HoldsK (O2 s) 5 w b 0 d:=by
 intro t ht;rw[size_flatK]at ht;refine⟨?_,hf _⟩;rw[get_flatK _ _ _ _ ht];have hlt:t/5<d.size:=by omega
 have h5:t%5<(O2 s d[t/5]!).length:=by show t%5<5;omega
 have:=hc (t/5) hlt (t%5) _ (B9w h5);rw[show 0+t/5*5+t%5=0+t by omega]at this;rw[this];exact C0r some (getElem!_pos (O2 s d[t/5]!) (t%5) h5).symm
theorem B3Q{s:Nat}{w:World}{b:Nat}{d:Array (Bq s)}(h:HoldsK (O2 s) 5 w b 0 d)(hb:b<w.heap.size):Lq w (some ⟨b,0,none⟩) (d.toList.map (·.1)):=fun _=>by
 refine⟨b,0,rfl,hb,fun i q hi j v hj=>?_⟩;rw[List.getElem?_map,Array.getElem?_toList]at hi;have hil:i<d.size:=by
  refine C1L fun hh=>?_;rw[Array.getElem?_eq_none (by omega)]at hi;cases hi
 have hj5:j<5:=(List.getElem?_eq_some_iff.1 hj).1;have ht:i*5+j<(flatK (O2 s) 5 d).size:=by rw[size_flatK];omega
 have h1:=(h (i*5+j) ht).1;rw[get_flatK _ _ _ _ (by omega),show(i*5+j)/5=i by omega,show(i*5+j)%5=j by omega,getElem!_pos d i hil]at h1;rw[Array.getElem?_eq_getElem hil]at hi;simp only[Option.map_some,Option.some.injEq]at hi;rw[←hi]at hj;rw[show 0+i*5+j=0+(i*5+j)by omega,h1];have hjl:j<(O2 s d[i]).length:=hj5;rw[getElem!_pos _ j hjl];rw[B9w hjl]at hj;exact hj
theorem B1K{s:Nat}{d d':Array (Bq s)}(hp:PermIn 0 d.size d d')(hs:SortedIn (ltOf (cfB s)) 0 d.size d'):(d'.toList.map (·.1)).Perm (d.toList.map (·.1))∧(d'.toList.map (·.1)).Pairwise (· ≤ ·):=by
 obtain⟨h1,-,h2⟩:=hp;constructor
 ·rw[←h1]at h2;have e1:d'.extract 0 d'.size=d':=by simp
  have e2:d.extract 0 d'.size=d:=by rw[h1];simp
  rw[e1,e2]at h2;exact h2.map _
 ·rw[List.pairwise_iff_getElem];intro i j hi hj hij;simp only[List.length_map,Array.length_toList]at hi hj;have h3:=hs i j (B9y _) hij (by omega);rw[ltB,getElem!_pos d' i hi,getElem!_pos d' j hj]at h3;simp only[List.getElem_map,Array.getElem_toList];exact Rat.not_lt.1 (C0O h3)
def W9(l:List Rat):List Rat:=l.mergeSort fun a b=>decide (a≤b)
theorem A29(l:List Rat):(W9 l).Perm l:=List.mergeSort_perm l _
theorem A7p(l:List Rat):(W9 l).Pairwise (· ≤ ·):=by
 have h:=List.pairwise_mergeSort (le:=fun a b:Rat=>decide (a≤b)) (fun a b c h1 h2=>C0L (C1T (C0K h1) (C0K h2))) (fun a b=>by
  by_cases h:a≤b
  ·simp[h]
  ·simp[Rat.le_of_lt (Rat.not_le.1 h)]) l
 exact h.imp fun h=>C0K h
theorem B7Y{l l':List Rat}(h1:l'.Perm l)(h2:l'.Pairwise (· ≤ ·)):l'=W9 l :=
 List.Perm.eq_of_pairwise (le:=fun a b:Rat=>a≤b) (fun a b _ _ h1 h2=>Rat.le_antisymm h1 h2) h2 (A7p l) (h1.trans (A29 l).symm)
end Go.Proofs.YtgpglgbcobeogaaGreatDoor
