import Derived.Test.YtgpglgbcobeogaaGreatDoorW30
set_option linter.unusedSimpArgs false
set_option linter.unusedVariables false
set_option maxHeartbeats 4000000
set_option maxRecDepth 100000
namespace Go.Proofs.YtgpglgbcobeogaaGreatDoor
open Go Go.RowKit
theorem B65{P:Program}{fn:Func}{R:Ending→World→Prop}{a:Act}{w:World}(hd:a.defers=[])(hr:(results fn a.tmps).run P w = .ok (.tuple #[]) w)(h:R (.returned (.tuple #[])) w):bodyPost P fn R .normal a w:=bodyPost_end hr hd h
theorem E8{a b c:World}{r:Option Nat}(h:a.grownBy b r)(hg:A4 b c):a.grownBy c r:=A3g h ⟨hg.os,hg.tape,hg.output,hg.size,fun k hk _=>hg.block k hk⟩
theorem A34(a:World)(r:Option Nat):a.grownBy a r:=⟨rfl,rfl,rfl,B9G _,fun _ _ _=>rfl⟩
theorem A1Q{a u u':World}{r:Option Nat}{b i:Nat}{vs:List Value}(h:a.grownBy u r)(hb:a.heap.size≤b)(hu:C2 u b i vs=u'):a.grownBy u' r:=by
 subst hu;have h2:=V6 b vs i u;exact⟨h2.os.trans h.os,h2.tape.trans h.tape,h2.output.trans h.output,B9Y h.size h2.size,fun k hk hne=>(h2.block k (B9l hk h.size) (fun e=>by have:=B9M e;omega)).trans (h.block k hk hne)⟩
theorem A1c{a u u':World}{g:Nat}(h:a.grownBy u (some g))(h2:u.grownBy u' (some g)):a.grownBy u' (some g):=A3g h h2
theorem A9X{q:Rat}:(q.num.sign != 0) = !decide (q=0):=by
 by_cases h:q=0
 ·subst h;rfl
 ·have h1:q.num≠0:=fun e=>h (Rat.num_eq_zero.1 e);have h2:q.num.sign≠0:=fun e=>h1 (Int.sign_eq_zero_iff_zero.1 e);simp[h,h2]
theorem A83{q:Rat}:(q.num.sign == 0)=decide (q=0):=by
 by_cases h:q=0
 ·subst h;rfl
 ·have h1:q.num≠0:=fun e=>h (Rat.num_eq_zero.1 e);have h2:q.num.sign≠0:=fun e=>h1 (Int.sign_eq_zero_iff_zero.1 e);simp[h,h2]
theorem B7f{B n L b0 c0:Nat}{g cp:Nat→Nat}{M:Mx}(hn:n≤300)(top col:Nat)(ht:top≤n)(hc:col<L)(hL:L≤1000)(hs:∀i,i<n→qs (M i col)≤BIG)(w:World)(h:MatW B n L b0 c0 g cp M w) :
  Calls Tryz.prog 194 #[.slice (some ⟨b0,0,none⟩) n c0,.int .i64 (top:Nat),.int .i64 (col:Nat)] w fun e w'=>e = .returned (.int .i64 (if L7 M n top col<n then(L7 M n top col:Nat)else -1))∧A4 w w':=by
 have hBm:=K5;obtain⟨q1,q2,q3,q4⟩:=A4Q (fun i=>decide (M i col=0)) (n-top) top;have hPle:L7 M n top col≤n:=by unfold L7;omega
 have hPge:top≤L7 M n top col:=q1;have hzero:=(A1j M n top col).2;have hnz:=(A1j M n top col).1;have hat:∀i,i<n→∀W,A4 w W→W.cell? ⟨b0,i,none⟩=some (.slice (some ⟨g i,0,none⟩) L (cp i))∧Cq W (g i) (col*5) (M i col):=fun i hi W hg=>⟨(h.grow hg).read hi,(h.grow hg).cq hi hc⟩
 obtain⟨P,hP⟩:∃P,P=L7 M n top col:=⟨_,rfl⟩
 rw[←hP]at hPle hPge hzero hnz⊢;obtain⟨R,hR⟩:∃r:Int,r=(if P<n then(P:Int)else -1):=⟨_,rfl⟩
 rw[←hR];have hcL:(col:Int)<(L:Int):=by omega
 have Hat:=B9g hat;have Hz:=B9g hzero;have Hnz:=B9g hnz;have HR:=B9g hR;have Hs:=B9g hs;clear hat hzero hnz hR hs q1 q2 q3 q4 hP h;go_enter Tryz.func194,Tryz.ntmps194;refine en0 ?_;intro u hG hB hF;refine B9b ?_;refine r0T ?_;refine B99 ?_;clear hB hF;go_loopw [7] (fun s0 wr=>∃i:Nat,top≤i∧i≤P∧s0 = .int .i64 i∧A4 w wr) (fun s0 _=>n-(intOf s0).toNat)
 case atStart=>exact⟨top,B9G _,hPge,rfl,hG⟩
 case round =>
  clear hG;obtain⟨i,hti,hi,rfl,hG⟩:=hrel;obtain⟨u,rfl⟩:=exQ wr;have hB:=Bx.nil u;have hF:=Fr.nil w;rcases B9H i n with hlt|hge
  ·have hdec:decide ((i:Int)<(n:Int))=true:=by simp;omega
   have hin:(i:Int)<(n:Int):=by omega
   have hrd:=Hat.out i hlt;have zs:=Hs.out i hlt;have hsn:=@A9X (M i col);have hsg:=fun W=>R3 (M i col) (by have:=G8 (M i col);omega) W;have hz:=fun h=>Hz.out i hti h;have hnz:i=P→M i col≠0:=fun e=>by
    subst e;exact(Hnz.out hlt).2
   obtain⟨X,hX⟩:∃X,X=M i col:=⟨_,rfl⟩
   rw[←hX]at hsn hsg hz hnz;simp only[←hX]at hrd;obtain⟨S,hS⟩:∃S,S=X.num.sign:=⟨_,rfl⟩
   rw[←hS]at hsn;simp only[←hS]at hsg;have Hrd:=B9g hrd;have Hsg:=B9g hsg;clear hrd hsg hX zs hS;by_cases hiP:i<P
   ·have fS:(S != 0)=false:=by rw[hsn,C0L (hz hiP)];rfl
    clear hsn hz hnz;refine B9b ?_;refine r0T ?_;refine B9j (rfl) ?_;refine B9i ?_;refine A6 ?_;refine B9b ?_;refine B99 ?_;refine B9b (rsE A8 [0,0,0,0,0,0,0,1,0] hB hG fun L hL=>?_)
    repeat first|refine gya ?_|refine gyr ?_|refine gna ?_|refine gyb (by(rintro v ⟨hgu,hB,hG,-⟩ N hN;have r:=hB.r;simp only[BxR]at r;obtain⟨q0,y1,y2,y3,y4,y5⟩:=Hrd.out v hG;go_simp;exact hN)) ?_
    refine gmw (C:=fun v=>Hsg.out _) ?_;refine gs ?_;refine geT hL ?_;clear hB hG hL L;rintro u ⟨-,hB,hG,-⟩;refine B9h (rfl) ?_;refine B9i ?_;refine C8 ?_;refine A6 ?_;refine r0E ?_;refine A6 ?_;go_roundw
    case rel=>exact⟨i+1,by omega,by omega,by go_num,hG⟩
    case measure=>simp[intOf];omega
   ·have eP:P=i:=by omega
    have fS:(S != 0)=true:=by rw[hsn,C0Q (hnz eP.symm)];rfl
    have HR2:=B9g (show R=(i:Int)by rw[HR.out,eP,if_pos hlt]);clear hsn hz hnz hiP eP;refine B9b ?_;refine r0T ?_;refine B9j (rfl) ?_;refine B9i ?_;refine A6 ?_;refine B9b ?_;refine B99 ?_;refine B9b (rsE A8 [0,0,0,0,0,0,0,1,0] hB hG fun L hL=>?_)
    repeat first|refine gya ?_|refine gyr ?_|refine gna ?_|refine gyb (by(rintro v ⟨hgu,hB,hG,-⟩ N hN;have r:=hB.r;simp only[BxR]at r;obtain⟨q0,y1,y2,y3,y4,y5⟩:=Hrd.out v hG;go_simp;exact hN)) ?_
    refine gmw (C:=fun v=>Hsg.out _) ?_;refine gs ?_;refine geT hL ?_;clear hB hG hL L;rintro u ⟨-,hB,hG,-⟩;refine B9j (rfl) ?_;refine r0T ?_;refine rt Tryz.results194 ?_;exact⟨by rw[HR2.out],hG⟩
  ·have eP:¬P<n:=by omega
   obtain rfl:n=i:=by omega
   have hdec:decide ((n:Int)<(n:Int))=false:=by simp
   have HR2:=B9g (show R = -1 by rw[HR.out,if_neg eP]);clear eP;refine B9b ?_;refine r0T ?_;refine B9h (rfl) ?_;refine C0B ?_;refine C0 ?_;refine C0 ?_;refine E4 ?_;refine A6 ?_;refine r0T ?_;refine rt Tryz.results194 ?_;exact⟨by rw[HR2.out],hG⟩
theorem B7C{M:Mx}{i t L:Nat}:J4 M i t 0 L=M:=by
 funext i' j;unfold J4;split
 ·unfold F8 D8;grind
 ·rfl
theorem B66{M:Mx}{i t:Nat}{k:Rat}:J4 M i t k 0=M:=by
 funext i' j;unfold J4;rw[if_neg (by omega)]
theorem B47{M:Mx}{i t j i' j':Nat}{k:Rat}(h:i'≠i):J4 M i t k j i' j'=M i' j':=by
 unfold J4;rw[if_neg (fun e=>h e.1)]
theorem B4n{M:Mx}{i t j i' j':Nat}{k:Rat}(h:j≤j'):J4 M i t k j i' j'=M i' j':=by
 unfold J4;rw[if_neg (by omega)]
theorem B41{M:Mx}{i t j:Nat}{k:Rat}(ht:t≠i):Y5 (J4 M i t k j) i j (F8 (M i j) (D8 k (M t j)))=J4 M i t k (j+1):=by
 funext i' j';unfold Y5 J4;by_cases e1:i'=i
 ·subst e1;by_cases e2:j'=j
  ·subst e2;simp
  ·rw[if_neg (fun e=>e2 e.2)];by_cases e3:j'<j
   ·rw[if_pos ⟨rfl,e3⟩,if_pos ⟨rfl,by omega⟩]
   ·rw[if_neg (by omega),if_neg (by omega)]
 ·rw[if_neg (fun e=>e1 e.1),if_neg (fun e=>e1 e.1),if_neg (fun e=>e1 e.1)]
theorem B49{M:Mx}{i t j:Nat}{k:Rat}(h:M t j=0):J4 M i t k j=J4 M i t k (j+1):=by
 funext i' j';unfold J4;by_cases e1:i'=i
 ·subst e1;by_cases e2:j'=j
  ·subst e2;rw[if_neg (by omega),if_pos ⟨rfl,by omega⟩,h];unfold F8 D8;grind
  ·by_cases e3:j'<j
   ·rw[if_pos ⟨rfl,e3⟩,if_pos ⟨rfl,by omega⟩]
   ·rw[if_neg (by omega),if_neg (by omega)]
 ·rw[if_neg (fun e=>e1 e.1),if_neg (fun e=>e1 e.1)]
theorem B4m{B n Lw b0 c0:Nat}{g cp:Nat→Nat}{M:Mx}(hLw:Lw≤1000)(i t:Nat)(hi:i<n)(ht:t<n)(hit:t≠i)(k:Rat)(s:Nat)(hk:qs k≤s)(hs1:∀j,j<Lw→qs (M i j)≤s)(hs2:∀j,j<Lw→qs (M t j)≤s)(hBz:4*s+10≤BIG)(w0 w:World)(hG0:A4 w0 w)(hB0:w0.heap.size≤B)(h:MatW B n Lw b0 c0 g cp M w)(HT:Tab w0) :
  Calls Tryz.prog 195 #[R8 g cp Lw i,R8 g cp Lw t,qV k] w fun e w'=>e = .returned (.tuple #[])∧MatW B n Lw b0 c0 g cp (J4 M i t k Lw) w'∧w.grownBy w' (some (g i)):=by
 have hBm:=K5;have hsk:=@A83 k;have hsg:=fun W=>R3 k (by have:=G8 k;omega) W;obtain⟨S,hS⟩:∃S,S=k.num.sign:=⟨_,rfl⟩
 rw[←hS]at hsk;simp only[←hS]at hsg;have Hm:=B9g h;have Hsg:=B9g hsg;have HG0:=B9g hG0;have Hs1:=B9g hs1;have Hs2:=B9g hs2;by_cases hk0:k=0
 ·have e0:J4 M i t k Lw=M:=by rw[hk0];exact B7C
  rw[e0];have fS:(S == 0)=true:=by rw[hsk];exact C0L hk0
  clear hsk hS hsg h hG0 hs1 hs2 hk0 e0;go_enter Tryz.func195,Tryz.ntmps195;refine en1 ?_;intro u hG b5 hB hF;refine B9b ?_;refine B9b (rsE A8 [0,1,0] hB hG fun L hL=>?_);refine gs ?_;refine gmw (C:=fun v=>Hsg.out _) ?_;refine gs ?_;refine geT hL ?_;clear hB hG hL L;rintro u ⟨-,hB,hG,-⟩;refine B9j (rfl) ?_;refine rt Tryz.results195 ?_;exact⟨rfl,Hm.out.grow hG,E8 (A34 _ _) hG⟩
 ·have fS:(S == 0)=false:=by rw[hsk];exact C0Q hk0
  clear hsk hS hsg h hG0 hs1 hs2;go_enter Tryz.func195,Tryz.ntmps195;refine en1 ?_;intro u hG b5 hB hF;refine B9b ?_;refine B9b (rsE A8 [0,1,0] hB hG fun L hL=>?_);refine gs ?_;refine gmw (C:=fun v=>Hsg.out _) ?_;refine gs ?_;refine geT hL ?_;clear hB hG hL L;rintro u ⟨-,hB,hG,-⟩;refine B9h (rfl) ?_;refine B9i ?_;refine A6 ?_;refine r0T ?_;have hG2:=HG0.out.trans hG;have h5w:=hF.1 b5 (by simp);have hgb:=E8 (A34 w (some (g i))) hG;have hm:=Hm.out.grow hG;have hgi:=(Hm.out.glt hi).2;have h05:w0.heap.size≤b5:=B9Y HG0.out.size h5w;clear hG hF HG0 Hm;obtain⟨w1,rfl⟩:=exQ w;obtain⟨w,rfl⟩:=exQ w0;have hG:=hG2
  have hF:Fr w [b5]:=⟨fun b hb=>by
   have e:b=b5:=by simpa using hb
   rw[e]
   exact h05,by simp⟩
  clear hG2;refine B99 ?_;clear hF;go_loopw [13] (fun s0 wr=>∃j:Nat,j≤Lw∧s0 = .int .i64 j∧MatW B n Lw b0 c0 g cp (J4 M i t k j) wr∧Bx wr [(b5,48,S6 k)]∧A4 w wr∧w1.grownBy wr (some (g i))) (fun s0 _=>Lw-(intOf s0).toNat)
  case atStart=>exact⟨0,B9y _,rfl,by rw[B66];exact hm,hB,hG,hgb⟩
  case round =>
   clear hB hG hm hgb;obtain⟨j,hj,rfl,hm,hB,hG,hgb⟩:=hrel;obtain⟨u,rfl⟩:=exQ wr
   have hF:Fr w [b5]:=⟨fun b hb=>by
    have e:b=b5:=by simpa using hb
    rw[e]
    exact h05,by simp⟩
   rcases B9H j Lw with hlt|hge
   ·have hdec:decide ((j:Int)<(Lw:Int))=true:=by simp;omega
    have hjn:(j:Int)<(Lw:Int):=by omega
    obtain⟨M',hM'⟩:∃M',M'=J4 M i t k j:=⟨_,rfl⟩
    have et:M' t j=M t j:=by rw[hM'];exact B47 hit
    have ei:M' i j=M i j:=by rw[hM'];exact B4n (B9G _)
    rw[←hM']at hm;have hrt:=fun W (hg:A4 u W)=>(hm.grow hg).cq ht hlt;rw[et]at hrt;have z1:=Hs1.out j hlt;have z2:=Hs2.out j hlt;have hst:=B41 (M:=M) (j:=j) (k:=k) hit;have hsp:=fun h=>B49 (M:=M) (i:=i) (t:=t) (j:=j) (k:=k) h;rw[←hM']at hst hsp;obtain⟨X,hX⟩:∃X,X=M t j:=⟨_,rfl⟩
    obtain⟨Y,hY⟩:∃X,X=M i j:=⟨_,rfl⟩
    rw[←hX]at hst hsp z2;simp only[←hX]at hrt;rw[←hY]at hst z1 ei;have hsx:=@A9X X;have hsg:=fun W=>R3 X (by have:=G8 X;omega) W;obtain⟨S2,hS2⟩:∃S,S=X.num.sign:=⟨_,rfl⟩
    rw[←hS2]at hsx;simp only[←hS2]at hsg;have z3:=A0d k X;have hml:=fun W hT=>A1g k X W (by omega) hT;obtain⟨D,hD⟩:∃D,D=D8 k X:=⟨_,rfl⟩
    rw[←hD]at hst;simp only[←hD]at hml;have z4:qs D≤s+s:=by rw[hD];unfold D8;omega
    have hsb:=fun W hT=>A2R Y D W (by omega) hT;obtain⟨E,hE⟩:∃D',D'=F8 Y D:=⟨_,rfl⟩
    rw[←hE]at hst;simp only[←hE]at hsb;have Hrt:=B9g hrt;have Hei:=B9g ei;have Hst:=B9g hst;have Hsg2:=B9g hsg;have Hml:=B9g hml;have Hsb:=B9g hsb;have Hm:=B9g hm;have Hgb:=B9g hgb;clear hrt ei hst hsg hml hsb hm hgb hX hY hD hE hS2 et hM' z1 z2 z3 z4;by_cases hx0:X=0
    ·have fX:(S2 != 0)=false:=by rw[hsx,C0L hx0];rfl
     have Hsp:=B9g (hsp hx0);clear hsx hsp hx0;refine r0T ?_;refine B9b ?_;refine B9j (rfl) ?_;refine B9i ?_;refine A6 ?_;refine B9b ?_;refine B99 ?_;refine B9b (rsC A8 [0,0,0,2,0] hB hG fun K L hN hL=>?_)
     repeat first|refine gya ?_|refine gyr ?_|refine gna ?_|refine gyb (by(rintro v ⟨hgu,hB,hG,-⟩ N hN;have r:=hB.r;simp only[BxR]at r;(first|obtain⟨y1,y2,y3,y4,y5⟩:=Hrt.out v hgu|skip);go_simp;exact hN)) ?_
     refine gaa (J5 _ _ _ _ _) fun b7 hb7 hn7=>?_;refine gs ?_;replace hF:=hF.n1 [] hB hG hb7 hn7;refine geC hL ?_;clear hB hG hL L;rintro u ⟨⟨hgu,hB,hG,-⟩,h7⟩;replace hB:=hB.cons' h7;clear h7;clear Hrt;obtain⟨hfr1,hfr2⟩:=Hm.out.fresh hb7;have hw17:w1.heap.size≤b7:=B9Y Hgb.out.size hb7;have Hm2:=B9g (Hm.out.grow hgu);have Hgb2:=B9g (E8 Hgb.out hgu);clear Hm Hgb;have Hm:=Hm2;have Hgb:=Hgb2;clear Hm2 Hgb2;clear hb7 hn7;clear hgu;refine gtT ?_;clear hN K;refine sv hB hF hG 0 0 [_,_,_,_,_] ?_;intro u hu hBG;have Hm2:=B9g (Hm.out.over ⟨hfr1,hfr2⟩ hu);have Hgb2:=B9g (A1Q Hgb.out hw17 hu);clear hB hG Hm Hgb hu hfr1 hfr2 hw17;have Hm:=Hm2;have Hgb:=Hgb2;clear Hm2 Hgb2;obtain⟨hB,hG⟩:=hBG;refine B9b (rsE A8 [0,1,0] hB hG fun L hL=>?_)
     repeat first|refine gya ?_|refine gyr ?_|refine gna ?_|refine gyb (by(rintro v ⟨hgu,hB,hG,-⟩ N hN;have r:=hB.r;simp only[BxR]at r;(first|obtain⟨y1,y2,y3,y4,y5⟩:=Hrt.out v hgu|skip);go_simp;exact hN)) ?_
     refine gmw (C:=fun v=>Hsg2.out _) ?_;refine gs ?_;refine geT hL ?_;clear hB hG hL L;rintro u ⟨hgu,hB,hG,-⟩;have Hm2:=B9g (Hm.out.grow hgu);have Hgb2:=B9g (E8 Hgb.out hgu);clear Hm Hgb;have Hm:=Hm2;have Hgb:=Hgb2;clear Hm2 Hgb2;clear hgu;refine B9h (rfl) ?_;refine B9i ?_;refine C8 ?_;refine A6 ?_;refine r0E ?_;refine A6 ?_;go_roundw
     case rel=>exact⟨j+1,by omega,by go_num,Hsp.out ▸ Hm.out,hB.tail,hG,Hgb.out⟩
     case measure=>simp[intOf];omega
    ·have fX:(S2 != 0)=true:=by rw[hsx,C0Q hx0];rfl
     clear hsx hsp hx0;refine r0T ?_;refine B9b ?_;refine B9j (rfl) ?_;refine B9i ?_;refine A6 ?_;refine B9b ?_;refine B99 ?_;refine B9b (rsC A8 [0,0,0,2,0] hB hG fun K L hN hL=>?_)
     repeat first|refine gya ?_|refine gyr ?_|refine gna ?_|refine gyb (by(rintro v ⟨hgu,hB,hG,-⟩ N hN;have r:=hB.r;simp only[BxR]at r;(first|obtain⟨y1,y2,y3,y4,y5⟩:=Hrt.out v hgu|obtain⟨y1,y2,y3,y4,y5⟩:=Hri.out v hgu|skip);go_simp;exact hN)) ?_
     refine gaa (J5 _ _ _ _ _) fun b7 hb7 hn7=>?_;refine gs ?_;replace hF:=hF.n1 [] hB hG hb7 hn7;refine geC hL ?_;clear hB hG hL L;rintro u ⟨⟨hgu,hB,hG,-⟩,h7⟩;replace hB:=hB.cons' h7;clear h7;clear Hrt;obtain⟨hfr1,hfr2⟩:=Hm.out.fresh hb7;have hw17:w1.heap.size≤b7:=B9Y Hgb.out.size hb7;have Hm2:=B9g (Hm.out.grow hgu);have Hgb2:=B9g (E8 Hgb.out hgu);clear Hm Hgb;have Hm:=Hm2;have Hgb:=Hgb2;clear Hm2 Hgb2;clear hb7 hn7;clear hgu;refine gtT ?_;clear hN K;refine sv hB hF hG 0 0 [_,_,_,_,_] ?_;intro u hu hBG;have Hm2:=B9g (Hm.out.over ⟨hfr1,hfr2⟩ hu);have Hgb2:=B9g (A1Q Hgb.out hw17 hu);clear hB hG Hm Hgb hu hfr1 hfr2 hw17;have Hm:=Hm2;have Hgb:=Hgb2;clear Hm2 Hgb2;obtain⟨hB,hG⟩:=hBG;refine B9b (rsE A8 [0,1,0] hB hG fun L hL=>?_)
     repeat first|refine gya ?_|refine gyr ?_|refine gna ?_|refine gyb (by(rintro v ⟨hgu,hB,hG,-⟩ N hN;have r:=hB.r;simp only[BxR]at r;(first|obtain⟨y1,y2,y3,y4,y5⟩:=Hrt.out v hgu|obtain⟨y1,y2,y3,y4,y5⟩:=Hri.out v hgu|skip);go_simp;exact hN)) ?_
     refine gmw (C:=fun v=>Hsg2.out _) ?_;refine gs ?_;refine geT hL ?_;clear hB hG hL L;rintro u ⟨hgu,hB,hG,-⟩;have Hm2:=B9g (Hm.out.grow hgu);have Hgb2:=B9g (E8 Hgb.out hgu);clear Hm Hgb;have Hm:=Hm2;have Hgb:=Hgb2;clear Hm2 Hgb2;clear hgu;refine B9j (rfl) ?_;have Hri:=B9g (fun W (hg:A4 u W)=>Hei.out ▸ (Hm.out.grow hg).cq hi hlt);refine rdC A8 [] [(0,0),(0,1),(0,2),(0,3),(0,4),(0,5),(0,6),(0,7),(1,8),(1,9),(0,10)] hB hG fun K L hN hL=>?_
     repeat first|refine gya ?_|refine gyr ?_|refine gna ?_|refine gyb (by(rintro v ⟨hgu,hB,hG,-⟩ N hN;have r:=hB.r;simp only[BxR]at r;(first|obtain⟨y1,y2,y3,y4,y5⟩:=Hrt.out v hgu|obtain⟨y1,y2,y3,y4,y5⟩:=Hri.out v hgu|skip);go_simp;exact hN)) ?_
     refine gmd (C:=fun v ⟨hgu,hB,hG,_⟩=>Hml.out _ (HT.grow hG)) ?_;refine gmd (C:=fun v ⟨hgu,hB,hG,_⟩=>Hsb.out _ (HT.grow hG)) ?_;refine gs ?_;refine geC hL ?_;clear hB hG hL L;rintro u ⟨hgu,hB,hG,-⟩;clear Hri;have Hm2:=B9g (Hm.out.grow hgu);have Hgb2:=B9g (E8 Hgb.out hgu);clear Hm Hgb;have Hm:=Hm2;have Hgb:=Hgb2;clear Hm2 Hgb2;obtain⟨o0,o1,o2,o3,o4⟩:=Hm.out.cq hi hlt;have hfz:=(Hm.out.row i hi).frozenAt;clear hgu;refine gt ?_;clear hN K;clear o0 o1 o2 o3 o4 hfz;generalize hu0:World.setCell (World.setCell (World.setCell (World.setCell (World.setCell u _ _) _ _) _ _) _ _) _ _=u0;have hu1:C2 u (g i) (j*5) (qL E)=u0:=hu0;have hP:=Hm.out.put hi hlt E rfl hu1;rw[Hst.out]at hP
     have hG2:A4 w u0:=hG.grown hP.2 (fun k hk=>by
      have e:=B9M hk;have:=(Hm.out.glt hi).1
      omega)
     have hB2:=hB.tail.grown_ hP.2 (fun e he hxe=>by
      have e1:e=_:=List.mem_singleton.1 he;subst e1;have:=B9M hxe;simp only at this
      omega)
     have Hgb2:=B9g (A1c Hgb.out hP.2);have Hm2:=B9g hP.1;clear hG hB Hm Hgb hP hu1 hu0;have hG:=hG2;have hB:=hB2;have Hm:=Hm2;have Hgb:=Hgb2;clear hG2 hB2 Hm2 Hgb2;obtain⟨u,rfl⟩:=exQ u0;refine C8 ?_;refine A6 ?_;refine r0E ?_;refine A6 ?_;go_roundw
     case rel=>exact⟨j+1,by omega,by go_num,Hm.out,hB,hG,Hgb.out⟩
     case measure=>simp[intOf];omega
   ·obtain rfl:Lw=j:=by omega
    have hdec:decide ((Lw:Int)<(Lw:Int))=false:=by simp
    have Hm:=B9g hm;have Hgb:=B9g hgb;clear hm hgb;refine r0T ?_;refine B9b ?_;refine B9h (rfl) ?_;refine C0B ?_;refine C0 ?_;refine C0 ?_;refine E4 ?_;refine B65 rfl (results_none rfl _ _ _) ⟨rfl,Hm.out,Hgb.out⟩
end Go.Proofs.YtgpglgbcobeogaaGreatDoor
