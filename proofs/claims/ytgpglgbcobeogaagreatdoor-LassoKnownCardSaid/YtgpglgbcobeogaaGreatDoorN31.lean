import Derived.Test.YtgpglgbcobeogaaGreatDoorN27
set_option linter.unusedSimpArgs false
set_option linter.unusedVariables false
set_option maxHeartbeats 8000000
set_option maxRecDepth 100000
namespace Go.Proofs.YtgpglgbcobeogaaGreatDoor
open Go Go.RowKit
theorem P9{w1 u u':World}{b i:Nat}{vs:List Value}(h:A4 w1 u)(hb:w1.heap.size<=b)(hu:C2 u b i vs=u'):A4 w1 u':=hu ▸ A4.put hb vs i u h
theorem B33(A Y:Option Addr)(N M c d:Nat)(hs:∀W,Calls Tryz.prog 57 #[.slice A N c,.slice Y M d] W λe w'=>e = .returned (.bool false)/\A4 W w')(w:World) :
  Calls Tryz.prog 35 #[.slice A N c,.slice Y M d] w λe w'=>e = .returned (.tuple #[qV 0,.int .i64 5])/\A4 w w':=by
 go_enter Tryz.func35,Tryz.ntmps35;refine en1 ?_;intro u hG b4 hB hF;refine B9D ?_;refine B9D (rsE A8 [0,0,1,0] hB hG λL hL=>?_);refine gs ?_;refine gmw (C:=λv=>hs _) ?_;refine gs ?_;refine geT hL ?_;clear hB hG hL L;rintro u ⟨-,hB,hG,-⟩;refine B9L (rfl) ?_;refine r0T ?_;refine st hB hF hG 0 0 [_,_,_,_,_] ?_;clear hB hG;intro u hB hG;refine rt Tryz.results35 ?_;exact⟨rfl,hG⟩
theorem A9d(n:Nat):∀j,j<n->qs (gq (S7 n) j)<=1:=λj _=>by rw[B0O,A3A];exact B8s _
theorem A7E(A Y:Option Addr)(rs:List Rq)(y:List Rat)(N Lw c d:Nat)(hn:rs.length=N)(hN:1<=N)(hN2:N<=20)(hrl:∀r∈rs,r.2.2.length=Lw)(hy:y.length=N)(hL1:1<=Lw)(hL:Lw<=20)(s:Nat)(hs1:1<=s)(hs:s<=10000000)(hX:∀i,i<N->∀j,j<Lw->qs (gq (B7 (rs.map (·.2.2)) i) j)<=s)(hys:∀i,i<N->qs (gq y i)<=s)(w:World)(h:Lrq w A rs)(h2:Lq w Y y)(HT:Tab w) :
  Calls Tryz.prog 35 #[.slice A N c,.slice Y N d] w λe w'=>e = .returned (.tuple #[qV (M5 (rs.map (·.2.2)) y N Lw),.int .i64 0])/\A4 w w':=by
 have hBB:1000000000000<=BIG:=by unfold BIG;omega
 have hsh:=λW (hg:A4 w W)=>A3l A Y rs N Lw c d hn hN (by omega) hL1 hL hrl W (h.grow hg);have hzl:(S7 Lw).length=Lw:=by unfold S7;simp
 have hpl:=λW b (hg:A4 w W) (hz:Lq W (some ⟨b,0,none⟩) (S7 Lw))=>A6I A Y (some ⟨b,0,none⟩) rs y (S7 Lw) N Lw c d Lw hn hN hN2 hrl hy hzl hL1 hL s hs hX hys (λj hj=>B9A (A9d Lw j hj) hs1) W (h.grow hg) (h2.grow hg) hz (HT.grow hg);have hPs:=A7x (X:=rs.map (·.2.2)) (y:=y) (w:=S7 Lw) hN2 hL hs hX hys (λj hj=>B9A (A9d Lw j hj) hs1);have hPl:=A8k (rs.map (·.2.2)) y (S7 Lw) N Lw;unfold M5;obtain⟨PL,hPe⟩:∃R,R=R3 (rs.map (·.2.2)) y (S7 Lw) N Lw:=⟨_,rfl⟩
 rw[<-hPe]at hPs hPl⊢;simp only[<-hPe]at hpl;have hTs:=A5s (p:=PL) (n:=Lw) (s:=11000000000) (by omega) hPs;obtain⟨bb,ob,P0,eA,hP0⟩:=U9 hn hrl h (i:=0) (by omega);have hr0:=λW hg=>(hP0 W hg).1;simp only[Nat.add_zero]at hr0;subst eA;have hNi:(0:Int)<(N:Int):=by omega
 have hNn:0<N:=by omega
 have fN:decide ((0:Int)<(N:Int))=true:=by simp;omega
 have fNn:decide (0<N)=true:=by simp;omega
 have hmk:=A1E Lw (by omega) (Lw:Int) rfl;have Hsh:=B9I hsh;have Hpl:=B9I hpl;have Hr0:=B9I hr0;have Hmk:=B9I hmk;have HPs:=B9I hPs;have HPl:=B9I hPl;have HTs:=B9I hTs;clear hsh hpl hr0 hmk hPs hPl hTs hPe hP0 hX hys hs hs1 h h2 hrl hn hy hzl;go_enter Tryz.func35,Tryz.ntmps35;refine en1 ?_;intro u hG b4 hB hF;refine B9D ?_;refine B9D (rsE A8 [0,0,1,0] hB hG λL hL=>?_);refine gs ?_;refine gmd (C:=λv ⟨hgu,hB,hG,_⟩=>Hsh.out _ hG) ?_;refine gs ?_;refine geT hL ?_;clear hB hG hL L;rintro u ⟨-,hB,hG,-⟩;refine B9J (rfl) ?_;refine B9K ?_;refine A6 ?_;refine B9D ?_;have hmk:=Hmk.out;refine rsE A8 [0,0,0,0,0,0,1,1,0,0,0,0,0] hB hG λL hL=>?_
 repeat first|refine gya ?_|refine gyr ?_|refine gna ?_|refine gyb (by(rintro v ⟨hgu,hB,hG,-⟩ N hN;have r:=hB.r;simp only[BxR]at r;have q0:=Hr0.out v hG;go_simp;exact hN)) ?_
 refine gx Nat (λb=>.slice (some ⟨b,0,none⟩) Lw Lw) (λb W=>Lq W (some ⟨b,0,none⟩) (S7 Lw)) (λ_ _ _ hg h=>Lq.grow h hg) rfl ?_ (λx23=>?_)
 ·(rintro v ⟨hgu,hB,hG,-⟩ N hN;go_simp;exact hN v.heap.size _ (A0D v (S7 Lw)) (A4.alloc _ _))
 refine okf (by simp only[Act.put,List.setIfInBounds_toArray,List.set_cons_succ,List.set_cons_zero];exact rfl) ?_;refine gxd (X:=Ax) (λx:Ax=>.tuple #[.slice x.1 Lw x.2,.int .i64 0]) (λx W=>Lq W x.1 PL) (λx u u' hg h=>Lq.grow h hg) (λx24=>?_) (C:=by(rintro v ⟨⟨hgu,hB,hG,-⟩,hx23⟩;exact Hpl.out _ x23 hG hx23));refine gs ?_;refine geT hL ?_;clear hB hG hL L;rintro u ⟨⟨⟨hgu,hB,hG,-⟩,hx23⟩,hx24⟩;obtain⟨xa,xc⟩:=x24;obtain⟨w1,hw1⟩:=exQ u;have HP:=B9I (show Lq w1 xa PL from hw1 ▸ hx24);have hG1:A4 w1 u:=hw1 ▸ A4.refl u;clear hx23 hx24 hw1 hmk;obtain⟨bp,op,rfl⟩:∃b o,xa=some ⟨b,o,none⟩:=HP.out.addr (by rw[HPl.out];omega);clear hgu;refine B9D (rsC A8 [0,2] hB hG λK L hN hL=>?_);refine gs ?_;refine gaa (G6 _ _ _ _ _) λb8 hb8 hn8=>?_;replace hF:=hF.n1 [] hB hG hb8 hn8;refine geC hL ?_;clear hB hG hL L;rintro u ⟨⟨hgu,hB,hG,-⟩,h8⟩;replace hB:=hB.cons' h8;clear h8;have hw8:w1.heap.size<=b8:=B9A hG1.size hb8;replace hG1:=hG1.trans hgu;clear hb8 hn8;clear hgu;refine gtT ?_;clear hN K;refine sv hB hF hG 0 0 [_,_,_,_,_] ?_;intro u hu hBG;replace hG1:=P9 hG1 hw8 hu;clear hB hG hu;obtain⟨hB,hG⟩:=hBG;refine B9D ?_;refine r0T ?_;refine B9l ?_;go_loopw [30] (λs0 wr=>∃(j:Nat) (S:Rat),j<=Lw/\s0 = .int .i64 j/\S=U5 PL j/\Bx wr [(b8,48,L9 S),(b4,48,A3D)]/\A4 w wr/\A4 w1 wr) (λs0 _=>Lw-(intOf s0).toNat)
 case atStart=>exact⟨0,0,B9a _,rfl,rfl,hB,hG,hG1⟩
 case round =>
  clear hB hG hG1;obtain⟨j,S,hj,rfl,hS,hB,hG,hG1⟩:=hrel;obtain⟨u,rfl⟩:=exQ wr;have z1:=HTs.out j hj;rw[<-hS]at z1;rcases B8t j Lw with hlt|hge
  ·have hdec:decide ((j:Int)<(Lw:Int))=true:=by simp;omega
   have hjn:(j:Int)<(Lw:Int):=by omega
   have hrd:∀W,A4 w1 W->Cq W bp (op+j*5) (gq PL j):=λW hg=>(HP.out.grow hg).read (by rw[HPl.out];exact hlt);have z2:=HPs.out j hlt;have hnx:U5 PL (j+1)=R9 (U5 PL j) (Q5 (gq PL j)):=rfl;rw[<-hS]at hnx;obtain⟨X,hX⟩:∃X,X=gq PL j:=⟨_,rfl⟩
   rw[<-hX]at z2 hnx;simp only[<-hX]at hrd;have hab:=λW=>A62 X (by have:=G3 X;omega) W;have z3:=A3c X;obtain⟨B1,hB1⟩:∃D,D=Q5 X:=⟨_,rfl⟩
   rw[<-hB1]at hnx z3;simp only[<-hB1]at hab;have hmx:=λW=>B0k S B1 (by omega) W;obtain⟨M1,hM1⟩:∃D,D=R9 S B1:=⟨_,rfl⟩
   rw[<-hM1]at hnx;simp only[<-hM1]at hmx;have Hrd:=B9I hrd;have Hnx:=B9I hnx;have Hab:=B9I hab;have Hmx:=B9I hmx;clear hrd hnx hab hmx hX hB1 hM1 hS z1 z2 z3;refine r0T ?_;refine B9D ?_;refine B9L (rfl) ?_;refine B9K ?_;refine A6 ?_;refine B9D ?_;refine B9l ?_;refine B9D (rsC A8 [0,0,2] hB hG λK L hN hL=>?_)
   repeat first|refine gya ?_|refine gyr ?_|refine gna ?_|refine gyb (by(rintro v ⟨hgu,hB,hG,-⟩ N hN;have r:=hB.r;simp only[BxR]at r;obtain⟨y1,y2,y3,y4,y5⟩:=Hrd.out v (hG1.trans hgu);go_simp;exact hN)) ?_
   refine gaa (G6 _ _ _ _ _) λb10 hb10 hn10=>?_;replace hF:=hF.n1 [] hB hG hb10 hn10;refine geC hL ?_;clear hB hG hL L;rintro u ⟨⟨hgu,hB,hG,-⟩,h10⟩;replace hB:=hB.cons' h10;clear h10;have hw10:w1.heap.size<=b10:=B9A hG1.size hb10;replace hG1:=hG1.trans hgu;clear hb10 hn10;clear hgu;refine gtT ?_;clear hN K;refine sv hB hF hG 0 0 [_,_,_,_,_] ?_;intro u hu hBG;replace hG1:=P9 hG1 hw10 hu;clear hB hG hu;obtain⟨hB,hG⟩:=hBG;refine rdC A8 [] [(0,0),(0,1),(1,2),(1,3)] hB hG λK L hN hL=>?_
   repeat first|refine gya ?_|refine gyr ?_|refine gna ?_|refine gyb (by(rintro v ⟨hgu,hB,hG,-⟩ N hN;have r:=hB.r;simp only[BxR]at r;obtain⟨y1,y2,y3,y4,y5⟩:=Hrd.out v (hG1.trans hgu);go_simp;exact hN)) ?_
   refine gmw (C:=λv=>Hab.out _) ?_;refine gmw (C:=λv=>Hmx.out _) ?_;refine geC hL ?_;clear hB hG hL L;rintro u ⟨hgu,hB,hG,-⟩;replace hG1:=hG1.trans hgu;clear hgu;refine gt ?_;clear hN K;refine sv hB hF hG 1 0 [_,_,_,_,_] ?_;intro u hu hBG;replace hG1:=P9 hG1 hw8 hu;clear hB hG hu;obtain⟨hB,hG⟩:=hBG;refine C5 ?_;refine A6 ?_;refine r0E ?_;refine A6 ?_;go_roundw
   case rel=>exact⟨j+1,M1,by omega,by go_num,Hnx.out.symm,hB.tail,hG,hG1⟩
   case measure=>simp[intOf];omega
  ·obtain rfl:Lw=j:=by omega
   have hdec:decide ((Lw:Int)<(Lw:Int))=false:=by simp
   rw[<-hS];clear hS z1 hG1;refine r0T ?_;refine B9D ?_;refine B9J (rfl) ?_;refine B9n ?_;refine B9 ?_;refine B9 ?_;refine E4 ?_;refine A6 ?_;refine r0T ?_;refine st hB hF hG 1 0 [_,_,_,_,_] ?_;clear hB hG;intro u hB hG;refine rt Tryz.results35 ?_;exact⟨rfl,hG⟩
theorem A2V(a:Rat):a.num.sign=1\/a.num.sign = -1\/a.num.sign=0:=by
 rcases C0M a.num 0 with h|h|h
 ·exact .inr (.inl (Int.sign_eq_neg_one_iff_neg.2 h))
 ·exact .inr (.inr (by rw[h];rfl))
 ·exact .inl (Int.sign_eq_one_iff_pos.2 h)
theorem B5B(A Y V:Option Addr)(rs:List Rq)(y v:List Rat)(N Lw c d k:Nat)(a:Rat)(hn:rs.length=N)(hN:1<=N)(hN2:N<=20)(hrl:∀r∈rs,r.2.2.length=Lw)(hy:y.length=N)(hv:v.length=Lw)(hL1:1<=Lw)(hL:Lw<=20)(s:Nat)(hs:s<=10000000)(hX:∀i,i<N->∀j,j<Lw->qs (gq (B7 (rs.map (·.2.2)) i) j)<=s)(hys:∀i,i<N->qs (gq y i)<=s)(hvs:∀j,j<Lw->qs (gq v j)<=s)(ha:qs a<=s)(ha0:¬a<0)(w:World)(h:Lrq w A rs)(h2:Lq w Y y)(h3:Lq w V v)(HT:Tab w) :
  Calls Tryz.prog 34 #[.slice A N c,.slice Y N d,.slice V Lw k,qV a] w λe w'=>e = .returned (.tuple #[.int .i64 (if Y6 (rs.map (·.2.2)) y v N Lw a<Lw then(Y6 (rs.map (·.2.2)) y v N Lw a:Nat)else -1),.bool (decide (Y6 (rs.map (·.2.2)) y v N Lw a=Lw)),.int .i64 0])/\A4 w w':=by
 have hBB:1000000000000<=BIG:=by unfold BIG;omega
 have hck:∀W,A4 w W->Calls Tryz.prog 91 #[.slice A N c,.slice Y N d,.slice V Lw k,qV a] W λe w'=>e = .returned (.int .i64 0)/\A4 W w':=λW hg=>by
  have h4:=A6L A Y V rs N Lw Lw c d k hn hN (by omega) hL1 hL hrl a (by omega) W (h.grow hg);rw[if_neg (by simp),if_neg ha0]at h4;exact h4
 have hpl:=λW (hg:A4 w W)=>A6I A Y V rs y v N Lw c d k hn hN hN2 hrl hy hv hL1 hL s hs hX hys hvs W (h.grow hg) (h2.grow hg) (h3.grow hg) (HT.grow hg);have hPs:=A7x (X:=rs.map (·.2.2)) (y:=y) (w:=v) hN2 hL hs hX hys hvs;have hPl:=A8k (rs.map (·.2.2)) y v N Lw;obtain⟨F1,F2,F3⟩:=B3z (rs.map (·.2.2)) y v N Lw a;obtain⟨PL,hPe⟩:∃R,R=R3 (rs.map (·.2.2)) y v N Lw:=⟨_,rfl⟩
 rw[<-hPe]at hPs hPl F2 F3;simp only[<-hPe]at hpl;obtain⟨F,hFe⟩:∃F,F=Y6 (rs.map (·.2.2)) y v N Lw a:=⟨_,rfl⟩
 rw[<-hFe]at F1 F2 F3⊢;have hrv:∀i,i<Lw->∃bv ov,V=some ⟨bv,ov,none⟩/\∀W,A4 w W->Cq W bv (ov+i*5) (gq v i):=λi hi=>by
  obtain⟨bv,ov,e⟩:=h3.addr (by omega);subst e;exact⟨bv,ov,rfl,λW hg=>(h3.grow hg).read (by omega)⟩
 obtain⟨cF,hcF⟩:∃z:Int,z=(if F<Lw then(F:Int)else -1):=⟨_,rfl⟩
 obtain⟨bF,hbF⟩:∃z:Bool,z=decide (F=Lw):=⟨_,rfl⟩
 rw[<-hcF,<-hbF];have Hcb:=B9I (And.intro hcF hbF);have Hck:=B9I hck;have Hpl:=B9I hpl;have Hrv:=B9I hrv;have HPs:=B9I hPs;have HPl:=B9I hPl;have HF2:=B9I F2;have HF3:=B9I F3;have Hvs:=B9I hvs;clear hck hpl hrv hPs hPl F2 F3 hPe hFe hX hys hvs h h2 h3 hrl hn hy hv ha0 hcF hbF;go_enter Tryz.func34,Tryz.ntmps34;refine en1 ?_;intro u hG b7 hB hF;refine B9D ?_;refine B9D (rsE A8 [0,0,0,0,1,0] hB hG λL hL=>?_);refine gs ?_;refine gmd (C:=λv ⟨hgu,hB,hG,_⟩=>Hck.out _ hG) ?_;refine gs ?_;refine geT hL ?_;clear hB hG hL L;rintro u ⟨-,hB,hG,-⟩;refine r0T ?_;refine B9J (rfl) ?_;refine B9K ?_;refine A6 ?_;refine B9D (rsE A8 [0,0,0,1,0,0,0,0,0] hB hG λL hL=>?_);refine gs ?_;refine gxd (X:=Ax) (λx:Ax=>.tuple #[.slice x.1 Lw x.2,.int .i64 0]) (λx W=>Lq W x.1 PL) (λx u u' hg h=>Lq.grow h hg) (λx29=>?_) (C:=by(rintro v ⟨hgu,hB,hG,-⟩;exact Hpl.out _ hG));refine gs ?_;refine geT hL ?_;clear hB hG hL L;rintro u ⟨⟨hgu,hB,hG,-⟩,hx29⟩;obtain⟨xa,xc⟩:=x29;obtain⟨w1,hw1⟩:=exQ u;have HP:=B9I (show Lq w1 xa PL from hw1 ▸ hx29);have hG1:A4 w1 u:=hw1 ▸ A4.refl u;clear hx29 hw1;obtain⟨bp,op,rfl⟩:∃b o,xa=some ⟨b,o,none⟩:=HP.out.addr (by rw[HPl.out];omega);clear hgu;refine B9D ?_;refine r0T ?_;refine B9l ?_;go_loopw [34] (λs0 wr=>∃(i:Nat),i<=F/\s0 = .int .i64 i/\Bx wr [(b7,48,L9 a)]/\A4 w wr/\A4 w1 wr) (λs0 _=>Lw-(intOf s0).toNat)
 case atStart=>exact⟨0,B9a _,rfl,hB,hG,hG1⟩
 case round =>
  clear hB hG hG1;obtain⟨i,hi,rfl,hB,hG,hG1⟩:=hrel;obtain⟨u,rfl⟩:=exQ wr;rcases B8t i Lw with hlt|hge
  ·have hdec:decide ((i:Int)<(Lw:Int))=true:=by simp;omega
   have hiL:(i:Int)<(Lw:Int):=by omega
   obtain⟨bv,ov,rfl,hrv⟩:=Hrv.out i hlt;have hrp:∀W,A4 w1 W->Cq W bp (op+i*5) (gq PL i):=λW hg=>(HP.out.grow hg).read (by rw[HPl.out];exact hlt);have z1:=HPs.out i hlt;have z2:=Hvs.out i hlt;have hyes:=λh=>HF2.out i h;have hno:¬i<F->S8 (gq PL i) (gq v i) a=false:=λh=>by
    have e:F=i:=by omega
    have h4:=HF3.out (by omega);rw[e]at h4;exact h4
   obtain⟨X,hX⟩:∃X,X=gq v i:=⟨_,rfl⟩
   obtain⟨P,hP⟩:∃X,X=gq PL i:=⟨_,rfl⟩
   rw[<-hX]at z2 hyes hno;rw[<-hP]at z1 hyes hno;simp only[<-hX]at hrv;simp only[<-hP]at hrp;have hsg:=λW=>M8 X (by have:=G3 X;omega) W;have Hrv2:=B9I hrv;have Hrp:=B9I hrp;clear hrv hrp hX hP;rcases A2V X with e1|e1|e1
   ·rw[e1]at hsg;rw[B04 e1]at hyes hno;have hcm:=λW=>W8 P a W (by omega);obtain⟨Z,hZ⟩:∃Z,Z=E9 P a:=⟨_,rfl⟩
    rw[<-hZ]at hyes hno;simp only[<-hZ]at hcm;have Hsg:=B9I hsg;have Hcm:=B9I hcm;clear hsg hcm hZ e1 z1 z2;by_cases hiF:i<F
    ·have fZ:=hyes hiF;clear hyes hno;refine r0T ?_;refine B9D ?_;refine B9L (rfl) ?_;refine B9K ?_;refine A6 ?_;refine B9D ?_;refine B9l ?_;refine B9D (rsC A8 [0,0,0,2,0] hB hG λK L hN hL=>?_)
     repeat first|refine gya ?_|refine gyr ?_|refine gna ?_|refine gyb (by(rintro v ⟨hgu,hB,hG,-⟩ N hN;have r:=hB.r;simp only[BxR]at r;obtain⟨y1,y2,y3,y4,y5⟩:=Hrv2.out v hG;obtain⟨p1,p2,p3,p4,p5⟩:=Hrp.out v (hG1.trans hgu);go_simp;exact hN)) ?_
     refine gaa (G6 _ _ _ _ _) λb15 hb15 hn15=>?_;refine gs ?_;replace hF:=hF.n1 [] hB hG hb15 hn15;refine geC hL ?_;clear hB hG hL L;rintro u ⟨⟨hgu,hB,hG,-⟩,h15⟩;replace hB:=hB.cons' h15;clear h15;have hw15:w1.heap.size<=b15:=B9A hG1.size hb15;replace hG1:=hG1.trans hgu;clear hb15 hn15;clear hgu;refine gtT ?_;clear hN K;refine sv hB hF hG 0 0 [_,_,_,_,_] ?_;intro u hu hBG;replace hG1:=P9 hG1 hw15 hu;clear hB hG hu;obtain⟨hB,hG⟩:=hBG;refine r0T ?_;refine B9D ?_;refine B9D (rsE A8 [0,1] hB hG λL hL=>?_)
     repeat first|refine gya ?_|refine gyr ?_|refine gna ?_|refine gyb (by(rintro v ⟨hgu,hB,hG,-⟩ N hN;have r:=hB.r;simp only[BxR]at r;obtain⟨y1,y2,y3,y4,y5⟩:=Hrv2.out v hG;obtain⟨p1,p2,p3,p4,p5⟩:=Hrp.out v (hG1.trans hgu);go_simp;exact hN)) ?_
     refine gmw (C:=λv=>Hsg.out _) ?_;refine geT hL ?_;clear hB hG hL L;rintro u ⟨hgu,hB,hG,-⟩;replace hG1:=hG1.trans hgu;clear hgu;refine B9l ?_;refine r0T ?_;refine B9L (rfl) ?_;refine rdC A8 [] [(0,0),(0,1),(0,2),(0,3),(0,4),(1,5),(0,6)] hB hG λK L hN hL=>?_
     repeat first|refine gya ?_|refine gyr ?_|refine gna ?_|refine gyb (by(rintro v ⟨hgu,hB,hG,-⟩ N hN;have r:=hB.r;simp only[BxR]at r;obtain⟨y1,y2,y3,y4,y5⟩:=Hrv2.out v hG;obtain⟨p1,p2,p3,p4,p5⟩:=Hrp.out v (hG1.trans hgu);go_simp;exact hN)) ?_
     refine gmw (C:=λv=>Hcm.out _) ?_;refine gs ?_;refine geC hL ?_;clear hB hG hL L;rintro u ⟨hgu,hB,hG,-⟩;replace hG1:=hG1.trans hgu;clear hgu;refine gt ?_;clear hN K;refine C5 ?_;refine A6 ?_;refine r0T ?_;refine B9J (rfl) ?_;refine B9K ?_;refine C5 ?_;refine A6 ?_;refine r0E ?_;refine A6 ?_;go_roundw
     case rel=>exact⟨i+1,by omega,by go_num,hB.tail,hG,hG1⟩
     case measure=>simp[intOf];omega
    ·have fZ:=hno hiF;have eF:F=i:=by omega
     subst eF;have Hc2:=B9I (show cF=(F:Int)/\bF=false from⟨by rw[Hcb.out.1,if_pos hlt],by rw[Hcb.out.2];exact B92 (by omega)⟩);clear hyes hno hiF;refine r0T ?_;refine B9D ?_;refine B9L (rfl) ?_;refine B9K ?_;refine A6 ?_;refine B9D ?_;refine B9l ?_;refine B9D (rsC A8 [0,0,0,2,0] hB hG λK L hN hL=>?_)
     repeat first|refine gya ?_|refine gyr ?_|refine gna ?_|refine gyb (by(rintro v ⟨hgu,hB,hG,-⟩ N hN;have r:=hB.r;simp only[BxR]at r;obtain⟨y1,y2,y3,y4,y5⟩:=Hrv2.out v hG;obtain⟨p1,p2,p3,p4,p5⟩:=Hrp.out v (hG1.trans hgu);go_simp;exact hN)) ?_
     refine gaa (G6 _ _ _ _ _) λb15 hb15 hn15=>?_;refine gs ?_;replace hF:=hF.n1 [] hB hG hb15 hn15;refine geC hL ?_;clear hB hG hL L;rintro u ⟨⟨hgu,hB,hG,-⟩,h15⟩;replace hB:=hB.cons' h15;clear h15;have hw15:w1.heap.size<=b15:=B9A hG1.size hb15;replace hG1:=hG1.trans hgu;clear hb15 hn15;clear hgu;refine gtT ?_;clear hN K;refine sv hB hF hG 0 0 [_,_,_,_,_] ?_;intro u hu hBG;replace hG1:=P9 hG1 hw15 hu;clear hB hG hu;obtain⟨hB,hG⟩:=hBG;refine r0T ?_;refine B9D ?_;refine B9D (rsE A8 [0,1] hB hG λL hL=>?_)
     repeat first|refine gya ?_|refine gyr ?_|refine gna ?_|refine gyb (by(rintro v ⟨hgu,hB,hG,-⟩ N hN;have r:=hB.r;simp only[BxR]at r;obtain⟨y1,y2,y3,y4,y5⟩:=Hrv2.out v hG;obtain⟨p1,p2,p3,p4,p5⟩:=Hrp.out v (hG1.trans hgu);go_simp;exact hN)) ?_
     refine gmw (C:=λv=>Hsg.out _) ?_;refine geT hL ?_;clear hB hG hL L;rintro u ⟨hgu,hB,hG,-⟩;replace hG1:=hG1.trans hgu;clear hgu;refine B9l ?_;refine r0T ?_;refine B9L (rfl) ?_;refine rdC A8 [] [(0,0),(0,1),(0,2),(0,3),(0,4),(1,5),(0,6)] hB hG λK L hN hL=>?_
     repeat first|refine gya ?_|refine gyr ?_|refine gna ?_|refine gyb (by(rintro v ⟨hgu,hB,hG,-⟩ N hN;have r:=hB.r;simp only[BxR]at r;obtain⟨y1,y2,y3,y4,y5⟩:=Hrv2.out v hG;obtain⟨p1,p2,p3,p4,p5⟩:=Hrp.out v (hG1.trans hgu);go_simp;exact hN)) ?_
     refine gmw (C:=λv=>Hcm.out _) ?_;refine gs ?_;refine geC hL ?_;clear hB hG hL L;rintro u ⟨hgu,hB,hG,-⟩;replace hG1:=hG1.trans hgu;clear hgu;refine gt ?_;clear hN K;refine C5 ?_;refine A6 ?_;refine r0T ?_;refine B9L (rfl) ?_;refine r0T ?_;refine rt Tryz.results34 ?_;exact⟨by rw[Hc2.out.1,Hc2.out.2],hG⟩
   ·rw[e1]at hsg;rw[B6x e1]at hyes hno;have hng:=λW=>A3w a (by have:=G3 a;omega) W;have z4:=A90 a;obtain⟨m,hm⟩:∃Z,Z=I4 a:=⟨_,rfl⟩
    rw[<-hm]at z4 hyes hno;simp only[<-hm]at hng;have hcm:=λW=>W8 P m W (by omega);obtain⟨Z,hZ⟩:∃Z,Z=E9 P m:=⟨_,rfl⟩
    rw[<-hZ]at hyes hno;simp only[<-hZ]at hcm;have Hsg:=B9I hsg;have Hcm:=B9I hcm;have Hng:=B9I hng;clear hsg hcm hng hZ hm e1 z1 z2 z4;by_cases hiF:i<F
    ·have fZ:=hyes hiF;clear hyes hno;refine r0T ?_;refine B9D ?_;refine B9L (rfl) ?_;refine B9K ?_;refine A6 ?_;refine B9D ?_;refine B9l ?_;refine B9D (rsC A8 [0,0,0,2,0] hB hG λK L hN hL=>?_)
     repeat first|refine gya ?_|refine gyr ?_|refine gna ?_|refine gyb (by(rintro v ⟨hgu,hB,hG,-⟩ N hN;have r:=hB.r;simp only[BxR]at r;obtain⟨y1,y2,y3,y4,y5⟩:=Hrv2.out v hG;obtain⟨p1,p2,p3,p4,p5⟩:=Hrp.out v (hG1.trans hgu);go_simp;exact hN)) ?_
     refine gaa (G6 _ _ _ _ _) λb15 hb15 hn15=>?_;refine gs ?_;replace hF:=hF.n1 [] hB hG hb15 hn15;refine geC hL ?_;clear hB hG hL L;rintro u ⟨⟨hgu,hB,hG,-⟩,h15⟩;replace hB:=hB.cons' h15;clear h15;have hw15:w1.heap.size<=b15:=B9A hG1.size hb15;replace hG1:=hG1.trans hgu;clear hb15 hn15;clear hgu;refine gtT ?_;clear hN K;refine sv hB hF hG 0 0 [_,_,_,_,_] ?_;intro u hu hBG;replace hG1:=P9 hG1 hw15 hu;clear hB hG hu;obtain⟨hB,hG⟩:=hBG;refine r0T ?_;refine B9D ?_;refine B9D (rsE A8 [0,1] hB hG λL hL=>?_)
     repeat first|refine gya ?_|refine gyr ?_|refine gna ?_|refine gyb (by(rintro v ⟨hgu,hB,hG,-⟩ N hN;have r:=hB.r;simp only[BxR]at r;obtain⟨y1,y2,y3,y4,y5⟩:=Hrv2.out v hG;obtain⟨p1,p2,p3,p4,p5⟩:=Hrp.out v (hG1.trans hgu);go_simp;exact hN)) ?_
     refine gmw (C:=λv=>Hsg.out _) ?_;refine geT hL ?_;clear hB hG hL L;rintro u ⟨hgu,hB,hG,-⟩;replace hG1:=hG1.trans hgu;clear hgu;refine B9l ?_;refine r0T ?_;refine B9J (rfl) ?_;refine r0T ?_;refine B9L (rfl) ?_;refine rdC A8 [] [(0,0),(0,1),(0,2),(0,3),(0,4),(1,5),(1,6),(0,7)] hB hG λK L hN hL=>?_
     repeat first|refine gya ?_|refine gyr ?_|refine gna ?_|refine gyb (by(rintro v ⟨hgu,hB,hG,-⟩ N hN;have r:=hB.r;simp only[BxR]at r;obtain⟨y1,y2,y3,y4,y5⟩:=Hrv2.out v hG;obtain⟨p1,p2,p3,p4,p5⟩:=Hrp.out v (hG1.trans hgu);go_simp;exact hN)) ?_
     refine gmw (C:=λv=>Hng.out _) ?_;refine gmw (C:=λv=>Hcm.out _) ?_;refine gs ?_;refine geC hL ?_;clear hB hG hL L;rintro u ⟨hgu,hB,hG,-⟩;replace hG1:=hG1.trans hgu;clear hgu;refine gt ?_;clear hN K;refine C5 ?_;refine A6 ?_;refine r0T ?_;refine B9J (rfl) ?_;refine B9K ?_;refine C5 ?_;refine A6 ?_;refine r0E ?_;refine A6 ?_;go_roundw
     case rel=>exact⟨i+1,by omega,by go_num,hB.tail,hG,hG1⟩
     case measure=>simp[intOf];omega
    ·have fZ:=hno hiF;have eF:F=i:=by omega
     subst eF;have Hc2:=B9I (show cF=(F:Int)/\bF=false from⟨by rw[Hcb.out.1,if_pos hlt],by rw[Hcb.out.2];exact B92 (by omega)⟩);clear hyes hno hiF;refine r0T ?_;refine B9D ?_;refine B9L (rfl) ?_;refine B9K ?_;refine A6 ?_;refine B9D ?_;refine B9l ?_;refine B9D (rsC A8 [0,0,0,2,0] hB hG λK L hN hL=>?_)
     repeat first|refine gya ?_|refine gyr ?_|refine gna ?_|refine gyb (by(rintro v ⟨hgu,hB,hG,-⟩ N hN;have r:=hB.r;simp only[BxR]at r;obtain⟨y1,y2,y3,y4,y5⟩:=Hrv2.out v hG;obtain⟨p1,p2,p3,p4,p5⟩:=Hrp.out v (hG1.trans hgu);go_simp;exact hN)) ?_
     refine gaa (G6 _ _ _ _ _) λb15 hb15 hn15=>?_;refine gs ?_;replace hF:=hF.n1 [] hB hG hb15 hn15;refine geC hL ?_;clear hB hG hL L;rintro u ⟨⟨hgu,hB,hG,-⟩,h15⟩;replace hB:=hB.cons' h15;clear h15;have hw15:w1.heap.size<=b15:=B9A hG1.size hb15;replace hG1:=hG1.trans hgu;clear hb15 hn15;clear hgu;refine gtT ?_;clear hN K;refine sv hB hF hG 0 0 [_,_,_,_,_] ?_;intro u hu hBG;replace hG1:=P9 hG1 hw15 hu;clear hB hG hu;obtain⟨hB,hG⟩:=hBG;refine r0T ?_;refine B9D ?_;refine B9D (rsE A8 [0,1] hB hG λL hL=>?_)
     repeat first|refine gya ?_|refine gyr ?_|refine gna ?_|refine gyb (by(rintro v ⟨hgu,hB,hG,-⟩ N hN;have r:=hB.r;simp only[BxR]at r;obtain⟨y1,y2,y3,y4,y5⟩:=Hrv2.out v hG;obtain⟨p1,p2,p3,p4,p5⟩:=Hrp.out v (hG1.trans hgu);go_simp;exact hN)) ?_
     refine gmw (C:=λv=>Hsg.out _) ?_;refine geT hL ?_;clear hB hG hL L;rintro u ⟨hgu,hB,hG,-⟩;replace hG1:=hG1.trans hgu;clear hgu;refine B9l ?_;refine r0T ?_;refine B9J (rfl) ?_;refine r0T ?_;refine B9L (rfl) ?_;refine rdC A8 [] [(0,0),(0,1),(0,2),(0,3),(0,4),(1,5),(1,6),(0,7)] hB hG λK L hN hL=>?_
     repeat first|refine gya ?_|refine gyr ?_|refine gna ?_|refine gyb (by(rintro v ⟨hgu,hB,hG,-⟩ N hN;have r:=hB.r;simp only[BxR]at r;obtain⟨y1,y2,y3,y4,y5⟩:=Hrv2.out v hG;obtain⟨p1,p2,p3,p4,p5⟩:=Hrp.out v (hG1.trans hgu);go_simp;exact hN)) ?_
     refine gmw (C:=λv=>Hng.out _) ?_;refine gmw (C:=λv=>Hcm.out _) ?_;refine gs ?_;refine geC hL ?_;clear hB hG hL L;rintro u ⟨hgu,hB,hG,-⟩;replace hG1:=hG1.trans hgu;clear hgu;refine gt ?_;clear hN K;refine C5 ?_;refine A6 ?_;refine r0T ?_;refine B9L (rfl) ?_;refine r0T ?_;refine rt Tryz.results34 ?_;exact⟨by rw[Hc2.out.1,Hc2.out.2],hG⟩
   ·rw[e1]at hsg;rw[B38 e1]at hyes hno;have hab:=λW=>A62 P (by have:=G3 P;omega) W;have z4:=A3c P;obtain⟨m,hm⟩:∃Z,Z=Q5 P:=⟨_,rfl⟩
    rw[<-hm]at z4 hyes hno;simp only[<-hm]at hab;have hcm:=λW=>W8 m a W (by omega);obtain⟨Z,hZ⟩:∃Z,Z=E9 m a:=⟨_,rfl⟩
    rw[<-hZ]at hyes hno;simp only[<-hZ]at hcm;have Hsg:=B9I hsg;have Hcm:=B9I hcm;have Hab:=B9I hab;clear hsg hcm hab hZ hm e1 z1 z2 z4;by_cases hiF:i<F
    ·have fZ:=hyes hiF;clear hyes hno;refine r0T ?_;refine B9D ?_;refine B9L (rfl) ?_;refine B9K ?_;refine A6 ?_;refine B9D ?_;refine B9l ?_;refine B9D (rsC A8 [0,0,0,2,0] hB hG λK L hN hL=>?_)
     repeat first|refine gya ?_|refine gyr ?_|refine gna ?_|refine gyb (by(rintro v ⟨hgu,hB,hG,-⟩ N hN;have r:=hB.r;simp only[BxR]at r;obtain⟨y1,y2,y3,y4,y5⟩:=Hrv2.out v hG;obtain⟨p1,p2,p3,p4,p5⟩:=Hrp.out v (hG1.trans hgu);go_simp;exact hN)) ?_
     refine gaa (G6 _ _ _ _ _) λb15 hb15 hn15=>?_;refine gs ?_;replace hF:=hF.n1 [] hB hG hb15 hn15;refine geC hL ?_;clear hB hG hL L;rintro u ⟨⟨hgu,hB,hG,-⟩,h15⟩;replace hB:=hB.cons' h15;clear h15;have hw15:w1.heap.size<=b15:=B9A hG1.size hb15;replace hG1:=hG1.trans hgu;clear hb15 hn15;clear hgu;refine gtT ?_;clear hN K;refine sv hB hF hG 0 0 [_,_,_,_,_] ?_;intro u hu hBG;replace hG1:=P9 hG1 hw15 hu;clear hB hG hu;obtain⟨hB,hG⟩:=hBG;refine r0T ?_;refine B9D ?_;refine B9D (rsE A8 [0,1] hB hG λL hL=>?_)
     repeat first|refine gya ?_|refine gyr ?_|refine gna ?_|refine gyb (by(rintro v ⟨hgu,hB,hG,-⟩ N hN;have r:=hB.r;simp only[BxR]at r;obtain⟨y1,y2,y3,y4,y5⟩:=Hrv2.out v hG;obtain⟨p1,p2,p3,p4,p5⟩:=Hrp.out v (hG1.trans hgu);go_simp;exact hN)) ?_
     refine gmw (C:=λv=>Hsg.out _) ?_;refine geT hL ?_;clear hB hG hL L;rintro u ⟨hgu,hB,hG,-⟩;replace hG1:=hG1.trans hgu;clear hgu;refine B9l ?_;refine r0T ?_;refine B9J (rfl) ?_;refine r0T ?_;refine B9J (rfl) ?_;refine rdC A8 [] [(0,0),(0,1),(0,2),(0,3),(0,5),(1,4),(1,6),(0,7)] hB hG λK L hN hL=>?_
     repeat first|refine gya ?_|refine gyr ?_|refine gna ?_|refine gyb (by(rintro v ⟨hgu,hB,hG,-⟩ N hN;have r:=hB.r;simp only[BxR]at r;obtain⟨y1,y2,y3,y4,y5⟩:=Hrv2.out v hG;obtain⟨p1,p2,p3,p4,p5⟩:=Hrp.out v (hG1.trans hgu);go_simp;exact hN)) ?_
     refine gmw (C:=λv=>Hab.out _) ?_;refine gmw (C:=λv=>Hcm.out _) ?_;refine gs ?_;refine geC hL ?_;clear hB hG hL L;rintro u ⟨hgu,hB,hG,-⟩;replace hG1:=hG1.trans hgu;clear hgu;refine gt ?_;clear hN K;refine C5 ?_;refine A6 ?_;refine r0T ?_;refine B9J (rfl) ?_;refine B9K ?_;refine C5 ?_;refine A6 ?_;refine r0E ?_;refine A6 ?_;go_roundw
     case rel=>exact⟨i+1,by omega,by go_num,hB.tail,hG,hG1⟩
     case measure=>simp[intOf];omega
    ·have fZ:=hno hiF;have eF:F=i:=by omega
     subst eF;have Hc2:=B9I (show cF=(F:Int)/\bF=false from⟨by rw[Hcb.out.1,if_pos hlt],by rw[Hcb.out.2];exact B92 (by omega)⟩);clear hyes hno hiF;refine r0T ?_;refine B9D ?_;refine B9L (rfl) ?_;refine B9K ?_;refine A6 ?_;refine B9D ?_;refine B9l ?_;refine B9D (rsC A8 [0,0,0,2,0] hB hG λK L hN hL=>?_)
     repeat first|refine gya ?_|refine gyr ?_|refine gna ?_|refine gyb (by(rintro v ⟨hgu,hB,hG,-⟩ N hN;have r:=hB.r;simp only[BxR]at r;obtain⟨y1,y2,y3,y4,y5⟩:=Hrv2.out v hG;obtain⟨p1,p2,p3,p4,p5⟩:=Hrp.out v (hG1.trans hgu);go_simp;exact hN)) ?_
     refine gaa (G6 _ _ _ _ _) λb15 hb15 hn15=>?_;refine gs ?_;replace hF:=hF.n1 [] hB hG hb15 hn15;refine geC hL ?_;clear hB hG hL L;rintro u ⟨⟨hgu,hB,hG,-⟩,h15⟩;replace hB:=hB.cons' h15;clear h15;have hw15:w1.heap.size<=b15:=B9A hG1.size hb15;replace hG1:=hG1.trans hgu;clear hb15 hn15;clear hgu;refine gtT ?_;clear hN K;refine sv hB hF hG 0 0 [_,_,_,_,_] ?_;intro u hu hBG;replace hG1:=P9 hG1 hw15 hu;clear hB hG hu;obtain⟨hB,hG⟩:=hBG;refine r0T ?_;refine B9D ?_;refine B9D (rsE A8 [0,1] hB hG λL hL=>?_)
     repeat first|refine gya ?_|refine gyr ?_|refine gna ?_|refine gyb (by(rintro v ⟨hgu,hB,hG,-⟩ N hN;have r:=hB.r;simp only[BxR]at r;obtain⟨y1,y2,y3,y4,y5⟩:=Hrv2.out v hG;obtain⟨p1,p2,p3,p4,p5⟩:=Hrp.out v (hG1.trans hgu);go_simp;exact hN)) ?_
     refine gmw (C:=λv=>Hsg.out _) ?_;refine geT hL ?_;clear hB hG hL L;rintro u ⟨hgu,hB,hG,-⟩;replace hG1:=hG1.trans hgu;clear hgu;refine B9l ?_;refine r0T ?_;refine B9J (rfl) ?_;refine r0T ?_;refine B9J (rfl) ?_;refine rdC A8 [] [(0,0),(0,1),(0,2),(0,3),(0,5),(1,4),(1,6),(0,7)] hB hG λK L hN hL=>?_
     repeat first|refine gya ?_|refine gyr ?_|refine gna ?_|refine gyb (by(rintro v ⟨hgu,hB,hG,-⟩ N hN;have r:=hB.r;simp only[BxR]at r;obtain⟨y1,y2,y3,y4,y5⟩:=Hrv2.out v hG;obtain⟨p1,p2,p3,p4,p5⟩:=Hrp.out v (hG1.trans hgu);go_simp;exact hN)) ?_
     refine gmw (C:=λv=>Hab.out _) ?_;refine gmw (C:=λv=>Hcm.out _) ?_;refine gs ?_;refine geC hL ?_;clear hB hG hL L;rintro u ⟨hgu,hB,hG,-⟩;replace hG1:=hG1.trans hgu;clear hgu;refine gt ?_;clear hN K;refine C5 ?_;refine A6 ?_;refine r0T ?_;refine B9L (rfl) ?_;refine r0T ?_;refine rt Tryz.results34 ?_;exact⟨by rw[Hc2.out.1,Hc2.out.2],hG⟩
  ·have eF:F=Lw:=by omega
   have hdec:decide ((Lw:Int)<(Lw:Int))=false:=by simp
   obtain rfl:Lw=i:=by omega
   have Hc2:=B9I (show cF = -1/\bF=true from⟨by rw[Hcb.out.1,if_neg (by omega)],by rw[Hcb.out.2];exact B9x eF⟩);clear eF;refine r0T ?_;refine B9D ?_;refine B9J (rfl) ?_;refine B9n ?_;refine B9 ?_;refine B9 ?_;refine E4 ?_;refine A6 ?_;refine r0T ?_;refine rt Tryz.results34 ?_;exact⟨by rw[Hc2.out.1,Hc2.out.2],hG⟩
end Go.Proofs.YtgpglgbcobeogaaGreatDoor
