import Derived.Test.YtgpglgbcobeogaaGreatDoorL33
set_option linter.unusedSimpArgs false
set_option linter.unusedVariables false
set_option maxHeartbeats 8000000
set_option maxRecDepth 100000
namespace Go.Proofs.YtgpglgbcobeogaaGreatDoor
open Go Go.RowKit
theorem B64:qV 0 = .agg A4V:=rfl
theorem B4s(A Y V:Option Addr)(rs:List Rq)(y v:List Rat)(N L c d k:Nat)(hn:rs.length=N)(hN:1<=N)(hN2:N<=20)(hrl:∀r∈rs,r.2.2.length=L)(hy:y.length=N)(hv:v.length=L)(hL1:1<=L)(hL:L<=20)(s:Nat)(hs:s<=10000000)(hX:∀i,i<N->∀j,j<L->qs (gq (B6 (rs.map (·.2.2)) i) j)<=s)(hys:∀i,i<N->qs (gq y i)<=s)(hvs:∀j,j<L->qs (gq v j)<=s)(w:World)(h:Lrq w A rs)(h2:Lq w Y y)(h3:Lq w V v)(HT:Tab w) :
  Calls Tryz.prog 33 #[.slice A N c,.slice Y N d,.slice V L k] w (E9 (λx:Ax=>.tuple #[.slice x.1 L x.2,.int .i64 0]) (λx W=>Lq W x.1 (P8 (rs.map (·.2.2)) y v N L)) w):=by
 have hBB:1000000000000<=BIG:=by unfold BIG;omega
 have hck:∀W,A4 w W->Calls Tryz.prog 91 #[.slice A N c,.slice Y N d,.slice V L k,.agg A4V] W λe w'=>e = .returned (.int .i64 0)/\A4 W w':=λW hg=>by
  have h4:=B6N A Y V rs N L L c d k hn hN (by omega) hL1 hL hrl 0 (by rw[A1o];omega) W (h.grow hg);rw[if_neg (by simp),if_neg (by simp[Rat.lt_irrefl]),B64]at h4;exact h4
 have hrs:=λW (hg:A4 w W)=>B6q A Y V rs y v N L c d k hn hN2 hrl hy hv hL s hs hX hys hvs W (h.grow hg) (h2.grow hg) (h3.grow hg) (HT.grow hg);have hcl:=λW (hg:A4 w W) j (hj:j<L)=>A8P A rs N L c j hn (by omega) hrl hj hL W (h.grow hg);have hR:=A4X (X:=rs.map (·.2.2)) (y:=y) (w:=v) hN2 hL hs hX hys hvs;have hRl:=A7M (rs.map (·.2.2)) y v N L;obtain⟨T5,hT5⟩:∃T,T=500000000:=⟨_,rfl⟩
 have hNs:N*(s+T5+1)<=20*(s+T5+1):=B8q _ hN2;have hCs:∀j,j<L->∀i,i<N->qs (gq (G1 (rs.map (·.2.2)) j N) i)<=s:=λj hj i hi=>by rw[A0k _ j N hi];exact hX i hi j hj
 unfold P8;obtain⟨R,hRe⟩:∃R,R=V3 (rs.map (·.2.2)) y v N L:=⟨_,rfl⟩
 rw[<-hRe]at hR hRl;rw[<-hT5]at hR;simp only[<-hRe]at hrs⊢;have hdt:∀W j,j<L->∀(P1 P2:Ax),Lq W P1.1 (G1 (rs.map (·.2.2)) j N)->Lq W P2.1 R->Tab W->Calls Tryz.prog 93 #[.slice P1.1 N P1.2,.slice P2.1 N P2.2] W λe w'=>e = .returned (.tuple #[qV (E7 (G1 (rs.map (·.2.2)) j N) R N),.bool true])/\A4 W w':=λW j hj P1 P2 g1 g2 hT =>
  A21 P1.1 P2.1 _ R P1.2 P2.2 N (A48 _ j N) hRl (by omega) s T5 (hCs j hj) hR (by omega) W g1 g2 hT
 obtain⟨C,hC⟩:∃C:Nat->List Rat,C=λj=>G1 (rs.map (·.2.2)) j N:=⟨_,rfl⟩
 have hCi:∀j,G1 (rs.map (·.2.2)) j N=C j:=by rw[hC];exact λ_=>rfl
 simp only[hCi]at hcl hdt⊢;obtain⟨f,hf⟩:∃f:Nat->Rat,f=λj=>E7 (C j) R N:=⟨_,rfl⟩
 have hfi:∀j,E7 (C j) R N=f j:=by rw[hf];exact λ_=>rfl
 simp only[hfi]at hdt;rw[<-hf];have hmk:=A1R L (by omega) (L:Int) rfl;have Hck:=B8S hck;have Hrs:=B8S hrs;have Hcl:=B8S hcl;have Hdt:=B8S hdt;have Hmk:=B8S hmk;clear hck hrs hcl hdt hmk hf hfi hC hCi hRe hR hRl hCs h h2 h3 hrl hn hX hys hvs hs hNs hy hv hT5;go_enter Tryz.func33,Tryz.ntmps33;refine en0 ?_;intro u hG hB hF;refine B8N ?_;refine B8N (rsE A8 [0,0,0,0,1,0] hB hG λL hL=>?_);refine gs ?_;refine gmd (C:=λv ⟨hgu,hB,hG,_⟩=>Hck.out _ hG) ?_;refine gs ?_;refine geT hL ?_;clear hB hG hL L;rintro u ⟨-,hB,hG,-⟩;refine r0T ?_;refine B8T (rfl) ?_;refine B8U ?_;refine A6 ?_;refine B8N (rsE A8 [0,0,0,1,0] hB hG λL hL=>?_);refine gs ?_;refine gxd (X:=Ax) (λx:Ax=>.slice x.1 N x.2) (λx W=>Lq W x.1 R) (λx u u' hg h=>Lq.grow h hg) (λx23=>?_) (C:=by(rintro v ⟨hgu,hB,hG,-⟩;exact Hrs.out _ hG));refine gs ?_;refine geT hL ?_;clear hB hG hL L;rintro u ⟨⟨hgu,hB,hG,-⟩,hx23⟩;have HR:=B8S hx23;clear hx23;clear hgu;have HG0:=B8S hG;clear hB hF hG;obtain⟨w0,rfl⟩:=exQ w;obtain⟨w,hwu⟩:=exQ u;rw[<-hwu]at HG0 HR;have hB:=Bx.nil u;have hF:=Fr.nil w;have hG:A4 w u:=hwu ▸ A4.refl u;clear hwu;have HT':=HT.grow HG0.out;have hcl:=λW (hg:A4 w W)=>Hcl.out W (HG0.out.trans hg);clear HT Hcl Hck Hrs;have HT:=HT';have Hcl:=B8S hcl;clear HT' hcl;refine B8N ?_;have hmk:=Hmk.out;refine N5 ?_;intro K hN;go_wp2_with fail;generalize hv:World.alloc u _=v;have hrow:=A1H hG.sz (by omega) hv;have hgv:A4 u v:=hv ▸ A4.alloc u _;have hG2:=hG.trans hgv;clear hv hG hB hmk hgv;rw[<-A2E f L]at hrow;generalize u.heap.size=g at hrow⊢;have Ho:=B8S hrow;have hG:=hG2;have hB:=Bx.nil v;have hF:=Fr.nil w;clear hrow hG2;obtain⟨u,rfl⟩:=exQ v;refine NoK.norm (hN _ _ ?_);clear hN K;refine A6 ?_;refine B8N ?_;refine r0T ?_;refine B8v ?_;clear hB hF;go_loopw [29] (λs0 wr=>∃i:Nat,i<=L/\s0 = .int .i64 i/\wr.ownsRow w.heap.size 48 5 (.slice (some ⟨g,0,none⟩) L L) L ((K7 f L i).flatMap qL)/\A4 w wr) (λs0 _=>L-(intOf s0).toNat)
 case atStart=>exact⟨0,B8k _,rfl,Ho.out,hG⟩
 case round =>
  clear hG Ho;obtain⟨i,hi,rfl,ho,hG⟩:=hrel;obtain⟨u,rfl⟩:=exQ wr;have Ho:=B8S ho;have hB:=Bx.nil u;have hF:=Fr.nil w;clear ho;rcases B73 i L with hlt|hge
  ·have hdec:decide ((i:Int)<(L:Int))=true:=by simp;omega
   have hin:(i:Int)<(L:Int):=by omega
   have hst:=A1j (f:=f) hlt;have hcl:=λW (hg:A4 w W)=>Hcl.out W hg i hlt;have hdt:=λW=>Hdt.out W i hlt;obtain⟨Q,hQ⟩:∃q,q=f i:=⟨_,rfl⟩
   rw[<-hQ]at hst;simp only[<-hQ]at hdt;obtain⟨Ci,hCi⟩:∃q,q=C i:=⟨_,rfl⟩
   simp only[<-hCi]at hdt hcl;have Hst:=B8S hst;have Hcli:=B8S hcl;have Hdti:=B8S hdt;clear hst hcl hdt hQ hCi;refine r0T ?_;refine B8N ?_;refine B8V (rfl) ?_;refine B8U ?_;refine A6 ?_;refine B8N ?_;refine B8v ?_;refine r0T ?_;refine rsC A8 [0,0,0,0,1,0,1,0,0,0,0] hB hG λK L hN hL=>?_;refine gs ?_;refine gxd (X:=Ax) (λx:Ax=>.slice x.1 N x.2) (λx W=>Lq W x.1 Ci) (λx u u' hg h=>Lq.grow h hg) (λx37=>?_) (C:=by(rintro v ⟨hgu,hB,hG,-⟩;exact Hcli.out _ hG));refine gs ?_;refine gmd (C:=λv ⟨⟨hgu,hB,hG,_⟩,hx37⟩=>Hdti.out _ x37 x23 hx37 (HR.out.grow hG) (HT.grow hG)) ?_;refine gs ?_;refine geC hL ?_;clear hB hG hL L;rintro u ⟨⟨hgu,hB,hG,-⟩,hx37⟩;clear hx37;have Ho2:=B8S (C5 Ho.out hgu);clear Ho;have Ho:=Ho2;clear Ho2;obtain⟨z0,z1,z2,z3,z4,o0,o1,o2,o3,o4,hfz⟩:=A1C (enc:=qL) (λ_=>rfl) Ho.out (Q0 f L i).symm i (by rw[Q0];exact hlt);clear hgu;refine gt ?_;clear hN K;clear o0 o1 o2 o3 o4 hfz;generalize hu0:World.setCell (World.setCell (World.setCell (World.setCell (World.setCell u _ _) _ _) _ _) _ _) _ _=u0;have hu1:C7 u g (i*5) (qL Q)=u0:=hu0;have hP:=P6 (enc:=qL) (size:=5) (ps:=K7 f L i) (λ_=>rfl) Ho.out i Q (by rw[Q0];exact hlt);rw[Hst.out,hu1]at hP;have hG2:=O5 Ho.out hG hP.2;have Ho2:=B8S hP.1;clear hG hB Ho hP hu1 hu0;have hG:=hG2;have hB:=Bx.nil u0;have hF:=Fr.nil w;have Ho:=Ho2;clear hG2 Ho2;obtain⟨u,rfl⟩:=exQ u0;refine C8 ?_;refine A6 ?_;refine r0E ?_;refine A6 ?_;go_roundw
   case rel=>exact⟨i+1,by omega,by go_num,Ho.out,hG⟩
   case measure=>simp[intOf];omega
  ·obtain rfl:L=i:=by omega
   have hdec:decide ((L:Int)<(L:Int))=false:=by simp
   have ho:=Ho.out;rw[A1m]at ho;obtain⟨A9,c9,e9,-,-,hL,-⟩:=Q8 ho;cases e9;have HL:=B8S hL;clear ho hL Ho;refine r0T ?_;refine B8N ?_;refine B8T (rfl) ?_;refine B8x ?_;refine B7 ?_;refine B7 ?_;refine D0 ?_;refine A6 ?_;refine r0T ?_;refine rt Tryz.results33 ?_;exact⟨(some ⟨g,0,none⟩,L),rfl,HL.out,HG0.out.trans hG⟩
theorem A11{w1 u u':World}{b i:Nat}{vs:List Value}(h:A4 w1 u)(hb:w1.heap.size<=b)(hu:C7 u b i vs=u'):A4 w1 u':=hu ▸ A4.put hb vs i u h
theorem A98(n:Nat):∀j,j<n->qs (gq (G8 n) j)<=1:=λj _=>by rw[A5U,A1o];exact K2 _
theorem B6P(A Y:Option Addr)(rs:List Rq)(y:List Rat)(N Lw c d:Nat)(hn:rs.length=N)(hN:1<=N)(hN2:N<=20)(hrl:∀r∈rs,r.2.2.length=Lw)(hy:y.length=N)(hL1:1<=Lw)(hL:Lw<=20)(s:Nat)(hs1:1<=s)(hs:s<=10000000)(hX:∀i,i<N->∀j,j<Lw->qs (gq (B6 (rs.map (·.2.2)) i) j)<=s)(hys:∀i,i<N->qs (gq y i)<=s)(w:World)(h:Lrq w A rs)(h2:Lq w Y y)(HT:Tab w) :
  Calls Tryz.prog 35 #[.slice A N c,.slice Y N d] w λe w'=>e = .returned (.tuple #[qV (A4d (rs.map (·.2.2)) y N Lw),.int .i64 0])/\A4 w w':=by
 have hBB:1000000000000<=BIG:=by unfold BIG;omega
 have hsh:=λW (hg:A4 w W)=>A3V A Y rs N Lw c d hn hN (by omega) hL1 hL hrl W (h.grow hg);have hzl:(G8 Lw).length=Lw:=by unfold G8;simp
 have hpl:=λW b (hg:A4 w W) (hz:Lq W (some ⟨b,0,none⟩) (G8 Lw))=>B4s A Y (some ⟨b,0,none⟩) rs y (G8 Lw) N Lw c d Lw hn hN hN2 hrl hy hzl hL1 hL s hs hX hys (λj hj=>B8K (A98 Lw j hj) hs1) W (h.grow hg) (h2.grow hg) hz (HT.grow hg);have hPs:=A81 (X:=rs.map (·.2.2)) (y:=y) (w:=G8 Lw) hN2 hL hs hX hys (λj hj=>B8K (A98 Lw j hj) hs1);have hPl:=A53 (rs.map (·.2.2)) y (G8 Lw) N Lw;unfold A4d;obtain⟨PL,hPe⟩:∃R,R=P8 (rs.map (·.2.2)) y (G8 Lw) N Lw:=⟨_,rfl⟩
 rw[<-hPe]at hPs hPl⊢;simp only[<-hPe]at hpl;have hTs:=A8p (p:=PL) (n:=Lw) (s:=11000000000) (by omega) hPs;obtain⟨bb,ob,P0,eA,hP0⟩:=X8 hn hrl h (i:=0) (by omega);have hr0:=λW hg=>(hP0 W hg).1;simp only[Nat.add_zero]at hr0;subst eA;have hNi:(0:Int)<(N:Int):=by omega
 have hNn:0<N:=by omega
 have fN:decide ((0:Int)<(N:Int))=true:=by simp;omega
 have fNn:decide (0<N)=true:=by simp;omega
 have hmk:=A1R Lw (by omega) (Lw:Int) rfl;have Hsh:=B8S hsh;have Hpl:=B8S hpl;have Hr0:=B8S hr0;have Hmk:=B8S hmk;have HPs:=B8S hPs;have HPl:=B8S hPl;have HTs:=B8S hTs;clear hsh hpl hr0 hmk hPs hPl hTs hPe hP0 hX hys hs hs1 h h2 hrl hn hy hzl;go_enter Tryz.func35,Tryz.ntmps35;refine en1 ?_;intro u hG b4 hB hF;refine B8N ?_;refine B8N (rsE A8 [0,0,1,0] hB hG λL hL=>?_);refine gs ?_;refine gmd (C:=λv ⟨hgu,hB,hG,_⟩=>Hsh.out _ hG) ?_;refine gs ?_;refine geT hL ?_;clear hB hG hL L;rintro u ⟨-,hB,hG,-⟩;refine B8T (rfl) ?_;refine B8U ?_;refine A6 ?_;refine B8N ?_;have hmk:=Hmk.out;refine rsE A8 [0,0,0,0,0,0,1,1,0,0,0,0,0] hB hG λL hL=>?_
 repeat first|refine gya ?_|refine gyr ?_|refine gna ?_|refine gyb (by(rintro v ⟨hgu,hB,hG,-⟩ N hN;have r:=hB.r;simp only[BxR]at r;have q0:=Hr0.out v hG;go_simp;exact hN)) ?_
 refine gx Nat (λb=>.slice (some ⟨b,0,none⟩) Lw Lw) (λb W=>Lq W (some ⟨b,0,none⟩) (G8 Lw)) (λ_ _ _ hg h=>Lq.grow h hg) rfl ?_ (λx23=>?_)
 ·(rintro v ⟨hgu,hB,hG,-⟩ N hN;go_simp;exact hN v.heap.size _ (A4g v (G8 Lw)) (A4.alloc _ _))
 refine okf (by simp only[Act.put,List.setIfInBounds_toArray,List.set_cons_succ,List.set_cons_zero];exact rfl) ?_;refine gxd (X:=Ax) (λx:Ax=>.tuple #[.slice x.1 Lw x.2,.int .i64 0]) (λx W=>Lq W x.1 PL) (λx u u' hg h=>Lq.grow h hg) (λx24=>?_) (C:=by(rintro v ⟨⟨hgu,hB,hG,-⟩,hx23⟩;exact Hpl.out _ x23 hG hx23));refine gs ?_;refine geT hL ?_;clear hB hG hL L;rintro u ⟨⟨⟨hgu,hB,hG,-⟩,hx23⟩,hx24⟩;obtain⟨xa,xc⟩:=x24;obtain⟨w1,hw1⟩:=exQ u;have HP:=B8S (show Lq w1 xa PL from hw1 ▸ hx24);have hG1:A4 w1 u:=hw1 ▸ A4.refl u;clear hx23 hx24 hw1 hmk;obtain⟨bp,op,rfl⟩:∃b o,xa=some ⟨b,o,none⟩:=HP.out.addr (by rw[HPl.out];omega);clear hgu;refine B8N (rsC A8 [0,2] hB hG λK L hN hL=>?_);refine gs ?_;refine gaa (Q3 _ _ _ _ _) λb8 hb8 hn8=>?_;replace hF:=hF.n1 [] hB hG hb8 hn8;refine geC hL ?_;clear hB hG hL L;rintro u ⟨⟨hgu,hB,hG,-⟩,h8⟩;replace hB:=hB.cons' h8;clear h8;have hw8:w1.heap.size<=b8:=B8K hG1.size hb8;replace hG1:=hG1.trans hgu;clear hb8 hn8;clear hgu;refine gtT ?_;clear hN K;refine sv hB hF hG 0 0 [_,_,_,_,_] ?_;intro u hu hBG;replace hG1:=A11 hG1 hw8 hu;clear hB hG hu;obtain⟨hB,hG⟩:=hBG;refine B8N ?_;refine r0T ?_;refine B8v ?_;go_loopw [30] (λs0 wr=>∃(j:Nat) (S:Rat),j<=Lw/\s0 = .int .i64 j/\S=A10 PL j/\Bx wr [(b8,48,A0E S),(b4,48,A4V)]/\A4 w wr/\A4 w1 wr) (λs0 _=>Lw-(intOf s0).toNat)
 case atStart=>exact⟨0,0,B8k _,rfl,rfl,hB,hG,hG1⟩
 case round =>
  clear hB hG hG1;obtain⟨j,S,hj,rfl,hS,hB,hG,hG1⟩:=hrel;obtain⟨u,rfl⟩:=exQ wr;have z1:=HTs.out j hj;rw[<-hS]at z1;rcases B73 j Lw with hlt|hge
  ·have hdec:decide ((j:Int)<(Lw:Int))=true:=by simp;omega
   have hjn:(j:Int)<(Lw:Int):=by omega
   have hrd:∀W,A4 w1 W->Cq W bp (op+j*5) (gq PL j):=λW hg=>(HP.out.grow hg).read (by rw[HPl.out];exact hlt);have z2:=HPs.out j hlt;have hnx:A10 PL (j+1)=A1h (A10 PL j) (T0 (gq PL j)):=rfl;rw[<-hS]at hnx;obtain⟨X,hX⟩:∃X,X=gq PL j:=⟨_,rfl⟩
   rw[<-hX]at z2 hnx;simp only[<-hX]at hrd;have hab:=λW=>B1J X (by have:=G6 X;omega) W;have z3:=A5E X;obtain⟨B1,hB1⟩:∃D,D=T0 X:=⟨_,rfl⟩
   rw[<-hB1]at hnx z3;simp only[<-hB1]at hab;have hmx:=λW=>B4L S B1 (by omega) W;obtain⟨M1,hM1⟩:∃D,D=A1h S B1:=⟨_,rfl⟩
   rw[<-hM1]at hnx;simp only[<-hM1]at hmx;have Hrd:=B8S hrd;have Hnx:=B8S hnx;have Hab:=B8S hab;have Hmx:=B8S hmx;clear hrd hnx hab hmx hX hB1 hM1 hS z1 z2 z3;refine r0T ?_;refine B8N ?_;refine B8V (rfl) ?_;refine B8U ?_;refine A6 ?_;refine B8N ?_;refine B8v ?_;refine B8N (rsC A8 [0,0,2] hB hG λK L hN hL=>?_)
   repeat first|refine gya ?_|refine gyr ?_|refine gna ?_|refine gyb (by(rintro v ⟨hgu,hB,hG,-⟩ N hN;have r:=hB.r;simp only[BxR]at r;obtain⟨y1,y2,y3,y4,y5⟩:=Hrd.out v (hG1.trans hgu);go_simp;exact hN)) ?_
   refine gaa (Q3 _ _ _ _ _) λb10 hb10 hn10=>?_;replace hF:=hF.n1 [] hB hG hb10 hn10;refine geC hL ?_;clear hB hG hL L;rintro u ⟨⟨hgu,hB,hG,-⟩,h10⟩;replace hB:=hB.cons' h10;clear h10;have hw10:w1.heap.size<=b10:=B8K hG1.size hb10;replace hG1:=hG1.trans hgu;clear hb10 hn10;clear hgu;refine gtT ?_;clear hN K;refine sv hB hF hG 0 0 [_,_,_,_,_] ?_;intro u hu hBG;replace hG1:=A11 hG1 hw10 hu;clear hB hG hu;obtain⟨hB,hG⟩:=hBG;refine rdC A8 [] [(0,0),(0,1),(1,2),(1,3)] hB hG λK L hN hL=>?_
   repeat first|refine gya ?_|refine gyr ?_|refine gna ?_|refine gyb (by(rintro v ⟨hgu,hB,hG,-⟩ N hN;have r:=hB.r;simp only[BxR]at r;obtain⟨y1,y2,y3,y4,y5⟩:=Hrd.out v (hG1.trans hgu);go_simp;exact hN)) ?_
   refine gmw (C:=λv=>Hab.out _) ?_;refine gmw (C:=λv=>Hmx.out _) ?_;refine geC hL ?_;clear hB hG hL L;rintro u ⟨hgu,hB,hG,-⟩;replace hG1:=hG1.trans hgu;clear hgu;refine gt ?_;clear hN K;refine sv hB hF hG 1 0 [_,_,_,_,_] ?_;intro u hu hBG;replace hG1:=A11 hG1 hw8 hu;clear hB hG hu;obtain⟨hB,hG⟩:=hBG;refine C8 ?_;refine A6 ?_;refine r0E ?_;refine A6 ?_;go_roundw
   case rel=>exact⟨j+1,M1,by omega,by go_num,Hnx.out.symm,hB.tail,hG,hG1⟩
   case measure=>simp[intOf];omega
  ·obtain rfl:Lw=j:=by omega
   have hdec:decide ((Lw:Int)<(Lw:Int))=false:=by simp
   rw[<-hS];clear hS z1 hG1;refine r0T ?_;refine B8N ?_;refine B8T (rfl) ?_;refine B8x ?_;refine B7 ?_;refine B7 ?_;refine D0 ?_;refine A6 ?_;refine r0T ?_;refine st hB hF hG 1 0 [_,_,_,_,_] ?_;clear hB hG;intro u hB hG;refine rt Tryz.results35 ?_;exact⟨rfl,hG⟩
theorem A4I(a:Rat):a.num.sign=1\/a.num.sign = -1\/a.num.sign=0:=by
 rcases B9W a.num 0 with h|h|h
 ·exact .inr (.inl (Int.sign_eq_neg_one_iff_neg.2 h))
 ·exact .inr (.inr (by rw[h];rfl))
 ·exact .inl (Int.sign_eq_one_iff_pos.2 h)
def Le{α:Type}(enc:α->List Value)(k:Nat)(u:World)(A:Option Addr)(l:List α):Prop :=
 l≠[]->∃b off,A=some ⟨b,off,none⟩/\b<u.heap.size/\∀i x,l[i]?=some x->∀j v,(enc x)[j]?=some v->u.cell? ⟨b,off+i*k+j,none⟩=some v
theorem Le.grow{α:Type}{enc:α->List Value}{k:Nat}{u u':World}{A:Option Addr}{l:List α}(h:Le enc k u A l)(hg:A4 u u'):Le enc k u' A l:=λhn=>by
 obtain⟨b,off,e,hb,hc⟩:=h hn;exact⟨b,off,e,B8X hb hg.size,λi q hi j v hj=>(hg.cell (p:=⟨b,off+i*k+j,none⟩) hb).trans (hc i q hi j v hj)⟩
theorem B0T{α:Type}{enc:α->List Value}{k:Nat}(he:∀x,(enc x).length=k)(hk:0<k){u:World}{B n:Nat}{e:TypeId}{v:Value}{l:List α}(h:u.ownsRow B e k v n (l.flatMap enc)):∃A c,v = .slice A n c/\n<=c/\Le enc k u A l/\n=l.length:=by
 have hn:n=l.length:=by
  have h1:=h.1;rw[A1n he]at h1;exact(Nat.eq_of_mul_eq_mul_right hk h1).symm
 obtain⟨_,h|⟨g,cap,cur,rfl,hb,hh,hn',hc,hs,ht⟩⟩:=h
 ·obtain⟨rfl,h0⟩:=h;exact⟨none,0,by rw[h0],by omega,λhne=>absurd (B76 (l:=l) (by omega)) hne,hn⟩
 ·refine⟨_,cap,rfl,hn',λ_=>⟨g,0,rfl,N7 hh,λi q hi j v hj=>?_⟩,hn⟩;have hil:i<l.length:=(List.getElem?_eq_some_iff.1 hi).1;have er:l[i]=q:=by rw[B8i hil]at hi;exact B78 hi
  have hjl:j<k:=by have:=(List.getElem?_eq_some_iff.1 hj).1;rw[he]at this;exact this
  rw[B8E u g _ cur e (0,0) hh,Nat.zero_add];have h1:(cur.toList.take (n*k))[i*k+j]?=some v:=by rw[ht,A4H he l i j hil hjl,er,hj]
  have hlt:i*k+j<n*k:=by
   have:i*k+k<=l.length*k:=by rw[<-Nat.succ_mul];exact B8q _ hil
   rw[hn];omega
  rw[B9b,if_pos hlt]at h1
  simpa using h1
theorem Le.at{α:Type}{enc:α->List Value}{k:Nat}{u:World}{A:Option Addr}{l:List α}(h:Le enc k u A l){i:Nat}(hi:i<l.length):∃b off,A=some ⟨b,off,none⟩/\∀W,A4 u W->∀j v,(enc l[i])[j]?=some v->W.cell? ⟨b,off+i*k+j,none⟩=some v:=by
 obtain⟨b,off,e,hb,hc⟩:=h (λe=>by rw[e]at hi;simp at hi);exact⟨b,off,e,λW hg j v hj=>(hg.cell (p:=⟨b,off+i*k+j,none⟩) hb).trans (hc i _ (B8i hi) j v hj)⟩
theorem B38(A:Option Addr)(rs:List Rq)(n Lw c:Nat)(hn:rs.length=n)(hn1:1<=n)(hn2:n<=300)(hL1:1<=Lw)(hL2:Lw<=20)(hrl:∀r∈rs,r.2.2.length=Lw)(s:Nat)(hs1:1<=s)(hs:∀i,i<n->∀j,j<Lw->qs (gq (B6 (rs.map (·.2.2)) i) j)<=s)(hBz:30*(s*10^Lw)<=BIG)(w:World)(h:Lrq w A rs)(HT:Tab w) :
  Calls Tryz.prog 126 #[.slice A n c] w λe w'=>e = .returned (.tuple #[.int .i64 ((C0 n Lw (D7 (rs.map (·.2.2)),[]) Lw).2.length:Nat),.int .i64 0])/\A4 w w':=by
 have hrd:∀W,A4 w W->Calls Tryz.prog 159 #[.slice A n c] W (E9 (λx:(Nat×(Nat->Nat)×(Nat->Nat))×Ax=>.tuple #[.agg #[.slice (some ⟨x.1.1,0,none⟩) (C0 n Lw (D7 (rs.map (·.2.2)),[]) Lw).2.length (C0 n Lw (D7 (rs.map (·.2.2)),[]) Lw).2.length,.slice x.2.1 (C0 n Lw (D7 (rs.map (·.2.2)),[]) Lw).2.length x.2.2],.int .i64 0]) (λ_ _=>True) W):=λW hg=>(A8Y A rs n Lw c hn hn1 hn2 hL1 hL2 hrl s hs1 hs hBz W (h.grow hg) (HT.grow hg)).mono λe w' ⟨x,g1,_,g3⟩=>⟨x,g1,trivial,g3⟩
 obtain⟨r,hr⟩:∃r,r=(C0 n Lw (D7 (rs.map (·.2.2)),[]) Lw).2.length:=⟨_,rfl⟩
 rw[<-hr];simp only[<-hr]at hrd;have Hrd:=B8S hrd;clear hrd hr h hs hrl hn hBz;go_enter Tryz.func126,Tryz.ntmps126;refine en0 ?_;intro u hG hB hF;refine B8N (rsC X0 [0,1,0,0,0,2] hB hG λK L hN hL=>?_);refine gs ?_;refine gxd (X:=((Nat×(Nat->Nat)×(Nat->Nat))×Ax)) (λx:(Nat×(Nat->Nat)×(Nat->Nat))×Ax=>.tuple #[.agg #[.slice (some ⟨x.1.1,0,none⟩) r r,.slice x.2.1 r x.2.2],.int .i64 0]) (λ_ _=>True) (λ_ _ _ _ h=>h) (λx8=>?_) (C:=by(rintro v ⟨hgu,hB,hG,-⟩;exact Hrd.out _ hG));refine gs ?_;refine gaa (A6q _ _ _ _ _) λb4 hb4 hn4=>?_;replace hF:=hF.n1 [] hB hG hb4 hn4;refine geC hL ?_;clear hB hG hL L;rintro u ⟨⟨⟨-,hB,hG,-⟩,hx8⟩,h4⟩;replace hB:=hB.cons' h4;clear h4;clear hb4 hn4;refine gtT ?_;clear hN K;refine st hB hF hG 0 0 [_,_] ?_;clear hB hG;intro u hB hG;refine r0T ?_;refine rt Tryz.results126 ?_;exact⟨rfl,hG⟩
theorem A89(A:Option Addr)(rs:List Rq)(n Lw c:Nat)(hn:rs.length=n)(hn1:1<=n)(hn2:n<=300)(hL1:1<=Lw)(hL2:Lw<=6)(hrl:∀r∈rs,r.2.2.length=Lw)(s:Nat)(hs1:1<=s)(hs:∀i,i<n->∀j,j<Lw->qs (gq (B6 (rs.map (·.2.2)) i) j)<=s)(hBz:30*(s*10^Lw)<=BIG)(w:World)(h:Lrq w A rs)(HT:Tab w) :
  Calls Tryz.prog 58 #[.slice A n c] w λe w'=>e = .returned (.int .i64 (if (C0 n Lw (D7 (rs.map (·.2.2)),[]) Lw).2.length<Lw then 9 else 0))/\A4 w w':=by
 have hrk:=λW (hg:A4 w W)=>B38 A rs n Lw c hn hn1 hn2 hL1 (by omega) hrl s hs1 hs hBz W (h.grow hg) (HT.grow hg);obtain⟨bb,ob,P0,eA,hP0⟩:=X8 hn hrl h (i:=0) (by omega);have hr0:=λW hg=>(hP0 W hg).1;simp only[Nat.add_zero]at hr0;subst eA;have hni:(0:Int)<(n:Int):=by omega
 have hnp:0<n:=by omega
 have fn:decide ((0:Int)<(n:Int))=true:=by simp;omega
 have fnn:decide (0<n)=true:=by simp;omega
 have f6:decide ((6:Int)<(Lw:Int))=false:=by simp;omega
 have f6n:decide (6<Lw)=false:=by simp;omega
 obtain⟨r,hr⟩:∃r,r=(C0 n Lw (D7 (rs.map (·.2.2)),[]) Lw).2.length:=⟨_,rfl⟩
 rw[<-hr];simp only[<-hr]at hrk;have Hrk:=B8S hrk;have Hr0:=B8S hr0;clear hrk hr0 hr h hP0 hs hrl hn hBz;by_cases hrL:r<Lw
 ·have fr:decide ((r:Int)<(Lw:Int))=true:=by simp;omega
  have frn:decide (r<Lw)=true:=by simp;omega
  rw[if_pos hrL];clear hrL;go_enter Tryz.func58,Tryz.ntmps58;refine en0 ?_;intro u hG hB hF;refine B8N ?_;refine B8N ?_;have q0:=Hr0.out u hG;refine r0N ?_;refine B8T (rfl) ?_;refine B8U ?_;refine A6 ?_;refine B8N ?_;refine B8N (rsE A8 [0,1,0,0,0,0,0] hB hG λL hL=>?_);refine gs ?_;refine gmd (C:=λv ⟨hgu,hB,hG,_⟩=>Hrk.out _ hG) ?_;refine gs ?_;refine geT hL ?_;clear hB hG hL L;rintro u ⟨-,hB,hG,-⟩;refine B8N ?_;have q0:=Hr0.out u hG;refine r0N ?_;refine B8V (rfl) ?_;refine r0T ?_;refine rt Tryz.results58 ?_;exact⟨rfl,hG⟩
 ·have fr:decide ((r:Int)<(Lw:Int))=false:=by simp;omega
  have frn:decide (r<Lw)=false:=by simp;omega
  rw[if_neg hrL];clear hrL;go_enter Tryz.func58,Tryz.ntmps58;refine en0 ?_;intro u hG hB hF;refine B8N ?_;refine B8N ?_;have q0:=Hr0.out u hG;refine r0N ?_;refine B8T (rfl) ?_;refine B8U ?_;refine A6 ?_;refine B8N ?_;refine B8N (rsE A8 [0,1,0,0,0,0,0] hB hG λL hL=>?_);refine gs ?_;refine gmd (C:=λv ⟨hgu,hB,hG,_⟩=>Hrk.out _ hG) ?_;refine gs ?_;refine geT hL ?_;clear hB hG hL L;rintro u ⟨-,hB,hG,-⟩;refine B8N ?_;have q0:=Hr0.out u hG;refine r0N ?_;refine B8T (rfl) ?_;refine B8U ?_;refine A6 ?_;refine r0T ?_;refine rt Tryz.results58 ?_;exact⟨rfl,hG⟩
abbrev Lm:=Rat×Rat
def lmL(x:Lm):List Value:=qL x.1++qL x.2
def A1t(a:Rat)(x:Lm):Bool:=decide (¬G9 (C3 x.1 a) x.2<0)
def R9(l:List Lm)(i:Nat):Lm:=(l[i]?).getD (0,0)
def J8(a:Rat)(l:List Lm):Bool:=l.all (A1t a)
theorem B7G{u:World}{A:Option Addr}{l:List Lm}(h:Le lmL 10 u A l){i:Nat}(hi:i<l.length):∃b o,A=some ⟨b,o,none⟩/\∀W,A4 u W->Cq W b (o+i*10) (R9 l i).1/\Cq W b (o+i*10+5) (R9 l i).2:=by
 obtain⟨b,o,e,hc⟩:=h.at hi;have e2:R9 l i=l[i]:=by unfold R9;rw[B8i hi];rfl
 rw[e2];exact⟨b,o,e,λW hg=>⟨⟨hc W hg 0 _ rfl,hc W hg 1 _ rfl,hc W hg 2 _ rfl,hc W hg 3 _ rfl,hc W hg 4 _ rfl⟩,hc W hg 5 _ rfl,hc W hg 6 _ rfl,hc W hg 7 _ rfl,hc W hg 8 _ rfl,hc W hg 9 _ rfl⟩⟩
theorem A5i(d:Option Tmp)(ty:TypeId)(pos:String)(af:Array Edge)(gd:Option (Nat×Bool)):S3 Tryz.prog ⟨d,.alloc 183,ty,pos,af,gd⟩ = .cells #[.bool false,.int .u64 0,.string ⟨#[]⟩,.int .u64 0,.string ⟨#[]⟩,.bool false,.int .u64 0,.string ⟨#[]⟩,.int .u64 0,.string ⟨#[]⟩] 183:=by kernel_rfl
theorem A4N(d:Option Tmp)(ty:TypeId)(pos:String)(af:Array Edge)(gd:Option (Nat×Bool)):S3 Tryz.prog ⟨d,.alloc 115,ty,pos,af,gd⟩ = .cells #[.slice none 0 0,.slice none 0 0,.slice none 0 0] 115:=by kernel_rfl
theorem A6J(d:Option Tmp)(ty:TypeId)(pos:String)(af:Array Edge)(gd:Option (Nat×Bool)):S3 Tryz.prog ⟨d,.alloc 108,ty,pos,af,gd⟩ = .cells #[.slice none 0 0,.slice none 0 0] 108:=by kernel_rfl
theorem G7:∀t∈[44,46,48,183,115,108],R0 Tryz.prog t:=by
 intro t ht;simp only[List.mem_cons,List.not_mem_nil,or_false]at ht;rcases ht with rfl|rfl|rfl|rfl|rfl|rfl
 ·exact λ_ _ _ _ _ _=>by rw[M7];kernel_rfl
 ·exact λ_ _ _ _ _ _=>by rw[A25];kernel_rfl
 ·exact λ_ _ _ _ _ _=>by rw[Q3];kernel_rfl
 ·exact λ_ _ _ _ _ _=>by rw[A5i];kernel_rfl
 ·exact λ_ _ _ _ _ _=>by rw[A4N];kernel_rfl
 ·exact λ_ _ _ _ _ _=>by rw[A6J];kernel_rfl
def M6(f b:List Rat)(n:Nat)(a:Rat):List Rat:=(List.range n).map λi=>G9 (gq f i) (C3 (gq b i) a)
theorem B5E(A1 A2 A3:Ax)(n1 n2 n:Nat)(l:List Lm)(a:Rat)(hl:l.length=n)(hn:n<=1000)(s:Nat)(hs:∀x∈l,qs x.1<=s/\qs x.2<=s)(ha:qs a<=s)(hBz:4*s+10<=BIG)(w:World)(h:Le lmL 10 w A3.1 l)(HT:Tab w) :
  Calls Tryz.prog 62 #[.agg #[.slice A1.1 n1 A1.2,.slice A2.1 n2 A2.2,.slice A3.1 n A3.2],qV a] w λe w'=>e = .returned (.bool (J8 a l))/\A4 w w':=by
 have hBm:=I6;obtain⟨F1,F2,F3,F4⟩:=A16 (λi=>A1t a (R9 l i)) n 0;obtain⟨F,hF0⟩:∃F,F=X6 (λi=>A1t a (R9 l i)) n 0:=⟨_,rfl⟩
 rw[<-hF0]at F1 F2 F3 F4;have hyes:F=n->J8 a l=true:=λe=>by
  unfold J8;rw[List.all_eq_true];intro x hx;obtain⟨i,hi,ei⟩:=B9w hx;have h1:=F3 i (B8k _) (by omega);have e2:R9 l i=x:=by unfold R9;rw[B8i hi,ei];rfl
  rw[e2]at h1;exact h1
 have hno:F<n->J8 a l=false:=λe=>by
  have h1:=F4 (by omega);have hi:F<l.length:=by omega
  have e2:R9 l F=l[F]:=by unfold R9;rw[B8i hi];rfl
  rw[e2]at h1;unfold J8;rw[List.all_eq_false];exact⟨l[F],B8G hi,by rw[h1];simp⟩
 have hat:∀i,i<n->∃b o,A3.1=some ⟨b,o,none⟩/\∀W,A4 w W->Cq W b (o+i*10) (R9 l i).1/\Cq W b (o+i*10+5) (R9 l i).2:=λi hi=>B7G h (by omega);have hsz:∀i,i<n->qs (R9 l i).1<=s/\qs (R9 l i).2<=s:=λi hi=>by
  have hi:i<l.length:=by omega
  have e2:R9 l i=l[i]:=by unfold R9;rw[B8i hi];rfl
  rw[e2];exact hs _ (B8G hi)
 obtain⟨R,hR⟩:∃r,r=J8 a l:=⟨_,rfl⟩
 rw[<-hR]at hyes hno⊢;obtain⟨A3,c3⟩:=A3;simp only at hat;have Hat:=B8S hat;have Hsz:=B8S hsz;have Hyes:=B8S hyes;have Hno:=B8S hno;have HF3:=B8S F3;have HF4:=B8S F4;have F2':F<=n:=by omega
 clear hat hsz hyes hno F3 F4 F1 F2 hF0 hR h hs hl;go_enter Tryz.func62,Tryz.ntmps62;refine en2 ?_;intro u hG b3 b2 hB hF;refine B8N ?_;refine B8N ?_;have h2w:=hF.1 b2 (by simp);have h3w:=hF.1 b3 (by simp);have h23:b2≠b3:=λe=>by
  have:=hF.2;simp[e]at this
 refine r0N ?_;refine B8v ?_;clear hF;go_loopw [10] (λs0 wr=>∃i:Nat,i<=F/\s0 = .int .i64 i/\Bx wr [(b2,115,#[.slice A1.1 n1 A1.2,.slice A2.1 n2 A2.2,.slice A3 n c3]),(b3,48,A0E a)]/\A4 w wr) (λs0 _=>n-(intOf s0).toNat)
 case atStart=>exact⟨0,B8k _,rfl,hB,hG⟩
 case round =>
  clear hB hG;obtain⟨i,hi,rfl,hB,hG⟩:=hrel;obtain⟨u,rfl⟩:=exQ wr
  have hF:Fr w [b2,b3]:=⟨λb hb=>by
   simp only[List.mem_cons,List.not_mem_nil,or_false]at hb;rcases hb with rfl|rfl
   ·exact h2w
   ·exact h3w,by simp;exact h23⟩
  rcases B73 i n with hlt|hge
  ·have hdec:decide ((i:Int)<(n:Int))=true:=by simp;omega
   have hin:(i:Int)<(n:Int):=by omega
   obtain⟨bl0,ol,eL,hrd⟩:=Hat.out i hlt;subst eL;obtain⟨z1,z2⟩:=Hsz.out i hlt;have hy:=λh=>HF3.out i (B8k _) h;have hn1:¬i<F->A1t a (R9 l i)=false:=λh=>by
    have e:F=i:=by omega
    have h4:=HF4.out (by omega);rw[e]at h4;exact h4
   obtain⟨⟨X,Y⟩,hX⟩:∃X,X=R9 l i:=⟨_,rfl⟩
   rw[<-hX]at z1 z2 hy hn1;simp only[<-hX]at hrd;simp only at z1 z2;have z3:=Y4 X a;have hml:=λW hT=>A1d X a W (by omega) hT;have hh:A1t a (X,Y)=decide (¬G9 (C3 X a) Y<0):=rfl;rw[hh]at hy hn1;obtain⟨D,hD⟩:∃D,D=C3 X a:=⟨_,rfl⟩
   rw[<-hD]at hy hn1;simp only[<-hD]at hml;have z4:qs D<=s+s:=by rw[hD];unfold C3;omega
   have z5:=A2t D Y;have had:=λW hT=>A3g D Y W (by omega) hT;obtain⟨E,hE⟩:∃D',D'=G9 D Y:=⟨_,rfl⟩
   rw[<-hE]at hy hn1;simp only[<-hE]at had;have z6:qs E<=3*s+1:=by rw[hE];unfold G9;omega
   have hsg:=λW=>U4 E (by have:=G6 E;omega) W;have hneg:=@A2q E;obtain⟨S,hS⟩:∃S,S=E.num.sign:=⟨_,rfl⟩
   have hrg:=A4I E;rw[<-hS]at hneg hrg;simp only[<-hS]at hsg;have Hrd:=B8S hrd;have Hml:=B8S hml;have Had:=B8S had;have Hsg:=B8S hsg;clear hrd hml had hsg hX hD hE hS hh z1 z2 z3 z4 z5 z6;by_cases hiF:i<F
   ·have h0:=hy hiF;have fS:decide (S<0)=false:=by
     have h1:¬E<0:=B86 h0;have h2:S ≠ -1:=λe=>h1 (hneg.1 e);simp;omega
    clear hy hn1 h0 hneg hrg;refine r0T ?_;refine B8N ?_;refine B8V (rfl) ?_;refine B8U ?_;refine A6 ?_;refine B8N ?_;refine B8v ?_;refine B8N (rsC G7 [0,0,2] hB hG λK L hN hL=>?_)
    repeat first|refine gya ?_|refine gyr ?_|refine gna ?_|refine gyb (by(rintro v ⟨hgu,hB,hG,-⟩ N hN;have r:=hB.r;simp only[BxR]at r;(try obtain⟨⟨y1,y2,y3,y4,y5⟩,x1,x2,x3,x4,x5⟩:=Hrd.out v hG);go_simp;exact hN)) ?_
    refine gaa (A5i _ _ _ _ _) λb6 hb6 hn6=>?_;replace hF:=hF.n1 [] hB hG hb6 hn6;refine geC hL ?_;clear hB hG hL L;rintro u ⟨⟨-,hB,hG,-⟩,h6⟩;replace hB:=hB.cons' h6;clear h6;clear hb6 hn6;refine gtT ?_;clear hN K;refine st hB hF hG 0 0 [_,_,_,_,_,_,_,_,_,_] ?_;clear hB hG;intro u hB hG;refine B8N (rdC G7 [] [(0,0),(0,1),(0,2),(0,4),(0,5),(1,3),(1,6),(1,7)] hB hG λK L hN hL=>?_)
    repeat first|refine gya ?_|refine gyr ?_|refine gna ?_|refine gyb (by(rintro v ⟨hgu,hB,hG,-⟩ N hN;have r:=hB.r;simp only[BxR]at r;(try obtain⟨⟨y1,y2,y3,y4,y5⟩,x1,x2,x3,x4,x5⟩:=Hrd.out v hG);go_simp;exact hN)) ?_
    refine gmd (C:=λv ⟨hgu,hB,hG,_⟩=>Hml.out _ (HT.grow hG)) ?_;refine gmd (C:=λv ⟨hgu,hB,hG,_⟩=>Had.out _ (HT.grow hG)) ?_;refine gmw (C:=λv=>Hsg.out _) ?_;refine geC hL ?_;clear hB hG hL L;rintro u ⟨-,hB,hG,-⟩;refine gtT ?_;clear hN K;refine B8T (rfl) ?_;refine B8U ?_;refine C8 ?_;refine A6 ?_;refine r0E ?_;refine A6 ?_;go_roundw
    case rel=>exact⟨i+1,by omega,by go_num,hB.tail,hG⟩
    case measure=>simp[intOf];omega
   ·have h0:=hn1 hiF;have fS:decide (S<0)=true:=by
     have h1:E<0:=by simpa using h0
     rw[hneg.2 h1];rfl
    have HR:=B8S (Hno.out (by omega));clear hy hn1 h0 hneg hrg;refine r0T ?_;refine B8N ?_;refine B8V (rfl) ?_;refine B8U ?_;refine A6 ?_;refine B8N ?_;refine B8v ?_;refine B8N (rsC G7 [0,0,2] hB hG λK L hN hL=>?_)
    repeat first|refine gya ?_|refine gyr ?_|refine gna ?_|refine gyb (by(rintro v ⟨hgu,hB,hG,-⟩ N hN;have r:=hB.r;simp only[BxR]at r;(try obtain⟨⟨y1,y2,y3,y4,y5⟩,x1,x2,x3,x4,x5⟩:=Hrd.out v hG);go_simp;exact hN)) ?_
    refine gaa (A5i _ _ _ _ _) λb6 hb6 hn6=>?_;replace hF:=hF.n1 [] hB hG hb6 hn6;refine geC hL ?_;clear hB hG hL L;rintro u ⟨⟨-,hB,hG,-⟩,h6⟩;replace hB:=hB.cons' h6;clear h6;clear hb6 hn6;refine gtT ?_;clear hN K;refine st hB hF hG 0 0 [_,_,_,_,_,_,_,_,_,_] ?_;clear hB hG;intro u hB hG;refine B8N (rdC G7 [] [(0,0),(0,1),(0,2),(0,4),(0,5),(1,3),(1,6),(1,7)] hB hG λK L hN hL=>?_)
    repeat first|refine gya ?_|refine gyr ?_|refine gna ?_|refine gyb (by(rintro v ⟨hgu,hB,hG,-⟩ N hN;have r:=hB.r;simp only[BxR]at r;(try obtain⟨⟨y1,y2,y3,y4,y5⟩,x1,x2,x3,x4,x5⟩:=Hrd.out v hG);go_simp;exact hN)) ?_
    refine gmd (C:=λv ⟨hgu,hB,hG,_⟩=>Hml.out _ (HT.grow hG)) ?_;refine gmd (C:=λv ⟨hgu,hB,hG,_⟩=>Had.out _ (HT.grow hG)) ?_;refine gmw (C:=λv=>Hsg.out _) ?_;refine geC hL ?_;clear hB hG hL L;rintro u ⟨-,hB,hG,-⟩;refine gtT ?_;clear hN K;refine B8V (rfl) ?_;refine r0T ?_;refine rt Tryz.results62 ?_;exact⟨by rw[HR.out],hG⟩
  ·obtain rfl:n=i:=by omega
   have hdec:decide ((n:Int)<(n:Int))=false:=by simp
   have HR:=B8S (Hyes.out (by omega));refine r0T ?_;refine B8N ?_;refine B8T (rfl) ?_;refine B8x ?_;refine B7 ?_;refine B7 ?_;refine D0 ?_;refine A6 ?_;refine r0T ?_;refine rt Tryz.results62 ?_;exact⟨by rw[HR.out],hG⟩
end Go.Proofs.YtgpglgbcobeogaaGreatDoor
