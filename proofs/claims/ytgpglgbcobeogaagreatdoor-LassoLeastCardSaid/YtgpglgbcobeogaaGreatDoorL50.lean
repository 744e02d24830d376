/-
  The claim's theorem: LsRf LsSb LassoLeastZ.
-/
import Derived.Test.YtgpglgbcobeogaaGreatDoorL47
import Derived.Test.YtgpglgbcobeogaaGreatDoorL49
set_option linter.unusedSimpArgs false
set_option linter.unusedVariables false
set_option maxHeartbeats 16000000
set_option maxRecDepth 100000
namespace Go.Proofs.YtgpglgbcobeogaaGreatDoor
open Go Go.RowKit
theorem B2Q(A Y:Option Addr)(rs:List Rq)(y:List Rat)(N n c d:Nat)(a:Rat)(pa:Az)(hn:rs.length=N)(hN1:1<=N)(hN2:N<=20)(hrl:∀r∈rs,r.2.2.length=n)(hy:y.length=N)(hn1:1<=n)(hn6:n<=6)(s:Nat)(hs1:1<=s)(hs:s<=10000000)(hX:∀i,i<N->∀j,j<n->qs (gq (B6 (rs.map (·.2.2)) i) j)<=s)(hys:∀i,i<N->qs (gq y i)<=s)(g:Nat)(hg1:1<=g)(hGz:∀i,i<n->∀j,j<n->qs (gq (B6 (J3 (rs.map (·.2.2)) N n) i) j)<=g)(hPz:∀i,i<n->qs (gq (I1 (rs.map (·.2.2)) y N n) i)<=g)(hBz:100*(g*10^(n+1))<=BIG)(hF:A1T (rs.map (·.2.2)) N n)(ha0:0<=a)(t:Nat)(hst:s<=t)(ht:t<=500000000)(has:qs a<=t)(hws:∀k,∀i,i<n->qs (gq (I9 (rs.map (·.2.2)) y N n a k) i)<=t)(hR:∀k,∀i,i<N->qs (gq (V3 (rs.map (·.2.2)) y (I9 (rs.map (·.2.2)) y N n a k) N n) i)<=500000000)(hPs:∀k,∀j,j<n->qs (gq (P8 (rs.map (·.2.2)) y (I9 (rs.map (·.2.2)) y N n a k) N n) j)<=11000000000)(w:World)(h:Lrz w A rs)(h2:Lz w Y y)(h4:Rz w pa a) :
  Calls Tryz.prog 23 #[.slice A N c,.slice Y N d,rqV pa.1 pa.2 a] w (E9 (λx:Ax=>.slice x.1 n x.2) (λx W=>Lz W x.1 (V7 (rs.map (·.2.2)) y N n a)) w):=by
 have hBB:1000000000000<=BIG:=by unfold BIG;omega
 have hm:qs (K4 a)<=t:=by rw[show qs (K4 a)=qs a from A3Y a];exact has
 have hgz:∀k,(∀i,qs (gq (N4 (rs.map (·.2.2)) y N n k) i)<=g*10^(n+1))/\(∀i,qs (gq (N1 (rs.map (·.2.2)) N n k) i)<=g*10^(n+1)):=λk=>by
  obtain⟨z1,z2,-⟩:=A4U (y:=y) hg1 hn6 hGz hPz k;exact⟨z1,z2⟩
 have hpl:∀k,(N4 (rs.map (·.2.2)) y N n k).length=n/\(N1 (rs.map (·.2.2)) N n k).length=n:=λk=>by
  obtain⟨l1,l2,-⟩:=A7i (rs.map (·.2.2)) y N n k hn6;exact⟨l1,l2⟩
 obtain⟨Z,hZ⟩:∃Z,Z=g*10^(n+1):=⟨_,rfl⟩
 have hBz2:=hBz;rw[<-hZ]at hBz2;simp only[<-hZ]at hgz;have hsg:=λ(i:Nat) (W:World) (x:Ax) (hx:Li W x.1 (F6 n i)) (hg:A4 w W)=>B7X A Y x.1 rs y (F6 n i) N n c d x.2 hn hN1 hN2 hrl hy (A8w n i) hn1 hn6 (λj hj=>A4O hj) s hs1 hs hX hys g hg1 hGz hPz hBz hF W (h.grow hg) (h2.grow hg) hx;obtain⟨m,hme⟩:∃m,m=K4 a:=⟨_,rfl⟩
 have hlw:∀F G,A1b F G m n=M6 F G n a:=by rw[hme];exact λF G=>B5Y F G n a
 have hng:=λW=>A86 pa.1 pa.2 a W;have hrm:∀W,A4 w W->Rz W pa m:=by rw[hme];exact λW hg=>B4N (h4.grow hg)
 rw[<-hme]at hm;simp only[<-hme]at hng;have hzz:2*Z+qs m+1<=BIG:=by clear hBz hZ hgz;omega
 have hls:∀(i:Nat) (W:World) (P1 P2:Option Addr),Lz W P1 (N4 (rs.map (·.2.2)) y N n i)->Lz W P2 (N1 (rs.map (·.2.2)) N n i)->A4 w W->Calls Tryz.prog 74 #[.slice P1 n n,.slice P2 n n,rqV pa.1 pa.2 m] W (E9 (λx:Ax=>.slice x.1 n x.2) (λx W=>Lz W x.1 (I9 (rs.map (·.2.2)) y N n a i)) W):=λi W P1 P2 g1 g2 hg=>by
  have h9:=B23 P1 P2 _ _ n n n m pa (hpl i).1 (hpl i).2 (B8K hn6 (by decide)) Z (λj _=>(hgz i).1 j) (λj _=>(hgz i).2 j) hzz W g1 g2 (hrm W hg);rw[hlw]at h9;exact h9
 have hft:∀(i:Nat) (W:World) (V:Ax),Lz W V.1 (I9 (rs.map (·.2.2)) y N n a i)->A4 w W->Calls Tryz.prog 40 #[.slice A N c,.slice Y N d,.slice V.1 n V.2,rqV pa.1 pa.2 a] W λe w'=>e = .returned (.int .i64 (if M9 (rs.map (·.2.2)) y (I9 (rs.map (·.2.2)) y N n a i) N n a<n then(M9 (rs.map (·.2.2)) y (I9 (rs.map (·.2.2)) y N n a i) N n a:Nat)else -1))/\A4 W w':=λi W V g1 hg=>by
  have q1:=B4j A Y V.1 rs y (I9 (rs.map (·.2.2)) y N n a i) N n c d V.2 a pa hn hN2 hrl hy (A9t y a i) hn1 (B8K hn6 (by decide)) t ht;have q2:=q1 (λi hi j hj=>B8K (hX i hi j hj) hst) (λi hi=>B8K (hys i hi) hst);have q3:=q2 (λj hj=>hws i j hj) has (hR i) (hPs i) W;exact q3 (h.grow hg) (h2.grow hg) g1 (h4.grow hg)
 obtain⟨bb,ob,P0,eA,hP0,hl0⟩:=A0i hn hrl h (i:=0) (B8X (by decide) hN1);have hr0:=λW hg=>(hP0 W hg).1;simp only[Nat.add_zero]at hr0;obtain⟨KK,k1,k2,k3,k4⟩:=B5B hF y ha0;have h3n:3^n<=3^6:=B8Z (by decide) hn6;clear hBz2 hZ hzz;have hth:=λW=>B0p n (B8K hn6 (by decide)) W;obtain⟨P3,hP3⟩:∃P3,P3=3^n:=⟨_,rfl⟩
 rw[<-hP3]at k1 h3n;simp only[<-hP3]at hth;rw[<-k3];have hlb:∀i,M9 (rs.map (·.2.2)) y (I9 (rs.map (·.2.2)) y N n a i) N n a<=n:=λi=>(A5T _ _ _ _ _ _).1;obtain⟨LB,hLB⟩:∃LB:Nat->Nat,LB=λi=>M9 (rs.map (·.2.2)) y (I9 (rs.map (·.2.2)) y N n a i) N n a:=⟨_,rfl⟩
 have hLBi:∀i,M9 (rs.map (·.2.2)) y (I9 (rs.map (·.2.2)) y N n a i) N n a=LB i:=by rw[hLB];exact λ_=>rfl
 simp only[hLBi]at hft k2 k4 hlb;obtain⟨PW,hPW⟩:∃PW:Nat->List Rat,PW=I9 (rs.map (·.2.2)) y N n a:=⟨_,rfl⟩
 rw[<-hPW]at k3⊢;simp only[<-hPW]at hft hls;obtain⟨PF,hPF⟩:∃PF:Nat->List Rat,PF=N4 (rs.map (·.2.2)) y N n:=⟨_,rfl⟩
 obtain⟨PB,hPB⟩:∃PB:Nat->List Rat,PB=N1 (rs.map (·.2.2)) N n:=⟨_,rfl⟩
 have hsg2:∀(i:Nat) (W:World) (x:Ax),Li W x.1 (F6 n i)->A4 w W->Calls Tryz.prog 72 #[.slice A N c,.slice Y N d,.slice x.1 n x.2] W (E9 (λx:Nat×Nat=>.tuple #[.slice (some ⟨x.1,0,none⟩) n n,.slice (some ⟨x.2,0,none⟩) n n,.bool true]) (λx W=>Lz W (some ⟨x.1,0,none⟩) (PF i)/\Lz W (some ⟨x.2,0,none⟩) (PB i)) W):=by
  rw[hPF,hPB];exact hsg
 simp only[<-hPF,<-hPB]at hls;subst eA;have hni:(0:Int)<(N:Int):=by omega
 have hnp:0<N:=by omega
 have Hsg:=B8S hsg2;have Hls:=B8S hls;have Hft:=B8S hft;have Hr0:=B8S hr0;have Hth:=B8S hth;have Hng:=B8S hng;have Hk2:=B8S k2;have Hk4:=B8S k4;have Hlb:=B8S hlb;clear hsg hsg2 hls hlw hrm hft hr0 hth hng k2 k3 k4 hlb hLB hLBi hPW hPF hPB hme hP3 hP0 hl0 hgz hpl hX hys hGz hPz hBz hF hws hR hPs hm has ha0 h h2 h4 hrl hn hy hs1 hs hg1;go_enter Tryz.func23,Tryz.ntmps23;refine en1 ?_;intro u hG b5 hB hF;refine B8N ?_
 (first|have q0:=Hr0.out u hG|skip)
 refine r0N ?_;refine B8N ?_;refine r0T ?_;refine B8v ?_;go_loopw [8] (λs0 wr=>∃(i:Nat),i<=KK/\s0 = .int .i64 i/\Bx wr [(b5,33,A4Q pa a)]/\A4 w wr) (λs0 _=>KK-(intOf s0).toNat)
 case atStart=>exact⟨0,B8k _,rfl,hB,hG⟩
 case round =>
  clear hB hG;obtain⟨i,hi,rfl,hB,hG⟩:=hrel;obtain⟨u,rfl⟩:=exQ wr;have hlt:decide ((i:Int)<(P3:Int))=true:=by simp;omega
  have hltn:decide (i<P3)=true:=B87 (by omega);have hso:=λW=>B2W i n (by omega) (by omega) W;obtain⟨SG,hSG⟩:∃SG,SG=F6 n i:=⟨_,rfl⟩
  have hsg:=Hsg.out i;have hls:=Hls.out i;have hft:=Hft.out i;rw[<-hSG]at hsg;simp only[<-hSG]at hso;have hlb:=Hlb.out i;have hk4:=Hk4.out i;obtain⟨V,hV⟩:∃V,V=PW i:=⟨_,rfl⟩
  rw[<-hV]at hls hft;obtain⟨F1,hF1⟩:∃V,V=PF i:=⟨_,rfl⟩
  obtain⟨B1,hB1⟩:∃V,V=PB i:=⟨_,rfl⟩
  rw[<-hF1]at hsg hls;rw[<-hB1]at hsg hls;obtain⟨z,hz⟩:∃z,z=LB i:=⟨_,rfl⟩
  rw[<-hz]at hft hlb hk4;have Hso:=B8S hso;have Hsg1:=B8S hsg;have Hls1:=B8S hls;rcases B73 i KK with hiK|hiK
  ·have hzn:z<n:=by have:=hk4 hiK;omega
   rw[if_pos hzn]at hft;have fz:decide ((z:Int)<0)=false:=by simp
   have Hft1:=B8S hft;clear hso hsg hls hft hlb hk4 hSG hV hF1 hB1 hz;refine B8N ?_;refine B8N (rsE H4 [0,0,1,0] hB hG λL hL=>?_);refine gs ?_;refine gmw (C:=λv=>Hth.out _) ?_;refine gs ?_;refine geT hL ?_;clear hB hG hL L;rintro u ⟨-,hB,hG,-⟩;refine B8V (rfl) ?_;refine B8U ?_;refine A6 ?_;refine B8N ?_;refine B8v ?_;refine B8N (rsE H4 [0,0,0,0,1,1,0,0,0,0,0,0,0] hB hG λL hL=>?_);refine gs ?_;refine gxd (X:=Ax) (λx:Ax=>.slice x.1 n x.2) (λx W=>Li W x.1 SG) (λx u u' hg h=>Li.grow h hg) (λx28=>?_) (C:=λv _=>Hso.out _);refine gxd (X:=(Nat×Nat)) (λx:Nat×Nat=>.tuple #[.slice (some ⟨x.1,0,none⟩) n n,.slice (some ⟨x.2,0,none⟩) n n,.bool true]) (λx W=>Lz W (some ⟨x.1,0,none⟩) F1/\Lz W (some ⟨x.2,0,none⟩) B1) (λx u u' hg h=>⟨h.1.grow hg,h.2.grow hg⟩) (λx29=>?_) (C:=by(rintro v ⟨⟨hgu,hB,hG,-⟩,hx28⟩;exact Hsg1.out _ x28 hx28 hG));refine gs ?_;refine geT hL ?_;clear hB hG hL L;rintro u ⟨⟨⟨hgu,hB,hG,-⟩,hx28⟩,hx29⟩;obtain⟨w5,hw5⟩:=exQ u;have HFB:=B8S (show Lz w5 (some ⟨x29.1,0,none⟩) F1/\Lz w5 (some ⟨x29.2,0,none⟩) B1 from hw5 ▸ hx29);have hG5:A4 w5 u:=hw5 ▸ A4.refl u;clear hx28 hx29 hw5;clear hgu;refine B8N ?_;refine r0T ?_;refine B8T (rfl) ?_;refine B8U ?_;refine A6 ?_;refine B8N (rsE H4 [0,0,0,1,1,0] hB hG λL hL=>?_)
   repeat first|refine gya ?_|refine gyr ?_|refine gna ?_|refine gyb (by(rintro v ⟨hgu,hB,hG,-⟩ N hN;have r:=hB.r;simp only[BxR]at r;(first|have q0:=Hr0.out v hG|skip);go_simp;exact hN)) ?_
   refine gmw (C:=λv=>Hng.out _) ?_;refine gxd (X:=Ax) (λx:Ax=>.slice x.1 n x.2) (λx W=>Lz W x.1 V) (λx u u' hg h=>Lz.grow h hg) (λx39=>?_) (C:=by(rintro v ⟨hgu,hB,hG,-⟩;exact Hls1.out _ _ _ (HFB.out.1.grow (hG5.trans hgu)) (HFB.out.2.grow (hG5.trans hgu)) hG));refine gs ?_;refine geT hL ?_;clear hB hG hL L;rintro u ⟨⟨hgu,hB,hG,-⟩,hx39⟩;obtain⟨w7,hw7⟩:=exQ u;have HLV:=B8S (show Lz w7 x39.1 V from hw7 ▸ hx39);have hG7:A4 w7 u:=hw7 ▸ A4.refl u;clear hx39 hw7 HFB hG5;clear hgu;refine B8N (rsE H4 [0,0,0,0,1,0] hB hG λL hL=>?_)
   repeat first|refine gya ?_|refine gyr ?_|refine gna ?_|refine gyb (by(rintro v ⟨hgu,hB,hG,-⟩ N hN;have r:=hB.r;simp only[BxR]at r;(first|have q0:=Hr0.out v hG|skip);go_simp;exact hN)) ?_
   refine gmd (C:=λv ⟨hgu,hB,hG,_⟩=>Hft1.out _ x39 (HLV.out.grow (hG7.trans hgu)) hG) ?_;refine gs ?_;refine geT hL ?_;clear hB hG hL L;rintro u ⟨hgu,hB,hG,-⟩;replace hG7:=hG7.trans hgu;clear hgu;refine B8T (rfl) ?_;refine B8U ?_;refine C8 ?_;refine A6 ?_;refine r0E ?_;refine A6 ?_;go_roundw
   case rel=>exact⟨i+1,by omega,by go_num,hB,hG⟩
   case measure=>simp[intOf];omega
  ·obtain rfl:KK=i:=by omega
   have hzn:¬z<n:=by rw[hz,Hk2.out];omega
   rw[if_neg hzn]at hft;have Hft1:=B8S hft;have HV:=B8S hV;clear hso hsg hls hft hlb hk4 hSG hV hF1 hB1 hz hzn hiK hi;refine B8N ?_;refine B8N (rsE H4 [0,0,1,0] hB hG λL hL=>?_);refine gs ?_;refine gmw (C:=λv=>Hth.out _) ?_;refine gs ?_;refine geT hL ?_;clear hB hG hL L;rintro u ⟨-,hB,hG,-⟩;refine B8V (rfl) ?_;refine B8U ?_;refine A6 ?_;refine B8N ?_;refine B8v ?_;refine B8N (rsE H4 [0,0,0,0,1,1,0,0,0,0,0,0,0] hB hG λL hL=>?_);refine gs ?_;refine gxd (X:=Ax) (λx:Ax=>.slice x.1 n x.2) (λx W=>Li W x.1 SG) (λx u u' hg h=>Li.grow h hg) (λx28=>?_) (C:=λv _=>Hso.out _);refine gxd (X:=(Nat×Nat)) (λx:Nat×Nat=>.tuple #[.slice (some ⟨x.1,0,none⟩) n n,.slice (some ⟨x.2,0,none⟩) n n,.bool true]) (λx W=>Lz W (some ⟨x.1,0,none⟩) F1/\Lz W (some ⟨x.2,0,none⟩) B1) (λx u u' hg h=>⟨h.1.grow hg,h.2.grow hg⟩) (λx29=>?_) (C:=by(rintro v ⟨⟨hgu,hB,hG,-⟩,hx28⟩;exact Hsg1.out _ x28 hx28 hG));refine gs ?_;refine geT hL ?_;clear hB hG hL L;rintro u ⟨⟨⟨hgu,hB,hG,-⟩,hx28⟩,hx29⟩;obtain⟨w5,hw5⟩:=exQ u;have HFB:=B8S (show Lz w5 (some ⟨x29.1,0,none⟩) F1/\Lz w5 (some ⟨x29.2,0,none⟩) B1 from hw5 ▸ hx29);have hG5:A4 w5 u:=hw5 ▸ A4.refl u;clear hx28 hx29 hw5;clear hgu;refine B8N ?_;refine r0T ?_;refine B8T (rfl) ?_;refine B8U ?_;refine A6 ?_;refine B8N (rsE H4 [0,0,0,1,1,0] hB hG λL hL=>?_)
   repeat first|refine gya ?_|refine gyr ?_|refine gna ?_|refine gyb (by(rintro v ⟨hgu,hB,hG,-⟩ N hN;have r:=hB.r;simp only[BxR]at r;(first|have q0:=Hr0.out v hG|skip);go_simp;exact hN)) ?_
   refine gmw (C:=λv=>Hng.out _) ?_;refine gxd (X:=Ax) (λx:Ax=>.slice x.1 n x.2) (λx W=>Lz W x.1 V) (λx u u' hg h=>Lz.grow h hg) (λx39=>?_) (C:=by(rintro v ⟨hgu,hB,hG,-⟩;exact Hls1.out _ _ _ (HFB.out.1.grow (hG5.trans hgu)) (HFB.out.2.grow (hG5.trans hgu)) hG));refine gs ?_;refine geT hL ?_;clear hB hG hL L;rintro u ⟨⟨hgu,hB,hG,-⟩,hx39⟩;obtain⟨w7,hw7⟩:=exQ u;have HLV:=B8S (show Lz w7 x39.1 V from hw7 ▸ hx39);have hG7:A4 w7 u:=hw7 ▸ A4.refl u;clear hx39 hw7 HFB hG5;clear hgu;refine B8N (rsE H4 [0,0,0,0,1,0] hB hG λL hL=>?_)
   repeat first|refine gya ?_|refine gyr ?_|refine gna ?_|refine gyb (by(rintro v ⟨hgu,hB,hG,-⟩ N hN;have r:=hB.r;simp only[BxR]at r;(first|have q0:=Hr0.out v hG|skip);go_simp;exact hN)) ?_
   refine gmd (C:=λv ⟨hgu,hB,hG,_⟩=>Hft1.out _ x39 (HLV.out.grow (hG7.trans hgu)) hG) ?_;refine gs ?_;refine geT hL ?_;clear hB hG hL L;rintro u ⟨hgu,hB,hG,-⟩;replace hG7:=hG7.trans hgu;clear hgu;refine B8V (rfl) ?_;refine r0T ?_;refine rt Tryz.results23 ?_;exact⟨x39,rfl,by rw[<-HV.out];exact HLV.out.grow hG7,hG⟩
theorem A6M{N L:Nat}{R:List (List Rat)}{y:List Rat}{a:Rat}(hN:N<=5)(hL:L<=3)(hX:∀i,i<N->∀j,j<L->qs (gq (B6 R i) j)<=5)(hys:∀i,i<N->qs (gq y i)<=5)(ha:qs a<=5)(k i:Nat)(hi:i<L):qs (gq (I9 R y N L a k) i)<=10000000:=by
 have hg:N*(5+5+1)+1<=210:=by omega
 obtain⟨z1,z2,-⟩:=A4U (X:=R) (y:=y) (N:=N) (g:=210) (by omega) (by omega) (λi hi j hj=>A34 hX hg hi hj) (λi hi=>A33 hX hys hg hi) k;have e:gq (I9 R y N L a k) i=G9 (gq (N4 R y N L k) i) (C3 (gq (N1 R N L k) i) a):=S6 _ hi;rw[e];have h1:10^(L+1)<=10^4:=B8Z (by omega) (by omega);have h2:210*10^(L+1)<=210*10^4:=B9L _ h1;have h3:=z1 i;have h4:=z2 i;generalize 210*10^(L+1)=Z at *;have h5:=Y4 (gq (N1 R N L k) i) a;have h6:=A2t (gq (N4 R y N L k) i) (C3 (gq (N1 R N L k) i) a);unfold G9;unfold C3 at *;omega
theorem B7d(A:Option Addr)(la:List Int)(ca:Nat)(B:Option Addr)(lb:List Int)(cb:Nat)(n wd odd at0:Int)(hla:la.length<=9223372036854775807)(hac:la.length<=ca)(hba:∀x∈la,-9223372036854775808<=x/\x<=9223372036854775807)(hlb:lb.length<=9223372036854775807)(hbb:∀x∈lb,-9223372036854775808<=x/\x<=9223372036854775807)(lo2 : -9223372036854775808<=n)(hi2:n<=9223372036854775807)(lo3 : -9223372036854775808<=wd)(hi3:wd<=9223372036854775807)(lo4 : -9223372036854775808<=odd)(hi4:odd<=9223372036854775807)(lo5 : -9223372036854775808<=at0)(hi5:at0<=9223372036854775807)
  (w:World) (h1:Li w A la) (h2:Li w B lb) (HT:Tab w) :
  Calls Tryz.prog 3 #[.slice A la.length ca,.slice B lb.length cb,.int .i64 n,.int .i64 wd,.int .i64 odd,.int .i64 at0] w λe w'=>e = .returned (.bool true)/\A4 w w':=by
 clear lo2 hi2 lo3 hi3 lo4 hi4;obtain⟨pa,hpa⟩:∃p,p=la.length:=⟨_,rfl⟩
 obtain⟨pb,hpb⟩:∃p,p=lb.length:=⟨_,rfl⟩
 rw[<-hpa]at hac⊢;rw[<-hpb];have hBB:100000<=BIG:=by unfold BIG;omega
 have hLIM:LIM=1099511627760:=rfl;have rN:=A1z n (m:=6) (by omega);have rL:=A1z wd (m:=3) (by omega);obtain⟨N,hN⟩:∃N:Nat,K9 n 6=(N:Int):=⟨(K9 n 6).toNat,by omega⟩
 obtain⟨Lw,hLw⟩:∃Lw:Nat,K9 wd 3+1=(Lw:Int):=⟨(K9 wd 3+1).toNat,by omega⟩
 obtain⟨M,hM⟩:∃M:Nat,M=if K9 odd 10=9 then N+1 else N:=⟨_,rfl⟩
 have hN5:N<=5:=by omega
 have hL1:1<=Lw:=by omega
 have hL3:Lw<=3:=by omega
 have hM6:M<=6:=by split at hM<;>omega
 have hd:=λW (hg:A4 w W)=>B25 A B la lb ca cb pa pb N Lw M n wd odd hpa hac hpb (by omega) (by omega) hba hbb hN hLw hM W (h1.grow hg) (h2.grow hg);have lY:=A9P lb M;have sY:=A7j lb M;generalize R5 lb M=Y at *;have hr:=λW=>A7B at0 W lo5 hi5;have sa:qs (A07 at0)<=5:=A9f at0;generalize A07 at0=a at *;have saB:qs a<=BIG:=by omega
 have hsg:=λW (x:Az)=>A6l x.1 x.2 a W;have hsn:=@A2q a;obtain⟨sg,hsge⟩:∃s,s=a.num.sign:=⟨_,rfl⟩
 rw[<-hsge]at hsn;simp only[<-hsge]at hsg;have hsg3:sg=1\/sg = -1\/sg=0:=by rw[hsge];exact A4I a
 have hir:∀(W:World) (X:Ax) (rs:List Rq),A2A N Lw rs->Lrz W X.1 rs->Tab W->Calls Tryz.prog 15 #[.slice X.1 N X.2] W (E9 (λx:Ax×List Rq=>.slice x.1.1 N x.1.2) (λx W'=>x.2.map (·.2.2)=rs.map (·.2.2)/\Lrq W' x.1.1 x.2) W):=λW X rs hk hX hT =>
  (B7z X.1 rs X.2 N hk.1.symm (by omega) (λr hr=>⟨by have:=(hk.2 r hr).1;omega,λx hx=>B8K ((hk.2 r hr).2 x hx) (by omega)⟩) W hX hT).mono λe w' ⟨v,rs',he,e1,e2,e3,hg'⟩=>by
   obtain⟨A2,c2,rfl,-,hLw,-⟩:=B5X e3 e2;exact⟨((A2,c2),rs'),he,⟨e1,hLw⟩,hg'⟩
 have hip:∀(P:List Rat) (m:Nat),P.length=m->m<=6->(∀x∈P,qs x<=5)->∀(W:World) (X:Ax),Lz W X.1 P->Tab W->Calls Tryz.prog 16 #[.slice X.1 m X.2] W (E9 (λx:Ax=>.slice x.1 m x.2) (λx W=>Lq W x.1 P) W):=λP m hP hm hs W X hX hT =>
  (B13 X.1 P X.2 m hP.symm (by omega) (λx hx=>B8K (hs x hx) (by omega)) W hX hT).mono λe w' ⟨A',c',he,h,hg'⟩=>⟨(A',c'),he,h,hg'⟩
 have Hiy0:=B8S (hip Y M lY hM6 sY);have Hd:=B8S hd;have Hr:=B8S hr;have Hir:=B8S hir;have Hsg:=B8S hsg;have Hsn:=B8S (And.intro hsn hsg3);have HY:=B8S (And.intro lY sY);clear hLw rL rN hN hd hr hip hir hsg hsn hsg3 hsge lY sY hM h1 h2 hba hbb hpa hpb hla hlb hac lo5 hi5;go_enter Tryz.func3,Tryz.ntmps3;refine en0 ?_;intro u hG hB hF;refine B8N (rsE H4 [0,0,0,0,0,1,0,0,0,0,0] hB hG λL hL=>?_);refine gs ?_;refine gxd (X:=((Ax×Ax)×List Rq)) (λx:(Ax×Ax)×List Rq=>.tuple #[.slice x.1.1.1 N x.1.1.2,.slice x.1.2.1 M x.1.2.2]) (λx W=>(A2A N Lw x.2/\Lrz W x.1.1.1 x.2)/\Lz W x.1.2.1 Y) (λx u u' hg h=>⟨⟨h.1.1,h.1.2.grow hg⟩,Lz.grow h.2 hg⟩) (λx24=>?_) (C:=by(rintro v ⟨hgu,hB,hG,-⟩;exact Hd.out _ hG));refine gs ?_;refine geT hL ?_;clear hB hG hL L;rintro u ⟨⟨hgu,hB,hG,-⟩,hx24⟩;have HX:=B8S hx24;clear hx24;clear hgu;have HG0:=B8S hG;clear hB hF hG;obtain⟨w0,rfl⟩:=exQ w;obtain⟨w,hwu⟩:=exQ u;rw[<-hwu]at HG0 HX;have hB:=Bx.nil u;have hF:=Fr.nil w;have hG:A4 w u:=hwu ▸ A4.refl u;clear hwu;obtain⟨⟨⟨RA,RC⟩,⟨YA,YC⟩⟩,rs⟩:=x24;obtain⟨⟨hok,hLx⟩,hLy⟩:=HX.out;simp only at hok hLx hLy;obtain⟨R,hR⟩:∃R,R=rs.map (·.2.2):=⟨_,rfl⟩
 have hRn:R.length=N:=by rw[hR,List.length_map];exact hok.1
 have hRl:∀r∈R,r.length=Lw:=λr hr=>by
  rw[hR]at hr;obtain⟨z,hz,rfl⟩:=List.mem_map.1 hr;exact(hok.2 z hz).1
 have hRz:∀i,i<N->∀j,j<Lw->qs (gq (B6 R i) j)<=5:=by rw[hR];exact B4x hok
 have hYz:∀i,i<M->qs (gq Y i)<=5:=λi hi=>HY.out.2 _ (A2o (by rw[HY.out.1];exact hi));obtain⟨ls,V,ke,tc,td⟩:=B5p (a:=a) hRn hRl hN5 hL1 hL3 hRz HY.out.1 hYz sa;have Hin:=B8S (λW (hg:A4 w W) hT=>by have h:=Hir.out W (RA,RC) rs hok (hLx.grow hg) hT;rw[<-hR]at h;exact h);have Hiy:=B8S (λW (hg:A4 w W) hT=>Hiy0.out W (YA,YC) (hLy.grow hg) hT);have TC:=B8S tc;have TD:=B8S td;have HOK:=B8S (And.intro hok hR);have HLX:=B8S (And.intro hLx hLy);have HZ:=B8S (And.intro hRz hYz);have HT':=HT.grow HG0.out;clear HX Hir Hiy0 Hd hok hLx hLy hRn hRl hRz hYz tc td HT hR;have HT:=HT';clear HT';refine B8N (rsC H4 [0,1,2] hB hG λK L hN hL=>?_);refine gs ?_;refine grd (F7 a) (λ(x28:Ax×Ax)=>?_) (C:=λv _=>Hr.out _);refine gaa (A38 _ _ _ _ _) λb15 hb15 hn15=>?_;replace hF:=hF.n1 [] hB hG hb15 hn15;refine geC hL ?_;clear hB hG hL L;rintro u ⟨⟨⟨-,hB,hG,-⟩,hx28⟩,h15⟩;replace hB:=hB.cons' h15;clear h15;obtain⟨hx28a,hx28b⟩:Rn u x28.1 _/\Rn u x28.2 _:=hx28;clear hb15 hn15;refine gtT ?_;clear hN K;refine sv hB hF hG 0 0 [_,_,_] ?_;intro u hu hBG;replace hx28a:=hx28a.put hB 0 rfl (by first|decide|simp) _ _ hu;replace hx28b:=hx28b.put hB 0 rfl (by first|decide|simp) _ _ hu;clear hB hG hu;obtain⟨hB,hG⟩:=hBG;refine B8N (rdC H4 [] [(0,0),(0,2),(0,4),(1,1),(1,3),(1,5),(1,6),(0,7),(0,8),(0,9),(0,10)] hB hG λK L hN hL=>?_);refine gs ?_;refine gxd (X:=(Ax×List Rq)) (λx:Ax×List Rq=>.slice x.1.1 N x.1.2) (λx W=>x.2.map (·.2.2)=R/\Lrq W x.1.1 x.2) (λx u u' hg h=>⟨h.1,h.2.grow hg⟩) (λx31=>?_) (C:=by(rintro v ⟨hgu,hB,hG,-⟩;exact Hin.out _ hG (HT.grow hG)));refine gxd (X:=Ax) (λx:Ax=>.slice x.1 M x.2) (λx W=>Lq W x.1 Y) (λx u u' hg h=>Lq.grow h hg) (λx33=>?_) (C:=by(rintro v ⟨⟨hgu,hB,hG,-⟩,hx31⟩;exact Hiy.out _ hG (HT.grow hG)));refine gmd (C:=λv ⟨⟨⟨hgu,hB,hG,_⟩,hx31⟩,hx33⟩=>A8n x28.1 x28.2 a _ (hx28a.grow hgu) (hx28b.grow hgu) saB (HT.grow hG)) ?_;refine gxd (X:=Ax) (λx:Ax=>.tuple #[.slice x.1 ls x.2,.int .i64 ke]) (λx W=>Lq W x.1 V) (λx u u' hg h=>Lq.grow h hg) (λx36=>?_) (C:=by(rintro v ⟨⟨⟨hgu,hB,hG,-⟩,hx31⟩,hx33⟩;exact TC.out.run _ x31.1 x33 x31.2 hx31.1 hx31.2 hx33 (HT.grow hG)));refine gs ?_;refine geC hL ?_;clear hB hG hL L;rintro u ⟨⟨⟨⟨hgu,hB,hG,-⟩,hx31⟩,hx33⟩,hx36⟩;replace hx28a:=hx28a.grow hgu;replace hx28b:=hx28b.grow hgu;clear hx31 hx33;obtain⟨w8,hw8⟩:=exQ u;have HPL:=B8S (show Lq w8 x36.1 V from hw8 ▸ hx36);have hG8:A4 w8 u:=hw8 ▸ A4.refl u;clear hx36 hw8;clear hgu;refine gtT ?_;clear hN K;refine B8N ?_;refine B8v ?_;rcases TD.out with⟨hw,t1,t2⟩|⟨hN1,hMN,td⟩
 ·have hwr:∀W,A4 w W->Calls Tryz.prog 18 #[.slice RA N RC,.slice YA M YC] W λe w'=>e = .returned (.bool true)/\A4 W w':=λW hg=>by
   rcases B8M N with h0|h0
   ·subst h0;exact B6l RA YA RC M YC W
   ·have h:=A7b RA YA rs N Lw RC M YC HOK.out.1.1 h0 (by omega) hL1 (by omega) (λr hr=>(HOK.out.1.2 r hr).1) W (HLX.out.1.grow hg);rw[show decide (M≠N)=true from B87 λe=>hw ⟨h0,e⟩]at h;exact h
  have Hwr:=B8S hwr;clear hwr hw TC TD HPL hG8;subst t1 t2;refine B8N (rsE H4 [0,0,1,0] hB hG λL hL=>?_);refine gs ?_;refine gmd (C:=λv ⟨hgu,hB,hG,_⟩=>Hwr.out _ hG) ?_;refine gs ?_;refine geT hL ?_;clear hB hG hL L;rintro u ⟨hgu,hB,hG,-⟩;replace hx28a:=hx28a.grow hgu;replace hx28b:=hx28b.grow hgu;clear hgu;refine B8V (rfl) ?_;refine B8N (rsE H4 [1,0,0,0,0,0,0,0,0,0,0] hB hG λL hL=>?_);refine gmd (C:=λv ⟨hgu,hB,hG,_⟩=>A44 _ (HT.grow hG)) ?_;refine gs ?_;refine geT hL ?_;clear hB hG hL L;rintro u ⟨hgu,hB,hG,-⟩;replace hx28a:=hx28a.grow hgu;replace hx28b:=hx28b.grow hgu;clear hgu;refine rt Tryz.results3 ?_;exact⟨rfl,HG0.out.trans hG⟩
 ·have hwr:∀W,A4 w W->Calls Tryz.prog 18 #[.slice RA N RC,.slice YA M YC] W λe w'=>e = .returned (.bool false)/\A4 W w':=λW hg=>by
   have h:=A7b RA YA rs N Lw RC M YC HOK.out.1.1 hN1 (by omega) hL1 (by omega) (λr hr=>(HOK.out.1.2 r hr).1) W (HLX.out.1.grow hg);rw[show decide (M≠N)=false from B9C λe=>e hMN]at h;exact h
  have Hwr:=B8S hwr;clear hwr TD;rcases td with⟨h0,t1,t2⟩|⟨h0,td⟩
  ·have fs:decide (sg<0)=true:=by rw[Hsn.out.1.2 h0];rfl
   clear h0 TC Hsn HPL hG8 hMN;subst t1 t2;refine B8N (rsE H4 [0,0,1,0] hB hG λL hL=>?_);refine gs ?_;refine gmd (C:=λv ⟨hgu,hB,hG,_⟩=>Hwr.out _ hG) ?_;refine gs ?_;refine geT hL ?_;clear hB hG hL L;rintro u ⟨hgu,hB,hG,-⟩;replace hx28a:=hx28a.grow hgu;replace hx28b:=hx28b.grow hgu;clear hgu;refine B8T (rfl) ?_;refine B8N (rsE H4 [0,1,0,0] hB hG λL hL=>?_);refine gs ?_;refine gmw (C:=λv=>Hsg.out _ x28) ?_;refine gs ?_;refine geT hL ?_;clear hB hG hL L;rintro u ⟨hgu,hB,hG,-⟩;replace hx28a:=hx28a.grow hgu;replace hx28b:=hx28b.grow hgu;clear hgu;refine B8V (rfl) ?_;refine B8N (rsE H4 [1,0,0,0,0,0,0,0,0,0,0] hB hG λL hL=>?_);refine gmd (C:=λv ⟨hgu,hB,hG,_⟩=>A44 _ (HT.grow hG)) ?_;refine gs ?_;refine geT hL ?_;clear hB hG hL L;rintro u ⟨hgu,hB,hG,-⟩;replace hx28a:=hx28a.grow hgu;replace hx28b:=hx28b.grow hgu;clear hgu;refine rt Tryz.results3 ?_;exact⟨rfl,HG0.out.trans hG⟩
  ·have fs:decide (sg<0)=false:=by
    have h4:=Hsn.out;rcases h4.2 with e|e|e
    ·rw[e];rfl
    ·exact absurd (h4.1.1 e) h0
    ·rw[e];rfl
   have hhg:=λW (hg:A4 w W)=>B2s RA rs N Lw RC HOK.out.1.1 hN1 (by omega) hL1 (by omega) (λr hr=>(HOK.out.1.2 r hr).1) 5 (by omega) (by rw[<-HOK.out.2];exact HZ.out.1) (by
    have h3:10^Lw<=10^3:=B8Z (by omega) hL3;have h4:5*10^Lw<=5*10^3:=B9L _ h3;have hBB:1000000<=BIG:=by unfold BIG;omega
    omega) W (HLX.out.1.grow hg)
   rw[<-HOK.out.2]at hhg;rcases td with⟨hk,t1,t2⟩|⟨hk,t1,t2,t3⟩
   ·rw[show decide ((C0 N Lw (D7 R,[]) Lw).2.length<Lw)=true from B87 hk]at hhg;have Hhg:=B8S hhg;clear hhg hk h0 TC Hsn HPL hG8 hMN;subst t1 t2;refine B8N (rsE H4 [0,0,1,0] hB hG λL hL=>?_);refine gs ?_;refine gmd (C:=λv ⟨hgu,hB,hG,_⟩=>Hwr.out _ hG) ?_;refine gs ?_;refine geT hL ?_;clear hB hG hL L;rintro u ⟨hgu,hB,hG,-⟩;replace hx28a:=hx28a.grow hgu;replace hx28b:=hx28b.grow hgu;clear hgu;refine B8T (rfl) ?_;refine B8N (rsE H4 [0,1,0,0] hB hG λL hL=>?_);refine gs ?_;refine gmw (C:=λv=>Hsg.out _ x28) ?_;refine gs ?_;refine geT hL ?_;clear hB hG hL L;rintro u ⟨hgu,hB,hG,-⟩;replace hx28a:=hx28a.grow hgu;replace hx28b:=hx28b.grow hgu;clear hgu;refine B8T (rfl) ?_;refine B8N (rsE H4 [0,1,0] hB hG λL hL=>?_);refine gs ?_;refine gmd (C:=λv ⟨hgu,hB,hG,_⟩=>Hhg.out _ hG) ?_;refine gs ?_;refine geT hL ?_;clear hB hG hL L;rintro u ⟨hgu,hB,hG,-⟩;replace hx28a:=hx28a.grow hgu;replace hx28b:=hx28b.grow hgu;clear hgu;refine B8V (rfl) ?_;refine B8N (rsE H4 [1,0,0,0,0,0,0,0,0,0,0] hB hG λL hL=>?_);refine gmd (C:=λv ⟨hgu,hB,hG,_⟩=>A44 _ (HT.grow hG)) ?_;refine gs ?_;refine geT hL ?_;clear hB hG hL L;rintro u ⟨hgu,hB,hG,-⟩;replace hx28a:=hx28a.grow hgu;replace hx28b:=hx28b.grow hgu;clear hgu;refine rt Tryz.results3 ?_;exact⟨rfl,HG0.out.trans hG⟩
   ·have hk2:(C0 N Lw (D7 R,[]) Lw).2.length=Lw:=hk;rw[show decide ((C0 N Lw (D7 R,[]) Lw).2.length<Lw)=false from B9C (by omega)]at hhg;have hlq:∀W (x:Az),A4 w W->Rz W x a->Calls Tryz.prog 23 #[.slice RA N RC,.slice YA M YC,rqV x.1 x.2 a] W (E9 (λx:Ax=>.slice x.1 Lw x.2) (λx W=>Lz W x.1 V) W):=λW x hg hx=>by
     have e1:=hMN;subst e1;have hX5:=HZ.out.1;have hY5:=HZ.out.2;have hgg:M*(5+5+1)+1<=210:=by omega
     have h:=B2Q RA YA rs Y M Lw RC YC a x HOK.out.1.1 hN1 (by omega) (λr hr=>(HOK.out.1.2 r hr).1) HY.out.1 hL1 (by omega) 10000000 (by omega) (by omega) (by rw[<-HOK.out.2];exact λi hi j hj=>B8K (hX5 i hi j hj) (by omega)) (λi hi=>B8K (hY5 i hi) (by omega)) 210 (by omega) (by rw[<-HOK.out.2];exact λi hi j hj=>A34 hX5 hgg hi hj) (by rw[<-HOK.out.2];exact λi hi=>A33 hX5 hY5 hgg hi) (B0A hL3) (by rw[<-HOK.out.2];exact hk) (by grind) 10000000 (by omega) (by omega) (by omega) (by rw[<-HOK.out.2];exact λk i hi=>A6M hN5 hL3 hX5 hY5 sa k i hi) (by rw[<-HOK.out.2];exact λk=>A4X (s:=10000000) (by omega) (by omega) (by omega) (λi hi j hj=>B8K (hX5 i hi j hj) (by omega)) (λi hi=>B8K (hY5 i hi) (by omega)) (λj hj=>A6M hN5 hL3 hX5 hY5 sa k j hj)) (by rw[<-HOK.out.2];exact λk=>A81 (s:=10000000) (by omega) (by omega) (by omega) (λi hi j hj=>B8K (hX5 i hi j hj) (by omega)) (λi hi=>B8K (hY5 i hi) (by omega)) (λj hj=>A6M hN5 hL3 hX5 hY5 sa k j hj)) W (HLX.out.1.grow hg) (HLX.out.2.grow hg) hx;rw[<-HOK.out.2,<-t3]at h;exact h
    have hzz:=And.intro TC.out.len TC.out.sz;have Hzz:=B8S hzz;have Hhg:=B8S hhg;have Hlq:=B8S hlq;clear hhg hlq hk hk2 h0 TC Hsn hMN t3 hzz;subst t1 t2;refine B8N (rsE H4 [0,0,1,0] hB hG λL hL=>?_);refine gs ?_;refine gmd (C:=λv ⟨hgu,hB,hG,_⟩=>Hwr.out _ hG) ?_;refine gs ?_;refine geT hL ?_;clear hB hG hL L;rintro u ⟨hgu,hB,hG,-⟩;replace hx28a:=hx28a.grow hgu;replace hx28b:=hx28b.grow hgu;replace hG8:=hG8.trans hgu;clear hgu;refine B8T (rfl) ?_;refine B8N (rsE H4 [0,1,0,0] hB hG λL hL=>?_);refine gs ?_;refine gmw (C:=λv=>Hsg.out _ x28) ?_;refine gs ?_;refine geT hL ?_;clear hB hG hL L;rintro u ⟨hgu,hB,hG,-⟩;replace hx28a:=hx28a.grow hgu;replace hx28b:=hx28b.grow hgu;replace hG8:=hG8.trans hgu;clear hgu;refine B8T (rfl) ?_;refine B8N (rsE H4 [0,1,0] hB hG λL hL=>?_);refine gs ?_;refine gmd (C:=λv ⟨hgu,hB,hG,_⟩=>Hhg.out _ hG) ?_;refine gs ?_;refine geT hL ?_;clear hB hG hL L;rintro u ⟨hgu,hB,hG,-⟩;replace hx28a:=hx28a.grow hgu;replace hx28b:=hx28b.grow hgu;replace hG8:=hG8.trans hgu;clear hgu;refine B8T (rfl) ?_;refine B8U ?_;refine C8 ?_;refine A6 ?_;refine B8N (rsE H4 [1,0,0,0,0,0,0,0,0,0,1,1,0,0] hB hG λL hL=>?_);refine gmd (C:=λv ⟨hgu,hB,hG,_⟩=>A44 _ (HT.grow hG)) ?_;refine gs ?_;refine gxd (X:=Ax) (λx:Ax=>.slice x.1 ls x.2) (λx W=>Lz W x.1 V) (λx u u' hg h=>Lz.grow h hg) (λx90=>?_) (C:=by(rintro v ⟨hgu,hB,hG,-⟩;exact Hlq.out _ x28 hG (A4G (hx28a.grow hgu) (hx28b.grow hgu))))
    first|refine gmd (C:=λv ⟨⟨hgu,hB,hG,_⟩,hx90⟩=>B4B x36.1 x90.1 V ls x36.2 x90.2 Hzz.out.1 (by omega) (λx hx=>B8K (Hzz.out.2 x hx) (by omega)) _ (HPL.out.grow (hG8.trans hgu)) hx90) ?_|refine J6 ?_
    refine gs ?_;refine geT hL ?_;clear hB hG hL L;rintro u ⟨⟨hgu,hB,hG,-⟩,hx90⟩;replace hx28a:=hx28a.grow hgu;replace hx28b:=hx28b.grow hgu;clear hgu;refine rt Tryz.results3 ?_;exact⟨rfl,HG0.out.trans hG⟩
end Go.Proofs.YtgpglgbcobeogaaGreatDoor
namespace Go.Proofs.YtgpglgbcobeogaaGreatDoor.lassoLeast
open Go.ChangeShapes Go.WideShapes Go.ChangeAt Go.RowKit
theorem B32:∀t∈Tryz.f3.params.toList,Tryz.prog.readableRec t=true/\t<Tryz.prog.types.size:=by
 have h:(Tryz.f3.params.toList.all λt=>Tryz.prog.readableRec t&&decide (t<Tryz.prog.types.size))=true:=by kernel_rfl
 intro t ht;have:=List.all_eq_true.1 h t ht
 simpa using this
theorem B7F(H:Type)(enc:TypeId×Value->H)(W:World)(base:Nat)(args:Array Value)(ds gs:List (DataW H))(before:List MemPlace)
  (hval:∀(j:Nat) t v,Tryz.f3.params[j]?=some t->args[j]?=some v->Value.okWide Tryz.prog W .any base t v)
  (hW:DataW.Whole enc Tryz.prog Tryz.f3.params.toList Rows.lassoLeastSpec.vars false W args.toList ds gs before) (hL:laidMetH Tryz.prog Rows.lassoLeastRow.laid W) :
  Calls Tryz.prog 3 args W λe W'=>∃v,e = .returned v/\Rows.lassoLeastSpec.post enc Tryz.prog Tryz.f3 false true false false W args v W':=by
 have hW':=hW;obtain⟨p,q,hA0,hV,rfl,hfz,hnd⟩:=hW;have hA:DataW.TrodAll enc Tryz.prog W 0 (λ_=>true) true Tryz.f3.params.toList args.toList ds p:=hA0;rw[Tryz.params3]at hA hval;obtain⟨v0,vs0,d0,ds0,p0,q0,ha0,rfl,rfl,h0,hA1⟩:=B90 hA;obtain⟨v1,vs1,d1,ds1,p1,q1,rfl,rfl,rfl,h1,hA2⟩:=B90 hA1;obtain⟨v2,vs2,d2,ds2,p2,q2,rfl,rfl,rfl,h2,hA3⟩:=B90 hA2;obtain⟨v3,vs3,d3,ds3,p3,q3,rfl,rfl,rfl,h3,hA4⟩:=B90 hA3;obtain⟨v4,vs4,d4,ds4,p4,q4,rfl,rfl,rfl,h4,hA5⟩:=B90 hA4;obtain⟨v5,vs5,d5,ds5,p5,q5,rfl,rfl,rfl,h5,hA6⟩:=B90 hA5;obtain⟨rfl,rfl,rfl⟩:=trodAll_nil hA6;obtain rfl:args=#[v0,v1,v2,v3,v4,v5]:=by
  cases args
  simp_all
 obtain⟨rfl,rfl⟩:=trodVars_none hV;obtain⟨A0,l0,c0,rfl,hl0,hn0,hb0,hc0⟩:=B42 (hval 0 22 v0 rfl rfl) h0;obtain⟨A1,l1,c1,rfl,hl1,hn1,hb1⟩:=B3Z (hval 1 22 v1 rfl rfl) h1;obtain⟨n2,rfl,rfl,rfl,w2⟩:=open_int B93 (hval 2 3 v2 rfl rfl) h2;obtain⟨lo2,hi2⟩:=bounds_i64 w2;obtain⟨n3,rfl,rfl,rfl,w3⟩:=open_int B93 (hval 3 3 v3 rfl rfl) h3;obtain⟨lo3,hi3⟩:=bounds_i64 w3;obtain⟨n4,rfl,rfl,rfl,w4⟩:=open_int B93 (hval 4 3 v4 rfl rfl) h4;obtain⟨lo4,hi4⟩:=bounds_i64 w4;obtain⟨n5,rfl,rfl,rfl,w5⟩:=open_int B93 (hval 5 3 v5 rfl rfl) h5;obtain⟨lo5,hi5⟩:=bounds_i64 w5;refine(B7d A0 l0 c0 A1 l1 c1 n2 n3 n4 n5 hn0 hc0 hb0 hn1 hb1 lo2 hi2 lo3 hi3 lo4 hi4 lo5 hi5 W hl0 hl1 (B2f (by kernel_rfl) hL)).mono λe W' ⟨he,hg⟩=>?_;exact⟨_,he,B7O hW' rfl rfl rfl rfl (by kernel_rfl) B32 hg⟩
def wit:Array Value:=#[.slice none 0 0,.slice none 0 0,.int .i64 0,.int .i64 0,.int .i64 0,.int .i64 0]
theorem B5K(os:Os):laidMet Tryz.prog Rows.lassoLeastRow.laid ((laidWorld os).forCall (λ_ _=>0) ⟨#[],wit,[]⟩).memory :=
 laidMet_of_run' 8 (by kernel_rfl) (by kernel_rfl)
theorem reads(os:Os){H:Type}(enc:TypeId×Value->H):∃places,DataW.whole enc Tryz.prog ((laidWorld os).forCall (λ_ _=>0) ⟨#[],wit,[]⟩).memory Tryz.f3.params.toList Rows.lassoLeastSpec.vars false wit.toList 8=some ([.nil,.nil,.lit (.int .i64 0),.lit (.int .i64 0),.lit (.int .i64 0),.lit (.int .i64 0)],[],places) :=
 ⟨[],by kernel_rfl⟩
theorem B66(os:Os)(started:os.Started)(H:Type)(enc:TypeId×Value->H)(F:Stop.Interp) :
  ReturnsInHanded {} Tryz.checked os 3 .any ((OpenSpec.ofChange Rows.lassoLeastSpec).preRow enc Tryz.prog Tryz.f3 Rows.lassoLeastRow.domain false Rows.lassoLeastRow.laid) (((OpenSpec.ofChange Rows.lassoLeastSpec).at F).post enc Tryz.prog Tryz.f3 false true false false):=by
 obtain⟨places,hx⟩:=reads os enc
 refine returnsInHanded_of_row (C:=Tryz.checked) (s:=OpenSpec.ofChange Rows.lassoLeastSpec) B4t started (by kernel_rfl) Tryz.func3
  (witness_row_at (enc:=enc) (C:=Tryz.checked) false (laidWorld os) wit rfl (by kernel_rfl) (by kernel_rfl) (by kernel_rfl)
   (OpenSpec.preRow_of_cond 8 hx (by kernel_rfl) (λk hk=>by cases hk) (by kernel_rfl) (B5K os))) ?_
 intro W base args ds gs before hval hW _ _ _ hL _ _;exact B7F H enc W base args ds gs before hval hW hL
theorem B7I:Rows.LassoLeastSaid :=
 OpenClaim.holds_of_cond 3 Tryz.f3 rfl rfl rfl rfl rfl rfl rfl ⟨rfl,rfl,rfl,rfl,rfl⟩ rfl rfl rfl rfl rfl (by kernel_rfl) Tryz.func3 (by kernel_rfl)
  (B86 (by kernel_rfl)) (by unfold Func.isWrapper;first|(rw[if_pos (by decide +kernel)];kernel_rfl)|(rw[if_neg (by decide +kernel)];exact⟨rfl,rfl⟩))
  (λos started H enc _ F=>by rw[OpenClaim.pre_eq_preRow];exact B66 os started H enc F)
theorem plain(f:FuncId)(fn:Func)(hf:Tryz.pinned.checked.prog.funcNamed Rows.lassoLeastRow.func=some f)(hfn:Tryz.pinned.checked.prog.funcs[f]?=some fn) :
  false=Tryz.pinned.checked.prog.looks []/\∀(j:Nat) t,fn.params[j]?=some t->Tryz.pinned.checked.prog.wantsStandIn t=false:=by
 obtain rfl:f=3:=B78 ((show Tryz.prog.funcNamed Rows.lassoLeastRow.func=some 3 by kernel_rfl).symm.trans hf) |>.symm;obtain rfl:fn=Tryz.f3:=(B78 (Tryz.func3.symm.trans hfn)).symm;refine⟨by kernel_rfl,λj t ht=>?_⟩;have h:(Tryz.f3.params.toList.all λt=>!Tryz.prog.wantsStandIn t)=true:=by kernel_rfl
 have:=List.all_eq_true.1 h t (Array.mem_toList_iff.2 (Array.mem_of_getElem? ht));have h2:Tryz.prog.wantsStandIn t=false:=by simpa using this
 exact h2
theorem card:Rows.LassoLeastCardSaid :=
 Claim7.holds_tied_plain_at .later [] _ _ _ _ B7I (λ_ h=>by cases h) (by kernel_rfl) (λ_ h=>by cases h) lassoLeast_row_tie rfl ⟨rfl,rfl⟩ (by kernel_rfl) rfl plain (by kernel_rfl)
end Go.Proofs.YtgpglgbcobeogaaGreatDoor.lassoLeast
namespace Go.Proofs.YtgpglgbcobeogaaGreatDoor
theorem lassoLeast_holds:Rows.LassoLeastCardSaid:=lassoLeast.card
#print axioms lassoLeast_holds
end Go.Proofs.YtgpglgbcobeogaaGreatDoor
