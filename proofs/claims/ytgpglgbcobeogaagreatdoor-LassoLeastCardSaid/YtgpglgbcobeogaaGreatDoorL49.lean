import Derived.Test.YtgpglgbcobeogaaGreatDoorL48
set_option linter.unusedSimpArgs false
set_option linter.unusedVariables false
set_option maxHeartbeats 32000000
set_option maxRecDepth 100000
namespace Go.Proofs.YtgpglgbcobeogaaGreatDoor
open Go Go.RowKit
theorem B2s(A:Option Addr)(rs:List Rq)(n Lw c:Nat)(hn:rs.length=n)(hn1:1<=n)(hn2:n<=300)(hL1:1<=Lw)(hL2:Lw<=20)(hrl:∀r∈rs,r.2.2.length=Lw)(s:Nat)(hs1:1<=s)(hs:∀i,i<n->∀j,j<Lw->qs (gq (B6 (rs.map (·.2.2)) i) j)<=s)(hBz:30*(s*10^Lw)<=BIG)(w:World)(h:Lrz w A rs) :
  Calls Tryz.prog 21 #[.slice A n c] w λe w'=>e = .returned (.bool (decide ((C0 n Lw (D7 (rs.map (·.2.2)),[]) Lw).2.length<Lw)))/\A4 w w':=by
 have hred:=λW (hg:A4 w W)=>A7Y A rs n Lw c hn hn1 hn2 hL1 hL2 hrl s hs1 hs hBz W (h.grow hg);obtain⟨bb,ob,P0,eA,hP0,hl0⟩:=A0i hn hrl h (i:=0) (by omega);have hr0:=λW hg=>(hP0 W hg).1;simp only[Nat.add_zero]at hr0;obtain⟨G,hG0⟩:∃G,G=C0 n Lw (D7 (rs.map (·.2.2)),[]) Lw:=⟨_,rfl⟩
 rw[<-hG0];simp only[<-hG0]at hred;obtain⟨K0,hK0⟩:∃K0,K0=G.2.length:=⟨_,rfl⟩
 rw[<-hK0];simp only[<-hK0]at hred;subst eA;have hni:(0:Int)<(n:Int):=by omega
 have hnp:0<n:=by omega
 have fk:decide ((K0:Int)<(Lw:Int))=decide (K0<Lw):=by simp
 have Hred:=B8S hred;have Hr0:=B8S hr0;clear hred hP0 hl0 hr0 hG0 hK0 hs hs1 hBz h hrl hn;go_enter Tryz.func21,Tryz.ntmps21;refine en0 ?_;intro u hG hB hF;refine B8N (rsE A8 [0,1,0,0,0,0,0] hB hG λL hL=>?_);refine gs ?_;refine gxd (X:=(Nat×Nat×Ax×List Ax)) (λx:Nat×Nat×Ax×List Ax=>.tuple #[.slice (some ⟨x.1,0,none⟩) K0 x.2.1,.slice x.2.2.1.1 K0 x.2.2.1.2]) (λx W=>Lrz W (some ⟨x.1,0,none⟩) (V8 x.2.2.2 (C9 G.1 Lw) K0)/\Li W x.2.2.1.1 (I2 G.2)) (λx u u' hg h=>⟨h.1.grow hg,h.2.grow hg⟩) (λx7=>?_) (C:=by(rintro v ⟨hgu,hB,hG,-⟩;exact Hred.out _ hG));refine gs ?_;refine geT hL ?_;clear hB hG hL L;rintro u ⟨⟨hgu,hB,hG,-⟩,hx7⟩;clear hx7;clear hgu;refine B8N ?_
 (first|have q0:=Hr0.out u hG|skip)
 refine r0N ?_;refine rt Tryz.results21 ?_;exact⟨rfl,hG⟩
theorem B7X(A Y SA:Option Addr)(rs:List Rq)(y:List Rat)(sg:List Int)(N n c d e:Nat)(hn:rs.length=N)(hN1:1<=N)(hN2:N<=20)(hrl:∀r∈rs,r.2.2.length=n)(hy:y.length=N)(hsl:sg.length=n)(hn1:1<=n)(hn6:n<=6)(hs3:∀i,i<n -> -1<=gi sg i/\gi sg i<=1)(s:Nat)(hs1:1<=s)(hs:s<=10000000)(hX:∀i,i<N->∀j,j<n->qs (gq (B6 (rs.map (·.2.2)) i) j)<=s)(hys:∀i,i<N->qs (gq y i)<=s)(g:Nat)(hg1:1<=g)(hGz:∀i,i<n->∀j,j<n->qs (gq (B6 (J3 (rs.map (·.2.2)) N n) i) j)<=g)(hPz:∀i,i<n->qs (gq (I1 (rs.map (·.2.2)) y N n) i)<=g)(hBz:100*(g*10^(n+1))<=BIG)(hF:A1T (rs.map (·.2.2)) N n)(w:World)(h:Lrz w A rs)(h2:Lz w Y y)(h3:Li w SA sg) :
  Calls Tryz.prog 72 #[.slice A N c,.slice Y N d,.slice SA n e] w (E9 (λx:Nat×Nat=>.tuple #[.slice (some ⟨x.1,0,none⟩) n n,.slice (some ⟨x.2,0,none⟩) n n,.bool true]) (λx W=>Lz W (some ⟨x.1,0,none⟩) (Y8 (J3 (rs.map (·.2.2)) N n) (I1 (rs.map (·.2.2)) y N n) sg n)/\Lz W (some ⟨x.2,0,none⟩) (Y5 (J3 (rs.map (·.2.2)) N n) sg n)) w):=by
 have hBm:=I6;have hsd:∀i,i<n->∃sb so,SA=some ⟨sb,so,none⟩/\∀W,A4 w W->W.cell? ⟨sb,so+i,none⟩=some (.int .i64 (gi sg i)):=λi hi=>by
  obtain⟨sb,so,e1,-⟩:=h3.cell (i:=i) (by omega);refine⟨sb,so,e1,λW hg=>?_⟩;obtain⟨b',o',e',hc⟩:=(h3.grow hg).cell (i:=i) (by omega);rw[e1]at e';cases e';exact hc
 obtain⟨sb,so,eS,-⟩:=hsd 0 (by omega);have hsd2:∀i,i<n->∀W,A4 w W->W.cell? ⟨sb,so+i,none⟩=some (.int .i64 (gi sg i)):=λi hi=>by
  obtain⟨b',o',e',hc⟩:=hsd i hi;rw[eS]at e';cases e';exact hc
 have hcl:=λW (hg:A4 w W) j (hj:j<n)=>A7X A rs N n c j hn (by omega) hrl hj (by omega) W (h.grow hg);have hCs:∀j,j<n->∀i,i<N->qs (gq (G1 (rs.map (·.2.2)) j N) i)<=500000000:=λj hj i hi=>by rw[A0k _ j N hi];have:=hX i hi j hj;omega
 have hdt:∀W i j,i<n->j<n->∀(P1 P2:Ax),Lz W P1.1 (G1 (rs.map (·.2.2)) i N)->Lz W P2.1 (G1 (rs.map (·.2.2)) j N)->Calls Tryz.prog 105 #[.slice P1.1 N P1.2,.slice P2.1 N P2.2] W (Ret (F7 (J7 (rs.map (·.2.2)) N i j)) W):=λW i j hi hj P1 P2 g1 g2 =>
  A6O P1.1 P2.1 _ _ P1.2 P2.2 N (A48 _ i N) (A48 _ j N) hN2 500000000 (by omega) (hCs i hi) (hCs j hj) W g1 g2
 have hpl:=λW (x:Nat) (hx:Lz W (some ⟨x,0,none⟩) (G8 n)) (hg:A4 w W)=>B5W A Y (some ⟨x,0,none⟩) rs y (G8 n) N n c d n hn hN2 hrl hy (by unfold G8;simp) (by omega) s hs hX hys (λj _=>by rw[A5U,A1o];exact hs1) W (h.grow hg) (h2.grow hg) hx;simp only[B7S]at hpl;have hGi:∀i,i<n->∀j,j<n->gq (B6 (J3 (rs.map (·.2.2)) N n) i) j=J7 (rs.map (·.2.2)) N i j:=λi hi j hj=>A1r hi hj;have hok1:=A3H (A3e sg n) (A0e (sg:=sg) (i:=n)) hGi (A2H hF) (N3 (I1 (rs.map (·.2.2)) y N n) (F8 sg n));have hok2:=A3H (A3e sg n) (A0e (sg:=sg) (i:=n)) hGi (A2H hF) (N6 sg (F8 sg n));have hPl:(I1 (rs.map (·.2.2)) y N n).length=n:=by unfold I1;simp
 obtain⟨X,hXe⟩:∃X,X=rs.map (·.2.2):=⟨_,rfl⟩
 rw[<-hXe]at hGz hPz hcl hdt hGi hok1 hok2 hPl⊢;simp only[<-hXe]at hpl;obtain⟨GR,hGR⟩:∃GR,GR=J3 X N n:=⟨_,rfl⟩
 obtain⟨PL,hPL⟩:∃PL,PL=I1 X y N n:=⟨_,rfl⟩
 rw[<-hGR]at hGz hGi hok1 hok2⊢;rw[<-hPL]at hPz hok1 hPl⊢;simp only[<-hPL]at hpl;obtain⟨U,hU⟩:∃U,U=F8 sg n:=⟨_,rfl⟩
 obtain⟨m,hm⟩:∃m,m=U.length:=⟨_,rfl⟩
 have hmn:m<=n:=by rw[hm,hU];exact A2e sg n
 have hUm:∀x∈U,x<n:=λx hx=>A0e x (hU ▸ hx);have hUl:∀k,k<m->nx U k<n:=λk hk=>hUm _ (O3 (hm ▸ hk));rw[<-hU]at hok1 hok2;have hgr:=B0x (X:=X) (N:=N) (L:=n) hUm;rw[<-hGR]at hgr;obtain⟨F1,hF1⟩:∃F,F=Y8 GR PL sg n:=⟨_,rfl⟩
 obtain⟨F2,hF2⟩:∃G,G=Y5 GR sg n:=⟨_,rfl⟩
 have hFe:F1=J4 U (P9 GR U (N3 PL U)) n m:=by rw[hF1,hm,hU];rfl
 have hGe:F2=J4 U (P9 GR U (N6 sg U)) n m:=by rw[hF2,hm,hU];rfl
 rw[<-hF1,<-hF2];have hpw:30*(g*10^(m+1))<=BIG:=by
  have h1:g*10^(m+1)<=g*10^(n+1):=B9L _ (B8Z (by omega) (by omega));omega
 have qSz:∀x:Int,-1<=x->x<=1->qs (B9 x)<=1:=λx h1 h2=>by
  have:x = -1\/x=0\/x=1:=by omega
  rcases this with rfl|rfl|rfl<;>decide
 have hsv:∀(yy:List Rat),yy.length=m->(∀k,k<m->qs (gq yy k)<=g)->A1k GR U yy->1<=m->∀(W:World) (gg cg:Nat) (YA:Ax) (G:List Or),G.map orQ=M8 GR U->Lrz W (some ⟨gg,0,none⟩) (G.map orR)->Lz W YA.1 yy ->
   Calls Tryz.prog 135 #[.slice (some ⟨gg,0,none⟩) m cg,.slice YA.1 m YA.2] W (E9 (λx:Nat=>.tuple #[.slice (some ⟨x,0,none⟩) m m,.bool true]) (λx W'=>ZW W.heap.size x m m ((List.range m).map (P9 GR U yy)) W') W):=λyy hyl hyz hok hm1 W gg cg YA G hGq hL hLy=>by
  have e1:(G.map orR).map (·.2.2)=M8 GR U:=by rw[B4D,hGq]
  have e2:(G.map orR).length=m:=by
   have:=B9d List.length e1;rw[List.length_map]at this;rw[this,hm];unfold M8;simp
  have hfl:=hok (by rw[<-hm];exact hm1);rw[<-hm]at hfl
  have hq:=B7E (some ⟨gg,0,none⟩) YA.1 (G.map orR) yy m cg YA.2 e2 hm1 (by omega) (λr hr=>by
   have h9:r.2.2∈M8 GR U:=by rw[<-e1];exact List.mem_map.2 ⟨r,hr,rfl⟩
   unfold M8 at h9;obtain⟨i,-,e9⟩:=List.mem_map.1 h9;rw[<-e9,List.length_map,hm]) hyl g hg1 (λi hi j hj=>by
    rw[e1,A20 (hm ▸ hi) (hm ▸ hj)]
    exact hGz _ (hUl i hi) _ (hUl j hj)) hyz hpw (by rw[e1];exact hfl) W hL hLy
  rw[e1]at hq;have e3:(List.range m).map (P9 GR U yy)=(List.range m).map λi=>(C0 m (m+1) (D7 (aug (M8 GR U) yy m),[]) (m+1)).1 i m:=by
   unfold P9;rw[<-hm]
  rw[e3];exact hq
 have hsv1:=hsv (N3 PL U) (by unfold N3;rw[List.length_map,hm]) (λk hk=>by unfold N3;rw[A0z (hm ▸ hk)];exact hPz _ (hUl k hk)) hok1
 have hsv2:=hsv (N6 sg U) (by unfold N6;rw[List.length_map,hm]) (λk hk=>by
  unfold N6;rw[A0z (hm ▸ hk)];obtain⟨h1,h2⟩:=hs3 _ (hUl k hk)
  exact B8K (qSz _ (by omega) (by omega)) hg1) hok2
 obtain⟨V1,hV1⟩:∃V,V=P9 GR U (N3 PL U):=⟨_,rfl⟩
 obtain⟨V2,hV2⟩:∃V,V=P9 GR U (N6 sg U):=⟨_,rfl⟩
 rw[<-hV1]at hFe;rw[<-hV2]at hGe;simp only[<-hV1]at hsv1;simp only[<-hV2]at hsv2;have hun:=λW=>B1X n (by omega) W;obtain⟨f,hf⟩:∃f:Nat->Nat->Rat,f=J7 X N:=⟨_,rfl⟩
 have hgr2:M8 GR U=U.map λi=>U.map (f i):=by rw[hgr,hf];rfl
 simp only[<-hf]at hdt;subst eS;have hni:(0:Int)<(n:Int):=by omega
 have Hcl:=B8S hcl;have Hdt:=B8S hdt;have Hpl:=B8S hpl;have Hsd:=B8S hsd2;have Hun:=B8S hun;have HU:=B8S hU;have Hm:=B8S hm;have HUl:=B8S hUl;have HUm:=B8S hUm;have Hs3:=B8S hs3;have HFe:=B8S hFe;have HGe:=B8S hGe;have Hsv1:=B8S hsv1;have Hsv2:=B8S hsv2;have Hgr:=B8S hgr2;have HPl:=B8S hPl;clear hsd hsd2 hcl hCs hdt hpl hGi hok1 hok2 hPl hXe hGR hPL hU hm hUm hUl hgr hF1 hF2 hFe hGe hpw qSz hsv hsv1 hsv2 hV1 hV2 hun hf hgr2 hGz hPz hBz hF h h2 h3 hX hys hs3 hsl hy hrl hn hs1 hs hg1;go_enter Tryz.func72,Tryz.ntmps72;refine en0 ?_;intro u hG hB hF;refine r0T ?_;refine r0T ?_;refine B8N ?_;refine r0T ?_;refine B8v ?_;clear hB hF;go_loopw [11,10] (λs0 s1 wr=>∃(i:Nat) (vu:Ax) (k:Nat),i<=n/\s0 = .int .i64 i/\s1 = .slice vu.1 k vu.2/\k=(F8 sg i).length/\wr.ownsRow w.heap.size 3 1 (.slice vu.1 k vu.2) k (O9 (I2 (F8 sg i)))/\A4 w wr) (λs0 _ _=>n-(intOf s0).toNat)
 case atStart=>exact⟨0,(none,0),0,B8k _,rfl,rfl,rfl,B9x _ _ _ _,hG⟩
 case round =>
  clear hG;obtain⟨i,vu,k,hi,rfl,rfl,hk,hu,hG⟩:=hrel;obtain⟨u,rfl⟩:=exQ wr;have hB:=Bx.nil u;have hF:=Fr.nil w;have Hu:=B8S hu;have Hk:=B8S hk;have hk6:k<=n:=by have:=A2e sg i;omega
  clear hu hk;rcases B73 i n with hlt|hge
  ·have hdec:decide ((i:Int)<(n:Int))=true:=by simp;omega
   have hin:(i:Int)<(n:Int):=by omega
   have hsi:=Hsd.out i hlt;obtain⟨S,hS⟩:∃S,S=gi sg i:=⟨_,rfl⟩
   simp only[<-hS]at hsi;have Hsi:=B8S hsi;by_cases h0:S=0
   ·have f37:(S != 0)=false:=by simp[h0]
    have Hst:=B8S (B0g (sg:=sg) (i:=i) (by rw[<-hS];exact h0));clear h0 hS hsi;refine B8N ?_;refine r0T ?_;refine B8V (rfl) ?_;refine B8U ?_;refine A6 ?_;refine B8N ?_;refine B8v ?_;refine B8N ?_
    (first|have q0:=Hsi.out u hG|skip)
    refine r0N ?_;refine B8T (rfl) ?_;refine B8U ?_;refine C8 ?_;refine A6 ?_;refine r0E ?_;refine A6 ?_;go_roundw
    case rel=>exact⟨i+1,vu,k,by omega,by go_num,rfl,by rw[Hst.out];exact Hk.out,by rw[Hst.out];exact Hu.out,hG⟩
    case measure=>simp[intOf];omega
   ·have f37:(S != 0)=true:=by simp[h0]
    have Hst:=B8S (B0C (sg:=sg) (i:=i) (by rw[<-hS];exact h0));clear h0 hS hsi;refine B8N ?_;refine r0T ?_;refine B8V (rfl) ?_;refine B8U ?_;refine A6 ?_;refine B8N ?_;refine B8v ?_;refine B8N ?_
    (first|have q0:=Hsi.out u hG|skip)
    refine r0N ?_;refine B8V (rfl) ?_;refine M4 (w:=w) A8 2 [0,0] (by kernel_rfl) (by simp only[List.drop_succ_cons,List.drop_zero];exact rfl) (λ_=>True) noG hB hG trivial ?_;intro K L hN hL;simp only[List.zip_cons_cons,List.zip_nil_left];refine gs ?_;refine H8 ?_;rintro v ⟨hgu,hB1,hG1,-⟩;have ROWn:=B8S (C5 Hu.out hgu);clear Hu;have Hu:=ROWn;clear ROWn;clear hB hG;have hB:=hB1;have hG:=hG1;clear hB1 hG1;refine hL _ _ ?_;clear hL L hgu;obtain⟨u,rfl⟩:=exQ v;refine L6 A3r w.heap.size _ _ _ _ [.int .i64 (i:Nat)] rfl rfl (A2w (i:Nat) u) rfl (λ_=>rfl) (λ_=>rfl) (λ_ _=>rfl) Hu.out (by omega) (by omega) hG.sz λp v' w' g1 g2 g3=>?_;have hBn:=Bx.nil w';obtain⟨gu,cu,rfl,-,-⟩:=N0 g1 (by omega);have hGn:=K3 Hu.out hG g2;clear Hu hB hG;have Hu:=B8S g1;have hB:=hBn;have hG:=hGn;clear g1 g2 g3 hBn hGn;obtain⟨u,rfl⟩:=exQ w';simp only[Act.put,List.setIfInBounds_toArray,List.set_cons_succ,List.set_cons_zero];refine NoK.norm (hN _ _ ?_);clear hN K;refine C8 ?_;refine A6 ?_;refine r0E ?_;refine A6 ?_;go_roundw
    case rel=>exact⟨i+1,(some ⟨gu,0,none⟩,cu),k+1,by omega,by go_num,rfl,by rw[Hst.out,List.length_append,<-Hk.out];rfl,by rw[Hst.out,A22];exact Hu.out,hG⟩
    case measure=>simp[intOf];omega
  ·obtain rfl:n=i:=by omega
   have hdec:decide ((n:Int)<(n:Int))=false:=by simp
   have hu:=Hu.out;rw[<-HU.out]at hu;have hkm:m=k:=by rw[Hk.out,Hm.out,HU.out]
   subst hkm;replace Hu:=B8S hu;clear hu Hk;rcases B8M m with hm0|hm0
   ·have f48:((m:Int) == 0)=true:=by simp;omega
    have f48n:decide (m=0)=true:=by simp;omega
    have e1:=B8S (show F1=G8 n/\F2=G8 n from⟨by rw[HFe.out,hm0];rfl,by rw[HGe.out,hm0];rfl⟩);clear hm0 Hu;refine B8N ?_;refine r0T ?_;refine B8T (rfl) ?_;refine B8x ?_;refine B7 ?_;refine B7 ?_;refine D0 ?_;refine A6 ?_;refine B8N (rsE A8 [0,1,0,1,0,0] hB hG λL hL=>?_);refine gs ?_;refine gxd (X:=Nat) (λx:Nat=>.slice (some ⟨x,0,none⟩) n n) (λx W=>ZW w.heap.size x n n (G8 n) W) (λx u u' hg h=>h.grow hg) (λx43=>?_) (C:=by(rintro v ⟨hgu,hB,hG,-⟩;exact(Hun.out _).mono λe W ⟨x,g1,g2,g3⟩=>⟨x,g1,g2.mono hG.size,g3⟩));refine gs ?_;refine gxd (X:=Nat) (λx:Nat=>.slice (some ⟨x,0,none⟩) n n) (λx W=>ZW (x43+1) x n n (G8 n) W) (λx u u' hg h=>h.grow hg) (λx45=>?_) (C:=by(rintro v ⟨⟨hgu,hB,hG,-⟩,hx43⟩;exact(Hun.out _).mono λe W ⟨x,g1,g2,g3⟩=>⟨x,g1,g2.mono hx43.lt.2,g3⟩));refine gs ?_;refine geT hL ?_;clear hB hG hL L;rintro u ⟨⟨⟨hgu,hB,hG,-⟩,hx43⟩,hx45⟩;have HZ:=B8S (And.intro hx43.lzt.lz hx45.lzt.lz);clear hx43 hx45;clear hgu;refine B8N ?_;refine r0T ?_;refine B8V (rfl) ?_;refine r0T ?_;refine rt Tryz.results72 ?_;exact⟨(x43,x45),rfl,by rw[e1.out.1,e1.out.2];exact HZ.out,hG⟩
   ·have f48:((m:Int) == 0)=false:=by simp;omega
    have f48n:decide (m=0)=false:=by simp;omega
    obtain⟨wA,rfl⟩:=exQ w;obtain⟨w,hwu⟩:=exQ u;rw[<-hwu]at Hu hG;have HGA:=B8S hG;obtain⟨vu1,vu2⟩:=vu;obtain⟨bu,cu,eu,-,-⟩:=N0 Hu.out hm0;simp only[Value.slice.injEq]at eu;obtain⟨eu1,-,eu2⟩:=eu;subst eu1;subst eu2;have hus:∀k,k<m->∀W,A4 w W->W.cell? ⟨bu,k,none⟩=some (.int .i64 (nx U k:Nat)):=λk hk W hg=>by
     obtain⟨A1,c1,e1,-,hL⟩:=A1M (n:=m) (l:=I2 U) Hu.out (by rw[A1J,<-Hm.out]);cases e1;obtain⟨b9,o9,e9,h9⟩:=A2v hL (i:=k) (by rw[<-Hm.out];exact hk);cases e9;have:=h9 W hg
     rwa [Nat.zero_add]at this
    have Hus:=B8S hus;clear hB hG hus hF Hu;have hB:=Bx.nil u;have hF:=Fr.nil w;have hG:A4 w u:=hwu ▸ A4.refl u;clear hwu;refine B8N ?_;refine r0T ?_;refine B8T (rfl) ?_;refine B8x ?_;refine B7 ?_;refine B7 ?_;refine D0 ?_;refine A6 ?_;refine B8N (rsE A8 [0,1,0,1,0,0] hB hG λL hL=>?_);refine gs ?_;refine gxd (X:=Nat) (λx:Nat=>.slice (some ⟨x,0,none⟩) n n) (λx W=>ZW w.heap.size x n n (G8 n) W) (λx u u' hg h=>h.grow hg) (λx43=>?_) (C:=by(rintro v ⟨hgu,hB,hG,-⟩;exact(Hun.out _).mono λe W ⟨x,g1,g2,g3⟩=>⟨x,g1,g2.mono hG.size,g3⟩));refine gs ?_;refine gxd (X:=Nat) (λx:Nat=>.slice (some ⟨x,0,none⟩) n n) (λx W=>ZW (x43+1) x n n (G8 n) W) (λx u u' hg h=>h.grow hg) (λx45=>?_) (C:=by(rintro v ⟨⟨hgu,hB,hG,-⟩,hx43⟩;exact(Hun.out _).mono λe W ⟨x,g1,g2,g3⟩=>⟨x,g1,g2.mono hx43.lt.2,g3⟩));refine gs ?_;refine geT hL ?_;clear hB hG hL L;rintro u ⟨⟨⟨hgu,hB,hG,-⟩,hx43⟩,hx45⟩;have HOA:Hid (∃pa pb:List Zr,pa.map (·.2)=G8 n/\pb.map (·.2)=G8 n/\OA w.heap.size [((some ⟨x43,0,none⟩,n),pa),((some ⟨x45,0,none⟩,n),pb)] u):=by
     obtain⟨pa,ea,la,oa1⟩:=(OA.nil w.heap.size u).add (D:=w.heap.size) (λy hy=>by cases hy) (K2 _) hx43
     obtain⟨pb,eb,lb,oa2⟩:=oa1.add (D:=x43+1) (λy hy k hk=>by
      rw[List.mem_singleton]at hy;subst hy;have e9:x43=k:=B78 hk
      omega) (by have:=hx43.lt.1;omega) hx45
     exact B8S ⟨pa,pb,ea,eb,oa2.swap⟩
    clear hx43 hx45;clear hgu;refine B8N ?_;refine r0T ?_;refine B8T (rfl) ?_;refine B8U ?_;refine A6 ?_;refine B8N (rsE A8 [0,0,0,1,1,0] hB hG λL hL=>?_);refine gs ?_;refine gxd (X:=Nat) (λx:Nat=>.slice (some ⟨x,0,none⟩) n n) (λx W=>Lz W (some ⟨x,0,none⟩) (G8 n)) (λx u u' hg h=>Lz.grow h hg) (λx54=>?_) (C:=λv _=>(Hun.out _).mono λe W ⟨x,g1,g2,g3⟩=>⟨x,g1,g2.lzt.lz,g3⟩);refine gxd (X:=Ax) (λx:Ax=>.slice x.1 n x.2) (λx W=>Lz W x.1 PL) (λx u u' hg h=>Lz.grow h hg) (λx55=>?_) (C:=by(rintro v ⟨⟨hgu,hB,hG,-⟩,hx54⟩;exact Hpl.out _ x54 hx54 (HGA.out.trans hG)));refine gs ?_;refine geT hL ?_;clear hB hG hL L;rintro u ⟨⟨⟨hgu,hB,hG,-⟩,hx54⟩,hx55⟩;obtain⟨xp,xpc⟩:=x55;have HP:=B8S (show Lz u xp PL from hx55);have HO2:Hid (∃pa pb:List Zr,pa.map (·.2)=G8 n/\pb.map (·.2)=G8 n/\OA w.heap.size [((some ⟨x43,0,none⟩,n),pa),((some ⟨x45,0,none⟩,n),pb)] u):=by
     obtain⟨pa,pb,ea,eb,oa⟩:=HOA.out;exact B8S ⟨pa,pb,ea,eb,oa.grow hgu⟩
    clear hx54 hx55 HOA;have HOA:=HO2;clear HO2;clear hgu;have HG0:=B8S hG;clear hB hF hG;obtain⟨w0,rfl⟩:=exQ w;obtain⟨w,hwu⟩:=exQ u;rw[<-hwu]at HG0 HP HOA;have hB:=Bx.nil u;have hF:=Fr.nil w;have hG:A4 w u:=hwu ▸ A4.refl u;clear hwu;obtain⟨bp,op,rfl⟩:∃b o,xp=some ⟨b,o,none⟩:=HP.out.addr (by rw[HPl.out];omega);refine r0T ?_;refine r0T ?_;refine B8N ?_;refine r0T ?_;refine B8v ?_;clear hB hF;go_loopw [18,15,16,17] (λs0 s1 s2 s3 wr=>∃(k:Nat) (vg au av:Ax) (G:List Or) (zu zv:List Zr),k<=m/\s0 = .int .i64 k/\s1 = .slice vg.1 k vg.2/\s2 = .slice au.1 k au.2/\s3 = .slice av.1 k av.2/\(G.length=k/\zu.length=k/\zv.length=k)/\(G.map orQ=(U.take k).map (λi=>U.map (f i))/\zu.map (·.2)=(U.take k).map (gq PL)/\zv.map (·.2)=(U.take k).map (λi=>B9 (-(gi sg i))))/\wr.ownsRow w.heap.size 25 1 (.slice vg.1 k vg.2) k (G.flatMap orE)/\OA w.heap.size ((au,zu)::(av,zv)::G) wr/\A4 w wr) (λs0 _ _ _ _=>m-(intOf s0).toNat)
    case atStart=>exact⟨0,(none,0),(none,0),(none,0),[],[],[],B8k _,rfl,rfl,rfl,rfl,⟨rfl,rfl,rfl⟩,⟨rfl,rfl,rfl⟩,B9x _ _ _ _,(OA.nil _ _).start.start,hG⟩
    case round =>
     clear hG;obtain⟨k,vg,au,av,G,zu,zv,hk,rfl,rfl,rfl,rfl,hlen,hval,hd,hoa,hG⟩:=hrel;obtain⟨u,rfl⟩:=exQ wr;have hB:=Bx.nil u;have hF:=Fr.nil w;have Hd:=B8S hd;have HO:=B8S hoa;have Hlen:=B8S hlen;have Hval:=B8S hval;clear hd hoa hlen hval;rcases B73 k m with hlt|hge
     ·have hdec:decide ((k:Int)<(m:Int))=true:=by simp;omega
      have hkm:(k:Int)<(m:Int):=by omega
      have hxn:=HUl.out k hlt;have hqx:=Hus.out k hlt;have hsx:=Hsd.out (nx U k) hxn;have hs3x:=Hs3.out (nx U k) hxn;have hcl1:=λW hg=>Hcl.out W hg (nx U k) hxn;obtain⟨X1,hX⟩:∃X,X=nx U k:=⟨_,rfl⟩
      simp only[<-hX]at hxn hqx hsx hs3x hcl1;obtain⟨pz,hpz⟩:=HP.out.read (i:=X1) (by rw[HPl.out];exact hxn);obtain⟨S,hS⟩:∃S,S=gi sg X1:=⟨_,rfl⟩
      simp only[<-hS]at hsx hs3x;obtain⟨Q1,hQ1⟩:∃q,q=gq PL X1:=⟨_,rfl⟩
      simp only[<-hQ1]at hpz;obtain⟨C1,hC1⟩:∃q,q=G1 X X1 N:=⟨_,rfl⟩
      simp only[<-hC1]at hcl1;have hXn:(X1:Int)<(n:Int):=by omega
      have hwS:IntKind.i64.wrap (-S) = -S:=B8j _ (by omega);have Hqx:=B8S hqx;have Hsx:=B8S hsx;have Hpz:=B8S hpz;have Hcl1:=B8S hcl1;have HX:=B8S hX;have HS:=B8S hS;have HQ1:=B8S hQ1;have HC1:=B8S hC1;clear hqx hsx hpz hcl1 hX hS hQ1 hC1;refine B8N ?_;refine r0T ?_;refine B8V (rfl) ?_;refine B8U ?_;refine A6 ?_;refine B8N ?_;refine B8v ?_;refine r0T ?_;refine B8N ?_;refine r0T ?_;refine B8v ?_;clear hB hF;go_loopw [20,19] (λs0 s1 wr=>∃(j:Nat) (al:Ax) (zl:List Zr),j<=m/\s0 = .int .i64 j/\s1 = .slice al.1 j al.2/\zl.length=j/\zl.map (·.2)=(U.take j).map (f X1)/\wr.ownsRow w.heap.size 25 1 (.slice vg.1 k vg.2) k (G.flatMap orE)/\OA w.heap.size ((al,zl)::(au,zu)::(av,zv)::G) wr/\A4 w wr) (λs0 _ _=>m-(intOf s0).toNat)
      case atStart=>exact⟨0,(none,0),[],B8k _,rfl,rfl,rfl,rfl,Hd.out,HO.out.start,hG⟩
      case round =>
       clear hG Hd HO;obtain⟨j,al,zl,hj,rfl,rfl,hzl,hzv,hd,hoa,hG⟩:=hrel;obtain⟨u,rfl⟩:=exQ wr;have hB:=Bx.nil u;have hF:=Fr.nil w;have Hd:=B8S hd;have HO:=B8S hoa;have Hzl:=B8S hzl;have Hzv:=B8S hzv;clear hd hoa hzl hzv;rcases B73 j m with hlj|hgj
       ·have hdej:decide ((j:Int)<(m:Int))=true:=by simp;omega
        have hjm:(j:Int)<(m:Int):=by omega
        have hyn:=HUl.out j hlj;have hqy:=Hus.out j hlj;have hcl2:=λW hg=>Hcl.out W hg (nx U j) hyn;have hst:=A1w (f X1) U (k:=j) (by rw[<-Hm.out];exact hlj);have hdt:=λW=>Hdt.out W X1 (nx U j) hxn hyn;obtain⟨E,hE⟩:∃E,E=f X1 (nx U j):=⟨_,rfl⟩
        simp only[<-hE]at hdt hst;rw[<-HC1.out]at hdt;obtain⟨X2,hX2⟩:∃X,X=nx U j:=⟨_,rfl⟩
        simp only[<-hX2]at hyn hqy hcl2 hdt;obtain⟨C2,hC2⟩:∃q,q=G1 X X2 N:=⟨_,rfl⟩
        simp only[<-hC2]at hcl2 hdt;have Ho:=B8S (HO.out.ownA Hzl.out);have Hqy:=B8S hqy;have Hcl2:=B8S hcl2;have Hdtj:=B8S hdt;have Hst:=B8S hst;clear hqy hcl2 hdt hst hE hX2 hC2;refine B8N ?_;refine r0T ?_;refine B8V (rfl) ?_;refine B8U ?_;refine A6 ?_;refine B8N ?_;refine B8v ?_;refine A1Z (w:=w) A8 14 [0] [(0,0),(0,1),(0,2),(0,3),(0,4),(0,5),(0,7),(0,8),(0,9),(0,10),(0,11),(1,6),(1,12),(1,13)] (by kernel_rfl) (by kernel_rfl) (by simp only[List.drop_succ_cons,List.drop_zero];exact rfl) (λ_=>True) noG hB hG trivial ?_;intro K L hN hL;simp only[H6,List.getElem?_toArray,List.getElem?_cons_zero,List.getElem?_cons_succ]
        repeat first|refine gya ?_|refine gyr ?_|refine gna ?_|refine gyb (by(rintro v ⟨hgu,hB,hG,-⟩ N hN;have r:=hB.r;simp only[BxR]at r;have q0:=Hqx.out v (HG0.out.trans hG);have q1:=Hqy.out v (HG0.out.trans hG);go_simp;exact hN)) ?_
        refine gxd (X:=Ax) (λx:Ax=>.slice x.1 N x.2) (λx W=>Lz W x.1 C1) (λx u u' hg h=>Lz.grow h hg) (λx74=>?_) (C:=by(rintro v ⟨hgu,hB,hG,-⟩;exact Hcl1.out _ (HGA.out.trans (HG0.out.trans hG))));refine gxd (X:=Ax) (λx:Ax=>.slice x.1 N x.2) (λx W=>Lz W x.1 C2) (λx u u' hg h=>Lz.grow h hg) (λx80=>?_) (C:=by(rintro v ⟨⟨hgu,hB,hG,-⟩,hx74⟩;exact Hcl2.out _ (HGA.out.trans (HG0.out.trans hG))));refine grd (F7 E) (λ(x81:Ax×Ax)=>?_) (C:=by(rintro v ⟨⟨⟨hgu,hB,hG,-⟩,hx74⟩,hx80⟩;exact Hdtj.out _ x74 x80 hx74 hx80));refine H8 ?_;rintro v ⟨⟨⟨⟨hgu,hB1,hG1,-⟩,hx74⟩,hx80⟩,hx81⟩;obtain⟨hx81a,hx81b⟩:Rn v x81.1 _/\Rn v x81.2 _:=hx81;have ROWn:=B8S (C5 Ho.out hgu);clear Ho;have Ho:=ROWn;clear ROWn;have Hd2:=B8S (C5 Hd.out hgu);have HO2:=B8S (HO.out.grow hgu);clear Hd HO hx74 hx80;have Hd:=Hd2;have HO:=HO2;clear Hd2 HO2;clear hB hG;have hB:=hB1;have hG:=hG1;clear hB1 hG1;refine hL _ _ ?_;clear hL L hgu;obtain⟨u,rfl⟩:=exQ v;refine L6 X4 w.heap.size _ _ _ _ (zL x81 E) rfl rfl (A0m x81.1 x81.2 E u) rfl (λ_=>rfl) (λ_=>rfl) (λ_ _=>rfl) Ho.out (by omega) (by omega) hG.sz λp v' w' g1 g2 g3=>?_;have hBn:=Bx.nil w';obtain⟨gl,cl,rfl,-,-⟩:=N0 g1 (by omega);have HO2:=B8S (HO.out.appA (a':=(some ⟨gl,0,none⟩,cl)) Hzl.out g1 hx81a hx81b g2 g3);have Hd2:=B8S (HO.out.staysA Hzl.out Hd.out (by decide) g2);clear Hd HO;have Hd:=Hd2;have HO:=HO2;clear Hd2 HO2;have hGn:=K3 Ho.out hG g2;replace hx81a:=hx81a.own Ho.out (by decide) g2;replace hx81b:=hx81b.own Ho.out (by decide) g2;clear Ho hB hG;have Ho:=B8S g1;have hB:=hBn;have hG:=hGn;clear g1 g2 g3 hBn hGn;obtain⟨u,rfl⟩:=exQ w';simp only[Act.put,List.setIfInBounds_toArray,List.set_cons_succ,List.set_cons_zero];refine NoK.norm (hN _ _ ?_);clear hN K;refine C8 ?_;refine A6 ?_;refine r0E ?_;refine A6 ?_;go_roundw
        case rel=>exact⟨j+1,(some ⟨gl,0,none⟩,cl),zl++[(x81,E)],by omega,by go_num,rfl,by rw[List.length_append,Hzl.out];rfl,by rw[List.map_append,Hzv.out,Hst.out];rfl,Hd.out,HO.out,hG⟩
        case measure=>simp[intOf];omega
       ·obtain rfl:m=j:=by omega
        have hdej:decide ((m:Int)<(m:Int))=false:=by simp
        refine B8N ?_;refine r0T ?_;refine B8T (rfl) ?_;refine B8x ?_;refine B7 ?_;refine B7 ?_;refine D0 ?_;refine A6 ?_;refine B8N ?_;refine M4 (w:=w) A8 2 [0,0] (by kernel_rfl) (by simp only[List.drop_succ_cons,List.drop_zero];exact rfl) (λ_=>True) noG hB hG trivial ?_;intro K L hN hL;simp only[List.zip_cons_cons,List.zip_nil_left];refine gs ?_;refine H8 ?_;rintro v ⟨hgu,hB1,hG1,-⟩;have ROWn:=B8S (C5 Hd.out hgu);clear Hd;have Hd:=ROWn;clear ROWn;have HO2:=B8S (HO.out.grow hgu);clear HO;have HO:=HO2;clear HO2;clear hB hG;have hB:=hB1;have hG:=hG1;clear hB1 hG1;refine hL _ _ ?_;clear hL L hgu;obtain⟨u,rfl⟩:=exQ v;refine L6 A3O w.heap.size _ _ _ _ [.slice al.1 m al.2] rfl rfl (A8u al.1 m al.2 u) rfl (λ_=>rfl) (λ_=>rfl) (λ_ _=>rfl) Hd.out (by omega) (by omega) hG.sz λp v' w' g1 g2 g3=>?_;have hBn:=Bx.nil w';obtain⟨gg,cg,rfl,-,-⟩:=N0 g1 (by omega);have HO2:=B8S ((HO.out.other Hd.out (by decide) (by decide) g2).last);clear HO;have HO:=HO2;clear HO2;have hGn:=K3 Hd.out hG g2;clear Hd hB hG;have Hd:=B8S g1;have hB:=hBn;have hG:=hGn;clear g1 g2 g3 hBn hGn;obtain⟨u,rfl⟩:=exQ w';simp only[Act.put,List.setIfInBounds_toArray,List.set_cons_succ,List.set_cons_zero];refine NoK.norm (hN _ _ ?_);clear hN K;have hg2:u.ownsRow w.heap.size 25 1 (.slice (some ⟨gg,0,none⟩) (k+1) cg) (k+1) ((G++[(al,zl)]).flatMap orE):=by
         have h9:=Hd.out;rw[B97];show u.ownsRow _ _ _ _ _ (_++[Value.slice al.1 zl.length al.2]);rw[Hzl.out];exact h9
        have Hd2:=B8S hg2;clear Hd hg2;have Hd:=Hd2;clear Hd2;have Hu:=B8S (HO.out.ownA Hlen.out.2.1);refine A6 ?_;refine B8N ?_;refine M4 (w:=w) A8 8 [0,0,0,0,0,0,0,0] (by kernel_rfl) (by simp only[List.drop_succ_cons,List.drop_zero];exact rfl) (λ_=>True) noG hB hG trivial ?_;intro K L hN hL;simp only[List.zip_cons_cons,List.zip_nil_left]
        repeat first|refine gya ?_|refine gyr ?_|refine gna ?_|refine gyb (by(rintro v ⟨hgu,hB,hG,-⟩ N hN;have r:=hB.r;simp only[BxR]at r;(first|have q0:=Hqx.out v (HG0.out.trans hG)|skip);(first|obtain⟨-,q1,q2,q3⟩:=Hpz.out v hG|skip);(first|have q4:=Hsx.out v (HGA.out.trans (HG0.out.trans hG))|skip);go_simp;exact hN)) ?_
        refine H8 ?_;rintro v ⟨hgu,hB1,hG1,-⟩;have ROWn:=B8S (C5 Hu.out hgu);clear Hu;have Hu:=ROWn;clear ROWn;have Hd2:=B8S (C5 Hd.out hgu);have HO2:=B8S (HO.out.grow hgu);clear Hd HO;have Hd:=Hd2;have HO:=HO2;clear Hd2 HO2;clear hB hG;have hB:=hB1;have hG:=hG1;clear hB1 hG1;refine hL _ _ ?_;clear hL L hgu;obtain⟨u,rfl⟩:=exQ v;refine L6 X4 w.heap.size _ _ _ _ (zL pz Q1) rfl rfl (A0m pz.1 pz.2 Q1 u) rfl (λ_=>rfl) (λ_=>rfl) (λ_ _=>rfl) Hu.out (by omega) (by omega) hG.sz λp v' w' g1 g2 g3=>?_;have hBn:=Bx.nil w';obtain⟨gu,cu2,rfl,-,-⟩:=N0 g1 (by omega);have HO2:=B8S ((HO.out.appA (a':=(some ⟨gu,0,none⟩,cu2)) Hlen.out.2.1 g1 (Hpz.out u hG).1.a (Hpz.out u hG).1.b g2 g3).swap);have Hd2:=B8S (HO.out.staysA Hlen.out.2.1 Hd.out (by decide) g2);clear Hd HO;have Hd:=Hd2;have HO:=HO2;clear Hd2 HO2;have hGn:=K3 Hu.out hG g2;clear Hu hB hG;have Hu:=B8S g1;have hB:=hBn;have hG:=hGn;clear g1 g2 g3 hBn hGn;obtain⟨u,rfl⟩:=exQ w';simp only[Act.put,List.setIfInBounds_toArray,List.set_cons_succ,List.set_cons_zero];refine NoK.norm (hN _ _ ?_);clear hN K;have Hv:=B8S (HO.out.ownA Hlen.out.2.2);clear Hu;refine A6 ?_;refine M4 (w:=w) A8 10 [0,0,0,0,0,0,0,0,0,1] (by kernel_rfl) (by simp only[List.drop_succ_cons,List.drop_zero];exact rfl) (λ_=>True) noG hB hG trivial ?_;intro K L hN hL;simp only[List.zip_cons_cons,List.zip_nil_left]
        repeat first|refine gya ?_|refine gyr ?_|refine gna ?_|refine gyb (by(rintro v ⟨hgu,hB,hG,-⟩ N hN;have r:=hB.r;simp only[BxR]at r;(first|have q0:=Hqx.out v (HG0.out.trans hG)|skip);(first|obtain⟨-,q1,q2,q3⟩:=Hpz.out v hG|skip);(first|have q4:=Hsx.out v (HGA.out.trans (HG0.out.trans hG))|skip);go_simp;exact hN)) ?_
        refine grd (F7 (B9 (-S))) (λ(x107:Ax×Ax)=>?_) (C:=λv _=>A0t (-S) (by omega) (by omega) _);refine H8 ?_;rintro v ⟨⟨hgu,hB1,hG1,-⟩,hx107⟩;obtain⟨hx107a,hx107b⟩:Rn v x107.1 _/\Rn v x107.2 _:=hx107;have ROWn:=B8S (C5 Hv.out hgu);clear Hv;have Hv:=ROWn;clear ROWn;have Hd2:=B8S (C5 Hd.out hgu);have HO2:=B8S (HO.out.grow hgu);clear Hd HO;have Hd:=Hd2;have HO:=HO2;clear Hd2 HO2;clear hB hG;have hB:=hB1;have hG:=hG1;clear hB1 hG1;refine hL _ _ ?_;clear hL L hgu;obtain⟨u,rfl⟩:=exQ v;refine L6 X4 w.heap.size _ _ _ _ (zL x107 (B9 (-S))) rfl rfl (A0m x107.1 x107.2 (B9 (-S)) u) rfl (λ_=>rfl) (λ_=>rfl) (λ_ _=>rfl) Hv.out (by omega) (by omega) hG.sz λp v' w' g1 g2 g3=>?_;have hBn:=Bx.nil w';obtain⟨gv,cv2,rfl,-,-⟩:=N0 g1 (by omega);have HO2:=B8S ((HO.out.appA (a':=(some ⟨gv,0,none⟩,cv2)) Hlen.out.2.2 g1 hx107a hx107b g2 g3).swap);have Hd2:=B8S (HO.out.staysA Hlen.out.2.2 Hd.out (by decide) g2);clear Hd HO;have Hd:=Hd2;have HO:=HO2;clear Hd2 HO2;have hGn:=K3 Hv.out hG g2;replace hx107a:=hx107a.own Hv.out (by decide) g2;replace hx107b:=hx107b.own Hv.out (by decide) g2;clear Hv hB hG;have Hv:=B8S g1;have hB:=hBn;have hG:=hGn;clear g1 g2 g3 hBn hGn;obtain⟨u,rfl⟩:=exQ w';simp only[Act.put,List.setIfInBounds_toArray,List.set_cons_succ,List.set_cons_zero];refine NoK.norm (hN _ _ ?_);clear hN K;refine C8 ?_;refine A6 ?_;refine r0E ?_;refine A6 ?_;go_roundw
        case rel =>
         have hkU:k<U.length:=by rw[<-Hm.out];exact hlt
         have e1:=A1w (λi=>U.map (f i)) U hkU;have e2:=A1w (gq PL) U hkU;have e3:=A1w (λi=>B9 (-(gi sg i))) U hkU;have hzq:orQ (al,zl)=U.map (f (nx U k)):=by
          have h9:=Hzv.out;rw[Hm.out,B9r,HX.out]at h9;exact h9
         refine⟨k+1,(some ⟨gg,0,none⟩,cg),(some ⟨gu,0,none⟩,cu2),(some ⟨gv,0,none⟩,cv2),G++[(al,zl)],zu++[(pz,Q1)],zv++[(x107,B9 (-S))],by omega,by go_num,rfl,rfl,rfl,⟨by rw[List.length_append,Hlen.out.1];rfl,by rw[List.length_append,Hlen.out.2.1];rfl,by rw[List.length_append,Hlen.out.2.2];rfl⟩,⟨?_,?_,?_⟩,Hd.out,HO.out,hG⟩
         ·rw[e1,List.map_append,Hval.out.1,List.map_singleton,hzq]
         ·rw[e2,List.map_append,Hval.out.2.1,HQ1.out,HX.out];rfl
         ·rw[e3,List.map_append,Hval.out.2.2,HS.out,HX.out];rfl
        case measure=>simp[intOf];omega
     ·obtain rfl:m=k:=by omega
      have hdec:decide ((m:Int)<(m:Int))=false:=by simp
      refine B8N ?_;refine r0T ?_;refine B8T (rfl) ?_;refine B8x ?_;refine B7 ?_;refine B7 ?_;refine D0 ?_;refine A6 ?_;refine B8N ?_;obtain⟨vg1,vg2⟩:=vg;obtain⟨gg,cg,eg,-,-⟩:=N0 Hd.out hm0;simp only[Value.slice.injEq]at eg;obtain⟨eg1,-,eg2⟩:=eg;subst eg1;subst eg2;obtain⟨w5,hw5⟩:=exQ u;have hG5:A4 w5 u:=hw5 ▸ A4.refl u
      have HSY:=B8S (show G.map orQ=M8 GR U/\Lrz w5 (some ⟨gg,0,none⟩) (G.map orR)/\Lz w5 au.1 (N3 PL U)/\Lz w5 av.1 (N6 sg U)from by
       have h9:=Hval.out;rw[Hm.out,B9r]at h9;rw[hw5];refine⟨by rw[h9.1,Hgr.out],HO.out.lrz (λx hx=>B74 _ (B74 _ hx)) Hd.out Hlen.out.1,?_,?_⟩
       ·have h8:=HO.out.lz (x:=(au,zu)) (by simp);unfold orQ at h8;rw[h9.2.1]at h8;exact h8
       ·have h8:=HO.out.lz (x:=(av,zv)) (by simp);unfold orQ at h8;rw[h9.2.2]at h8
        exact h8)
      clear Hd HO Hval Hlen hw5;refine rsE A8 [0,0,1,0,0,0,0,0] hB hG λL hL=>?_;refine gs ?_;refine gxd (X:=Nat) (λx:Nat=>.tuple #[.slice (some ⟨x,0,none⟩) m m,.bool true]) (λx W=>ZW w.heap.size x m m ((List.range m).map V1) W) (λx u u' hg h=>h.grow hg) (λx113=>?_) (C:=by(rintro v ⟨hgu,hB,hG,-⟩;exact(Hsv1.out hm0 _ gg vg2 au G HSY.out.1 (HSY.out.2.1.grow (hG5.trans hgu)) (HSY.out.2.2.1.grow (hG5.trans hgu))).mono λe W ⟨x,g1,g2,g3⟩=>⟨x,g1,g2.mono hG.size,g3⟩));refine gs ?_;refine geT hL ?_;clear hB hG hL L;rintro u ⟨⟨hgu,hB,hG,-⟩,hx113⟩;have HO:Hid (∃pa pb ps:List Zr,pa.map (·.2)=G8 n/\pb.map (·.2)=G8 n/\ps.map (·.2)=(List.range m).map V1/\OA w0.heap.size [((some ⟨x113,0,none⟩,m),ps),((some ⟨x43,0,none⟩,n),pa),((some ⟨x45,0,none⟩,n),pb)] u):=by
       obtain⟨pa,pb,ea,eb,oa⟩:=HOA.out;obtain⟨ps,es,-,oa2⟩:=(oa.grow hG).add (D:=w.heap.size) oa.lts HG0.out.size hx113;exact B8S ⟨pa,pb,ps,ea,eb,es,oa2⟩
      obtain⟨D,hD⟩:∃D,D=u.heap.size:=⟨_,rfl⟩
      have HD:Hid (x113<D/\x43<D/\x45<D/\w0.heap.size<=D):=by
       obtain⟨pa,pb,ps,-,-,-,oa⟩:=HO.out;rw[hD];exact B8S ⟨oa.lts _ (List.mem_cons_self ..) _ rfl,oa.lts _ (B74 _ (List.mem_cons_self ..)) _ rfl,oa.lts _ (B74 _ (B74 _ (List.mem_cons_self ..))) _ rfl,(HG0.out.trans hG).size⟩
      replace hG5:=hG5.trans hgu;clear hx113 HOA;clear hgu;refine B8N (rsE A8 [0,0,1,0,0,0,0,0] hB hG λL hL=>?_);refine gs ?_;refine gxd (X:=Nat) (λx:Nat=>.tuple #[.slice (some ⟨x,0,none⟩) m m,.bool true]) (λx W=>ZW D x m m ((List.range m).map V2) W) (λx u u' hg h=>h.grow hg) (λx119=>?_) (C:=by(rintro v ⟨hgu,hB,hG,-⟩;exact(Hsv2.out hm0 _ gg vg2 av G HSY.out.1 (HSY.out.2.1.grow (hG5.trans hgu)) (HSY.out.2.2.2.grow (hG5.trans hgu))).mono λe W ⟨x,g1,g2,g3⟩=>⟨x,g1,g2.mono (hD ▸ hgu.size),g3⟩));refine gs ?_;refine geT hL ?_;clear hB hG hL L;rintro u ⟨⟨hgu,hB,hG,-⟩,hx119⟩;have HO2:Hid (∃pa pb ps pt:List Zr,pa.map (·.2)=G8 n/\pb.map (·.2)=G8 n/\ps.map (·.2)=(List.range m).map V1/\pt.map (·.2)=(List.range m).map V2/\OA w0.heap.size [((some ⟨x43,0,none⟩,n),pa),((some ⟨x45,0,none⟩,n),pb),((some ⟨x113,0,none⟩,m),ps),((some ⟨x119,0,none⟩,m),pt)] u):=by
       obtain⟨pa,pb,ps,ea,eb,es,oa⟩:=HO.out
       obtain⟨pt,et,-,oa2⟩:=(oa.grow hgu).add (D:=D) (λy hy k hk=>by
        have hD2:=HD.out;simp only[List.mem_cons,List.not_mem_nil,or_false]at hy;rcases hy with rfl|rfl|rfl
        ·have e9:x113=k:=B78 hk;omega
        ·have e9:x43=k:=B78 hk;omega
        ·have e9:x45=k:=B78 hk
         omega) HD.out.2.2.2 hx119
       exact B8S ⟨pa,pb,ps,pt,ea,eb,es,et,oa2.swap.last.last⟩
      clear hx119 HO HSY hD;have HO:=HO2;clear HO2;clear hgu;refine B8N ?_;refine r0T ?_;refine B8T (rfl) ?_;refine B8U ?_;refine A6 ?_;refine B8N ?_;refine B8N ?_;have hG2:=HG0.out.trans hG;clear hB hG hF hG5 HP;obtain⟨w2,rfl⟩:=exQ w;obtain⟨w,rfl⟩:=exQ w0;have hG:=hG2;have hB:=Bx.nil u;have hF:=Fr.nil w;clear hG2;refine r0N ?_;refine B8v ?_;clear hB hF;go_loopw [25] (λs0 wr=>∃(i:Nat) (pa pb ps pt:List Zr),i<=m/\s0 = .int .i64 i/\(pa.map (·.2)=J4 U V1 n i/\pb.map (·.2)=J4 U V2 n i)/\(ps.map (·.2)=(List.range m).map V1/\pt.map (·.2)=(List.range m).map V2)/\OA w.heap.size [((some ⟨x43,0,none⟩,n),pa),((some ⟨x45,0,none⟩,n),pb),((some ⟨x113,0,none⟩,m),ps),((some ⟨x119,0,none⟩,m),pt)] wr/\A4 w wr) (λs0 _=>m-(intOf s0).toNat)
      case atStart =>
       obtain⟨pa,pb,ps,pt,ea,eb,es,et,oa⟩:=HO.out;exact⟨0,pa,pb,ps,pt,B8k _,rfl,⟨ea,eb⟩,⟨es,et⟩,oa,hG⟩
      case round =>
       clear hG HO;obtain⟨i,pa,pb,ps,pt,hi,rfl,hab,hst,hoa,hG⟩:=hrel;obtain⟨u,rfl⟩:=exQ wr;have hB:=Bx.nil u;have hF:=Fr.nil w;have HO:=B8S hoa;have Hab:=B8S hab;have Hst:=B8S hst;clear hoa hab hst;rcases B73 i m with hlt|hge
       ·have hdec:decide ((i:Int)<(m:Int))=true:=by simp;omega
        have him:(i:Int)<(m:Int):=by omega
        have hxn:=HUl.out i hlt;have hqx:=Hus.out i hlt;have hpa:pa.length=n:=by have h9:=B9d List.length Hab.out.1;rw[List.length_map,Y0]at h9;exact h9
        have hpb:pb.length=n:=by have h9:=B9d List.length Hab.out.2;rw[List.length_map,Y0]at h9;exact h9
        have hnA:J4 U V1 n (i+1)=(J4 U V1 n i).set (nx U i) (V1 i):=rfl;have hnB:J4 U V2 n (i+1)=(J4 U V2 n i).set (nx U i) (V2 i):=rfl;obtain⟨p1,hr1⟩:=(HO.out.lz (x:=((some ⟨x113,0,none⟩,m),ps)) (by simp)).read (i:=i) (by show i<(ps.map (·.2)).length;rw[Hst.out.1];simpa using hlt);have e1:gq (orQ ((some ⟨x113,0,none⟩,m),ps)) i=V1 i:=by show gq (ps.map (·.2)) i=_;rw[Hst.out.1];exact S6 _ hlt
        rw[e1]at hr1;simp only[Nat.zero_add]at hr1;obtain⟨X1,hX⟩:∃X,X=nx U i:=⟨_,rfl⟩
        simp only[<-hX]at hxn hqx hnA hnB;obtain⟨E1,hE1⟩:∃E,E=V1 i:=⟨_,rfl⟩
        obtain⟨E2,hE2⟩:∃E,E=V2 i:=⟨_,rfl⟩
        rw[<-hE1]at hnA;rw[<-hE2]at hnB;simp only[<-hE1]at hr1;have hXn:(X1:Int)<(n:Int):=by omega
        have Hqx:=B8S hqx;have Hr1:=B8S hr1;have HE2:=B8S hE2;have HnA:=B8S hnA;have HnB:=B8S hnB;have Hpa:=B8S hpa;have Hpb:=B8S hpb;clear hqx hr1 hnA hnB hpa hpb hX hE1 hE2 e1;refine B8N ?_;refine r0T ?_;refine B8V (rfl) ?_;refine B8U ?_;refine A6 ?_;refine B8N ?_;refine B8v ?_;refine B8N (rdC A8 [] [(0,0),(0,1),(0,2),(0,3),(0,4),(0,5),(0,6),(0,7),(0,8),(0,9)] hB hG λK L hN hL=>?_)
        repeat first|refine gya ?_|refine gyr ?_|refine gna ?_|refine gyb (by(rintro v ⟨hgu,hB,hG,-⟩ N hN;have r:=hB.r;simp only[BxR]at r;have q0:=Hqx.out v hG;(first|obtain⟨-,z1,z2,z3⟩:=Hr1.out v hgu|skip);(first|obtain⟨-,y1,y2,y3⟩:=Hr2.out v hgu|skip);go_simp;exact hN)) ?_
        refine geC hL ?_;clear hB hG hL L;rintro u ⟨hgu,hB,hG,-⟩;have HO2:=B8S (HO.out.grow hgu);clear HO;have HO:=HO2;clear HO2;have hz1:=(Hr1.out _ hgu).1;obtain⟨y0,y1,y2,o0,o1,o2,hfz⟩:=HO.out.spot (j:=X1) (by rw[Hpa.out];exact hxn);clear hgu;refine gtT ?_;clear hN K;clear o0 o1 o2 hfz;generalize hu0:World.setCell (World.setCell (World.setCell u _ _) _ _) _ _=u0;have hu1:C7 u x43 (X1*3) (zL p1 E1)=u0:=hu0;obtain⟨hP1,hP2⟩:=HO.out.putG hG (by rw[Hpa.out];exact hxn) hz1 hu1;have HO2:=B8S hP1.swap;clear hG hB HO hP1 hu1 hu0 hz1;have hG:=hP2;have hB:=Bx.nil u0;have HO:=HO2;clear HO2 hP2;obtain⟨u,rfl⟩:=exQ u0;obtain⟨p2,hr2⟩:=(HO.out.lz (x:=((some ⟨x119,0,none⟩,m),pt)) (by simp)).read (i:=i) (by show i<(pt.map (·.2)).length;rw[Hst.out.2];simpa using hlt);have e2:gq (orQ ((some ⟨x119,0,none⟩,m),pt)) i=E2:=by show gq (pt.map (·.2)) i=_;rw[Hst.out.2,HE2.out];exact S6 _ hlt
        rw[e2]at hr2;simp only[Nat.zero_add]at hr2;have Hr2:=B8S hr2;clear hr2 e2;refine rdC A8 [] [(0,0),(0,1),(0,2),(0,3),(0,4),(0,5),(0,6),(0,7),(0,8),(0,9)] hB hG λK L hN hL=>?_
        repeat first|refine gya ?_|refine gyr ?_|refine gna ?_|refine gyb (by(rintro v ⟨hgu,hB,hG,-⟩ N hN;have r:=hB.r;simp only[BxR]at r;have q0:=Hqx.out v hG;(first|obtain⟨-,z1,z2,z3⟩:=Hr1.out v hgu|skip);(first|obtain⟨-,y1,y2,y3⟩:=Hr2.out v hgu|skip);go_simp;exact hN)) ?_
        refine geC hL ?_;clear hB hG hL L;rintro u ⟨hgu,hB,hG,-⟩;have HO2:=B8S (HO.out.grow hgu);clear HO;have HO:=HO2;clear HO2;have hz2:=(Hr2.out _ hgu).1;obtain⟨y0,y1,y2,o0,o1,o2,hfz⟩:=HO.out.spot (j:=X1) (by rw[Hpb.out];exact hxn);clear hgu;refine gt ?_;clear hN K;clear o0 o1 o2 hfz;generalize hu0:World.setCell (World.setCell (World.setCell u _ _) _ _) _ _=u0;have hu1:C7 u x45 (X1*3) (zL p2 E2)=u0:=hu0;obtain⟨hP1,hP2⟩:=HO.out.putG hG (by rw[Hpb.out];exact hxn) hz2 hu1;have HO2:=B8S hP1.swap;clear hG hB HO hP1 hu1 hu0 hz2;have hG:=hP2;have hB:=Bx.nil u0;have HO:=HO2;clear HO2 hP2;obtain⟨u,rfl⟩:=exQ u0;refine C8 ?_;refine A6 ?_;refine r0E ?_;refine A6 ?_;go_roundw
        case rel=>exact⟨i+1,pa.set X1 (p1,E1),pb.set X1 (p2,E2),ps,pt,by omega,by go_num,⟨by rw[List.map_set,Hab.out.1,HnA.out],by rw[List.map_set,Hab.out.2,HnB.out]⟩,Hst.out,HO.out,hG⟩
        case measure=>simp[intOf];omega
       ·obtain rfl:m=i:=by omega
        have hdec:decide ((m:Int)<(m:Int))=false:=by simp
        refine B8N ?_;refine r0T ?_;refine B8T (rfl) ?_;refine B8x ?_;refine B7 ?_;refine B7 ?_;refine D0 ?_;refine A6 ?_;refine r0T ?_;refine rt Tryz.results72 ?_;exact⟨(x43,x45),rfl,⟨by have h8:=HO.out.lz (x:=((some ⟨x43,0,none⟩,n),pa)) (by simp);unfold orQ at h8;rw[Hab.out.1,<-HFe.out]at h8;exact h8,by have h8:=HO.out.lz (x:=((some ⟨x45,0,none⟩,n),pb)) (by simp);unfold orQ at h8;rw[Hab.out.2,<-HGe.out]at h8;exact h8⟩,HGA.out.trans hG⟩
end Go.Proofs.YtgpglgbcobeogaaGreatDoor
