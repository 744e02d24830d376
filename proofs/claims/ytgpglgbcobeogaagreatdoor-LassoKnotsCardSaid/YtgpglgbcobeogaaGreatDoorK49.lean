import Derived.Test.YtgpglgbcobeogaaGreatDoorK48
set_option linter.unusedSimpArgs false
set_option linter.unusedVariables false
set_option maxHeartbeats 16000000
set_option maxRecDepth 100000
namespace Go.Proofs.YtgpglgbcobeogaaGreatDoor
open Go Go.RowKit
theorem B10{X:List (List Rat)}{N L:Nat}(hF:A2W X N L)(y:List Rat){j:Nat}(hj:j<L):gq (X9 X y (N6 X y N L 0) N L) j=0:=by
 have h:=B0d hF y (a:=0) C1g j hj;rw[<-A7i X y _ N L hj]at h;rcases A8D h with⟨-,h⟩|⟨-,h⟩|⟨-,h⟩
 ·exact h
 ·grind
 ·rcases A0y (gq (X9 X y (N6 X y N L 0) N L) j)with⟨h1,h2⟩|⟨h1,h2⟩<;>grind
def upK(l:List Kn)(i j c:Nat)(a b:Nat):Rat:=D5 (C4 (gq (knW l i) c) (gq (knW l j) c)) (C4 (knQ l a) (knQ l b))
theorem B50 (A : Option Addr) (la : List Int) (ca : Nat) (B : Option Addr) (lb : List Int) (cb : Nat) (n wd : Int) (hla : la.length ≤ 9223372036854775807) (hac : la.length ≤ ca) (hba : ∀ x ∈ la, -9223372036854775808 ≤ x ∧ x ≤ 9223372036854775807) (hlb : lb.length ≤ 9223372036854775807) (hbb : ∀ x ∈ lb, -9223372036854775808 ≤ x ∧ x ≤ 9223372036854775807) (lo2 : -9223372036854775808 ≤ n) (hi2 : n ≤ 9223372036854775807) (lo3 : -9223372036854775808 ≤ wd) (hi3 : wd ≤ 9223372036854775807)
    (w:World) (h1:Li w A la) (h2:Li w B lb) (HT:Tab w) :
    Calls Tryz.prog 8 #[.slice A la.length ca,.slice B lb.length cb,.int .i64 n,.int .i64 wd] w λe w'=>e = .returned (.bool true)/\A4 w w':=by
  clear lo2 hi2 lo3 hi3;obtain⟨pa,hpa⟩:∃p,p=la.length:=⟨_,rfl⟩
  obtain⟨pb,hpb⟩:∃p,p=lb.length:=⟨_,rfl⟩
  rw[<-hpa]at hac⊢;rw[<-hpb];have hBB:1000000000000<=BIG:=by unfold BIG;omega
  have rN:=A2N n (m:=5) (by omega);have rL:=A2N wd (m:=3) (by omega);have hp1:=λW=>A2l n 5 (by omega) (by omega) W;obtain⟨y1,hy1⟩:∃y,y=K8 n 5:=⟨_,rfl⟩
  rw[<-hy1]at rN;simp only[<-hy1]at hp1;obtain⟨N,hN⟩:∃N:Nat,y1+1=(N:Int):=⟨(y1+1).toNat,by omega⟩
  have fy1:IntKind.i64.wrap (y1+1)=(N:Int):=by rw[C0A _ (by omega)];exact hN
  obtain⟨Lw,hLw⟩:∃Lw:Nat,K8 wd 3+1=(Lw:Int):=⟨(K8 wd 3+1).toNat,by omega⟩
  have hN1:1<=N:=by omega
  have hN5:N<=5:=by omega
  have hL1:1<=Lw:=by omega
  have hL3:Lw<=3:=by omega
  have hpN:K8 (N:Int) 6=(N:Int):=Int.emod_eq_of_lt (by omega) (by omega);have hd:=λW (hg:A4 w W)=>B1l A B la lb ca cb pa pb N Lw N (N:Int) wd 0 hpa hac hpb (by omega) (by omega) hba hbb hpN hLw (by rw[if_neg (by decide)]) W (h1.grow hg) (h2.grow hg);have lY:=A8b lb N;have sY:=B0B lb N;generalize S3 lb N=Y at *;have hir:∀(W:World) (X:Ax) (rs:List Rq),A2P N Lw rs->Lrz W X.1 rs->Tab W->Calls Tryz.prog 15 #[.slice X.1 N X.2] W (G5 (λx:Ax×List Rq=>.slice x.1.1 N x.1.2) (λx W'=>x.2.map (·.2.2)=rs.map (·.2.2)/\Lrq W' x.1.1 x.2) W):=λW X rs hk hX hT =>
    (B4w X.1 rs X.2 N hk.1.symm (by omega) (λr hr=>⟨by have:=(hk.2 r hr).1;omega,λx hx=>B9l ((hk.2 r hr).2 x hx) (by omega)⟩) W hX hT).mono λe w' ⟨v,rs',he,e1,e2,e3,hg'⟩=>by
      obtain⟨A2,c2,rfl,-,hLw,-⟩:=B9A e3 e2;exact⟨((A2,c2),rs'),he,⟨e1,hLw⟩,hg'⟩
  have hip:∀(m:Nat) (P:List Rat),m<=20->P.length=m->(∀x∈P,qs x<=20)->∀(W:World) (X:Ax),Lz W X.1 P->Tab W->Calls Tryz.prog 16 #[.slice X.1 m X.2] W (G5 (λx:Ax=>.slice x.1 m x.2) (λx W=>Lq W x.1 P) W):=λm P hm hP hs W X hX hT =>
    (B4x X.1 P X.2 m hP.symm (by omega) (λx hx=>B9l (hs x hx) (by omega)) W hX hT).mono λe w' ⟨A',c',he,h,hg'⟩=>⟨(A',c'),he,h,hg'⟩
  have hyz:∀i,i<N->qs (gq Y i)<=5:=λi hi=>sY _ (A4B (by omega));have hiy:=hip N Y (by omega) lY (λx hx=>B9l (sY x hx) (by omega));have Hd:=B9t hd;have Hp1:=B9t hp1;have Hir:=B9t hir;have Hiy:=B9t hiy;have HY:=B9t (And.intro lY hyz);clear hd hp1 hir hip hiy lY sY hyz hpN hLw hN hy1 rN rL h1 h2 hba hbb hpa hpb hla hlb hac;go_enter Tryz.func8,Tryz.ntmps8;refine en0 ?_;intro u hG hB hF;refine B9o (rsE H7 [0,0,0,1,0,0,1,0,0,0,0,0] hB hG λL hL=>?_);refine gs ?_;refine gmw (C:=λv=>Hp1.out _) ?_;refine gs ?_;refine gxd (X:=((Ax×Ax)×List Rq)) (λx:(Ax×Ax)×List Rq=>.tuple #[.slice x.1.1.1 N x.1.1.2,.slice x.1.2.1 N x.1.2.2]) (λx W=>(A2P N Lw x.2/\Lrz W x.1.1.1 x.2)/\Lz W x.1.2.1 Y) (λx u u' hg h=>⟨⟨h.1.1,h.1.2.grow hg⟩,Lz.grow h.2 hg⟩) (λx33=>?_) (C:=by(rintro v ⟨hgu,hB,hG,-⟩;exact Hd.out _ hG));refine gs ?_;refine geT hL ?_;clear hB hG hL L;rintro u ⟨⟨hgu,hB,hG,-⟩,hx33⟩;have HX:=B9t hx33;clear hx33;clear hgu;have HG0:=B9t hG;clear hB hF hG;obtain⟨w0,rfl⟩:=exQ w;obtain⟨w,hwu⟩:=exQ u;rw[<-hwu]at HG0 HX;have hB:=Bx.nil u;have hF:=Fr.nil w;have hG:A4 w u:=hwu ▸ A4.refl u;clear hwu;obtain⟨⟨⟨RA,RC⟩,⟨YA,YC⟩⟩,rs⟩:=x33;obtain⟨⟨hok,hLx⟩,hLy⟩:=HX.out;simp only at hok hLx hLy;obtain⟨R,hR⟩:∃R,R=rs.map (·.2.2):=⟨_,rfl⟩
  have hRn:R.length=N:=by rw[hR,List.length_map];exact hok.1
  have hRl:∀r∈R,r.length=Lw:=λr hr=>by
    rw[hR]at hr;obtain⟨z,hz,rfl⟩:=List.mem_map.1 hr;exact(hok.2 z hz).1
  have hRz:∀i,i<N->∀j,j<Lw->qs (gq (B7 R i) j)<=5:=λi hi j hj=>by rw[hR];exact B3p hok i hi j hj
  have hin:=λW (hg:A4 w W) hT=>Hir.out W (RA,RC) rs hok (hLx.grow hg) hT;simp only[<-hR]at hin;obtain⟨bb,ob,P0,eA,hP0⟩:=B6x hok.1 (λr hr=>(hok.2 r hr).1) hLx (i:=0) (by omega);have hr0:=λW hg=>(hP0.1 W hg).1;simp only[Nat.add_zero]at hr0;subst eA;have hNi:(0:Int)<(N:Int):=by omega
  have hNn:0<N:=by omega
  have HGa:=B9t HG0.out;have HT':=HT.grow HG0.out;have Hin:=B9t hin;have Hr0:=B9t hr0;have HLY:=B9t (λW (hg:A4 w W)=>hLy.grow hg);have HRR:=B9t (And.intro hRn (And.intro hRl hRz));clear HX Hd Hir hok hLx hLy hR hRn hRl hRz hin hr0 hP0 HT HG0;have HT:=HT';clear HT';refine B9o (rsE H7 [0,1,0,1,0,0] hB hG λL hL=>?_);refine gs ?_;refine gxd (X:=(Ax×List Rq)) (λx:Ax×List Rq=>.slice x.1.1 N x.1.2) (λx W=>x.2.map (·.2.2)=R/\Lrq W x.1.1 x.2) (λx u u' hg h=>⟨h.1,h.2.grow hg⟩) (λx37=>?_) (C:=by(rintro v ⟨hgu,hB,hG,-⟩;exact Hin.out _ hG (HT.grow hG)));refine gs ?_;refine gxd (X:=Ax) (λx:Ax=>.slice x.1 N x.2) (λx W=>Lq W x.1 Y) (λx u u' hg h=>Lq.grow h hg) (λx39=>?_) (C:=by(rintro v ⟨⟨hgu,hB,hG,-⟩,hx37⟩;exact Hiy.out _ (YA,YC) (HLY.out _ hG) (HT.grow hG)));refine gs ?_;refine geT hL ?_;clear hB hG hL L;rintro u ⟨⟨⟨hgu,hB,hG,-⟩,hx37⟩,hx39⟩;have HX:=B9t (And.intro hx37 hx39);clear hx37 hx39;clear hgu;have HG0:=B9t hG;clear hB hF hG;obtain⟨w0,rfl⟩:=exQ w;obtain⟨w,hwu⟩:=exQ u;rw[<-hwu]at HG0 HX;have hB:=Bx.nil u;have hF:=Fr.nil w;have hG:A4 w u:=hwu ▸ A4.refl u;clear hwu;obtain⟨⟨XA,XC⟩,rsq⟩:=x37;obtain⟨YQ,YK⟩:=x39;have hxr:=HX.out.1.1;have hxl:=HX.out.1.2;have hyl:=HX.out.2;simp only at hxr hxl hyl;have hpa:=λW (hg:A4 w W) (hT:Tab W)=>B73 HRR.out.1 HRR.out.2.1 hN1 (by omega) hL1 hL3 HRR.out.2.2 HY.out.1 HY.out.2 W (XA,XC) (YQ,YK) rsq hxr (hxl.grow hg) (hyl.grow hg) hT;have hcase:(rkR R N Lw=Lw/\lsE R N Lw=0/\A2U R Y N Lw=I8 R Y N Lw)\/(lsE R N Lw=9/\A2U R Y N Lw=[]):=by
    unfold lsE A2U;by_cases hk:rkR R N Lw=Lw
    · left;rw[if_pos hk,if_pos hk];exact⟨hk,rfl,rfl⟩
    · right;rw[if_neg hk,if_neg hk];exact⟨rfl,rfl⟩
  obtain⟨ke,hke⟩:∃x,x=lsE R N Lw:=⟨_,rfl⟩
  obtain⟨PV,hPV⟩:∃x,x=A2U R Y N Lw:=⟨_,rfl⟩
  rw[<-hke,<-hPV]at hcase;simp only[<-hke,<-hPV]at hpa;obtain⟨kl,hkl⟩:=exQ PV.length;rw[<-hkl]at hpa;have Hpa:=B9t hpa;have Hcase:=B9t hcase;have Hkl:=B9t hkl;have HGb:=B9t (HGa.out.trans HG0.out);have HT':=HT.grow HG0.out;have HGr:=B9t HG0.out;have HXY:=B9t (And.intro hxr (And.intro hxl hyl));clear HX hxr hxl hyl hpa hcase hkl hke hPV HT HG0 HGa Hiy HLY Hin;have HT:=HT';clear HT';refine B9o (rsE H7 [0,0,1,0,0,0,0,0] hB hG λL hL=>?_);refine gs ?_;refine gxd (X:=(Ax×List Kq)) (λx:Ax×List Kq=>.tuple #[.slice x.1.1 kl x.1.2,.int .i64 ke]) (λx W=>Lk W x.1.1 x.2/\x.2.map F7=PV) (λx u u' hg h=>⟨h.1.grow hg,h.2⟩) (λx43=>?_) (C:=by(rintro v ⟨hgu,hB,hG,-⟩;exact Hpa.out _ hG (HT.grow hG)));refine gs ?_;refine geT hL ?_;clear hB hG hL L;rintro u ⟨⟨hgu,hB,hG,-⟩,hx43⟩;have HX:=B9t hx43;clear hx43;clear hgu;have HG0:=B9t hG;clear hB hF hG;obtain⟨w0,rfl⟩:=exQ w;obtain⟨w,hwu⟩:=exQ u;rw[<-hwu]at HG0 HX;have hB:=Bx.nil u;have hF:=Fr.nil w;have hG:A4 w u:=hwu ▸ A4.refl u;clear hwu;obtain⟨⟨KA,KC⟩,ks⟩:=x43;have HGc:=B9t (HGb.out.trans HG0.out);have HGs:=B9t (HGr.out.trans HG0.out);have HT':=HT.grow HG0.out;have HG1:=B9t HG0.out;clear HT HG0 HGb HGr Hpa;have HT:=HT';clear HT';rcases Hcase.out with⟨hk,e0,eP⟩|⟨e0,eP⟩
  · subst e0
    have hkk:=HX.out.2;have hkL:=HX.out.1;simp only at hkk hkL;have hlen:ks.length=kl:=by rw[Hkl.out,<-hkk,List.length_map]
    have hG70:=A9t (N:=N) (L:=Lw) (by omega) HRR.out.2.2;have hP70:=A9Q (N:=N) (L:=Lw) (by omega) HRR.out.2.2 HY.out.2;have hpz:=B3u (by omega) (by omega) hG70 hP70;have hb3:=(A9S hL3).2;have h40:40*(70*10^(Lw+1))<=42000000:=by omega
    rw[<-eP]at hpz;have hkl1:1<=kl:=by rw[Hkl.out,eP];exact A3b.1
    have hkm:kl<=1000:=by rw[Hkl.out,eP];exact B9l A3b.2.1 (B2V (by omega))
    have hpf:=B4J (X:=R) (y:=Y) (N:=N) (L:=Lw);rw[<-eP,<-Hkl.out]at hpf;have hkw:∀t,t<kl->knW PV t=N6 R Y N Lw (knQ PV t):=λt ht=>by
      obtain⟨-,-,-,-,e,-⟩:=A42 (X:=R) (y:=Y) (N:=N) (L:=Lw) (t:=t) (by rw[<-eP,<-Hkl.out];exact ht);rw[eP];exact e
    have htn:∀t,1<=t->t+1<kl->∃c,c<Lw/\upK PV t (t-1) c t (t+1)≠upK PV (t+1) t c (t-1) t:=λt h1 h2=>by
      have h:=B7c hk (y:=Y) h1 (by rw[<-eP,<-Hkl.out];exact h2);rw[<-eP]at h;exact h
    obtain⟨bk,ok,P00,eK,-⟩:=hkL.at (i:=0) (by omega);subst eK;have hkr:∀t,t<kl->∃(bw ow cw:Nat),∀W,A4 w W->(Cq W bk (ok+t*6) (knQ PV t)/\W.cell? ⟨bk,ok+t*6+5,none⟩=some (.slice (some ⟨bw,ow,none⟩) Lw cw))/\∀c,c<Lw->Cq W bw (ow+c*5) (gq (knW PV t) c):=λt ht=>by
      obtain⟨b',o',⟨P1,P2⟩,e,hat⟩:=hkL.at (i:=t) (by omega);cases e;rw[hkk]at hat;have hl:(knW PV t).length=Lw:=by rw[hkw t ht];exact A41 _ _ _ _ _
      rw[hl]at hat;obtain⟨bw,ow,e2⟩:=(hat w (A4.refl w)).2.addr (by omega);simp only at e2;subst e2;exact⟨bw,ow,P2,λW hg=>⟨(hat W hg).1,λc hc=>(hat W hg).2.read (by omega)⟩⟩
    have hqz:∀t,t<kl->qs (knQ PV t)<=42000000/\∀c,qs (gq (knW PV t) c)<=42000000:=λt ht=>⟨B9l (hpz t (by rw[<-Hkl.out];exact ht)).1 h40,λc=>B9l ((hpz t (by rw[<-Hkl.out];exact ht)).2 c) hb3⟩
    have hrn:rsq.length=N:=by rw[<-HRR.out.1,<-HXY.out.1];simp
    have hrl:∀r∈rsq,r.2.2.length=Lw:=λr h'=>HRR.out.2.1 _ (by rw[<-HXY.out.1];exact List.mem_map.2 ⟨r,h',rfl⟩);have hrz:∀(m:Nat),5<=m->∀i,i<N->∀j,j<Lw->qs (gq (B7 (rsq.map (·.2.2)) i) j)<=m:=λm hm i hi j hj=>by rw[HXY.out.1];exact B9l (HRR.out.2.2 i hi j hj) hm
    have hyz7:∀(m:Nat),5<=m->∀i,i<N->qs (gq Y i)<=m:=λm hm i hi=>B9l (HY.out.2 i hi) hm;have htp:=λW (hg:A4 w W) (hT:Tab W)=>A3c XA YQ rsq Y N Lw XC YK hrn hN1 (by omega) hrl HY.out.1 hL1 (by omega) 5 (by omega) (by omega) (hrz 5 (by omega)) (hyz7 5 (by omega)) W (HXY.out.2.1.grow (HG1.out.trans hg)) (HXY.out.2.2.grow (HG1.out.trans hg)) hT;rw[HXY.out.1]at htp;have hv0:=A41 R Y N Lw 0;have hvz:=B5G (R:=R) (y:=Y) (a:=0) hN5 hL3 (λi hi j hj=>B9l (HRR.out.2.2 i hi j hj) (by omega)) (λi hi=>B9l (HY.out.2 i hi) (by omega)) (by decide);obtain⟨kl1,hkl1e⟩:∃x,x=kl-1:=⟨_,rfl⟩
    have hk1:kl1<kl:=by omega
    have e1:=hpf.2;rw[<-hkl1e]at e1;have hwl:knW PV kl1=N6 R Y N Lw 0:=by rw[hkw kl1 hk1,e1]
    have hpu:=λ(V:Ax) W (hg:A4 w W) (hT:Tab W) (hV:Lq W V.1 (N6 R Y N Lw 0))=>A8S XA YQ V.1 rsq Y _ N Lw XC YK V.2 hrn hN1 (by omega) hrl HY.out.1 hv0 hL1 (by omega) 10000000 (by omega) (hrz _ (by omega)) (hyz7 _ (by omega)) hvz W (HXY.out.2.1.grow (HG1.out.trans hg)) (HXY.out.2.2.grow (HG1.out.trans hg)) hV hT;rw[HXY.out.1]at hpu;obtain⟨Z0,hZ0⟩:∃x:Rat,x=0:=⟨0,rfl⟩
    have hpl0:∀c,c<Lw->gq (X9 R Y (N6 R Y N Lw 0) N Lw) c=Z0:=λc hc=>(B10 hk Y hc).trans hZ0.symm;have hpll:=A8P R Y (N6 R Y N Lw 0) N Lw;obtain⟨PL,hPL⟩:∃x,x=X9 R Y (N6 R Y N Lw 0) N Lw:=⟨_,rfl⟩
    rw[<-hPL]at hpl0 hpll;simp only[<-hPL]at hpu;have hw0:∀c,c<Lw->gq (knW PV 0) c=Z0:=λc hc=>by rw[hkw 0 (by omega),hpf.1,hZ0];exact B2p hk C1g c hc
    obtain⟨tp,htpe⟩:∃x,x=J5 R Y N Lw:=⟨_,rfl⟩
    have e0:=hpf.1;rw[<-htpe]at e0;simp only[<-htpe]at htp;have ztp:qs tp<=42000000:=by rw[<-e0];exact(hqz 0 (by omega)).1
    have hcm:=λW=>A1A tp tp W (by omega);have hc0:H6 tp tp=0:=B1b.2 rfl;rw[hc0]at hcm;have hsg0:=λW=>S8 Z0 (by rw[hZ0];decide) W;have hsz0:Z0.num.sign=0:=by rw[hZ0];decide
    rw[hsz0]at hsg0;obtain⟨bl,ol,cl,hrl1⟩:=hkr kl1 hk1;rw[e1,<-hZ0]at hrl1;obtain⟨bf,of0,cf,hrf⟩:=hkr 0 (by omega);rw[e0,C0J,Nat.add_zero]at hrf;have hlast:∀W,A4 w W->Lq W (some ⟨bl,ol,none⟩) (N6 R Y N Lw 0):=λW hg=>by
      obtain⟨b',o',P,e,hat⟩:=hkL.at (i:=kl1) (by omega);cases e;rw[hkk]at hat;have h5:=(hat W hg).1.2;rw[(hrl1 W hg).1.2]at h5;injection h5 with h5;injection h5 with h6 _ _;rw[h6,<-hwl];exact(hat W hg).2
    have f69:decide ((kl:Int)<1)=false:=by simp;omega
    have f69n:decide (kl=0)=false:=by simp;omega
    have fk1:IntKind.i64.wrap ((kl:Int)-1)=(kl1:Int):=by rw[C0A _ (by omega)];omega
    have hk1i:(kl1:Int)<(kl:Int):=by omega
    have hk0i:(0:Int)<(kl:Int):=by omega
    have hk0n:0<kl:=by omega
    have Hkr:=B9t hkr;have Hqz:=B9t hqz;have Htn:=B9t htn;have Htp:=B9t htp;have Hpu:=B9t hpu;have Hpl0:=B9t (And.intro hpl0 hpll);have Hw0:=B9t hw0;have Hcm:=B9t hcm;have Hsg0:=B9t hsg0;have Hrl:=B9t hrl1;have Hrf:=B9t hrf;have Hlast:=B9t hlast;have Hk1e:=B9t hkl1e;clear hk eP hkk hkL hlen hG70 hP70 hpz hb3 h40 hpf hkw htn hkr hqz hrn hrl hrz hyz7 htp hv0 hvz e1 e0 hwl hpu hpl0 hpll hPL hw0 htpe ztp hcm hc0 hsg0 hsz0 hrl1 hrf hlast hkl1e hZ0 HX Hcase;refine B9o (rsC H7 [0,0,1,0,0,0,2] hB hG λK L hN hL=>?_);refine gs ?_;refine gmd (C:=λv ⟨hgu,hB,hG,_⟩=>Htp.out _ hG (HT.grow hG)) ?_;refine gs ?_;refine gaa (J3 _ _ _ _ _) λb15 hb15 hn15=>?_;replace hF:=hF.n1 [] hB hG hb15 hn15;refine geC hL ?_;clear hB hG hL L;rintro u ⟨⟨-,hB,hG,-⟩,h15⟩;replace hB:=hB.cons' h15;clear h15;clear hb15 hn15;refine gtT ?_;clear hN K;refine st hB hF hG 0 0 [_,_,_,_,_] ?_;clear hB hG;intro u hB hG;refine B9o ?_;refine r0T ?_;refine B9u (rfl) ?_;refine B9v ?_;refine A6 ?_;refine B9o ?_;refine r0T ?_;refine B9u (rfl) ?_;refine B9v ?_;refine A6 ?_;refine B9o (rsC H7 [0,0,0,0,0,0,2] hB hG λK L hN hL=>?_)
    repeat first|refine gya ?_|refine gyr ?_|refine gna ?_|refine gyb (by(rintro v ⟨hgu,hB,hG,-⟩ N hN;have r:=hB.r;simp only[BxR]at r;(first|(obtain⟨⟨⟨y1,y2,y3,y4,y5⟩,y6⟩,-⟩:=Hrl.out v hG)|skip);(first|(obtain⟨⟨⟨z1,z2,z3,z4,z5⟩,z6⟩,-⟩:=Hrf.out v hG)|skip);go_simp;exact hN)) ?_
    refine gaa (A29 _ _ _ _ _) λb17 hb17 hn17=>?_;replace hF:=hF.n1 [] hB hG hb17 hn17;refine geC hL ?_;clear hB hG hL L;rintro u ⟨⟨-,hB,hG,-⟩,h17⟩;replace hB:=hB.cons' h17;clear h17;clear hb17 hn17;refine gtT ?_;clear hN K;refine st hB hF hG 0 0 [_,_,_,_,_,_] ?_;clear hB hG;intro u hB hG;refine B9o (rsE H7 [0,0,0,0,1,0,0,0,0,0] hB hG λL hL=>?_)
    repeat first|refine gya ?_|refine gyr ?_|refine gna ?_|refine gyb (by(rintro v ⟨hgu,hB,hG,-⟩ N hN;have r:=hB.r;simp only[BxR]at r;(first|(obtain⟨⟨⟨y1,y2,y3,y4,y5⟩,y6⟩,-⟩:=Hrl.out v hG)|skip);(first|(obtain⟨⟨⟨z1,z2,z3,z4,z5⟩,z6⟩,-⟩:=Hrf.out v hG)|skip);go_simp;exact hN)) ?_
    refine gxd (X:=Ax) (λx:Ax=>.tuple #[.slice x.1 Lw x.2,.int .i64 0]) (λx W=>Lq W x.1 PL) (λx u u' hg h=>Lq.grow h hg) (λx81=>?_) (C:=by(rintro v ⟨hgu,hB,hG,-⟩;exact Hpu.out (some ⟨bl,ol,none⟩,cl) _ hG (HT.grow hG) (Hlast.out _ hG)));refine gs ?_;refine geT hL ?_;clear hB hG hL L;rintro u ⟨⟨hgu,hB,hG,-⟩,hx81⟩;have HP:=B9t hx81;clear hx81;obtain⟨w10,hw10⟩:=exQ u;rw[<-hw10]at HP;have hg10:A4 w10 u:=hw10 ▸ A4.refl u;clear hw10;clear hgu;refine B9o ?_;refine B9o (rdC H7 [] [(0,0),(0,1),(0,2),(0,3),(0,4),(1,5),(0,6),(0,7),(0,8),(0,9),(1,10),(0,11),(0,12),(0,13),(0,14),(0,15)] hB hG λK L hN hL=>?_)
    repeat first|refine gya ?_|refine gyr ?_|refine gna ?_|refine gyb (by(rintro v ⟨hgu,hB,hG,-⟩ N hN;have r:=hB.r;simp only[BxR]at r;(first|(obtain⟨⟨⟨y1,y2,y3,y4,y5⟩,y6⟩,-⟩:=Hrl.out v hG)|skip);(first|(obtain⟨⟨⟨z1,z2,z3,z4,z5⟩,z6⟩,-⟩:=Hrf.out v hG)|skip);go_simp;exact hN)) ?_
    refine gmw (C:=λv=>Hcm.out _) ?_
    repeat first|refine gya ?_|refine gyr ?_|refine gna ?_|refine gyb (by(rintro v ⟨hgu,hB,hG,-⟩ N hN;have r:=hB.r;simp only[BxR]at r;(first|(obtain⟨⟨⟨y1,y2,y3,y4,y5⟩,y6⟩,-⟩:=Hrl.out v hG)|skip);(first|(obtain⟨⟨⟨z1,z2,z3,z4,z5⟩,z6⟩,-⟩:=Hrf.out v hG)|skip);go_simp;exact hN)) ?_
    first|refine gmw (C:=λv=>Hsg0.out _) ?_|refine N0 ?_
    refine gs ?_;refine geC hL ?_;clear hB hG hL L;rintro u ⟨hgu,hB,hG,-⟩;replace hg10:=hg10.trans hgu;clear hgu;refine gtT ?_;clear hN K;refine B9u (rfl) ?_;refine B9v ?_;refine A6 ?_;refine B9o ?_;refine B9o ?_;have HP2:=B9t (HP.out.grow hg10);clear HP hg10;refine r0N ?_;have HG0:=B9t hG;clear hB hF hG;obtain⟨w0,rfl⟩:=exQ w;obtain⟨w,hwu⟩:=exQ u;rw[<-hwu]at HG0 HP2;have hB:=Bx.nil u;have hF:=Fr.nil w;have hG:A4 w u:=hwu ▸ A4.refl u;clear hwu;have HGd:=B9t (HGc.out.trans HG0.out);have HGe:=B9t HG0.out;have HT':=HT.grow HG0.out;have HGt:=B9t (HGs.out.trans HG0.out);obtain⟨XP,XPc⟩:=x81;obtain⟨bp,op,eP⟩:=HP2.out.addr (by rw[Hpl0.out.2];omega);simp only at eP;subst eP;have hpr:∀c,c<Lw->∀W,A4 w W->Cq W bp (op+c*5) Z0:=λc hc W hg=>by
      have h:=(HP2.out.grow hg).read (i:=c) (by rw[Hpl0.out.2];exact hc);rw[Hpl0.out.1 c hc]at h;exact h
    have hf0:∀c,c<Lw->∀W,A4 w W->Cq W bf (of0+c*5) Z0:=λc hc W hg=>by
      have h:=(Hrf.out W (HGe.out.trans hg)).2 c hc;rw[Hw0.out c hc]at h;exact h
    have Hpr:=B9t hpr;have Hf0:=B9t hf0;clear HT HG0 HGc HGs HP2 hpr hf0;have HT:=HT';clear HT';refine C0M ?_;clear hB hF;go_loopw [20] (λs0 wr=>∃(c:Nat),c<=Lw/\s0 = .int .i64 c/\A4 w wr) (λs0 _=>Lw-(intOf s0).toNat)
    case atStart=>exact⟨0,C0B _,rfl,hG⟩
    case round =>
      clear hG;obtain⟨c,hc,rfl,hG⟩:=hrel;obtain⟨u,rfl⟩:=exQ wr;have hB:=Bx.nil u;have hF:=Fr.nil w;rcases B9U c Lw with hlt|hge
      · have hdec:decide ((c:Int)<(Lw:Int))=true:=by simp;omega
        have hin:(c:Int)<(Lw:Int):=by omega
        have hrd:=λW (hg:A4 w W)=>And.intro (Hpr.out c hlt W hg) (And.intro (Hf0.out c hlt W hg) (Hrf.out W (HGe.out.trans hg)).1.2);have Hrd:=B9t hrd;clear hrd;refine B9o ?_;refine B9o ?_
        (first|have q0:=Hr0.out u (HGt.out.trans hG)|skip)
        refine r0N ?_;refine B9w (rfl) ?_;refine B9v ?_;refine A6 ?_;refine B9o ?_;refine C0M ?_;refine B9o (rsE H7 [0,0,0,0,0,0,0,1,0,0,0,0,0,0,1,0,0] hB hG λL hL=>?_)
        repeat first|refine gya ?_|refine gyr ?_|refine gna ?_|refine gyb (by(rintro v ⟨hgu,hB,hG,-⟩ N hN;have r:=hB.r;simp only[BxR]at r;(first|have q0:=Hr0.out v (HGt.out.trans hG)|skip);obtain⟨⟨y1,y2,y3,y4,y5⟩,⟨z1,z2,z3,z4,z5⟩,z6⟩:=Hrd.out v hG;go_simp;exact hN)) ?_
        refine gmw (C:=λv=>Hsg0.out _) ?_
        repeat first|refine gya ?_|refine gyr ?_|refine gna ?_|refine gyb (by(rintro v ⟨hgu,hB,hG,-⟩ N hN;have r:=hB.r;simp only[BxR]at r;(first|have q0:=Hr0.out v (HGt.out.trans hG)|skip);obtain⟨⟨y1,y2,y3,y4,y5⟩,⟨z1,z2,z3,z4,z5⟩,z6⟩:=Hrd.out v hG;go_simp;exact hN)) ?_
        first|refine gmw (C:=λv=>Hsg0.out _) ?_|refine N0 ?_
        refine gs ?_;refine geT hL ?_;clear hB hG hL L;rintro u ⟨-,hB,hG,-⟩;refine B9u (rfl) ?_;refine B9v ?_;refine C7 ?_;refine A6 ?_;refine r0E ?_;refine A6 ?_;go_roundw
        case rel=>exact⟨c+1,by omega,by go_num,hG⟩
        case measure=>simp[intOf];omega
      · obtain rfl:Lw=c:=by omega
        have hdec:decide ((Lw:Int)<(Lw:Int))=false:=by simp
        refine B9o ?_;refine B9o ?_
        (first|have q0:=Hr0.out u (HGt.out.trans hG)|skip)
        refine r0N ?_;refine B9u (rfl) ?_;refine C0O ?_;refine B9 ?_;refine B9 ?_;refine E3 ?_;refine A6 ?_;refine B9o ?_;refine r0T ?_;refine C0M ?_;clear hB hF;go_loopw [21] (λs0 wr=>∃(i:Nat),1<=i/\i<=kl/\s0 = .int .i64 i/\A4 w wr) (λs0 _=>kl-(intOf s0).toNat)
        case atStart=>exact⟨1,K2 _,hkl1,rfl,hG⟩
        case round =>
          clear hG;obtain⟨i,hi1,hik,rfl,hG⟩:=hrel;obtain⟨u,rfl⟩:=exQ wr;have hB:=Bx.nil u;have hF:=Fr.nil w;obtain⟨i2,hi2⟩:∃x,x=i+1:=⟨_,rfl⟩
          have fi2:IntKind.i64.wrap ((i:Int)+1)=(i2:Int):=by rw[C0A _ (by omega)];omega
          rcases B9U i2 kl with hlt|hge
          · have hdec:decide ((i2:Int)<(kl:Int))=true:=by simp;omega
            have hi2i:(i2:Int)<(kl:Int):=by omega
            have hii:(i:Int)<(kl:Int):=by omega
            obtain⟨i0,hi0⟩:∃x,x=i-1:=⟨_,rfl⟩
            have fi0:IntKind.i64.wrap ((i:Int)-1)=(i0:Int):=by rw[C0A _ (by omega)];omega
            have hi0i:(i0:Int)<(kl:Int):=by omega
            have htn:=Htn.out i hi1 (by omega);rw[<-hi0,<-hi2]at htn;obtain⟨b1,o1,c1,hr1⟩:=Hkr.out i (by omega);obtain⟨b2,o2,c2,hr2⟩:=Hkr.out i2 hlt;obtain⟨b0,o0,c0,hr0⟩:=Hkr.out i0 (by omega);obtain⟨zq1,zw1⟩:=Hqz.out i (by omega);obtain⟨zq2,zw2⟩:=Hqz.out i2 hlt;obtain⟨zq0,zw0⟩:=Hqz.out i0 (by omega);have hs1:=λW hT=>A09 (knQ PV i) (knQ PV i2) W (by omega) hT;have hs2:=λW hT=>A09 (knQ PV i0) (knQ PV i) W (by omega) hT;have zs1:=A0G (knQ PV i) (knQ PV i2);have zs2:=A0G (knQ PV i0) (knQ PV i);have hrd:∀c,c<Lw->∀W,A4 w W->((Cq W bk (ok+i*6) (knQ PV i)/\W.cell? ⟨bk,ok+i*6+5,none⟩=some (.slice (some ⟨b1,o1,none⟩) Lw c1))/\Cq W b1 (o1+c*5) (gq (knW PV i) c))/\((Cq W bk (ok+i2*6) (knQ PV i2)/\W.cell? ⟨bk,ok+i2*6+5,none⟩=some (.slice (some ⟨b2,o2,none⟩) Lw c2))/\Cq W b2 (o2+c*5) (gq (knW PV i2) c))/\((Cq W bk (ok+i0*6) (knQ PV i0)/\W.cell? ⟨bk,ok+i0*6+5,none⟩=some (.slice (some ⟨b0,o0,none⟩) Lw c0))/\Cq W b0 (o0+c*5) (gq (knW PV i0) c)):=λc hc W hg =>
              ⟨⟨(hr1 W (HGe.out.trans hg)).1,(hr1 W (HGe.out.trans hg)).2 c hc⟩,⟨(hr2 W (HGe.out.trans hg)).1,(hr2 W (HGe.out.trans hg)).2 c hc⟩,⟨(hr0 W (HGe.out.trans hg)).1,(hr0 W (HGe.out.trans hg)).2 c hc⟩⟩
            have hal:∀c,c<Lw->∃U V:Rat,U=upK PV i i0 c i i2/\V=upK PV i2 i c i0 i/\(∀W,Tab W->Calls Tryz.prog 50 #[qV (gq (knW PV i) c),qV (gq (knW PV i0) c)] W λe w'=>e = .returned (qV (C4 (gq (knW PV i) c) (gq (knW PV i0) c)))/\A4 W w')/\(∀W,Tab W->Calls Tryz.prog 29 #[qV (C4 (gq (knW PV i) c) (gq (knW PV i0) c)),qV (C4 (knQ PV i) (knQ PV i2))] W λe w'=>e = .returned (qV U)/\A4 W w')/\(∀W,Tab W->Calls Tryz.prog 50 #[qV (gq (knW PV i2) c),qV (gq (knW PV i) c)] W λe w'=>e = .returned (qV (C4 (gq (knW PV i2) c) (gq (knW PV i) c)))/\A4 W w')/\(∀W,Tab W->Calls Tryz.prog 29 #[qV (C4 (gq (knW PV i2) c) (gq (knW PV i) c)),qV (C4 (knQ PV i0) (knQ PV i))] W λe w'=>e = .returned (qV V)/\A4 W w')/\(∀W,Calls Tryz.prog 30 #[qV U,qV V] W λe w'=>e = .returned (.int .i64 (H6 U V))/\A4 W w'):=λc hc=>by
              have x1:=zw1 c;have x2:=zw2 c;have x0:=zw0 c;have y1:=A0G (gq (knW PV i) c) (gq (knW PV i0) c);have y2:=A0G (gq (knW PV i2) c) (gq (knW PV i) c);have m1:=Z4 (gq (knW PV i) c-gq (knW PV i0) c) (knQ PV i-knQ PV i2);have m2:=Z4 (gq (knW PV i2) c-gq (knW PV i) c) (knQ PV i0-knQ PV i);exact⟨_,_,rfl,rfl,λW hT=>A09 _ _ W (by omega) hT,λW hT=>A1D _ _ W (by unfold C4;omega) hT,λW hT=>A09 _ _ W (by omega) hT,λW hT=>A1D _ _ W (by unfold C4;omega) hT,λW=>A1A _ _ W (by unfold upK D5 C4;omega)⟩
            obtain⟨D1,hD1⟩:∃x,x=C4 (knQ PV i) (knQ PV i2):=⟨_,rfl⟩
            obtain⟨D2,hD2⟩:∃x,x=C4 (knQ PV i0) (knQ PV i):=⟨_,rfl⟩
            rw[<-hD1]at hs1;rw[<-hD2]at hs2;rw[<-hD1,<-hD2]at hal;obtain⟨X1,hX1⟩:∃x,x=knQ PV i:=⟨_,rfl⟩
            obtain⟨X2,hX2⟩:∃x,x=knQ PV i2:=⟨_,rfl⟩
            obtain⟨X0,hX0⟩:∃x,x=knQ PV i0:=⟨_,rfl⟩
            rw[<-hX1,<-hX2]at hs1;rw[<-hX1,<-hX0]at hs2;rw[<-hX1,<-hX2,<-hX0]at hrd;have Hrd:=B9t hrd;have Hal:=B9t hal;have Hs1:=B9t hs1;have Hs2:=B9t hs2;have Htn1:=B9t htn;have Hi2:=B9t hi2;clear hrd hal hs1 hs2 htn hi2 hi0 hr1 hr2 hr0 zq1 zw1 zq2 zw2 zq0 zw0 zs1 zs2 hD1 hD2 hX1 hX2 hX0;refine B9o ?_;refine r0T ?_;refine B9w (rfl) ?_;refine B9v ?_;refine A6 ?_;refine B9o ?_;refine C0M ?_;refine r0T ?_;refine B9o ?_;refine r0T ?_;refine C0M ?_;clear hB hF;go_loopw [23,22] (λs0 s1 wr=>∃(c:Nat) (t:Bool),c<=Lw/\s0 = .int .i64 c/\s1 = .bool t/\(t=true↔∃j,j<c/\upK PV i i0 j i i2≠upK PV i2 i j i0 i)/\A4 w wr) (λs0 _ _=>Lw-(intOf s0).toNat)
            case atStart=>exact⟨0,false,C0B _,rfl,rfl,⟨λh=>(by cases h),λ⟨j,hj,_⟩=>absurd hj (C1f _)⟩,hG⟩
            case round =>
              clear hG;obtain⟨c,t,hc,rfl,rfl,ht,hG⟩:=hrel;obtain⟨u,rfl⟩:=exQ wr;have hB:=Bx.nil u;have hF:=Fr.nil w;have Ht:=B9t ht;clear ht;rcases B9U c Lw with hltc|hgec
              · have hdecc:decide ((c:Int)<(Lw:Int))=true:=by simp;omega
                have hinc:(c:Int)<(Lw:Int):=by omega
                have hrd2:=λW hg=>Hrd.out c hltc W hg;obtain⟨U,V,hU,hV,a1,a2,a3,a4,a5⟩:=Hal.out c hltc;have hcz:(H6 U V != 0)=decide (U≠V):=by
                  have h:=@B3i U V;rw[bne,h];simp
                obtain⟨cz,hcze⟩:∃x,x=H6 U V:=⟨_,rfl⟩
                rw[<-hcze]at hcz;simp only[<-hcze]at a5;obtain⟨G1,hG1⟩:∃x,x=gq (knW PV i) c:=⟨_,rfl⟩
                obtain⟨G2,hG2⟩:∃x,x=gq (knW PV i2) c:=⟨_,rfl⟩
                obtain⟨G0,hG0⟩:∃x,x=gq (knW PV i0) c:=⟨_,rfl⟩
                rw[<-hG1,<-hG2,<-hG0]at hrd2;rw[<-hG1,<-hG0]at a1 a2;rw[<-hG1,<-hG2]at a3 a4;obtain⟨E1,hE1⟩:∃x,x=C4 G1 G0:=⟨_,rfl⟩
                obtain⟨E2,hE2⟩:∃x,x=C4 G2 G1:=⟨_,rfl⟩
                rw[<-hE1]at a1 a2;rw[<-hE2]at a3 a4;obtain⟨nb,hnb⟩:∃b,b=decide (U≠V):=⟨_,rfl⟩
                rw[<-hnb]at hcz;have hnx:((t||nb)=true↔∃j,j<c+1/\upK PV i i0 j i i2≠upK PV i2 i j i0 i):=by
                  rw[Bool.or_eq_true,Ht.out,hnb,C1u];constructor
                  · rintro(⟨j,h1,h2⟩|h)
                    · exact⟨j,by omega,h2⟩
                    · exact⟨c,by omega,by rw[<-hU,<-hV];exact h⟩
                  · rintro⟨j,h1,h2⟩
                    rcases B9U j c with h3|h3
                    · exact .inl ⟨j,h3,h2⟩
                    · obtain rfl:j=c:=by omega
                      right;rw[hU,hV];exact h2
                have Hrd2:=B9t hrd2;have Ha1:=B9t a1;have Ha2:=B9t a2;have Ha3:=B9t a3;have Ha4:=B9t a4;have Ha5:=B9t a5;have Hnx:=B9t hnx;clear hrd2 a1 a2 a3 a4 a5 hnx hU hV hcze hG1 hG2 hG0 hE1 hE2 hnb Ht;cases t
                · skip
                  refine B9o ?_;refine B9o ?_
                  (first|have q0:=Hr0.out u (HGt.out.trans hG)|skip)
                  refine r0N ?_;refine B9w (rfl) ?_;refine B9v ?_;refine A6 ?_;refine B9o ?_;refine C0M ?_;refine B9o (rdC H7 [] [(0,0),(0,1),(0,2),(0,3),(0,4),(0,5),(0,6),(0,7),(0,8),(0,9),(0,10),(0,11),(0,12),(0,13),(0,14),(0,15),(0,16),(0,18),(0,19),(0,20),(0,21),(0,22),(0,23),(0,24),(0,25),(0,26),(0,27),(0,28),(1,17),(1,29),(1,30),(2,31)] hB hG λK L hN hL=>?_)
                  repeat first|refine gya ?_|refine gyr ?_|refine gna ?_|refine gyb (by(rintro v ⟨hgu,hB,hG,-⟩ N hN;have r:=hB.r;simp only[BxR]at r;(first|have q0:=Hr0.out v (HGt.out.trans hG)|skip);obtain⟨⟨⟨⟨y1,y2,y3,y4,y5⟩,y6⟩,t1,t2,t3,t4,t5⟩,⟨⟨⟨z1,z2,z3,z4,z5⟩,z6⟩,p1,p2,p3,p4,p5⟩,⟨⟨x1,x2,x3,x4,x5⟩,x6⟩,r1,r2,r3,r4,r5⟩:=Hrd2.out v hG;go_simp;exact hN)) ?_
                  refine gmd (C:=λv ⟨hgu,hB,hG,_⟩=>Ha1.out _ (HT.grow hG)) ?_;refine gmd (C:=λv ⟨hgu,hB,hG,_⟩=>Hs1.out _ (HT.grow hG)) ?_;refine gmd (C:=λv ⟨hgu,hB,hG,_⟩=>Ha2.out _ (HT.grow hG)) ?_;refine gaa (J3 _ _ _ _ _) λb24 hb24 hn24=>?_;replace hF:=hF.n1 [] hB hG hb24 hn24;refine geC hL ?_;clear hB hG hL L;rintro u ⟨⟨-,hB,hG,-⟩,h24⟩;replace hB:=hB.cons' h24;clear h24;clear hb24 hn24;refine gtT ?_;clear hN K;refine st hB hF hG 0 0 [_,_,_,_,_] ?_;clear hB hG;intro u hB hG;refine B9o (rdC H7 [] [(0,0),(0,1),(0,2),(0,3),(0,4),(0,5),(0,6),(0,7),(0,8),(0,9),(0,10),(0,11),(0,12),(0,13),(0,14),(0,15),(0,16),(0,18),(0,19),(0,20),(0,21),(0,22),(0,23),(0,24),(0,25),(0,26),(0,27),(0,28),(1,17),(1,29),(1,30),(2,31)] hB hG λK L hN hL=>?_)
                  repeat first|refine gya ?_|refine gyr ?_|refine gna ?_|refine gyb (by(rintro v ⟨hgu,hB,hG,-⟩ N hN;have r:=hB.r;simp only[BxR]at r;(first|have q0:=Hr0.out v (HGt.out.trans hG)|skip);obtain⟨⟨⟨⟨y1,y2,y3,y4,y5⟩,y6⟩,t1,t2,t3,t4,t5⟩,⟨⟨⟨z1,z2,z3,z4,z5⟩,z6⟩,p1,p2,p3,p4,p5⟩,⟨⟨x1,x2,x3,x4,x5⟩,x6⟩,r1,r2,r3,r4,r5⟩:=Hrd2.out v hG;go_simp;exact hN)) ?_
                  refine gmd (C:=λv ⟨hgu,hB,hG,_⟩=>Ha3.out _ (HT.grow hG)) ?_;refine gmd (C:=λv ⟨hgu,hB,hG,_⟩=>Hs2.out _ (HT.grow hG)) ?_;refine gmd (C:=λv ⟨hgu,hB,hG,_⟩=>Ha4.out _ (HT.grow hG)) ?_;refine gaa (J3 _ _ _ _ _) λb25 hb25 hn25=>?_;replace hF:=hF.n1 [] hB hG hb25 hn25;refine geC hL ?_;clear hB hG hL L;rintro u ⟨⟨-,hB,hG,-⟩,h25⟩;replace hB:=hB.cons' h25;clear h25;clear hb25 hn25;refine gtT ?_;clear hN K;refine st hB hF hG 0 0 [_,_,_,_,_] ?_;clear hB hG;intro u hB hG;refine rsE H7 [0,0,0,0,1,0,0,0] hB hG λL hL=>?_
                  repeat first|refine gya ?_|refine gyr ?_|refine gna ?_|refine gyb (by(rintro v ⟨hgu,hB,hG,-⟩ N hN;have r:=hB.r;simp only[BxR]at r;(first|have q0:=Hr0.out v (HGt.out.trans hG)|skip);obtain⟨⟨⟨⟨y1,y2,y3,y4,y5⟩,y6⟩,t1,t2,t3,t4,t5⟩,⟨⟨⟨z1,z2,z3,z4,z5⟩,z6⟩,p1,p2,p3,p4,p5⟩,⟨⟨x1,x2,x3,x4,x5⟩,x6⟩,r1,r2,r3,r4,r5⟩:=Hrd2.out v hG;go_simp;exact hN)) ?_
                  first|refine gmw (C:=λv=>Ha5.out _) ?_|refine N0 ?_
                  refine gs ?_;refine geE hL ?_;clear hB hG hL L;rintro u ⟨-,hB,hG,-⟩;refine C7 ?_;refine A6 ?_;refine r0E ?_;refine A6 ?_;go_roundw
                  case rel=>exact⟨c+1,nb,by omega,by go_num,by first|rfl|simp,by simpa using Hnx.out,hG⟩
                  case measure=>simp[intOf];omega
                · skip
                  refine B9o ?_;refine B9o ?_
                  (first|have q0:=Hr0.out u (HGt.out.trans hG)|skip)
                  refine r0N ?_;refine B9w (rfl) ?_;refine B9v ?_;refine A6 ?_;refine B9o ?_;refine C0M ?_;refine B9o (rdC H7 [] [(0,0),(0,1),(0,2),(0,3),(0,4),(0,5),(0,6),(0,7),(0,8),(0,9),(0,10),(0,11),(0,12),(0,13),(0,14),(0,15),(0,16),(0,18),(0,19),(0,20),(0,21),(0,22),(0,23),(0,24),(0,25),(0,26),(0,27),(0,28),(1,17),(1,29),(1,30),(2,31)] hB hG λK L hN hL=>?_)
                  repeat first|refine gya ?_|refine gyr ?_|refine gna ?_|refine gyb (by(rintro v ⟨hgu,hB,hG,-⟩ N hN;have r:=hB.r;simp only[BxR]at r;(first|have q0:=Hr0.out v (HGt.out.trans hG)|skip);obtain⟨⟨⟨⟨y1,y2,y3,y4,y5⟩,y6⟩,t1,t2,t3,t4,t5⟩,⟨⟨⟨z1,z2,z3,z4,z5⟩,z6⟩,p1,p2,p3,p4,p5⟩,⟨⟨x1,x2,x3,x4,x5⟩,x6⟩,r1,r2,r3,r4,r5⟩:=Hrd2.out v hG;go_simp;exact hN)) ?_
                  refine gmd (C:=λv ⟨hgu,hB,hG,_⟩=>Ha1.out _ (HT.grow hG)) ?_;refine gmd (C:=λv ⟨hgu,hB,hG,_⟩=>Hs1.out _ (HT.grow hG)) ?_;refine gmd (C:=λv ⟨hgu,hB,hG,_⟩=>Ha2.out _ (HT.grow hG)) ?_;refine gaa (J3 _ _ _ _ _) λb24 hb24 hn24=>?_;replace hF:=hF.n1 [] hB hG hb24 hn24;refine geC hL ?_;clear hB hG hL L;rintro u ⟨⟨-,hB,hG,-⟩,h24⟩;replace hB:=hB.cons' h24;clear h24;clear hb24 hn24;refine gtT ?_;clear hN K;refine st hB hF hG 0 0 [_,_,_,_,_] ?_;clear hB hG;intro u hB hG;refine B9o (rdC H7 [] [(0,0),(0,1),(0,2),(0,3),(0,4),(0,5),(0,6),(0,7),(0,8),(0,9),(0,10),(0,11),(0,12),(0,13),(0,14),(0,15),(0,16),(0,18),(0,19),(0,20),(0,21),(0,22),(0,23),(0,24),(0,25),(0,26),(0,27),(0,28),(1,17),(1,29),(1,30),(2,31)] hB hG λK L hN hL=>?_)
                  repeat first|refine gya ?_|refine gyr ?_|refine gna ?_|refine gyb (by(rintro v ⟨hgu,hB,hG,-⟩ N hN;have r:=hB.r;simp only[BxR]at r;(first|have q0:=Hr0.out v (HGt.out.trans hG)|skip);obtain⟨⟨⟨⟨y1,y2,y3,y4,y5⟩,y6⟩,t1,t2,t3,t4,t5⟩,⟨⟨⟨z1,z2,z3,z4,z5⟩,z6⟩,p1,p2,p3,p4,p5⟩,⟨⟨x1,x2,x3,x4,x5⟩,x6⟩,r1,r2,r3,r4,r5⟩:=Hrd2.out v hG;go_simp;exact hN)) ?_
                  refine gmd (C:=λv ⟨hgu,hB,hG,_⟩=>Ha3.out _ (HT.grow hG)) ?_;refine gmd (C:=λv ⟨hgu,hB,hG,_⟩=>Hs2.out _ (HT.grow hG)) ?_;refine gmd (C:=λv ⟨hgu,hB,hG,_⟩=>Ha4.out _ (HT.grow hG)) ?_;refine gaa (J3 _ _ _ _ _) λb25 hb25 hn25=>?_;replace hF:=hF.n1 [] hB hG hb25 hn25;refine geC hL ?_;clear hB hG hL L;rintro u ⟨⟨-,hB,hG,-⟩,h25⟩;replace hB:=hB.cons' h25;clear h25;clear hb25 hn25;refine gtT ?_;clear hN K;refine st hB hF hG 0 0 [_,_,_,_,_] ?_;clear hB hG;intro u hB hG;refine rsE H7 [0,0,0,0,1,0,0,0] hB hG λL hL=>?_
                  repeat first|refine gya ?_|refine gyr ?_|refine gna ?_|refine gyb (by(rintro v ⟨hgu,hB,hG,-⟩ N hN;have r:=hB.r;simp only[BxR]at r;(first|have q0:=Hr0.out v (HGt.out.trans hG)|skip);obtain⟨⟨⟨⟨y1,y2,y3,y4,y5⟩,y6⟩,t1,t2,t3,t4,t5⟩,⟨⟨⟨z1,z2,z3,z4,z5⟩,z6⟩,p1,p2,p3,p4,p5⟩,⟨⟨x1,x2,x3,x4,x5⟩,x6⟩,r1,r2,r3,r4,r5⟩:=Hrd2.out v hG;go_simp;exact hN)) ?_
                  refine gmn (by exact rfl) ?_;refine okf (by simp only[Act.put,List.setIfInBounds_toArray,List.set_cons_succ,List.set_cons_zero];exact rfl) ?_;refine gs ?_;refine geE hL ?_;clear hB hG hL L;rintro u ⟨-,hB,hG,-⟩;refine C7 ?_;refine A6 ?_;refine r0E ?_;refine A6 ?_;go_roundw
                  case rel=>exact⟨c+1,true,by omega,by go_num,by first|rfl|simp,by simpa using Hnx.out,hG⟩
                  case measure=>simp[intOf];omega
              · obtain rfl:Lw=c:=by omega
                have hdecc:decide ((Lw:Int)<(Lw:Int))=false:=by simp
                obtain rfl:t=true:=Ht.out.2 Htn1.out;clear Ht;refine B9o ?_;refine B9o ?_
                (first|have q0:=Hr0.out u (HGt.out.trans hG)|skip)
                refine r0N ?_;refine B9u (rfl) ?_;refine C0O ?_;refine B9 ?_;refine B9 ?_;refine E3 ?_;refine A6 ?_;refine r0T ?_;refine B9u (rfl) ?_;refine B9v ?_;refine C7 ?_;refine A6 ?_;refine r0E ?_;refine A6 ?_;go_roundw
                case rel => have e2 := Hi2.out
                            subst e2;exact⟨i+1,by omega,by omega,by go_num,hG⟩
                case measure=>have e2:=Hi2.out;simp[intOf];omega
          · have hdec:decide ((i2:Int)<(kl:Int))=false:=by simp;omega
            have hdecn:decide (i2<kl)=false:=by simp;omega
            clear hi2;refine B9o ?_;refine r0T ?_;refine B9u (rfl) ?_;refine C0O ?_;refine B9 ?_;refine B9 ?_;refine E3 ?_;refine A6 ?_;refine B9o (rsE H7 [1,0] hB hG λL hL=>?_);refine gmd (C:=λv ⟨hgu,hB,hG,_⟩=>A9g _ (HT.grow hG)) ?_;refine gs ?_;refine geT hL ?_;clear hB hG hL L;rintro u ⟨-,hB,hG,-⟩;refine rt Tryz.results8 ?_;exact⟨rfl,HGd.out.trans hG⟩
  · subst e0
    have hl0:kl=0:=by rw[Hkl.out,eP];rfl
    subst hl0;have hrn:rsq.length=N:=by rw[<-HRR.out.1,<-HXY.out.1];simp
    have hrl:∀r∈rsq,r.2.2.length=Lw:=λr h'=>HRR.out.2.1 _ (by rw[<-HXY.out.1];exact List.mem_map.2 ⟨r,h',rfl⟩);have htp:=λW (hg:A4 w W) (hT:Tab W)=>A3c XA YQ rsq Y N Lw XC YK hrn hN1 (by omega) hrl HY.out.1 hL1 (by omega) 5 (by omega) (by omega) (λi hi j hj=>by rw[HXY.out.1];exact HRR.out.2.2 i hi j hj) HY.out.2 W (HXY.out.2.1.grow (HG1.out.trans hg)) (HXY.out.2.2.grow (HG1.out.trans hg)) hT;rw[HXY.out.1]at htp;obtain⟨tp,htpe⟩:∃x,x=J5 R Y N Lw:=⟨_,rfl⟩
    simp only[<-htpe]at htp;have Htp:=B9t htp;clear eP Hcase HX hrn hrl htp htpe;refine B9o (rsC H7 [0,0,1,0,0,0,2] hB hG λK L hN hL=>?_);refine gs ?_;refine gmd (C:=λv ⟨hgu,hB,hG,_⟩=>Htp.out _ hG (HT.grow hG)) ?_;refine gs ?_;refine gaa (J3 _ _ _ _ _) λb15 hb15 hn15=>?_;replace hF:=hF.n1 [] hB hG hb15 hn15;refine geC hL ?_;clear hB hG hL L;rintro u ⟨⟨-,hB,hG,-⟩,h15⟩;replace hB:=hB.cons' h15;clear h15;clear hb15 hn15;refine gtT ?_;clear hN K;refine st hB hF hG 0 0 [_,_,_,_,_] ?_;clear hB hG;intro u hB hG;refine B9o ?_;refine r0T ?_;refine B9w (rfl) ?_;refine B9o (rsE H7 [1,0,0,0,0,0,0,0,0,0] hB hG λL hL=>?_);refine gmd (C:=λv ⟨hgu,hB,hG,_⟩=>A9g _ (HT.grow hG)) ?_;refine gs ?_;refine geT hL ?_;clear hB hG hL L;rintro u ⟨-,hB,hG,-⟩;refine rt Tryz.results8 ?_;exact⟨rfl,HGc.out.trans hG⟩
end Go.Proofs.YtgpglgbcobeogaaGreatDoor
