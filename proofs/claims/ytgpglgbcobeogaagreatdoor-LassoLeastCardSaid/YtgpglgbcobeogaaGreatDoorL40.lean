import Derived.Test.YtgpglgbcobeogaaGreatDoorL39
set_option linter.unusedSimpArgs false
set_option linter.unusedVariables false
set_option maxHeartbeats 32000000
set_option maxRecDepth 100000
namespace Go.Proofs.YtgpglgbcobeogaaGreatDoor
open Go Go.RowKit
theorem A8D(n:Nat)(hn1:1<=n)(hn:n<=6)(GR:List (List Rat))(PL:List Rat)(sg:List Int)(hGl:GR.length=n)(hGr:∀r∈GR,r.length=n)(hPl:PL.length=n)(hsl:sg.length=n)(hs3:∀i,i<n -> -1<=gi sg i/\gi sg i<=1)(s:Nat)(hs1:1<=s)(hGz:∀i,i<n->∀j,j<n->qs (gq (B6 GR i) j)<=s)(hPz:∀i,i<n->qs (gq PL i)<=s)(hBz:100*(s*10^(n+1))<=BIG)(hok1:A1k GR (F8 sg n) (N3 PL (F8 sg n)))(hok2:A1k GR (F8 sg n) (N6 sg (F8 sg n))) :
  A2z n GR PL sg (Y8 GR PL sg n) (Y5 GR sg n) (Z8 GR PL (Y8 GR PL sg n) (Y5 GR sg n) sg n n):=by
 intro A bp b rs w hrs hR hP hb HT;have hrn:rs.length=n:=by rw[<-hGl,<-hrs];simp
 have hrl:∀r∈rs,r.2.2.length=n:=λr hr=>hGr _ (by rw[<-hrs];exact List.mem_map.2 ⟨r,hr,rfl⟩);have hrd:∀i,i<n->∃(ba oa cr:Nat),∀W,A4 w W->W.cell? ⟨A,i,none⟩=some (.slice (some ⟨ba,oa,none⟩) n cr)/\Lq W (some ⟨ba,oa,none⟩) (B6 GR i)/\(B6 GR i).length=n:=λi hi=>by
  obtain⟨bb,ob,⟨P1,P2⟩,e,hP⟩:=X8 hrn hrl hR hi;cases e;rw[hrs]at hP;obtain⟨h1,h2,h3⟩:=hP w (A4.refl w);obtain⟨ba,oa,e1⟩:=h2.addr (by omega);simp only at e1;subst e1
  exact⟨ba,oa,P2,λW hg=>by
   obtain⟨h4,h5,h6⟩:=hP W hg;rw[Nat.zero_add]at h4
   exact⟨h4,h5,h6⟩⟩
 have hpd:∀i,i<n->∀W,A4 w W->Cq W bp (i*5) (gq PL i):=λi hi W hg=>by
  have h:=(hP.grow hg).read (i:=i) (by omega);rw[Nat.zero_add]at h;exact h
 have hsd:∀i,i<n->∀W,A4 w W->W.cell? ⟨b,i,none⟩=some (.int .i64 (gi sg i)):=λi hi W hg=>by
  rw[(hb.grow hg).cell i,A5k,A6h (by omega)];rfl
 obtain⟨Z,hZ⟩:∃Z,Z=s*10^(n+1):=⟨_,rfl⟩
 have hsZ:10*s<=Z:=by
  rw[hZ,Nat.pow_succ,B8t (10^n) 10,<-B9Q,B8t s 10];exact B9O _ (B9t (by omega))
 obtain⟨U,hU⟩:∃U,U=F8 sg n:=⟨_,rfl⟩
 obtain⟨m,hm⟩:∃m,m=U.length:=⟨_,rfl⟩
 have hmn:m<=n:=by rw[hm,hU];exact A2e sg n
 have hUm:∀x∈U,x<n:=λx hx=>A0e x (hU ▸ hx);have hUl:∀k,k<m->nx U k<n:=λk hk=>hUm _ (O3 (hm ▸ hk));rw[<-hU]at hok1 hok2;have q1z:qs (B9 1)<=1:=by decide
 have qSz:∀x:Int,-1<=x->x<=1->qs (B9 x)<=1:=λx h1 h2=>by
  have:x = -1\/x=0\/x=1:=by omega
  rcases this with rfl|rfl|rfl<;>decide
 have hv1:=A31 (y:=N3 PL U) hUm (hm ▸ hmn) hGz hs1 (λk hk=>by unfold N3;rw[A0z hk];exact hPz _ (hUm _ (O3 hk)))
 have hv2:=A31 (y:=N6 sg U) hUm (hm ▸ hmn) hGz hs1 (λk hk=>by
  unfold N6;rw[A0z hk];obtain⟨h1,h2⟩:=hs3 _ (hUm _ (O3 hk))
  exact B8K (qSz _ (by omega) (by omega)) hs1)
 rw[<-hZ]at hv1 hv2 hBz;obtain⟨F,hF0⟩:∃F,F=Y8 GR PL sg n:=⟨_,rfl⟩
 obtain⟨G,hG0⟩:∃G,G=Y5 GR sg n:=⟨_,rfl⟩
 have hFe:F=J4 U (P9 GR U (N3 PL U)) n m:=by rw[hF0,hm,hU];rfl
 have hGe:G=J4 U (P9 GR U (N6 sg U)) n m:=by rw[hG0,hm,hU];rfl
 rw[<-hF0,<-hG0];have hFl:F.length=n:=by rw[hFe];exact Y0 _ _ _ _
 have hGl2:G.length=n:=by rw[hGe];exact Y0 _ _ _ _
 have hFz:∀i,qs (gq F i)<=Z:=by rw[hFe,hm];exact A23 hv1 (by omega) _ (K2 _)
 have hGz2:∀i,qs (gq G i)<=Z:=by rw[hGe,hm];exact A23 hv2 (by omega) _ (K2 _)
 have hdz:∀(H:List Rat),(∀i,qs (gq H i)<=Z)->∀i,i<n->qs (E7 (B6 GR i) H n)<=12*Z+7:=λH hH i hi=>by
  have h1:=A0h (a:=B6 GR i) (b:=H) (n:=n) (λj hj=>hGz i hi j hj) (λj _=>hH j) n (K2 _);have h2:n*(s+Z+1)<=6*(s+Z+1):=B8q _ hn;omega
 have hdt:∀i,i<n->∀(H:List Rat) (bh ba oa cr:Nat) W,H.length=n->(∀j,qs (gq H j)<=Z)->Lq W (some ⟨ba,oa,none⟩) (B6 GR i)->(B6 GR i).length=n->Lq W (some ⟨bh,0,none⟩) H->Tab W->Calls Tryz.prog 93 #[.slice (some ⟨ba,oa,none⟩) n cr,.slice (some ⟨bh,0,none⟩) n n] W λe w'=>e = .returned (.tuple #[qV (E7 (B6 GR i) H n),.bool true])/\A4 W w':=λi hi H bh ba oa cr W hH hHz h1 h2 h3 hT=>A21 _ _ _ _ cr n n h2 hH (by omega) s Z (hGz i hi) (λj _=>hHz j) (by
  have h4:n*(s+Z+1)<=6*(s+Z+1):=B8q _ hn
  omega) W h1 h3 hT
 have hmk:=A1R n (by omega) (n:Int) rfl;have hni:(0:Int)<(n:Int):=by omega
 have Hmk:=B8S hmk;have Hrd:=B8S hrd;have Hpd:=B8S hpd;have Hsd:=B8S hsd;have HU:=B8S hU;have Hm:=B8S hm;have HUl:=B8S hUl;have HUm:=B8S hUm;have Hs3:=B8S hs3;have HFe:=B8S hFe;have HGe:=B8S hGe;have HFl:=B8S hFl;have HGl:=B8S hGl2;have HFz:=B8S hFz;have HGz:=B8S hGz2;have Hdz:=B8S hdz;have Hdt:=B8S hdt;have Hok:=B8S (⟨hok1,hok2⟩:A1k GR U (N3 PL U)/\A1k GR U (N6 sg U));have HqS:=B8S qSz;have HrG:=B8S hGz;have HPz:=B8S hPz;have HBz:=B8S hBz;have HZ:=B8S hZ;clear hmk hrd hpd hsd hU hm hUl hUm hs3 hFe hGe hFl hGl2 hFz hGz2 hdz hdt hok1 hok2 qSz hGz hPz hv1 hv2 hF0 hG0 hrs hR hP hb hrn hrl hGl hGr hPl hsl hZ;go_enter Tryz.func61,Tryz.ntmps61;refine en2 ?_;intro u hG b4 b2 hB hF;refine r0T ?_;refine B8N ?_;have hmk:=Hmk.out;refine A8x (λb v=>v.ownsRow w.heap.size 48 5 (.slice (some ⟨b,0,none⟩) n n) n ((List.replicate n (0:Rat)).flatMap qL)) (λb v=>v.ownsRow w.heap.size 48 5 (.slice (some ⟨b,0,none⟩) n n) n ((List.replicate n (0:Rat)).flatMap qL)) (λb=>.slice (some ⟨b,0,none⟩) n n) (λb=>.slice (some ⟨b,0,none⟩) n n) (λb=>.pointer (some ⟨b,0,none⟩)) (.cells ((List.replicate n (0:Rat)).flatMap qL).toArray 48) (.cells ((List.replicate n (0:Rat)).flatMap qL).toArray 48) (.cells #[.slice none 0 0,.slice none 0 0,.slice none 0 0] 115) (.int .i64 (n:Nat)) (.int .i64 (n:Nat)) (λx y=>.agg #[.slice (some ⟨x,0,none⟩) n n,.slice (some ⟨y,0,none⟩) n n,.slice none 0 0]) (by kernel_rfl) (by kernel_rfl) (by kernel_rfl) (Or.inl ⟨by rfl,λv _=>by go_simp⟩) (Or.inl ⟨by rfl,λv _=>by go_simp⟩) ⟨by rfl,λv=>by go_simp⟩ ⟨by rfl,λv=>by go_simp⟩ ⟨by rfl,λv=>(G7 115 (by simp) _ _ _ _ _ v).trans (by rw[A4N])⟩ (λx1 x3=>Or.inl ⟨by rfl,λv _=>by go_simp⟩) (λv hg=>A1H (B8K hG.size hg.size) (by omega) rfl) (λv hg=>A1H (B8K hG.size hg.size) (by omega) rfl) (λ_ _ _ hg h=>C5 h hg) (λ_ _ _ hg h=>C5 h hg) (λK hN bf bo b6 u hgu hb6 hx14 hx16 hb hne=>?_);clear hmk;replace hF:=hF.n1 [] hB hG hb6 (by simp);replace hB:=(hB.grow hgu).cons' (show Blk u b6 115 #[.slice none 0 0,.slice none 0 0,.slice none 0 0]from hb);replace hG:=hG.trans hgu;clear hgu hb6 hb;have Ho:=B8S (LmW.mk hx14 hx16 (B9x _ _ _ _) hne:LmW w.heap.size n bf bo (List.replicate n 0) (List.replicate n 0) (none,0) [] u);have hbk:=hB.head;clear hx14 hx16;simp only[Act.put,List.setIfInBounds_toArray,List.set_cons_succ,List.set_cons_zero];refine gt ?_;clear hN K;refine sv hB hF hG 0 0 [_,_,_] ?_;intro u hu hBG;have Ho2:=B8S (Ho.out.over hbk (by decide) hu);clear hB hG hu Ho hbk;have Ho:=Ho2;clear Ho2;obtain⟨hB,hG⟩:=hBG;refine A6 ?_;refine r0T ?_;refine B8N ?_;refine r0T ?_;refine B8v ?_;go_loopw [43,7] (λs0 s1 wr=>∃(i:Nat) (vu:Ax) (k:Nat),i<=n/\s0 = .int .i64 i/\s1 = .slice vu.1 k vu.2/\k=(F8 sg i).length/\wr.ownsRow w.heap.size 3 1 (.slice vu.1 k vu.2) k (O9 (I2 (F8 sg i)))/\LmW w.heap.size n bf bo (List.replicate n 0) (List.replicate n 0) (none,0) [] wr/\Bx wr [(b6,115,#[.slice (some ⟨bf,0,none⟩) n n,.slice (some ⟨bo,0,none⟩) n n,.slice none 0 0]),(b2,108,#[.slice (some ⟨A,0,none⟩) n n,.slice (some ⟨bp,0,none⟩) n n]),(b4,115,#[.slice none 0 0,.slice none 0 0,.slice none 0 0])]/\A4 w wr) (λs0 _ _=>n-(intOf s0).toNat)
 case atStart=>exact⟨0,(none,0),0,B8k _,rfl,rfl,rfl,B9x _ _ _ _,Ho.out,hB,hG⟩
 case round =>
  clear hB hG Ho;obtain⟨i,vu,k,hi,rfl,rfl,hk,hu,ho,hB,hG⟩:=hrel;obtain⟨u,rfl⟩:=exQ wr;have Ho:=B8S ho;have Hu:=B8S hu;have Hk:=B8S hk;have hk6:k<=n:=by have:=A2e sg i;omega
  clear ho hu hk;rcases B73 i n with hlt|hge
  ·have hdec:decide ((i:Int)<(n:Int))=true:=by simp;omega
   have hin:(i:Int)<(n:Int):=by omega
   have hsi:=Hsd.out i hlt;obtain⟨S,hS⟩:∃S,S=gi sg i:=⟨_,rfl⟩
   simp only[<-hS]at hsi;have Hsi:=B8S hsi;by_cases h0:S=0
   ·have f49:(S != 0)=false:=by simp[h0]
    have Hst:=B8S (B0g (sg:=sg) (i:=i) (by rw[<-hS];exact h0));clear h0 hS hsi;refine r0T ?_;refine B8N ?_;refine B8V (rfl) ?_;refine B8U ?_;refine A6 ?_;refine B8N ?_;refine B8v ?_;refine B8N ?_
    (first|have q0:=Hsi.out u hG|skip)
    refine r0N ?_;refine r0T ?_;refine B8T (rfl) ?_;refine B8U ?_;refine C8 ?_;refine A6 ?_;refine r0E ?_;refine A6 ?_;go_roundw
    case rel=>exact⟨i+1,vu,k,by omega,by go_num,rfl,by rw[Hst.out];exact Hk.out,by rw[Hst.out];exact Hu.out,Ho.out,hB,hG⟩
    case measure=>simp[intOf];omega
   ·have f49:(S != 0)=true:=by simp[h0]
    have Hst:=B8S (B0C (sg:=sg) (i:=i) (by rw[<-hS];exact h0));clear h0 hS hsi;refine r0T ?_;refine B8N ?_;refine B8V (rfl) ?_;refine B8U ?_;refine A6 ?_;refine B8N ?_;refine B8v ?_;refine B8N ?_
    (first|have q0:=Hsi.out u hG|skip)
    refine r0N ?_;refine r0T ?_;refine B8V (rfl) ?_;refine M4 (w:=w) G7 2 [0,0] (by kernel_rfl) (by simp only[List.drop_succ_cons,List.drop_zero];exact rfl) (λ_=>True) noG hB hG trivial ?_;intro K L hN hL;simp only[List.zip_cons_cons,List.zip_nil_left];refine gs ?_;refine H8 ?_;rintro v ⟨hgu,hB1,hG1,-⟩;have ROWn:=B8S (C5 Hu.out hgu);clear Hu;have Hu:=ROWn;clear ROWn;have Ho2:=B8S (Ho.out.grow hgu);clear Ho;have Ho:=Ho2;clear Ho2;clear hB hG;have hB:=hB1;have hG:=hG1;clear hB1 hG1;refine hL _ _ ?_;clear hL L hgu;obtain⟨u,rfl⟩:=exQ v;refine L6 A3r w.heap.size _ _ _ _ [.int .i64 (i:Nat)] rfl rfl (A2w (i:Nat) u) rfl (λ_=>rfl) (λ_=>rfl) (λ_ _=>rfl) Hu.out (by omega) (by omega) hG.sz λp v' w' g1 g2 g3=>?_;have hBn:=A9z Hu.out hB (by simp) g2;have Ho2:=B8S (Ho.out.beside Hu.out (by decide) g2);clear Ho;obtain⟨gu,cu,rfl,-,-⟩:=N0 g1 (by omega);have hGn:=K3 Hu.out hG g2;clear Hu hB hG;have Hu:=B8S g1;have hB:=hBn;have hG:=hGn;clear g1 g2 g3 hBn hGn;obtain⟨u,rfl⟩:=exQ w';simp only[Act.put,List.setIfInBounds_toArray,List.set_cons_succ,List.set_cons_zero];refine NoK.norm (hN _ _ ?_);clear hN K;have Ho:=Ho2;clear Ho2;refine C8 ?_;refine A6 ?_;refine r0E ?_;refine A6 ?_;go_roundw
    case rel=>exact⟨i+1,(some ⟨gu,0,none⟩,cu),k+1,by omega,by go_num,rfl,by rw[Hst.out,List.length_append,<-Hk.out];rfl,by rw[Hst.out,A22];exact Hu.out,Ho.out,hB,hG⟩
    case measure=>simp[intOf];omega
  ·obtain rfl:n=i:=by omega
   have hdec:decide ((n:Int)<(n:Int))=false:=by simp
   have hu:=Hu.out;rw[<-HU.out]at hu;have hkm:m=k:=by rw[Hk.out,Hm.out,HU.out]
   subst hkm;replace Hu:=B8S hu;clear hu Hk;refine r0T ?_;refine B8N ?_;refine B8T (rfl) ?_;refine B8x ?_;refine B7 ?_;refine B7 ?_;refine D0 ?_;refine A6 ?_;refine B3D λKj hKj=>?_;go_cut []from 7 to 141 (λwx=>LmW w.heap.size n bf bo F G (none,0) [] wx/\Bx wx [(b6,115,#[.slice (some ⟨bf,0,none⟩) n n,.slice (some ⟨bo,0,none⟩) n n,.slice none 0 0]),(b2,108,#[.slice (some ⟨A,0,none⟩) n n,.slice (some ⟨bp,0,none⟩) n n]),(b4,115,#[.slice none 0 0,.slice none 0 0,.slice none 0 0])]/\A4 w wx)
   case first =>
    rename_i Jj Kk hJj hMj;rcases B8M m with hm0|hm0
    ·have f57:decide ((0:Int)<(m:Int))=false:=by simp;omega
     have f57n:decide (0<m)=false:=by simp;omega
     replace hm0:=B8S hm0;refine r0T ?_;refine B8T (rfl) ?_;refine B8U ?_;refine A6 ?_;refine hMj _ _ (Met.intro (hJj _ _ ?_))
     repeat apply Exists.intro
     refine⟨?rel,rfl⟩
     case rel =>
      have e1:F=List.replicate n 0:=by rw[HFe.out,hm0.out];rfl
      have e2:G=List.replicate n 0:=by rw[HGe.out,hm0.out];rfl
      exact⟨by rw[e1,e2];exact Ho.out,hB,hG⟩
    ·have f57:decide ((0:Int)<(m:Int))=true:=by simp;omega
     have f57n:decide (0<m)=true:=by simp;omega
     refine r0T ?_;refine B8V (rfl) ?_;refine B8N ?_;obtain⟨w0,rfl⟩:=exQ w;obtain⟨w,hwu⟩:=exQ u;rw[<-hwu]at Ho Hu hB hG;have HT0:=HT;replace HT:=HT.grow hG;have HB0:=B8S hB;have HG0:=B8S hG;have HB2:=B8S (λW (hg:A4 w W)=>(⟨by rw[(hB.tail.head.grow hg).cell 0];rfl,by rw[(hB.tail.head.grow hg).cell 1];rfl⟩:W.cell? ⟨b2,0,none⟩=some (.slice (some ⟨A,0,none⟩) n n)/\W.cell? ⟨b2,1,none⟩=some (.slice (some ⟨bp,0,none⟩) n n)));obtain⟨vu1,vu2⟩:=vu;obtain⟨bu,cu,eu,-,-⟩:=N0 Hu.out hm0;simp only[Value.slice.injEq]at eu;obtain⟨eu1,-,eu2⟩:=eu;subst eu1;subst eu2;have hus:∀W,A4 w W->∀k,k<m->W.cell? ⟨bu,k,none⟩=some (.int .i64 (nx U k:Nat)):=λW hg k hk=>by
      obtain⟨A1,c1,e1,-,hL⟩:=A1M (n:=m) (l:=I2 U) Hu.out (by rw[A1J,<-Hm.out]);cases e1;obtain⟨b9,o9,e9,h9⟩:=A2v hL (i:=k) (by rw[<-Hm.out];exact hk);cases e9;have:=h9 W hg
      rwa [Nat.zero_add]at this
     have Hus:=B8S hus;clear hB hG hus;have hB:=Bx.nil u;have hG:A4 w u:=hwu ▸ A4.refl u;clear hwu;refine r0N ?_;refine r0T ?_;refine B8N ?_;refine r0T ?_;refine B8v ?_;go_loopw [60,10,11,12] (λs0 s1 s2 s3 wr=>∃(k:Nat) (va vp vt:Ax) (P:Nat->Ax),k<=m/\s0 = .int .i64 k/\s1 = .slice va.1 k va.2/\s2 = .slice vp.1 k vp.2/\s3 = .slice vt.1 k vt.2/\SolP w.heap.size m (λi=>U.map λj=>gq (B6 GR (nx U i)) j) (gq PL) (λi=>B9 (-(gi sg i))) U va vp vt k k k P wr/\A4 w wr) (λs0 _ _ _ _=>m-(intOf s0).toNat)
     case atStart=>exact⟨0,(none,0),(none,0),(none,0),λ_=>(none,0),B8k _,rfl,rfl,rfl,rfl,SolP.start _ _ _ _ _ _ _ _,hG⟩
     case round =>
      clear hB hG;obtain⟨k,va,vp,vt,P,hk,rfl,rfl,rfl,rfl,hs,hG⟩:=hrel;obtain⟨u,rfl⟩:=exQ wr;have hB:=Bx.nil u;have Hs:=B8S hs;clear hs;rcases B73 k m with hlt|hge
      ·have hdec:decide ((k:Int)<(m:Int))=true:=by simp;omega
       have hkm:(k:Int)<(m:Int):=by omega
       have hxn:=HUl.out k hlt;have hqx:=λW hg=>Hus.out W hg k hlt;obtain⟨ba,oa,cr,hrx⟩:=Hrd.out (nx U k) hxn;have hpx:=Hpd.out (nx U k) hxn;have hsx:=Hsd.out (nx U k) hxn;have hs3x:=Hs3.out (nx U k) hxn;obtain⟨X,hX⟩:∃X,X=nx U k:=⟨_,rfl⟩
       simp only[<-hX]at hxn hqx hrx hpx hsx hs3x;obtain⟨S,hS⟩:∃S,S=gi sg X:=⟨_,rfl⟩
       simp only[<-hS]at hsx hs3x;obtain⟨Q1,hQ1⟩:∃q,q=gq PL X:=⟨_,rfl⟩
       simp only[<-hQ1]at hpx;have hXn:(X:Int)<(n:Int):=by omega
       have hwS:IntKind.i64.wrap (-S) = -S:=B8j _ (by omega);have Hqx:=B8S hqx;have Hrx:=B8S hrx;have Hpx:=B8S hpx;have Hsx:=B8S hsx;have HX:=B8S hX;have HS:=B8S hS;have HQ1:=B8S hQ1;clear hqx hrx hpx hsx hX hS hQ1;refine r0T ?_;refine B8N ?_;refine B8V (rfl) ?_;refine B8U ?_;refine A6 ?_;refine B8N ?_;refine B8v ?_;refine B8N ?_
       (first|have q0:=Hqx.out u hG|skip)
       refine r0N ?_;refine r0T ?_;refine B8N ?_;refine r0T ?_;refine B8v ?_;have HG1:=B8S hG;obtain⟨wB,rfl⟩:=exQ w;obtain⟨w,hwu⟩:=exQ u;rw[<-hwu]at Hs HG1 hG;clear hB hG;have hG:A4 w u:=hwu ▸ A4.refl u;clear hwu;go_loopw [66,15] (λs0 s1 wr=>∃(l:Nat) (vr:Ax),l<=m/\s0 = .int .i64 l/\s1 = .slice vr.1 l vr.2/\wr.ownsRow w.heap.size 48 5 (.slice vr.1 l vr.2) l (((U.take l).map λj=>gq (B6 GR X) j).flatMap qL)/\A4 w wr) (λs0 _ _=>m-(intOf s0).toNat)
       case atStart=>exact⟨0,(none,0),B8k _,rfl,rfl,B9x _ _ _ _,hG⟩
       case round =>
        clear hG;obtain⟨l,vr,hl,rfl,rfl,hr,hG⟩:=hrel;obtain⟨u,rfl⟩:=exQ wr;have hB:=Bx.nil u;rcases B73 l m with hltl|hgel
        ·have hdec2:decide ((l:Int)<(m:Int))=true:=by simp;omega
         have hlm:(l:Int)<(m:Int):=by omega
         have hzn:=HUl.out l hltl;have hqz:=λW hg=>Hus.out W hg l hltl;have hts:=A1w (λj=>gq (B6 GR X) j) U (k:=l) (by rw[<-Hm.out];exact hltl);obtain⟨Z9,hZ9⟩:∃Z,Z=nx U l:=⟨_,rfl⟩
         simp only[<-hZ9]at hzn hqz hts;obtain⟨Y,hY⟩:∃q,q=gq (B6 GR X) Z9:=⟨_,rfl⟩
         rw[<-hY]at hts;have hyr:∀W,A4 w0 W->Cq W ba (oa+Z9*5) Y:=λW hg=>by
          rw[hY];exact(Hrx.out W hg).2.1.read (by rw[(Hrx.out W hg).2.2];exact hzn)
         have hZn:(Z9:Int)<(n:Int):=by omega
         have Hts:=B8S hts;have Hyr:=B8S hyr;have Hqz:=B8S hqz;have Hr:=B8S hr;clear hts hyr hqz hr hY hZ9;refine r0T ?_;refine B8N ?_;refine B8V (rfl) ?_;refine B8U ?_;refine A6 ?_;refine B8N ?_;refine B8v ?_;refine B8N ?_
         (first|have q0:=Hqz.out u (HG1.out.trans hG)|skip)
         refine r0N ?_;refine M4 (w:=w) G7 9 [0,0,0,0,0,0,0,0,0] (by kernel_rfl) (by simp only[List.drop_succ_cons,List.drop_zero];exact rfl) (λ_=>True) noG hB hG trivial ?_;intro K L hN hL;simp only[List.zip_cons_cons,List.zip_nil_left]
         repeat first|refine gya ?_|refine gyr ?_|refine gna ?_|refine gyb (by(rintro v ⟨hgu,hB,hG,-⟩ N hN;have r:=hB.r;simp only[BxR]at r;obtain⟨p2,p3⟩:=HB2.out v (HG1.out.trans hG);have p4:=(Hrx.out v (HG0.out.trans (HG1.out.trans hG))).1;obtain⟨y1,y2,y3,y4,y5⟩:=Hyr.out v (HG0.out.trans (HG1.out.trans hG));go_simp;exact hN)) ?_
         refine H8 ?_;rintro v ⟨hgu,hB1,hG1,-⟩;have ROWn:=B8S (C5 Hr.out hgu);clear Hr;have Hr:=ROWn;clear ROWn;clear hB hG;have hB:=hB1;have hG:=hG1;clear hB1 hG1;refine hL _ _ ?_;clear hL L hgu;obtain⟨u,rfl⟩:=exQ v;refine L6 A3S w.heap.size _ _ _ _ (qL Y) rfl rfl (A4c Y u) rfl (λ_=>rfl) (λ_=>rfl) (λ_ _=>rfl) Hr.out (by omega) (by omega) hG.sz λp v' w' g1 g2 g3=>?_;have hBn:=Bx.nil w';obtain⟨gr,cr2,rfl,-,-⟩:=N0 g1 (by omega);have hGn:=K3 Hr.out hG g2;clear Hr hB hG;have Hr:=B8S g1;have hB:=hBn;have hG:=hGn;clear g1 g2 g3 hBn hGn;obtain⟨u,rfl⟩:=exQ w';simp only[Act.put,List.setIfInBounds_toArray,List.set_cons_succ,List.set_cons_zero];refine NoK.norm (hN _ _ ?_);clear hN K;refine C8 ?_;refine A6 ?_;refine r0E ?_;refine A6 ?_;go_roundw
         case rel=>exact⟨l+1,(some ⟨gr,0,none⟩,cr2),by omega,by go_num,rfl,by rw[Hts.out,B97];simpa using Hr.out,hG⟩
         case measure=>simp[intOf];omega
        ·obtain rfl:m=l:=by omega
         have hdec2:decide ((m:Int)<(m:Int))=false:=by simp
         rw[show U.take m=U from by rw[Hm.out];exact B9r]at hr;have hap1:O2 (.slice vp.1 k vp.2) (.slice vr.1 m vr.2):=λg h1 h2=>by
          have h3:=(Hs.out.pl.lt g h1).2;have h4:=(hr.lt g h2).1;omega
         have hap2:O2 (.slice vt.1 k vt.2) (.slice vr.1 m vr.2):=λg h1 h2=>by
          have h3:=(Hs.out.tn.lt g h1).2;have h4:=(hr.lt g h2).1;omega
         have hr2:=hr.mono HG1.out.size;have Hs2:=B8S (Hs.out.grow hG);have hG2:=HG1.out.trans hG;clear Hs hG hB HG1 hr;obtain⟨wC,rfl⟩:=exQ w;obtain⟨w,rfl⟩:=exQ wB;have hG:=hG2;have hB:=Bx.nil u;have Hs:=Hs2;have Hr:=B8S hr2;have Hap:=B8S (⟨hap1,hap2⟩:O2 (.slice vp.1 k vp.2) (.slice vr.1 m vr.2)/\O2 (.slice vt.1 k vt.2) (.slice vr.1 m vr.2));have Ha:=B8S Hs.out.hd;clear hG2 Hs2 hr2 hap1 hap2;refine r0T ?_;refine B8N ?_;refine B8T (rfl) ?_;refine B8x ?_;refine B7 ?_;refine B7 ?_;refine D0 ?_;refine A6 ?_;refine B8N ?_;refine M4 (w:=w) G7 2 [0,0] (by kernel_rfl) (by simp only[List.drop_succ_cons,List.drop_zero];exact rfl) (λ_=>True) noG hB hG trivial ?_;intro K L hN hL;simp only[List.zip_cons_cons,List.zip_nil_left];refine gs ?_;refine H8 ?_;rintro v ⟨hgu,hB1,hG1,-⟩;have ROWn:=B8S (C5 Ha.out hgu);clear Ha;have Ha:=ROWn;clear ROWn;have Hs2:=B8S (Hs.out.grow hgu);have Hr2:=B8S (C5 Hr.out hgu);clear Hs Hr;clear hB hG;have hB:=hB1;have hG:=hG1;clear hB1 hG1;refine hL _ _ ?_;clear hL L hgu;obtain⟨u,rfl⟩:=exQ v;refine L6 B3r w.heap.size _ _ _ _ [.slice vr.1 m vr.2] rfl rfl (B06 vr.1 m vr.2 u) rfl (λ_=>rfl) (λ_=>rfl) (λ_ _=>rfl) Ha.out (by omega) (by omega) hG.sz λp v' w' g1 g2 g3=>?_;have hBn:=Bx.nil w';obtain⟨ga,ca,rfl,-,-⟩:=N0 g1 (by omega);have Hs3b:=B8S (SolP.addRow (v':=(some ⟨ga,0,none⟩,ca)) (x:=vr) Hs2.out (by simp only[<-HX.out];exact Hr2.out) Hap.out.1 Hap.out.2 g1 g2);clear Hs2 Hr2 Hap;have hGn:=K3 Ha.out hG g2;clear Ha hB hG;have Ha:=B8S g1;have hB:=hBn;have hG:=hGn;clear g1 g2 g3 hBn hGn;obtain⟨u,rfl⟩:=exQ w';simp only[Act.put,List.setIfInBounds_toArray,List.set_cons_succ,List.set_cons_zero];refine NoK.norm (hN _ _ ?_);clear hN K;have Hs:=Hs3b;have Hp:=B8S Hs.out.pl;clear Hs3b Ha;refine A6 ?_;refine B8N ?_;refine M4 (w:=w) G7 6 [0,0,0,0,0,0] (by kernel_rfl) (by simp only[List.drop_succ_cons,List.drop_zero];exact rfl) (λ_=>True) noG hB hG trivial ?_;intro K L hN hL;simp only[List.zip_cons_cons,List.zip_nil_left]
         repeat first|refine gya ?_|refine gyr ?_|refine gna ?_|refine gyb (by(rintro v ⟨hgu,hB,hG,-⟩ N hN;have r:=hB.r;simp only[BxR]at r;obtain⟨p2,p3⟩:=HB2.out v hG;obtain⟨y1,y2,y3,y4,y5⟩:=Hpx.out v (HG0.out.trans hG);have p9:=Hsx.out v (HG0.out.trans hG);go_simp;exact hN)) ?_
         refine H8 ?_;rintro v ⟨hgu,hB1,hG1,-⟩;have ROWn:=B8S (C5 Hp.out hgu);clear Hp;have Hp:=ROWn;clear ROWn;have Hs2:=B8S (Hs.out.grow hgu);clear Hs;clear hB hG;have hB:=hB1;have hG:=hG1;clear hB1 hG1;refine hL _ _ ?_;clear hL L hgu;obtain⟨u,rfl⟩:=exQ v;refine L6 A3S w.heap.size _ _ _ _ (qL Q1) rfl rfl (A4c Q1 u) rfl (λ_=>rfl) (λ_=>rfl) (λ_ _=>rfl) Hp.out (by omega) (by omega) hG.sz λp v' w' g1 g2 g3=>?_;have hBn:=Bx.nil w';obtain⟨gp,cp,rfl,-,-⟩:=N0 g1 (by omega);have Hs3b:=B8S (SolP.addP (v':=(some ⟨gp,0,none⟩,cp)) Hs2.out (by rw[<-Hm.out];exact hlt) (by rw[<-HX.out,<-HQ1.out];exact g1) g2 g3);clear Hs2;have hGn:=K3 Hp.out hG g2;clear Hp hB hG;have Hp:=B8S g1;have hB:=hBn;have hG:=hGn;clear g1 g2 g3 hBn hGn;obtain⟨u,rfl⟩:=exQ w';simp only[Act.put,List.setIfInBounds_toArray,List.set_cons_succ,List.set_cons_zero];refine NoK.norm (hN _ _ ?_);clear hN K;have Hs:=Hs3b;have Ht:=B8S Hs.out.tn;clear Hs3b Hp;refine A6 ?_;refine M4 (w:=w) G7 7 [0,0,0,0,0,0,1] (by kernel_rfl) (by simp only[List.drop_succ_cons,List.drop_zero];exact rfl) (λ_=>True) noG hB hG trivial ?_;intro K L hN hL;simp only[List.zip_cons_cons,List.zip_nil_left]
         repeat first|refine gya ?_|refine gyr ?_|refine gna ?_|refine gyb (by(rintro v ⟨hgu,hB,hG,-⟩ N hN;have r:=hB.r;simp only[BxR]at r;obtain⟨p2,p3⟩:=HB2.out v hG;obtain⟨y1,y2,y3,y4,y5⟩:=Hpx.out v (HG0.out.trans hG);have p9:=Hsx.out v (HG0.out.trans hG);go_simp;exact hN)) ?_
         refine gmw (C:=λv=>A0w (-S) (by omega) (by omega) _) ?_;refine H8 ?_;rintro v ⟨hgu,hB1,hG1,-⟩;have ROWn:=B8S (C5 Ht.out hgu);clear Ht;have Ht:=ROWn;clear ROWn;have Hs2:=B8S (Hs.out.grow hgu);clear Hs;clear hB hG;have hB:=hB1;have hG:=hG1;clear hB1 hG1;refine hL _ _ ?_;clear hL L hgu;obtain⟨u,rfl⟩:=exQ v;refine L6 A3S w.heap.size _ _ _ _ (qL (B9 (-S))) rfl rfl (A4c (B9 (-S)) u) rfl (λ_=>rfl) (λ_=>rfl) (λ_ _=>rfl) Ht.out (by omega) (by omega) hG.sz λp v' w' g1 g2 g3=>?_;have hBn:=Bx.nil w';obtain⟨gt9,ct,rfl,-,-⟩:=N0 g1 (by omega);have Hs3b:=B8S (SolP.addT (v':=(some ⟨gt9,0,none⟩,ct)) Hs2.out (by rw[<-Hm.out];exact hlt) (by rw[<-HX.out,<-HS.out];exact g1) g2 g3);clear Hs2;have hGn:=K3 Ht.out hG g2;clear Ht hB hG;have Ht:=B8S g1;have hB:=hBn;have hG:=hGn;clear g1 g2 g3 hBn hGn;obtain⟨u,rfl⟩:=exQ w';simp only[Act.put,List.setIfInBounds_toArray,List.set_cons_succ,List.set_cons_zero];refine NoK.norm (hN _ _ ?_);clear hN K;have Hs:=Hs3b;clear Hs3b Ht;refine C8 ?_;refine A6 ?_;refine r0E ?_;refine A6 ?_;go_roundw
         case rel=>exact⟨k+1,(some ⟨ga,0,none⟩,ca),(some ⟨gp,0,none⟩,cp),(some ⟨gt9,0,none⟩,ct),_,by omega,by go_num,rfl,rfl,rfl,Hs.out,hG⟩
         case measure=>simp[intOf];omega
      ·obtain rfl:m=k:=by omega
       have hdec:decide ((m:Int)<(m:Int))=false:=by simp
       refine r0T ?_;refine B8N ?_;refine B8T (rfl) ?_;refine B8x ?_;refine B7 ?_;refine B7 ?_;refine D0 ?_;refine A6 ?_;refine B8N ?_;have hso1:=A9K (n:=n) (y:=N3 PL U) Hm.out hm0 hmn hn HUm.out HrG.out hs1 (by rw[<-HZ.out];exact HBz.out) rfl (λk hk=>HPz.out _ (HUm.out _ (O3 hk))) Hok.out.1 Hs.out.hd Hs.out.row Hs.out.pl
       have hso2:=A9K (n:=n) (y:=N6 sg U) Hm.out hm0 hmn hn HUm.out HrG.out hs1 (by rw[<-HZ.out];exact HBz.out) rfl (λk hk=>by
        obtain⟨h1,h2⟩:=Hs3.out _ (HUm.out _ (O3 hk))
        exact B8K (HqS.out _ (by omega) (by omega)) hs1) Hok.out.2 Hs.out.hd Hs.out.row Hs.out.tn
       obtain⟨v1,hv1⟩:∃v,v=P9 GR U (N3 PL U):=⟨_,rfl⟩
       obtain⟨v2,hv2⟩:∃v,v=P9 GR U (N6 sg U):=⟨_,rfl⟩
       rw[<-hv1]at hso1;rw[<-hv2]at hso2;have Hv1:=B8S hv1;have Hv2:=B8S hv2;have Hso1:=B8S hso1;have Hso2:=B8S hso2;clear hso1 hso2 hv1 hv2 Hs;refine rsE G7 [0,0,1,0,0,0,0,0,0,0] hB hG λL hL=>?_;refine gs ?_;refine gxd (X:=Ax) (λx:Ax=>.tuple #[.slice x.1 m x.2,.slice none 0 0,.int .i64 0]) (λx V=>Lq V x.1 ((List.range m).map v1)/\∃b,x.1=some ⟨b,0,none⟩/\w.heap.size<=b) (λx u u' hg h=>⟨h.1.grow hg,h.2⟩) (λx107=>?_) (C:=by(rintro v ⟨hgu,hB,hG,-⟩;exact(Hso1.out _ hgu (HT.grow hG)).mono λe V ⟨z,g1,⟨g2,b9,g3,g4⟩,g5⟩=>⟨z,g1,⟨g2,b9,g3,B8K hG.size g4⟩,g5⟩));refine gs ?_;refine geT hL ?_;clear hB hG hL L;rintro u ⟨⟨hgu,hB,hG,-⟩,hx107⟩;obtain⟨y1a,y1c⟩:=x107;obtain⟨Y1,c1,rfl,hc1⟩:Lq u y1a ((List.range m).map v1)/\∃b,y1a=some ⟨b,0,none⟩/\w.heap.size<=b:=hx107;replace Hso2:=B8S (λV (hg:A4 u V) hT=>Hso2.out V (hgu.trans hg) hT);clear Hso1;clear hgu;refine B8N (rsE G7 [0,0,1,0,0,0,0,0,0,0] hB hG λL hL=>?_);refine gs ?_;refine gxd (X:=Ax) (λx:Ax=>.tuple #[.slice x.1 m x.2,.slice none 0 0,.int .i64 0]) (λx V=>Lq V x.1 ((List.range m).map v2)/\∃b,x.1=some ⟨b,0,none⟩/\w.heap.size<=b) (λx u u' hg h=>⟨h.1.grow hg,h.2⟩) (λx114=>?_) (C:=by(rintro v ⟨hgu,hB,hG,-⟩;exact(Hso2.out _ hgu (HT.grow hG)).mono λe V ⟨z,g1,⟨g2,b9,g3,g4⟩,g5⟩=>⟨z,g1,⟨g2,b9,g3,B8K hG.size g4⟩,g5⟩));refine gs ?_;refine geT hL ?_;clear hB hG hL L;rintro u ⟨⟨hgu,hB,hG,-⟩,hx114⟩;obtain⟨y2a,y2c⟩:=x114;obtain⟨Y2,c2,rfl,hc2⟩:Lq u y2a ((List.range m).map v2)/\∃b,y2a=some ⟨b,0,none⟩/\w.heap.size<=b:=hx114;replace Y1:=Y1.grow hgu;clear Hso2;clear hgu;have hB2:=HB0.out.grow hG;have hG2:=HG0.out.trans hG;have hbfw:=(Ho.out.f.lt bf rfl).2;have hbow:=(Ho.out.g.lt bo rfl).2;have hc1f:c1≠bf:=by omega
       have hc1o:c1≠bo:=by omega
       have hc2f:c2≠bf:=by omega
       have hc2o:c2≠bo:=by omega
       have Ho2:=B8S (Ho.out.grow hG);have Hu2:=B8S (C5 Hu.out hG);clear hB hG HB0 HG0 HB2 Hus Ho Hu HT hbfw hbow hc1 hc2;obtain⟨wC,rfl⟩:=exQ w;obtain⟨w,rfl⟩:=exQ w0;have hB:=hB2;have hG:=hG2;have Ho:=Ho2;have Hu:=Hu2;have HT:=HT0;have HY1:=B8S Y1;have HY2:=B8S Y2;clear hB2 hG2 Ho2 Hu2 HT0 Y1 Y2;refine r0T ?_;refine B8v ?_;go_loopw [120] (λs0 wr=>∃k:Nat,k<=m/\s0 = .int .i64 k/\LmW w.heap.size n bf bo (J4 U v1 n k) (J4 U v2 n k) (none,0) [] wr/\wr.ownsRow w.heap.size 3 1 (.slice (some ⟨bu,0,none⟩) m vu2) m (O9 (I2 U))/\Lq wr (some ⟨c1,0,none⟩) ((List.range m).map v1)/\Lq wr (some ⟨c2,0,none⟩) ((List.range m).map v2)/\Bx wr [(b6,115,#[.slice (some ⟨bf,0,none⟩) n n,.slice (some ⟨bo,0,none⟩) n n,.slice none 0 0]),(b2,108,#[.slice (some ⟨A,0,none⟩) n n,.slice (some ⟨bp,0,none⟩) n n]),(b4,115,#[.slice none 0 0,.slice none 0 0,.slice none 0 0])]/\A4 w wr) (λs0 _=>m-(intOf s0).toNat)
       case atStart=>exact⟨0,B8k _,rfl,Ho.out,Hu.out,HY1.out,HY2.out,hB,hG⟩
       case round =>
        clear hB hG Ho Hu HY1 HY2;obtain⟨k,hk,rfl,ho,hu,hy1,hy2,hB,hG⟩:=hrel;obtain⟨u,rfl⟩:=exQ wr;have Ho:=B8S ho;have Hu:=B8S hu;have HY1:=B8S hy1;have HY2:=B8S hy2;clear ho hu hy1 hy2;rcases B73 k m with hlt|hge
        ·have hdec:decide ((k:Int)<(m:Int))=true:=by simp;omega
         have hkm:(k:Int)<(m:Int):=by omega
         have hxn:=HUl.out k hlt;have q0:u.cell? ⟨bu,k,none⟩=some (.int .i64 (nx U k:Nat)):=by
          obtain⟨A1,c9,e1,-,hL⟩:=A1M (n:=m) (l:=I2 U) Hu.out (by rw[A1J,<-Hm.out]);cases e1;obtain⟨b9,o9,e9,h9⟩:=A2v hL (i:=k) (by rw[<-Hm.out];exact hlt);cases e9;have:=h9 u (A4.refl u)
          rwa [Nat.zero_add]at this
         have hy1:=HY1.out.read (i:=k) (by simpa using hlt);have hy2:=HY2.out.read (i:=k) (by simpa using hlt);rw[S6 _ hlt,Nat.zero_add]at hy1 hy2;have hp1:J4 U v1 n (k+1)=(J4 U v1 n k).set (nx U k) (v1 k):=rfl;have hp2:J4 U v2 n (k+1)=(J4 U v2 n k).set (nx U k) (v2 k):=rfl;obtain⟨X,hX⟩:∃X,X=nx U k:=⟨_,rfl⟩
         obtain⟨E1,hE1⟩:∃q,q=v1 k:=⟨_,rfl⟩
         obtain⟨E2,hE2⟩:∃q,q=v2 k:=⟨_,rfl⟩
         rw[<-hX]at hxn q0;rw[<-hX,<-hE1]at hp1;rw[<-hX,<-hE2]at hp2;rw[<-hE1]at hy1;rw[<-hE2]at hy2;have Hp1:=B8S hp1;have Hp2:=B8S hp2;have hXn:(X:Int)<(n:Int):=by omega
         obtain⟨a1,a2,a3,a4,a5⟩:=hy1;obtain⟨d1,d2,d3,d4,d5⟩:=hy2;obtain⟨z0,z1,z2,z3,z4,o0,o1,o2,o3,o4,hfz⟩:=A1C (enc:=qL) (λ_=>rfl) Ho.out.f (Y0 U v1 n k).symm X (by rw[Y0];exact hxn);obtain⟨t0,t1,t2,t3,t4,p0,p1,p2,p3,p4,hfz2⟩:=A1C (enc:=qL) (λ_=>rfl) Ho.out.g (Y0 U v2 n k).symm X (by rw[Y0];exact hxn);have hbb:bo≠bf:=λe=>Ho.out.ne e.symm;have hbb2:bf≠bo:=Ho.out.ne;have hb6f:b6≠bf:=λe=>L8 Ho.out.f hB.head (by decide) (B9d some e.symm);have hb6o:b6≠bo:=λe=>L8 Ho.out.g hB.head (by decide) (B9d some e.symm);clear hp1 hp2 hX hE1 hE2;refine r0T ?_;refine B8N ?_;refine B8V (rfl) ?_;refine B8U ?_;refine A6 ?_;refine B8N ?_;refine B8v ?_;refine r0T ?_;clear q0;refine B8A NoP.up ?_;have r:=hB.r;simp only[BxR]at r;go_region;clear r;clear a1 a2 a3 a4 a5 d1 d2 d3 d4 d5 o0 o1 o2 o3 o4 hfz p0 p1 p2 p3 p4 hfz2 hbb hbb2 hb6f hb6o;generalize hu0:World.setCell (World.setCell (World.setCell (World.setCell (World.setCell (World.setCell (World.setCell (World.setCell (World.setCell (World.setCell u _ _) _ _) _ _) _ _) _ _) _ _) _ _) _ _) _ _) _ _=u0;have hu1:C7 (C7 u bf (X*5) (qL E1)) bo (X*5) (qL E2)=u0:=hu0;obtain⟨ua,hua⟩:∃x,C7 u bf (X*5) (qL E1)=x:=⟨_,rfl⟩
         rw[hua]at hu1;have P1:=Ho.out.putF (Y0 _ _ _ _) hxn E1 hua;have P2:=P1.1.putG (Y0 _ _ _ _) hxn E2 hu1;have P3:=P2.1;rw[<-Hp1.out,<-Hp2.out]at P3;have hGa:=O5 Ho.out.f hG P1.2;have hG2:=(O5 P1.1.g hGa P2.2).trans (A4.drew u0);have hBa:=A2D Ho.out.f hB (by simp) P1.2;have hB2:=(A2D P1.1.g hBa (by simp) P2.2).grow (A4.drew u0);have hua2:=A0o Hu.out Ho.out.f (by decide) P1.2;have hu2:=C5 (A0o hua2 P1.1.g (by decide) P2.2) (A4.drew u0);have hy1:=(A2W (A2W HY1.out hc1f hua) hc1o hu1).grow (A4.drew u0);have hy2:=(A2W (A2W HY2.out hc2f hua) hc2o hu1).grow (A4.drew u0);have Ho2:=B8S (P3.grow (A4.drew u0));clear hB hG Ho Hu HY1 HY2 P1 P2 P3 hGa hBa hua2 hu0 hu1 hua;have hB:=hB2;have hG:=hG2;have Ho:=Ho2;have Hu:=B8S hu2;have HY1:=B8S hy1;have HY2:=B8S hy2;clear hB2 hG2 Ho2 hu2 hy1 hy2;obtain⟨u,rfl⟩:=exQ u0.drew;refine NoP.norm ?_;refine C8 ?_;refine A6 ?_;refine r0E ?_;refine A6 ?_;go_roundw
         case rel=>exact⟨k+1,by omega,by go_num,Ho.out,Hu.out,HY1.out,HY2.out,hB,hG⟩
         case measure=>simp[intOf];omega
        ·obtain rfl:m=k:=by omega
         have hdec:decide ((m:Int)<(m:Int))=false:=by simp
         clear Hu HY1 HY2;refine r0T ?_;refine B8N ?_;refine B8T (rfl) ?_;refine B8x ?_;refine B7 ?_;refine B7 ?_;refine D0 ?_;refine A6 ?_;refine hMj _ _ (Met.intro (hJj _ _ ?_))
         repeat apply Exists.intro
         refine⟨?rel,rfl⟩
         case rel =>
          exact⟨by rw[HFe.out,HGe.out,<-Hv1.out,<-Hv2.out];exact Ho.out,hB,hG⟩
   case rest =>
    clear hB hG Ho Hu;obtain⟨ho,hB,hG⟩:=hcut;obtain⟨u,rfl⟩:=exQ wc;have Ho:=B8S ho;clear ho;refine hKj _ _ ?_;clear hKj Kj;refine B8N ?_;refine r0T ?_;refine B8v ?_;go_loopw [144] (λs0 wr=>∃(i:Nat) (vl:Ax) (ls:List Lm),i<=n/\s0 = .int .i64 i/\ls=Z8 GR PL F G sg n i/\LmW w.heap.size n bf bo F G vl ls wr/\Bx wr [(b6,115,#[.slice (some ⟨bf,0,none⟩) n n,.slice (some ⟨bo,0,none⟩) n n,.slice vl.1 ls.length vl.2]),(b2,108,#[.slice (some ⟨A,0,none⟩) n n,.slice (some ⟨bp,0,none⟩) n n]),(b4,115,#[.slice none 0 0,.slice none 0 0,.slice none 0 0])]/\A4 w wr) (λs0 _=>n-(intOf s0).toNat)
    case atStart=>exact⟨0,(none,0),[],B8k _,rfl,rfl,Ho.out,hB,hG⟩
    case round =>
     clear hB hG Ho;obtain⟨i,vl,ls,hi,rfl,hls,ho,hB,hG⟩:=hrel;obtain⟨u,rfl⟩:=exQ wr;have Ho:=B8S ho;have hl12:ls.length<=12:=by
      have h1:=A5H (GR:=GR) (PL:=PL) (F:=F) (B:=G) (sg:=sg) (n:=n) i;rw[<-hls]at h1;omega
     have Hls:=B8S hls;clear ho hls;rcases B73 i n with hlt|hge
     ·have hdec:decide ((i:Int)<(n:Int))=true:=by simp;omega
      have hin:(i:Int)<(n:Int):=by omega
      have hsi:=Hsd.out i hlt;have hs3:=Hs3.out i hlt;obtain⟨S,hS⟩:∃S,S=gi sg i:=⟨_,rfl⟩
      simp only[<-hS]at hsi hs3;have hzS:=HqS.out S hs3.1 hs3.2;obtain⟨FI,hFI⟩:∃q,q=gq F i:=⟨_,rfl⟩
      obtain⟨GI,hGI⟩:∃q,q=gq G i:=⟨_,rfl⟩
      have zF:=HFz.out i;have zG:=HGz.out i;rw[<-hFI]at zF;rw[<-hGI]at zG;have hfr:∀(ls':List Lm) (vl':Ax) W,LmW w.heap.size n bf bo F G vl' ls' W->Cq W bf (i*5) FI/\Cq W bo (i*5) GI:=λls' vl' W h=>by
       have h1:=h.fq.read (i:=i) (by rw[HFl.out];exact hlt);have h2:=h.gq.read (i:=i) (by rw[HGl.out];exact hlt);rw[Nat.zero_add]at h1 h2;rw[hFI,hGI];exact⟨h1,h2⟩
      have Hsi:=B8S hsi;have Hfr:=B8S hfr;by_cases h0:S=0
      ·have f150:(S != 0)=false:=by simp[h0]
       obtain⟨ba,oa,cr,hrx⟩:=Hrd.out i hlt;have hpx:=Hpd.out i hlt;obtain⟨PI,hPI⟩:∃q,q=gq PL i:=⟨_,rfl⟩
       simp only[<-hPI]at hpx;have zP:=HPz.out i hlt;rw[<-hPI]at zP;have hd1:=λ(ls':List Lm) (vl':Ax) W (h:LmW w.heap.size n bf bo F G vl' ls' W) (hg:A4 w W) hT=>Hdt.out i hlt F bf ba oa cr W HFl.out HFz.out (hrx W hg).2.1 (hrx W hg).2.2 h.fq hT;have hd2:=λ(ls':List Lm) (vl':Ax) W (h:LmW w.heap.size n bf bo F G vl' ls' W) (hg:A4 w W) hT=>Hdt.out i hlt G bo ba oa cr W HGl.out HGz.out (hrx W hg).2.1 (hrx W hg).2.2 h.gq hT;have zU1:=Hdz.out F HFz.out i hlt;have zU2:=Hdz.out G HGz.out i hlt;have hla:Y9 GR PL F G sg n i=[(G0 (B9 1) (E7 (B6 GR i) G n),G0 (gq PL i) (E7 (B6 GR i) F n)),(G9 (B9 1) (E7 (B6 GR i) G n),K4 (G0 (gq PL i) (E7 (B6 GR i) F n)))]:=by
        unfold Y9;rw[if_neg (by rw[<-hS];exact λh=>h h0)]
       obtain⟨U1,hU1⟩:∃q,q=E7 (B6 GR i) F n:=⟨_,rfl⟩
       obtain⟨U2,hU2⟩:∃q,q=E7 (B6 GR i) G n:=⟨_,rfl⟩
       simp only[<-hU1]at hd1;simp only[<-hU2]at hd2;rw[<-hU1]at zU1;rw[<-hU2]at zU2;rw[<-hU1,<-hU2,<-hPI]at hla;have zR1:=A28 PI U1;have hc1:=λW hT=>A4x PI U1 W (by omega) hT;have hc2:=λW hT=>A4x (B9 1) U2 W (by omega) hT;have hc3:=λW hT=>A3g (B9 1) U2 W (by omega) hT;obtain⟨R1,hR1⟩:∃q,q=G0 PI U1:=⟨_,rfl⟩
       have zR2:qs R1<=qs PI+qs U1+1:=by rw[hR1];exact zR1
       have hc4:=λ(W:World)=>A7v R1 (by have:=G6 R1;have:=I6;omega) W;obtain⟨A1,hA1⟩:∃q,q=G0 (B9 1) U2:=⟨_,rfl⟩
       obtain⟨A2,hA2⟩:∃q,q=G9 (B9 1) U2:=⟨_,rfl⟩
       obtain⟨A3,hA3⟩:∃q,q=K4 R1:=⟨_,rfl⟩
       simp only[<-hR1]at hc1;simp only[<-hA1]at hc2;simp only[<-hA2]at hc3;simp only[<-hA3]at hc4;rw[<-hR1,<-hA1,<-hA2,<-hA3]at hla;have Hrx:=B8S hrx;have Hpx:=B8S hpx;have Hd1:=B8S hd1;have Hd2:=B8S hd2;have Hc1:=B8S hc1;have Hc2:=B8S hc2;have Hc3:=B8S hc3;have Hc4:=B8S hc4;have Hla:=B8S hla;clear h0 hS hsi hs3 hfr hFI hGI hrx hpx hPI hd1 hd2 hla hU1 hU2 hc1 hc2 hc3 hc4 hR1 hA1 hA2 hA3 zR1 zR2 zU1 zU2 zP zF zG hzS;refine r0T ?_;refine B8N ?_;refine B8V (rfl) ?_;refine B8U ?_;refine A6 ?_;refine B8N ?_;refine B8v ?_;refine B8N ?_
       (first|have q0:=Hsi.out u hG|skip)
       refine r0N ?_;refine B8N ?_;refine r0T ?_;refine B8T (rfl) ?_;refine B8U ?_;refine A6 ?_;refine B8N (rdC G7 [10] [(0,0),(0,1),(0,2),(0,3),(0,4),(0,5),(0,6),(1,7),(0,8),(0,9),(0,10),(2,11)] hB hG λK L hN hL=>?_)
       repeat first|refine gya ?_|refine gyr ?_|refine gna ?_|refine gyb (by(rintro v ⟨hgu,hB,hG,-⟩ N hN;have r:=hB.r;simp only[BxR]at r;have p4:=(Hrx.out v hG).1;obtain⟨y1,y2,y3,y4,y5⟩:=Hpx.out v hG;go_simp;exact hN)) ?_
       refine gmd (C:=λv ⟨hgu,hB,hG,_⟩=>Hd1.out _ _ _ (Ho.out.grow hgu) hG (HT.grow hG)) ?_;refine gs ?_;refine gaa (Q3 _ _ _ _ _) λb29 hb29 hn29=>?_;replace hF:=hF.n1 [] hB hG hb29 hn29;refine geC hL ?_;clear hB hG hL L;rintro u ⟨⟨hgu,hB,hG,-⟩,h29⟩;replace hB:=hB.cons' h29;clear h29;have Hn:=Ho;have hbb9:=hb29;have Ho2:=B8S (Ho.out.grow hgu);clear Ho;clear hb29 hn29;clear hgu;refine gtT ?_;clear hN K;refine sv hB hF hG 0 0 [_,_,_,_,_] ?_;intro u hu hBG;have Ho:=B8S (LmW.news Hn.out hbb9 Ho2.out hu);clear hB hG hu Hn Ho2 hbb9;obtain⟨hB,hG⟩:=hBG;refine B8N (rdC G7 [] [(0,0),(0,1),(0,2),(0,3),(0,4),(0,5),(1,6),(2,7)] hB hG λK L hN hL=>?_)
       repeat first|refine gya ?_|refine gyr ?_|refine gna ?_|refine gyb (by(rintro v ⟨hgu,hB,hG,-⟩ N hN;have r:=hB.r;simp only[BxR]at r;have p4:=(Hrx.out v hG).1;obtain⟨y1,y2,y3,y4,y5⟩:=Hpx.out v hG;go_simp;exact hN)) ?_
       refine gmd (C:=λv ⟨hgu,hB,hG,_⟩=>Hc1.out _ (HT.grow hG)) ?_;refine gaa (Q3 _ _ _ _ _) λb31 hb31 hn31=>?_;replace hF:=hF.n1 [] hB hG hb31 hn31;refine geC hL ?_;clear hB hG hL L;rintro u ⟨⟨hgu,hB,hG,-⟩,h31⟩;replace hB:=hB.cons' h31;clear h31;have Hn:=Ho;have hbb9:=hb31;have Ho2:=B8S (Ho.out.grow hgu);clear Ho;clear hb31 hn31;clear hgu;refine gtT ?_;clear hN K;refine sv hB hF hG 0 0 [_,_,_,_,_] ?_;intro u hu hBG;have Ho:=B8S (LmW.news Hn.out hbb9 Ho2.out hu);clear hB hG hu Hn Ho2 hbb9;obtain⟨hB,hG⟩:=hBG;refine B8N (rdC G7 [10] [(0,0),(0,1),(0,2),(0,3),(0,4),(0,5),(0,6),(1,7),(0,8),(0,9),(0,10),(2,11)] hB hG λK L hN hL=>?_)
       repeat first|refine gya ?_|refine gyr ?_|refine gna ?_|refine gyb (by(rintro v ⟨hgu,hB,hG,-⟩ N hN;have r:=hB.r;simp only[BxR]at r;have p4:=(Hrx.out v hG).1;obtain⟨y1,y2,y3,y4,y5⟩:=Hpx.out v hG;go_simp;exact hN)) ?_
       refine gmd (C:=λv ⟨hgu,hB,hG,_⟩=>Hd2.out _ _ _ (Ho.out.grow hgu) hG (HT.grow hG)) ?_;refine gs ?_;refine gaa (Q3 _ _ _ _ _) λb32 hb32 hn32=>?_;replace hF:=hF.n1 [] hB hG hb32 hn32;refine geC hL ?_;clear hB hG hL L;rintro u ⟨⟨hgu,hB,hG,-⟩,h32⟩;replace hB:=hB.cons' h32;clear h32;have Hn:=Ho;have hbb9:=hb32;have Ho2:=B8S (Ho.out.grow hgu);clear Ho;clear hb32 hn32;clear hgu;refine gtT ?_;clear hN K;refine sv hB hF hG 0 0 [_,_,_,_,_] ?_;intro u hu hBG;have Ho:=B8S (LmW.news Hn.out hbb9 Ho2.out hu);clear hB hG hu Hn Ho2 hbb9;obtain⟨hB,hG⟩:=hBG;refine A1Z (w:=w) G7 14 [] [(0,0),(0,1),(0,3),(0,5),(0,8),(0,10),(1,2),(1,4),(0,6),(1,7),(1,9),(1,11),(0,12),(1,13)] (by kernel_rfl) (by kernel_rfl) (by simp only[List.drop_succ_cons,List.drop_zero];exact rfl) (λ_=>True) noG hB hG trivial ?_;intro K L hN hL;simp only[H6,List.getElem?_toArray,List.getElem?_cons_zero,List.getElem?_cons_succ]
       repeat first|refine gya ?_|refine gyr ?_|refine gna ?_|refine gyb (by(rintro v ⟨hgu,hB,hG,-⟩ N hN;have r:=hB.r;simp only[BxR]at r;have p4:=(Hrx.out v hG).1;obtain⟨y1,y2,y3,y4,y5⟩:=Hpx.out v hG;go_simp;exact hN)) ?_
       refine gmw (C:=λv=>A0w 1 (by omega) (by omega) _) ?_;refine gmd (C:=λv ⟨hgu,hB,hG,_⟩=>Hc2.out _ (HT.grow hG)) ?_;refine gs ?_;refine gmw (C:=λv=>A0w 1 (by omega) (by omega) _) ?_;refine gmd (C:=λv ⟨hgu,hB,hG,_⟩=>Hc3.out _ (HT.grow hG)) ?_;refine gmw (C:=λv=>Hc4.out _) ?_;refine gs ?_;refine gx Nat (λb=>.slice (some ⟨b,0,none⟩) 2 2) (λb W=>Blk W b 183 (lmL (A1,R1)++lmL (A2,A3)).toArray) (λb u u' hg h=>h.grow hg) rfl ?_ (λx215=>?_)
       ·(rintro v ⟨hgu,hB,hG,-⟩ N hN;go_simp;exact hN v.heap.size _ (Blk.new v 183 (lmL (A1,R1)++lmL (A2,A3)).toArray) (A4.alloc _ _))
       refine okf (by simp only[Act.put,List.setIfInBounds_toArray,List.set_cons_succ,List.set_cons_zero];exact rfl) ?_;refine H8 ?_;rintro v ⟨⟨hgu,hB1,hG1,-⟩,hx215⟩;have Ho2:=B8S (Ho.out.grow hgu);clear Ho;have Ho:=Ho2;clear Ho2;clear hB hG;have hB:=hB1;have hG:=hG1;clear hB1 hG1;refine hL _ _ ?_;clear hL L hgu;obtain⟨u,rfl⟩:=exQ v;have r:=hB.r;simp only[BxR]at r;refine B59 A79 w.heap.size (.slice vl.1 ls.length vl.2) ls.length (ls.flatMap lmL) x215 2 (lmL (A1,R1)++lmL (A2,A3)) rfl rfl hx215 rfl rfl Ho.out.l (by omega) (by omega) hG.sz λv' w' g1 g2 g3=>?_;obtain⟨gl,cl,rfl,-,-⟩:=N0 g1 (by omega);have Ho2:=B8S (LmW.app (v':=(some ⟨gl,0,none⟩,cl)) (ls':=ls++[(A1,R1),(A2,A3)]) Ho.out (by rw[List.length_append,B97];simpa using g1) g2);have hB2:=A2D Ho.out.l hB (by simp) g2;have hG2:=O5 Ho.out.l hG g2;clear Ho hB hG g1 g2 g3 hx215;have Ho:=Ho2;have hB:=hB2;have hG:=hG2;clear Ho2 hB2 hG2;have r:=hB.r;simp only[BxR]at r;simp only[Act.put,List.setIfInBounds_toArray,List.set_cons_succ,List.set_cons_zero];go_wp2_with fail;clear r;generalize hu0:World.setCell w' _ _=u0;have hBG:=X9 hB hF hG 3 rfl 2 [_] hu0;have Ho2:=B8S (LmW.over (i:=2) (vs:=[_]) Ho.out hB.tail.tail.tail.head (by decide) hu0);clear Ho hB hG hu0;obtain⟨hB,hG⟩:=hBG;have Ho:=Ho2;clear Ho2 w';obtain⟨u,rfl⟩:=exQ u0;clear r
       skip
       refine NoK.norm (hN _ _ ?_);clear hN K;refine C8 ?_;refine A6 ?_;refine r0E ?_;refine A6 ?_;go_roundw
       case rel=>exact⟨i+1,(some ⟨gl,0,none⟩,cl),ls++[(A1,R1),(A2,A3)],by omega,by go_num,by rw[A4W,<-Hls.out,Hla.out],Ho.out,by rw[List.length_append];exact hB.tail.tail.tail,hG⟩
       case measure=>simp[intOf];omega
      ·have f150:(S != 0)=true:=by simp[h0]
       have hla:Y9 GR PL F G sg n i=[(C3 (gq G i) (B9 (gi sg i)),C3 (gq F i) (B9 (gi sg i)))]:=by
        unfold Y9;rw[if_pos (by rw[<-hS];exact h0)]
       rw[<-hS,<-hFI,<-hGI]at hla;obtain⟨K1,hK1⟩:∃q,q=B9 S:=⟨_,rfl⟩
       have hof:=λ(W:World)=>A0w S (by omega) (by omega) W;rw[<-hK1]at hzS;simp only[<-hK1]at hof hla;have hm1:=λW hT=>A1d GI K1 W (by omega) hT;have hm2:=λW hT=>A1d FI K1 W (by omega) hT;obtain⟨E1,hE1⟩:∃q,q=C3 GI K1:=⟨_,rfl⟩
       obtain⟨E2,hE2⟩:∃q,q=C3 FI K1:=⟨_,rfl⟩
       simp only[<-hE1]at hm1;simp only[<-hE2]at hm2;rw[<-hE1,<-hE2]at hla;have Hof:=B8S hof;have Hm1:=B8S hm1;have Hm2:=B8S hm2;have Hla:=B8S hla;clear h0 hS hsi hs3 hfr hFI hGI hla hof hm1 hm2 hE1 hE2 hK1 zF zG hzS;refine r0T ?_;refine B8N ?_;refine B8V (rfl) ?_;refine B8U ?_;refine A6 ?_;refine B8N ?_;refine B8v ?_;refine B8N ?_
       (first|have q0:=Hsi.out u hG|skip)
       refine r0N ?_;refine B8N ?_;refine r0T ?_;refine B8V (rfl) ?_;refine B8N (rsC G7 [0,1,2] hB hG λK L hN hL=>?_);refine gs ?_;refine gmw (C:=λv=>Hof.out _) ?_;refine gaa (Q3 _ _ _ _ _) λb28 hb28 hn28=>?_;replace hF:=hF.n1 [] hB hG hb28 hn28;refine geC hL ?_;clear hB hG hL L;rintro u ⟨⟨hgu,hB,hG,-⟩,h28⟩;replace hB:=hB.cons' h28;clear h28;have Hn:=Ho;have hb28b:=hb28;have Ho2:=B8S (Ho.out.grow hgu);clear Ho;clear hb28 hn28;clear hgu;refine gtT ?_;clear hN K;refine sv hB hF hG 0 0 [_,_,_,_,_] ?_;intro u hu hBG;have Ho:=B8S (LmW.news Hn.out hb28b Ho2.out hu);clear hB hG hu Hn Ho2 hb28b;obtain⟨hB,hG⟩:=hBG;refine B8N ?_;refine A1Z (w:=w) G7 18 [] [(0,0),(0,1),(0,2),(0,3),(0,4),(0,5),(0,6),(0,7),(0,9),(0,10),(0,11),(0,12),(0,13),(0,14),(1,8),(1,15),(0,16),(1,17)] (by kernel_rfl) (by kernel_rfl) (by simp only[List.drop_succ_cons,List.drop_zero];exact rfl) (λ_=>True) noG hB hG trivial ?_;intro K L hN hL;simp only[H6,List.getElem?_toArray,List.getElem?_cons_zero,List.getElem?_cons_succ]
       repeat first|refine gya ?_|refine gyr ?_|refine gna ?_|refine gyb (by(rintro v ⟨hgu,hB,hG,-⟩ N hN;have r:=hB.r;simp only[BxR]at r;obtain⟨⟨x1,x2,x3,x4,x5⟩,y1,y2,y3,y4,y5⟩:=Hfr.out _ _ v (Ho.out.grow hgu);go_simp;exact hN)) ?_
       refine gmd (C:=λv ⟨hgu,hB,hG,_⟩=>Hm1.out _ (HT.grow hG)) ?_;refine gmd (C:=λv ⟨hgu,hB,hG,_⟩=>Hm2.out _ (HT.grow hG)) ?_;refine gs ?_;refine gx Nat (λb=>.slice (some ⟨b,0,none⟩) 1 1) (λb W=>Blk W b 183 (lmL (E1,E2)).toArray) (λb u u' hg h=>h.grow hg) rfl ?_ (λx170=>?_)
       ·(rintro v ⟨hgu,hB,hG,-⟩ N hN;go_simp;exact hN v.heap.size _ (Blk.new v 183 (lmL (E1,E2)).toArray) (A4.alloc _ _))
       refine okf (by simp only[Act.put,List.setIfInBounds_toArray,List.set_cons_succ,List.set_cons_zero];exact rfl) ?_;refine H8 ?_;rintro v ⟨⟨hgu,hB1,hG1,-⟩,hx170⟩;have Ho2:=B8S (Ho.out.grow hgu);clear Ho;have Ho:=Ho2;clear Ho2;clear hB hG;have hB:=hB1;have hG:=hG1;clear hB1 hG1;refine hL _ _ ?_;clear hL L hgu;obtain⟨u,rfl⟩:=exQ v;have r:=hB.r;simp only[BxR]at r;refine B20 A79 w.heap.size (.slice vl.1 ls.length vl.2) ls.length (ls.flatMap lmL) x170 (lmL (E1,E2)) rfl rfl hx170 rfl rfl Ho.out.l (by omega) (by omega) hG.sz λv' w' g1 g2 g3=>?_;obtain⟨gl,cl,rfl,-,-⟩:=N0 g1 (by omega);have Ho2:=B8S (LmW.app (v':=(some ⟨gl,0,none⟩,cl)) (ls':=ls++[(E1,E2)]) Ho.out (by rw[List.length_append,B97];simpa using g1) g2);have hB2:=A2D Ho.out.l hB (by simp) g2;have hG2:=O5 Ho.out.l hG g2;clear Ho hB hG g1 g2 g3 hx170;have Ho:=Ho2;have hB:=hB2;have hG:=hG2;clear Ho2 hB2 hG2;have r:=hB.r;simp only[BxR]at r;simp only[Act.put,List.setIfInBounds_toArray,List.set_cons_succ,List.set_cons_zero];go_wp2_with fail;clear r;generalize hu0:World.setCell w' _ _=u0;have hBG:=X9 hB hF hG 1 rfl 2 [_] hu0;have Ho2:=B8S (LmW.over (i:=2) (vs:=[_]) Ho.out hB.tail.head (by decide) hu0);clear Ho hB hG hu0;obtain⟨hB,hG⟩:=hBG;have Ho:=Ho2;clear Ho2 w';obtain⟨u,rfl⟩:=exQ u0;clear r
       skip
       refine NoK.norm (hN _ _ ?_);clear hN K;refine A6 ?_;refine B8x ?_;refine B7 ?_;refine D0 ?_;refine A6 ?_;refine r0E ?_;refine A6 ?_;go_roundw
       case rel=>exact⟨i+1,(some ⟨gl,0,none⟩,cl),ls++[(E1,E2)],by omega,by go_num,by rw[A4W,<-Hls.out,Hla.out],Ho.out,by rw[List.length_append];exact hB.tail,hG⟩
       case measure=>simp[intOf];omega
     ·obtain rfl:n=i:=by omega
      have hdec:decide ((n:Int)<(n:Int))=false:=by simp
      refine r0T ?_;refine B8N ?_;refine B8T (rfl) ?_;refine B8x ?_;refine B7 ?_;refine B7 ?_;refine D0 ?_;refine A6 ?_;refine r0T ?_;have hbk:=hB.tail.tail.head;refine sv hB hF hG 2 0 [_,_,_] ?_;intro u hu hBG;have Ho2:=B8S (Ho.out.over hbk (by decide) hu);clear hB hG hu Ho hbk;obtain⟨hB,hG⟩:=hBG;refine rt Tryz.results61 ?_;exact⟨((some ⟨bf,0,none⟩,n),(some ⟨bo,0,none⟩,n),vl),by rw[<-Hls.out],⟨Ho2.out.f,Ho2.out.g,by rw[<-Hls.out];exact Ho2.out.l⟩,hG⟩
end Go.Proofs.YtgpglgbcobeogaaGreatDoor
