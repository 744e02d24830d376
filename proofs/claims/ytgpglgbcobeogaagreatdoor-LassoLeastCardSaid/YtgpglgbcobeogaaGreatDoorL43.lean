import Derived.Test.YtgpglgbcobeogaaGreatDoorL29
set_option linter.unusedSimpArgs false
set_option linter.unusedVariables false
set_option maxHeartbeats 8000000
set_option maxRecDepth 100000
namespace Go.Proofs.YtgpglgbcobeogaaGreatDoor
open Go Go.RowKit
theorem A0i{w:World}{A:Option Addr}{rs:List Rq}{N L:Nat}(hn:rs.length=N)(hrl:∀r∈rs,r.2.2.length=L)(h:Lrz w A rs){i:Nat}(hi:i<N):∃(bb ob:Nat) (P:Ax),A=some ⟨bb,ob,none⟩/\(∀W,A4 w W->W.cell? ⟨bb,ob+i,none⟩=some (.slice P.1 L P.2)/\Lz W P.1 (B6 (rs.map (·.2.2)) i))/\(B6 (rs.map (·.2.2)) i).length=L:=by
 obtain⟨bb,ob,rfl⟩:=h.addr (by omega);have hil:i<rs.length:=by omega
 have e:B6 (rs.map (·.2.2)) i=rs[i].2.2:=by unfold B6;rw[List.getElem?_map,B8i hil];rfl
 refine⟨bb,ob,(rs[i].1,rs[i].2.1),rfl,λW hg=>?_,by rw[e];exact hrl _ (B8G hil)⟩;have h3:=(h.grow hg).read (B8i hil);rw[hrl _ (B8G hil)]at h3;rw[e];exact⟨h3.1,h3.2⟩
theorem A5s{l:List Rat}{n s:Nat}(hl:l.length=n)(h:∀i,i<n->qs (gq l i)<=s):∀x∈l,qs x<=s:=λx hx=>by
 obtain⟨i,hi,e⟩:=B9w hx;have h1:=h i (by omega);have h2:=A0n hi;rw[B8i hi]at h2;injection h2 with h2;rw[<-h2,e]at h1;exact h1
theorem A7X(A:Option Addr)(rs:List Rq)(N L c j:Nat)(hn:rs.length=N)(hN2:N<=300)(hrl:∀r∈rs,r.2.2.length=L)(hj:j<L)(hL:L<=20)(w:World)(h:Lrz w A rs) :
  Calls Tryz.prog 106 #[.slice A N c,.int .i64 (j:Nat)] w (E9 (λx:Ax=>.slice x.1 N x.2) (λx W=>Lz W x.1 (G1 (rs.map (·.2.2)) j N)) w):=by
 have hat:∀i,i<N->∃(bb ob ba oa cr:Nat) (p:Az),A=some ⟨bb,ob,none⟩/\∀W,A4 w W->W.cell? ⟨bb,ob+i,none⟩=some (.slice (some ⟨ba,oa,none⟩) L cr)/\Rz W p (gq (B6 (rs.map (·.2.2)) i) j)/\Cz W ba (oa+j*3) p (gq (B6 (rs.map (·.2.2)) i) j):=λi hi=>by
  obtain⟨bb,ob,⟨P1,P2⟩,e,hP,hl⟩:=A0i hn hrl h hi;obtain⟨h1,h2⟩:=hP w (A4.refl w);obtain⟨ba,oa,e1⟩:=h2.addr (by omega);simp only at e1;subst e1;obtain⟨p,hp⟩:=h2.read (i:=j) (by omega);exact⟨bb,ob,ba,oa,P2,p,e,λW hg=>⟨(hP W hg).1,hp W hg⟩⟩
 unfold G1;obtain⟨f,hf⟩:∃f:Nat->Rat,f=λi=>gq (B6 (rs.map (·.2.2)) i) j:=⟨_,rfl⟩
 have hfi:∀i,gq (B6 (rs.map (·.2.2)) i) j=f i:=by rw[hf];exact λ_=>rfl
 simp only[hfi]at hat;rw[<-hf];have hjL:(j:Int)<(L:Int):=by omega
 have Hat:=B8S hat;clear hat hf hfi h hrl hn;go_enter Tryz.func106,Tryz.ntmps106;refine en0 ?_;intro u hG hB hF;refine r0T ?_;refine B8N ?_;refine r0T ?_;refine B8v ?_;clear hB hF;go_loopw [6,5] (λs0 s1 wr=>∃(i:Nat) (ps:List Zr),i<=N/\s0 = .int .i64 i/\ps.map (·.2)=(List.range i).map f/\E6 wr ps/\wr.ownsRow w.heap.size 33 3 s1 i (ps.flatMap zrL)/\A4 w wr) (λs0 _ _=>N-(intOf s0).toNat)
 case atStart=>exact⟨0,[],B8k _,rfl,rfl,E6.nil _,B9x _ _ _ _,hG⟩
 case round =>
  clear hG;obtain⟨i,ps,hi,rfl,hps,hA,ho,hG⟩:=hrel;obtain⟨u,rfl⟩:=exQ wr;have hB:=Bx.nil u;have hF:=Fr.nil w;have Ho:=B8S ho;have Hps:=B8S hps;clear ho hps;rcases B73 i N with hlt|hge
  ·have hdec:decide ((i:Int)<(N:Int))=true:=by simp;omega
   have hin:(i:Int)<(N:Int):=by omega
   have hsu:=A3G f i;obtain⟨bb,ob,ba,oa,cr,pz,rfl,hrd⟩:=Hat.out i hlt;obtain⟨Q,hQ⟩:∃q,q=f i:=⟨_,rfl⟩
   rw[<-hQ]at hsu;simp only[<-hQ]at hrd;have Hsu:=B8S hsu;have Hrd:=B8S hrd;clear hsu hrd hQ;refine B8N ?_;refine r0T ?_;refine B8V (rfl) ?_;refine B8U ?_;refine A6 ?_;refine B8N ?_;refine B8v ?_;refine M4 (w:=w) A8 8 [0,0,0,0,0,0,0,0] (by kernel_rfl) (by simp only[List.drop_succ_cons,List.drop_zero];exact rfl) (λ_=>True) noG hB hG trivial ?_;intro K L hN hL;simp only[List.zip_cons_cons,List.zip_nil_left]
   repeat first|refine gya ?_|refine gyr ?_|refine gna ?_|refine gyb (by(rintro v ⟨hgu,hB,hG,-⟩ N hN;have r:=hB.r;simp only[BxR]at r;obtain⟨q0,-,q1,q2,q3⟩:=Hrd.out v hG;go_simp;exact hN)) ?_
   refine H8 ?_;rintro v ⟨hgu,hB1,hG1,-⟩;replace hA:=hA.grow hgu;have ROWn:=B8S (C5 Ho.out hgu);clear Ho;have Ho:=ROWn;clear ROWn;clear hB hG;have hB:=hB1;have hG:=hG1;clear hB1 hG1;refine hL _ _ ?_;clear hL L hgu;obtain⟨u,rfl⟩:=exQ v;refine L6 X4 w.heap.size _ _ _ _ (zL pz Q) rfl rfl (A0m pz.1 pz.2 Q u) rfl (λ_=>rfl) (λ_=>rfl) (λ_ _=>rfl) Ho.out (by omega) (by omega) hG.sz λp v' w' g1 g2 g3=>?_;have hBn:=Bx.nil w';have hGn:=K3 Ho.out hG g2;replace hA:=hA.own Ho.out (by decide) g2;clear Ho hB hG;have Ho:=B8S g1;have hB:=hBn;have hG:=hGn;clear g1 g2 g3 hBn hGn;obtain⟨u,rfl⟩:=exQ w';simp only[Act.put,List.setIfInBounds_toArray,List.set_cons_succ,List.set_cons_zero];refine NoK.norm (hN _ _ ?_);clear hN K;refine C8 ?_;refine A6 ?_;refine r0E ?_;refine A6 ?_;go_roundw
   case rel=>exact⟨i+1,ps++[(pz,Q)],by omega,by go_num,by rw[List.map_append,Hps.out,Hsu.out];rfl,hA.snoc (Hrd.out _ hG).2.1.a (Hrd.out _ hG).2.1.b,by have:=Ho.out;rw[B97];simpa [zrL]using this,hG⟩
   case measure=>simp[intOf];omega
  ·obtain rfl:N=i:=by omega
   have hdec:decide ((N:Int)<(N:Int))=false:=by simp
   obtain⟨A',cc,rfl,hcc1,hcc2,hL,hkl⟩:=Y6 Ho.out hA;rw[Hps.out]at hL;have HL:=B8S hL;clear hL hkl Ho Hps hA;refine B8N ?_;refine r0T ?_;refine B8T (rfl) ?_;refine B8x ?_;refine B7 ?_;refine B7 ?_;refine D0 ?_;refine A6 ?_;refine r0T ?_;refine rt Tryz.results106 ?_;exact⟨(A',cc),rfl,HL.out,hG⟩
theorem A6O(A B:Option Addr)(l l':List Rat)(c d n:Nat)(hl:l.length=n)(hl':l'.length=n)(hm:n<=20)(s:Nat)(hs2:s<=500000000)(hs:∀i,i<n->qs (gq l i)<=s)(hs':∀i,i<n->qs (gq l' i)<=s)(w:World)(h:Lz w A l)(h':Lz w B l') :
  Calls Tryz.prog 105 #[.slice A n c,.slice B n d] w (Ret (F7 (E7 l l' n)) w):=by
 have hBB:1000000000000<=BIG:=by unfold BIG;omega
 have h4:n*(s+s+1)<=20*(s+s+1):=B8q _ hm;refine B4m A B l l' c d n hl.symm hl'.symm (by omega) s (20*(s+s+1)+1) (A5s hl hs) (A5s hl' hs') (λj hj=>?_) (by omega) w h h';have h5:=A0h hs hs' j hj;have h6:j*(s+s+1)<=n*(s+s+1):=B8q _ hj;exact B8K h5 (by omega)
theorem A93(A Y V:Option Addr)(rs:List Rq)(y v:List Rat)(N L c d k:Nat)(hn:rs.length=N)(hN2:N<=20)(hrl:∀r∈rs,r.2.2.length=L)(hy:y.length=N)(hv:v.length=L)(hL:L<=20)(s:Nat)(hs:s<=500000000)(hX:∀i,i<N->∀j,j<L->qs (gq (B6 (rs.map (·.2.2)) i) j)<=s)(hys:∀i,i<N->qs (gq y i)<=s)(hvs:∀j,j<L->qs (gq v j)<=s)(hR:∀i,i<N->qs (gq (V3 (rs.map (·.2.2)) y v N L) i)<=500000000)(w:World)(h:Lrz w A rs)(h2:Lz w Y y)(h3:Lz w V v) :
  Calls Tryz.prog 39 #[.slice A N c,.slice Y N d,.slice V L k] w (E9 (λx:Ax=>.slice x.1 L x.2) (λx W=>Lz W x.1 (P8 (rs.map (·.2.2)) y v N L)) w):=by
 have hBB:1000000000000<=BIG:=by unfold BIG;omega
 have hat:∀i,i<N->∃(bb ob by0 oy:Nat) (P:Ax) (p:Az) (Z D:Rat),A=some ⟨bb,ob,none⟩/\Y=some ⟨by0,oy,none⟩/\(∀W,A4 w W->W.cell? ⟨bb,ob+i,none⟩=some (.slice P.1 L P.2)/\Rz W p Z/\Cz W by0 (oy+i*3) p Z)/\(∀W,A4 w W->Calls Tryz.prog 105 #[.slice P.1 L P.2,.slice V L k] W (Ret (F7 D) W))/\qs Z+qs D+10<=BIG/\G0 Z D=G0 (gq y i) (E7 v (B6 (rs.map (·.2.2)) i) L):=λi hi=>by
  obtain⟨bb,ob,P,e,hP,hl⟩:=A0i hn hrl h hi;obtain⟨by0,oy,e2⟩:=h2.addr (by omega);subst e2;obtain⟨p,hp⟩:=h2.read (i:=i) (by omega);refine⟨bb,ob,by0,oy,P,p,gq y i,E7 (B6 (rs.map (·.2.2)) i) v L,e,rfl,λW hg=>⟨(hP W hg).1,hp W hg⟩,λW hg=>?_,?_,by rw[A5J]⟩
  ·exact A6O P.1 V _ v P.2 k L hl hv hL s (by omega) (hX i hi) hvs W (hP W hg).2 (h3.grow hg)
  ·have z1:=A0h (a:=B6 (rs.map (·.2.2)) i) (b:=v) (n:=L) (hX i hi) hvs L (K2 _);have z2:=hys i hi;have h4:L*(s+s+1)<=20*(s+s+1):=B8q _ hL;omega
 have hcl:=λW (hg:A4 w W) j (hj:j<L)=>A7X A rs N L c j hn (by omega) hrl hj hL W (h.grow hg);have hRl:=A7M (rs.map (·.2.2)) y v N L;have hCs:∀j,j<L->∀i,i<N->qs (gq (G1 (rs.map (·.2.2)) j N) i)<=500000000:=λj hj i hi=>by rw[A0k _ j N hi];have:=hX i hi j hj;omega
 have hdt:∀W j,j<L->∀(P1 P2:Ax),Lz W P1.1 (G1 (rs.map (·.2.2)) j N)->Lz W P2.1 (V3 (rs.map (·.2.2)) y v N L)->Calls Tryz.prog 105 #[.slice P1.1 N P1.2,.slice P2.1 N P2.2] W (Ret (F7 (E7 (G1 (rs.map (·.2.2)) j N) (V3 (rs.map (·.2.2)) y v N L) N)) W):=λW j hj P1 P2 g1 g2 =>
  A6O P1.1 P2.1 _ _ P1.2 P2.2 N (A48 _ j N) hRl hN2 500000000 (by omega) (hCs j hj) hR W g1 g2
 unfold P8;obtain⟨R,hRe⟩:∃R,R=V3 (rs.map (·.2.2)) y v N L:=⟨_,rfl⟩
 simp only[<-hRe]at hdt⊢;obtain⟨fr,hfr⟩:∃f:Nat->Rat,f=λi=>G0 (gq y i) (E7 v (B6 (rs.map (·.2.2)) i) L):=⟨_,rfl⟩
 have hfri:∀i,G0 (gq y i) (E7 v (B6 (rs.map (·.2.2)) i) L)=fr i:=by rw[hfr];exact λ_=>rfl
 have hRf:R=(List.range N).map fr:=by rw[hRe,hfr];rfl
 simp only[hfri]at hat;obtain⟨C,hC⟩:∃C:Nat->List Rat,C=λj=>G1 (rs.map (·.2.2)) j N:=⟨_,rfl⟩
 have hCi:∀j,G1 (rs.map (·.2.2)) j N=C j:=by rw[hC];exact λ_=>rfl
 simp only[hCi]at hcl hdt⊢;obtain⟨f,hf⟩:∃f:Nat->Rat,f=λj=>E7 (C j) R N:=⟨_,rfl⟩
 have hfi:∀j,E7 (C j) R N=f j:=by rw[hf];exact λ_=>rfl
 simp only[hfi]at hdt;rw[<-hf];have Hat:=B8S hat;have Hcl:=B8S hcl;have Hdt:=B8S hdt;have HRf:=B8S hRf;clear hat hcl hdt hRf hf hfi hC hCi hRe hfr hfri hR hRl hCs h h2 h3 hrl hn hX hys hvs hs hy hv;go_enter Tryz.func39,Tryz.ntmps39;refine en0 ?_;intro u hG hB hF;refine r0T ?_;refine B8N ?_;refine r0T ?_;refine B8v ?_;clear hB hF;go_loopw [9,7] (λs0 s1 wr=>∃(i:Nat) (ps:List Zr),i<=N/\s0 = .int .i64 i/\ps.map (·.2)=(List.range i).map fr/\E6 wr ps/\wr.ownsRow w.heap.size 33 3 s1 i (ps.flatMap zrL)/\A4 w wr) (λs0 _ _=>N-(intOf s0).toNat)
 case atStart=>exact⟨0,[],B8k _,rfl,rfl,E6.nil _,B9x _ _ _ _,hG⟩
 case round =>
  clear hG;obtain⟨i,ps,hi,rfl,hps,hA,ho,hG⟩:=hrel;obtain⟨u,rfl⟩:=exQ wr;have hB:=Bx.nil u;have hF:=Fr.nil w;have Ho:=B8S ho;have Hps:=B8S hps;clear ho hps;rcases B73 i N with hlt|hge
  ·have hdec:decide ((i:Int)<(N:Int))=true:=by simp;omega
   have hin:(i:Int)<(N:Int):=by omega
   have hsu:=A3G fr i;obtain⟨bb,ob,by0,oy,P,p,Z,D,rfl,rfl,hrd,hdt,zz,e⟩:=Hat.out i hlt;rw[<-e]at hsu;have Hsu:=B8S hsu;have Hrd:=B8S hrd;have Hdt1:=B8S hdt;clear hsu hrd hdt e;refine B8N ?_;refine r0T ?_;refine B8V (rfl) ?_;refine B8U ?_;refine A6 ?_;refine B8N ?_;refine B8v ?_;refine A1Z (w:=w) A8 12 [0] [(0,0),(0,1),(0,2),(0,3),(0,4),(0,5),(0,6),(0,7),(0,8),(0,9),(1,10),(1,11)] (by kernel_rfl) (by kernel_rfl) (by simp only[List.drop_succ_cons,List.drop_zero];exact rfl) (λ_=>True) noG hB hG trivial ?_;intro K L hN hL;simp only[H6,List.getElem?_toArray,List.getElem?_cons_zero,List.getElem?_cons_succ]
   repeat first|refine gya ?_|refine gyr ?_|refine gna ?_|refine gyb (by(rintro v ⟨hgu,hB,hG,-⟩ N hN;have r:=hB.r;simp only[BxR]at r;obtain⟨q0,-,q1,q2,q3⟩:=Hrd.out v hG;go_simp;exact hN)) ?_
   refine grd (F7 D) (λ(x27:Ax×Ax)=>?_) (C:=by(rintro v ⟨hgu,hB,hG,-⟩;exact Hdt1.out _ hG));refine grd (F7 (G0 Z D)) (λ(x28:Ax×Ax)=>?_) (C:=by(rintro v ⟨⟨hgu,hB,hG,-⟩,hx27⟩;obtain⟨hx27a,hx27b⟩:Rn v x27.1 _/\Rn v x27.2 _:=hx27;exact A9B p.1 p.2 x27.1 x27.2 Z D _ (Hrd.out _ hG).2.1.a (Hrd.out _ hG).2.1.b hx27a hx27b (by omega)));refine H8 ?_;rintro v ⟨⟨⟨hgu,hB1,hG1,-⟩,hx27⟩,hx28⟩;replace hA:=hA.grow hgu;obtain⟨hx27a,hx27b⟩:Rn v x27.1 _/\Rn v x27.2 _:=hx27;obtain⟨hx28a,hx28b⟩:Rn v x28.1 _/\Rn v x28.2 _:=hx28;have ROWn:=B8S (C5 Ho.out hgu);clear Ho;have Ho:=ROWn;clear ROWn;clear hB hG;have hB:=hB1;have hG:=hG1;clear hB1 hG1;refine hL _ _ ?_;clear hL L hgu;obtain⟨u,rfl⟩:=exQ v;refine L6 X4 w.heap.size _ _ _ _ (zL x28 (G0 Z D)) rfl rfl (A0m x28.1 x28.2 (G0 Z D) u) rfl (λ_=>rfl) (λ_=>rfl) (λ_ _=>rfl) Ho.out (by omega) (by omega) hG.sz λp v' w' g1 g2 g3=>?_;have hBn:=Bx.nil w';have hGn:=K3 Ho.out hG g2;replace hA:=hA.own Ho.out (by decide) g2;replace hx27a:=hx27a.own Ho.out (by decide) g2;replace hx27b:=hx27b.own Ho.out (by decide) g2;replace hx28a:=hx28a.own Ho.out (by decide) g2;replace hx28b:=hx28b.own Ho.out (by decide) g2;clear Ho hB hG;have Ho:=B8S g1;have hB:=hBn;have hG:=hGn;clear g1 g2 g3 hBn hGn;obtain⟨u,rfl⟩:=exQ w';simp only[Act.put,List.setIfInBounds_toArray,List.set_cons_succ,List.set_cons_zero];refine NoK.norm (hN _ _ ?_);clear hN K;refine C8 ?_;refine A6 ?_;refine r0E ?_;refine A6 ?_;go_roundw
   case rel=>exact⟨i+1,ps++[(x28,G0 Z D)],by omega,by go_num,by rw[List.map_append,Hps.out,Hsu.out];rfl,hA.snoc hx28a hx28b,by have:=Ho.out;rw[B97];simpa [zrL]using this,hG⟩
   case measure=>simp[intOf];omega
  ·obtain rfl:N=i:=by omega
   have hdec:decide ((N:Int)<(N:Int))=false:=by simp
   obtain⟨A7,c7,rfl,hcc1,hcc2,hL7,hkl⟩:=Y6 Ho.out hA;rw[Hps.out,<-HRf.out]at hL7;have HR:=B8S hL7;clear hL7 hkl Ho Hps hA hcc1 hcc2;refine B8N ?_;refine r0T ?_;refine B8T (rfl) ?_;refine B8x ?_;refine B7 ?_;refine B7 ?_;refine D0 ?_;refine A6 ?_;refine B8N ?_;refine r0T ?_;have HG0:=B8S hG;clear hB hF hG;obtain⟨w0,rfl⟩:=exQ w;obtain⟨w,hwu⟩:=exQ u;rw[<-hwu]at HG0 HR;have hB:=Bx.nil u;have hF:=Fr.nil w;have hG:A4 w u:=hwu ▸ A4.refl u;clear hwu;have hcl:=λW (hg:A4 w W)=>Hcl.out W (HG0.out.trans hg);clear Hcl;have Hcl:=B8S hcl;clear hcl Hat;refine B8v ?_;clear hB hF;go_loopw [10,8] (λs0 s1 wr=>∃(i:Nat) (ps:List Zr),i<=L/\s0 = .int .i64 i/\ps.map (·.2)=(List.range i).map f/\E6 wr ps/\wr.ownsRow w.heap.size 33 3 s1 i (ps.flatMap zrL)/\A4 w wr) (λs0 _ _=>L-(intOf s0).toNat)
   case atStart=>exact⟨0,[],B8k _,rfl,rfl,E6.nil _,B9x _ _ _ _,hG⟩
   case round =>
    clear hG;obtain⟨i,ps,hi2,rfl,hps,hA,ho,hG⟩:=hrel;obtain⟨u,rfl⟩:=exQ wr;have hB:=Bx.nil u;have hF:=Fr.nil w;have Ho:=B8S ho;have Hps:=B8S hps;clear ho hps;rcases B73 i L with hlt|hge2
    ·have hdec2:decide ((i:Int)<(L:Int))=true:=by simp;omega
     have hsu:=A3G f i;have hcl:=λW (hg:A4 w W)=>Hcl.out W hg i hlt;have hdt:=λW=>Hdt.out W i hlt;obtain⟨Q,hQ⟩:∃q,q=f i:=⟨_,rfl⟩
     rw[<-hQ]at hsu;simp only[<-hQ]at hdt;obtain⟨Ci,hCi⟩:∃q,q=C i:=⟨_,rfl⟩
     simp only[<-hCi]at hdt hcl;have Hsu:=B8S hsu;have Hcli:=B8S hcl;have Hdti:=B8S hdt;clear hsu hcl hdt hQ hCi;refine B8N ?_;refine r0T ?_;refine B8V (rfl) ?_;refine B8U ?_;refine A6 ?_;refine B8N ?_;refine B8v ?_;refine M4 (w:=w) A8 6 [0,0,0,1,0,1] (by kernel_rfl) (by simp only[List.drop_succ_cons,List.drop_zero];exact rfl) (λ_=>True) noG hB hG trivial ?_;intro K L hN hL;simp only[List.zip_cons_cons,List.zip_nil_left];refine gs ?_;refine gxd (X:=Ax) (λx:Ax=>.slice x.1 N x.2) (λx W=>Lz W x.1 Ci) (λx u u' hg h=>Lz.grow h hg) (λx40=>?_) (C:=by(rintro v ⟨hgu,hB,hG,-⟩;exact Hcli.out _ hG));refine gs ?_;refine grd (F7 Q) (λ(x42:Ax×Ax)=>?_) (C:=by(rintro v ⟨⟨hgu,hB,hG,-⟩,hx40⟩;exact Hdti.out _ x40 (A7,c7) hx40 (HR.out.grow hG)));refine H8 ?_;rintro v ⟨⟨⟨hgu,hB1,hG1,-⟩,hx40⟩,hx42⟩;replace hA:=hA.grow hgu;obtain⟨hx42a,hx42b⟩:Rn v x42.1 _/\Rn v x42.2 _:=hx42;have ROWn:=B8S (C5 Ho.out hgu);clear Ho;have Ho:=ROWn;clear ROWn;clear hx40;clear hB hG;have hB:=hB1;have hG:=hG1;clear hB1 hG1;refine hL _ _ ?_;clear hL L hgu;obtain⟨u,rfl⟩:=exQ v;refine L6 X4 w.heap.size _ _ _ _ (zL x42 Q) rfl rfl (A0m x42.1 x42.2 Q u) rfl (λ_=>rfl) (λ_=>rfl) (λ_ _=>rfl) Ho.out (by omega) (by omega) hG.sz λp v' w' g1 g2 g3=>?_;have hBn:=Bx.nil w';have hGn:=K3 Ho.out hG g2;replace hA:=hA.own Ho.out (by decide) g2;replace hx42a:=hx42a.own Ho.out (by decide) g2;replace hx42b:=hx42b.own Ho.out (by decide) g2;clear Ho hB hG;have Ho:=B8S g1;have hB:=hBn;have hG:=hGn;clear g1 g2 g3 hBn hGn;obtain⟨u,rfl⟩:=exQ w';simp only[Act.put,List.setIfInBounds_toArray,List.set_cons_succ,List.set_cons_zero];refine NoK.norm (hN _ _ ?_);clear hN K;refine C8 ?_;refine A6 ?_;refine r0E ?_;refine A6 ?_;go_roundw
     case rel=>exact⟨i+1,ps++[(x42,Q)],by omega,by go_num,by rw[List.map_append,Hps.out,Hsu.out];rfl,hA.snoc hx42a hx42b,by have:=Ho.out;rw[B97];simpa [zrL]using this,hG⟩
     case measure=>simp[intOf];omega
    ·obtain rfl:L=i:=by omega
     have hdec2:decide ((L:Int)<(L:Int))=false:=by simp
     obtain⟨A',cc,rfl,hcc1,hcc2,hL,hkl⟩:=Y6 Ho.out hA;rw[Hps.out]at hL;have HL:=B8S hL;clear hL hkl Ho Hps hA;refine B8N ?_;refine r0T ?_;refine B8T (rfl) ?_;refine B8x ?_;refine B7 ?_;refine B7 ?_;refine D0 ?_;refine A6 ?_;refine r0T ?_;refine rt Tryz.results39 ?_;exact⟨(A',cc),rfl,HL.out,HG0.out.trans hG⟩
theorem B5W(A Y V:Option Addr)(rs:List Rq)(y v:List Rat)(N L c d k:Nat)(hn:rs.length=N)(hN2:N<=20)(hrl:∀r∈rs,r.2.2.length=L)(hy:y.length=N)(hv:v.length=L)(hL:L<=20)(s:Nat)(hs:s<=10000000)(hX:∀i,i<N->∀j,j<L->qs (gq (B6 (rs.map (·.2.2)) i) j)<=s)(hys:∀i,i<N->qs (gq y i)<=s)(hvs:∀j,j<L->qs (gq v j)<=s)(w:World)(h:Lrz w A rs)(h2:Lz w Y y)(h3:Lz w V v) :
  Calls Tryz.prog 39 #[.slice A N c,.slice Y N d,.slice V L k] w (E9 (λx:Ax=>.slice x.1 L x.2) (λx W=>Lz W x.1 (P8 (rs.map (·.2.2)) y v N L)) w) :=
 A93 A Y V rs y v N L c d k hn hN2 hrl hy hv hL s (by omega) hX hys hvs (A4X hN2 hL hs hX hys hvs) w h h2 h3
end Go.Proofs.YtgpglgbcobeogaaGreatDoor
