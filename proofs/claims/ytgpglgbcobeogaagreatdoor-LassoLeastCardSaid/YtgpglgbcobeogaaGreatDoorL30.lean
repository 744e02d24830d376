import Derived.Test.YtgpglgbcobeogaaGreatDoorL29
set_option linter.unusedSimpArgs false
set_option linter.unusedVariables false
set_option maxHeartbeats 8000000
set_option maxRecDepth 100000
namespace Go.Proofs.YtgpglgbcobeogaaGreatDoor
open Go Go.RowKit
abbrev Mx:=Nat->Nat->Rat
def J5(M:Mx)(a b:Nat):Mx:=λi=>if i=a then M b else if i=b then M a else M i
def I8(M:Mx)(t:Nat)(k:Rat)(n:Nat):Mx:=λi j=>if i=t/\j<n then C3 (M i j) k else M i j
def I4(M:Mx)(i t:Nat)(k:Rat)(n:Nat):Mx:=λi' j=>if i'=i/\j<n then G0 (M i' j) (C3 k (M t j))else M i' j
def H9(M:Mx)(t c L:Nat):Nat->Mx
 | 0=>M
 | i+1=>if i=t then H9 M t c L i else I4 (H9 M t c L i) i t (H9 M t c L i i c) L
def K8(M:Mx)(n top col:Nat):Nat:=X6 (λi=>decide (M i col=0)) (n-top) top
abbrev Gs:=Mx×List Nat
def A0F(n:Nat)(s:Gs)(col:Nat):Nat:=K8 s.1 n s.2.length col
def A0x(n L:Nat)(s:Gs)(col:Nat):Mx:=I8 (J5 s.1 s.2.length (A0F n s col)) s.2.length (Q9 (B9 1) (J5 s.1 s.2.length (A0F n s col) s.2.length col)) L
def L0(n L:Nat)(s:Gs)(col:Nat):Gs:=if A0F n s col<n then(H9 (A0x n L s col) s.2.length col L n,s.2++[col])else s
def C0(n L:Nat)(s:Gs):Nat->Gs
 | 0=>s
 | c+1=>L0 n L (C0 n L s c) c
def szM(M:Mx)(n L s:Nat):Prop:=∀i,i<n->∀j,j<L->qs (M i j)<=s
theorem szM.mono{M:Mx}{n L s t:Nat}(h:szM M n L s)(hs:s<=t):szM M n L t:=λi hi j hj=>B8K (h i hi j hj) hs
theorem A0s(M:Mx)(n top col:Nat):(K8 M n top col<n->top<=K8 M n top col/\M (K8 M n top col) col≠0)/\∀i,top<=i->i<K8 M n top col->M i col=0:=by
 obtain⟨h1,h2,h3,h4⟩:=A16 (λi=>decide (M i col=0)) (n-top) top;refine⟨λh=>⟨h1,λe=>?_⟩,λi hi hp=>B86 (h3 i hi hp)⟩;have h5:=h4 (by unfold K8 at h;omega);simp only[decide_eq_false_iff_not]at h5;exact h5 e
theorem A8F{M:Mx}{n top col:Nat}(h:n<=top):K8 M n top col=top:=by
 unfold K8;rw[show n-top=0 by omega];rfl
theorem A5P{M:Mx}{n L s a b:Nat}(h:szM M n L s)(ha:a<n)(hb:b<n):szM (J5 M a b) n L s:=λi hi j hj=>by
 unfold J5;split
 ·exact h b hb j hj
 ·split
  ·exact h a ha j hj
  ·exact h i hi j hj
theorem A6w{M:Mx}{n L s t m:Nat}{k:Rat}{r:Nat}(h:szM M n L s)(hk:qs k<=r):szM (I8 M t k m) n L (s+r):=λi hi j hj=>by
 unfold I8;have h1:=h i hi j hj;split
 ·have:=Y4 (M i j) k;unfold C3;omega
 ·omega
theorem A3n{M:Mx}{t c L:Nat}:∀i k,i<=k->H9 M t c L i k=M k
 | 0,_,_=>rfl
 | i+1,k,h=>by
  have ih:=A3n (M:=M) (t:=t) (c:=c) (L:=L) i k (by omega);unfold H9;split
  ·exact ih
  ·funext j;unfold I4;rw[if_neg (by omega),ih]
theorem A1x{M:Mx}{t c L:Nat}:∀i,H9 M t c L i t=M t
 | 0=>rfl
 | i+1=>by
  have ih:=A1x (M:=M) (t:=t) (c:=c) (L:=L) i;unfold H9;split
  ·exact ih
  ·funext j;unfold I4;rw[if_neg (by omega),ih]
theorem A8t{M:Mx}{n L s t c:Nat}(h:szM M n L s)(ht:t<n)(hc:c<L):∀i,i<=n->szM (H9 M t c L i) n L (3*s+1)
 | 0,_=>h.mono (by omega)
 | i+1,hi=>by
  have ih:=A8t h ht hc i (by omega);unfold H9;split
  ·exact ih
  ·intro i' hi' j hj;unfold I4;split
   ·rename_i e;obtain⟨rfl,-⟩:=e;rw[A3n i' i' (K2 _),A1x];have h1:=h i' hi' j hj;have h2:=h i' hi' c hc;have h3:=h t ht j hj;have h4:=Y4 (M i' c) (M t j);have h5:=A28 (M i' j) (C3 (M i' c) (M t j));unfold G0;unfold C3 at h5⊢;omega
   ·exact ih i' hi' j hj
theorem B21{M:Mx}{le:List Nat}{n L s col:Nat}(h:szM M n L s)(hc:col<L)(hp:A0F n (M,le) col<n):le.length<n/\szM (A0x n L (M,le) col) n L (2*s+1):=by
 have h1:=(A0s M n le.length col).1 hp;have ht:le.length<n:=by
  have:K8 M n le.length col<n:=hp;omega
 have h2:=A5P h ht hp;refine⟨ht,(A6w (r:=s+1) h2 ?_).mono (by omega)⟩;have h4:qs (J5 M le.length (A0F n (M,le) col) le.length col)<=s:=h2 le.length ht col hc;have h3:=A6n (B9 1) (J5 M le.length (A0F n (M,le) col) le.length col);have h5:qs (B9 1)<=1:=by decide
 exact B8K h3 (by omega)
theorem B1r{s:Gs}{n L k col:Nat}(h:szM s.1 n L k)(hc:col<L):szM (L0 n L s col).1 n L (6*k+4):=by
 unfold L0;split
 ·rename_i hp;obtain⟨ht,h1⟩:=B21 (M:=s.1) (le:=s.2) h hc hp;exact(A8t h1 ht hc n (K2 _)).mono (by omega)
 ·exact h.mono (by omega)
theorem A4J{s:Gs}{n L k:Nat}(h:szM s.1 n L k)(hk:1<=k):∀c,c<=L->szM (C0 n L s c).1 n L (k*10^c)
 | 0,_=>by rw[Nat.pow_zero,B9P];exact h
 | c+1,hc=>by
  have h1:=B1r (A4J h hk c (by omega)) (col:=c) (by omega);refine h1.mono ?_;have h2:1<=k*10^c:=B8n hk (B9t (by omega));have h3:k*10^(c+1)=k*10^c*10:=by rw[Nat.pow_succ,B9Q]
  rw[h3];omega
theorem A5z{s:Gs}{n L:Nat}(h:s.2.length<=n)(hl:∀x∈s.2,x<L):∀c,c<=L->(C0 n L s c).2.length<=n/\(∀x∈(C0 n L s c).2,x<L)
 | 0,_=>⟨h,hl⟩
 | c+1,hc=>by
  obtain⟨h1,h2⟩:=A5z h hl c (by omega);show(L0 n L (C0 n L s c) c).2.length<=n/\∀x∈(L0 n L (C0 n L s c) c).2,x<L;unfold L0;split
  ·rename_i hp;have h3:=(A0s (C0 n L s c).1 n (C0 n L s c).2.length c).1 hp;have h4:K8 (C0 n L s c).1 n (C0 n L s c).2.length c<n:=hp;refine⟨by simp only[List.length_append,List.length_singleton];omega,λx hx=>?_⟩;rcases List.mem_append.1 hx with hx|hx
   ·exact h2 x hx
   ·have:x=c:=by simpa using hx
    omega
  ·exact⟨h1,h2⟩
theorem X8{w:World}{A:Option Addr}{rs:List Rq}{N L:Nat}(hn:rs.length=N)(hrl:∀r∈rs,r.2.2.length=L)(h:Lrq w A rs){i:Nat}(hi:i<N):∃(bb ob:Nat) (P:Ax),A=some ⟨bb,ob,none⟩/\∀W,A4 w W->W.cell? ⟨bb,ob+i,none⟩=some (.slice P.1 L P.2)/\Lq W P.1 (B6 (rs.map (·.2.2)) i)/\(B6 (rs.map (·.2.2)) i).length=L:=by
 obtain⟨bb,ob,rfl⟩:=h.addr (by omega);have hil:i<rs.length:=by omega
 refine⟨bb,ob,(rs[i].1,rs[i].2.1),rfl,λW hg=>?_⟩;have h3:=(h.grow hg).read (B8i hil);have e:B6 (rs.map (·.2.2)) i=rs[i].2.2:=by unfold B6;rw[List.getElem?_map,B8i hil];rfl
 rw[hrl _ (B8G hil)]at h3;rw[e];exact⟨h3.1,h3.2,hrl _ (B8G hil)⟩
theorem A8P(A:Option Addr)(rs:List Rq)(N L c j:Nat)(hn:rs.length=N)(hN2:N<=300)(hrl:∀r∈rs,r.2.2.length=L)(hj:j<L)(hL:L<=20)(w:World)(h:Lrq w A rs) :
  Calls Tryz.prog 96 #[.slice A N c,.int .i64 (j:Nat)] w (E9 (λx:Ax=>.slice x.1 N x.2) (λx W=>Lq W x.1 (G1 (rs.map (·.2.2)) j N)) w):=by
 have hat:∀i,i<N->∃(bb ob ba oa cr:Nat),A=some ⟨bb,ob,none⟩/\∀W,A4 w W->W.cell? ⟨bb,ob+i,none⟩=some (.slice (some ⟨ba,oa,none⟩) L cr)/\Cq W ba (oa+j*5) (gq (B6 (rs.map (·.2.2)) i) j):=λi hi=>by
  obtain⟨bb,ob,⟨P1,P2⟩,e,hP⟩:=X8 hn hrl h hi;obtain⟨h1,h2,h3⟩:=hP w (A4.refl w);obtain⟨ba,oa,e1⟩:=h2.addr (by omega);simp only at e1;subst e1;refine⟨bb,ob,ba,oa,P2,e,λW hg=>?_⟩;obtain⟨h4,h5,h6⟩:=hP W hg;exact⟨h4,h5.read (by omega)⟩
 unfold G1;obtain⟨f,hf⟩:∃f:Nat->Rat,f=λi=>gq (B6 (rs.map (·.2.2)) i) j:=⟨_,rfl⟩
 have hat2:∀i,i<N->∃(bb ob ba oa cr:Nat),A=some ⟨bb,ob,none⟩/\∀W,A4 w W->W.cell? ⟨bb,ob+i,none⟩=some (.slice (some ⟨ba,oa,none⟩) L cr)/\Cq W ba (oa+j*5) (f i):=by rw[hf];exact hat
 rw[<-hf];have hmk:=A1R N (by omega) (N:Int) rfl;have hjL:(j:Int)<(L:Int):=by omega
 have Hat:=B8S hat2;have Hmk:=B8S hmk;clear hat hat2 hmk hf h hrl hn;go_enter Tryz.func96,Tryz.ntmps96;refine en0 ?_;intro u hG hB hF;refine B8N ?_;have hmk:=Hmk.out;refine N5 ?_;intro K hN;go_wp2_with fail;generalize hv:World.alloc u _=v;have hrow:=A1H hG.sz (by omega) hv;have hgv:A4 u v:=hv ▸ A4.alloc u _;have hG2:=hG.trans hgv;clear hv hG hB hmk hgv;rw[<-A2E f N]at hrow;generalize u.heap.size=g at hrow⊢;have Ho:=B8S hrow;have hG:=hG2;have hB:=Bx.nil v;have hF:=Fr.nil w;clear hrow hG2;obtain⟨u,rfl⟩:=exQ v;refine NoK.norm (hN _ _ ?_);clear hN K;refine A6 ?_;refine B8N ?_;refine r0T ?_;refine B8v ?_;clear hB hF;go_loopw [13] (λs0 wr=>∃i:Nat,i<=N/\s0 = .int .i64 i/\wr.ownsRow w.heap.size 48 5 (.slice (some ⟨g,0,none⟩) N N) N ((K7 f N i).flatMap qL)/\A4 w wr) (λs0 _=>N-(intOf s0).toNat)
 case atStart=>exact⟨0,B8k _,rfl,Ho.out,hG⟩
 case round =>
  clear hG Ho;obtain⟨i,hi,rfl,ho,hG⟩:=hrel;obtain⟨u,rfl⟩:=exQ wr;have Ho:=B8S ho;have hB:=Bx.nil u;have hF:=Fr.nil w;clear ho;rcases B73 i N with hlt|hge
  ·have hdec:decide ((i:Int)<(N:Int))=true:=by simp;omega
   have hin:(i:Int)<(N:Int):=by omega
   have hst:=A1j (f:=f) hlt;obtain⟨bb,ob,ba,oa,cr,rfl,hrd⟩:=Hat.out i hlt;obtain⟨Q,hQ⟩:∃q,q=f i:=⟨_,rfl⟩
   rw[<-hQ]at hst;simp only[<-hQ]at hrd;have Hst:=B8S hst;have Hrd:=B8S hrd;clear hst hrd hQ;refine r0T ?_;refine B8N ?_;refine B8V (rfl) ?_;refine B8U ?_;refine A6 ?_;refine B8N ?_;refine B8v ?_;refine B8N ?_;obtain⟨q0,q1,q2,q3,q4,q5⟩:=Hrd.out u hG;refine r0N ?_;obtain⟨q0,q1,q2,q3,q4,q5⟩:=Hrd.out u hG;obtain⟨z0,z1,z2,z3,z4,o0,o1,o2,o3,o4,hfz⟩:=A1C (enc:=qL) (λ_=>rfl) Ho.out (Q0 f N i).symm i (by rw[Q0];exact hlt);obtain⟨q0,q1,q2,q3,q4,q5⟩:=Hrd.out u hG;refine r0E ?_;clear q0 q1 q2 q3 q4 q5 o0 o1 o2 o3 o4 hfz;generalize hu0:World.setCell (World.setCell (World.setCell (World.setCell (World.setCell u _ _) _ _) _ _) _ _) _ _=u0;have hu1:C7 u g (i*5) (qL Q)=u0:=hu0;have hP:=P6 (enc:=qL) (size:=5) (ps:=K7 f N i) (λ_=>rfl) Ho.out i Q (by rw[Q0];exact hlt);rw[Hst.out,hu1]at hP;have hG2:=O5 Ho.out hG hP.2;have Ho2:=B8S hP.1;clear hG hB Ho hP hu1 hu0;have hG:=hG2;have hB:=Bx.nil u0;have hF:=Fr.nil w;have Ho:=Ho2;clear hG2 Ho2;obtain⟨u,rfl⟩:=exQ u0;refine C8 ?_;refine A6 ?_;refine r0E ?_;refine A6 ?_;go_roundw
   case rel=>exact⟨i+1,by omega,by go_num,Ho.out,hG⟩
   case measure=>simp[intOf];omega
  ·obtain rfl:N=i:=by omega
   have hdec:decide ((N:Int)<(N:Int))=false:=by simp
   have ho:=Ho.out;rw[A1m]at ho;obtain⟨A9,c9,e9,-,-,hL,-⟩:=Q8 ho;cases e9;have HL:=B8S hL;clear ho hL Ho;refine r0T ?_;refine B8N ?_;refine B8T (rfl) ?_;refine B8x ?_;refine B7 ?_;refine B7 ?_;refine D0 ?_;refine A6 ?_;refine r0T ?_;refine rt Tryz.results96 ?_;exact⟨(some ⟨g,0,none⟩,N),rfl,HL.out,hG⟩
theorem B6q(A Y V:Option Addr)(rs:List Rq)(y v:List Rat)(N L c d k:Nat)(hn:rs.length=N)(hN2:N<=20)(hrl:∀r∈rs,r.2.2.length=L)(hy:y.length=N)(hv:v.length=L)(hL:L<=20)(s:Nat)(hs:s<=10000000)(hX:∀i,i<N->∀j,j<L->qs (gq (B6 (rs.map (·.2.2)) i) j)<=s)(hys:∀i,i<N->qs (gq y i)<=s)(hvs:∀j,j<L->qs (gq v j)<=s)(w:World)(h:Lrq w A rs)(h2:Lq w Y y)(h3:Lq w V v)(HT:Tab w) :
  Calls Tryz.prog 92 #[.slice A N c,.slice Y N d,.slice V L k] w (E9 (λx:Ax=>.slice x.1 N x.2) (λx W=>Lq W x.1 (V3 (rs.map (·.2.2)) y v N L)) w):=by
 have hBB:1000000000000<=BIG:=by unfold BIG;omega
 have hLs:L*(s+s+1)<=20*(s+s+1):=B8q _ hL;have hat:∀i,i<N->∃(bb ob by0 oy:Nat) (P:Ax) (Z D:Rat),A=some ⟨bb,ob,none⟩/\Y=some ⟨by0,oy,none⟩/\(∀W,A4 w W->W.cell? ⟨bb,ob+i,none⟩=some (.slice P.1 L P.2)/\Cq W by0 (oy+i*5) Z)/\(∀W,A4 w W->Calls Tryz.prog 93 #[.slice V L k,.slice P.1 L P.2] W λe w'=>e = .returned (.tuple #[qV D,.bool true])/\A4 W w')/\(∀W,Tab W->Calls Tryz.prog 50 #[qV Z,qV D] W λe w'=>e = .returned (qV (G0 Z D))/\A4 W w')/\G0 Z D=G0 (gq y i) (E7 v (B6 (rs.map (·.2.2)) i) L):=λi hi=>by
  obtain⟨bb,ob,P,e,hP⟩:=X8 hn hrl h hi;obtain⟨by0,oy,e2⟩:=h2.addr (by omega);subst e2;refine⟨bb,ob,by0,oy,P,gq y i,E7 v (B6 (rs.map (·.2.2)) i) L,e,rfl,λW hg=>⟨(hP W hg).1,(h2.grow hg).read (by omega)⟩,λW hg=>?_,λW hT=>?_,rfl⟩
  ·obtain⟨h4,h5,h6⟩:=hP W hg;exact A21 V P.1 v _ k P.2 L hv h6 (by omega) s s hvs (hX i hi) (by omega) W (h3.grow hg) h5 (HT.grow hg)
  ·have z1:=A0h (a:=v) (b:=B6 (rs.map (·.2.2)) i) (n:=L) hvs (hX i hi) L (K2 _);have z2:=hys i hi;exact A4x _ _ W (by omega) hT
 unfold V3;obtain⟨f,hf⟩:∃f:Nat->Rat,f=λi=>G0 (gq y i) (E7 v (B6 (rs.map (·.2.2)) i) L):=⟨_,rfl⟩
 have hfi:∀i,f i=G0 (gq y i) (E7 v (B6 (rs.map (·.2.2)) i) L):=by rw[hf];exact λ_=>rfl
 simp only[<-hfi]at hat;rw[<-hf];have hmk:=A1R N (by omega) (N:Int) rfl;have Hat:=B8S hat;have Hmk:=B8S hmk;clear hat hmk hf hfi h h2 h3 hrl hn hX hys hvs hs hLs hy hv;go_enter Tryz.func92,Tryz.ntmps92;refine en0 ?_;intro u hG hB hF;refine B8N ?_;have hmk:=Hmk.out;refine N5 ?_;intro K hN;go_wp2_with fail;generalize hv:World.alloc u _=v;have hrow:=A1H hG.sz (by omega) hv;have hgv:A4 u v:=hv ▸ A4.alloc u _;have hG2:=hG.trans hgv;clear hv hG hB hmk hgv;rw[<-A2E f N]at hrow;generalize u.heap.size=g at hrow⊢;have Ho:=B8S hrow;have hG:=hG2;have hB:=Bx.nil v;have hF:=Fr.nil w;clear hrow hG2;obtain⟨u,rfl⟩:=exQ v;refine NoK.norm (hN _ _ ?_);clear hN K;refine A6 ?_;refine B8N ?_;refine r0T ?_;refine B8v ?_;clear hB hF;go_loopw [17] (λs0 wr=>∃i:Nat,i<=N/\s0 = .int .i64 i/\wr.ownsRow w.heap.size 48 5 (.slice (some ⟨g,0,none⟩) N N) N ((K7 f N i).flatMap qL)/\A4 w wr) (λs0 _=>N-(intOf s0).toNat)
 case atStart=>exact⟨0,B8k _,rfl,Ho.out,hG⟩
 case round =>
  clear hG Ho;obtain⟨i,hi,rfl,ho,hG⟩:=hrel;obtain⟨u,rfl⟩:=exQ wr;have Ho:=B8S ho;have hB:=Bx.nil u;have hF:=Fr.nil w;clear ho;rcases B73 i N with hlt|hge
  ·have hdec:decide ((i:Int)<(N:Int))=true:=by simp;omega
   have hin:(i:Int)<(N:Int):=by omega
   have hst:=A1j (f:=f) hlt;obtain⟨bb,ob,by0,oy,P,Z,D,rfl,rfl,hrd,hdt,hsb,e⟩:=Hat.out i hlt;rw[<-e]at hst;obtain⟨Q,hQ⟩:∃q,q=G0 Z D:=⟨_,rfl⟩
   rw[<-hQ]at hst;simp only[<-hQ]at hsb;have Hst:=B8S hst;have Hrd:=B8S hrd;have Hdt:=B8S hdt;have Hsb:=B8S hsb;clear hst hrd hdt hsb hQ e;refine r0T ?_;refine B8N ?_;refine B8V (rfl) ?_;refine B8U ?_;refine A6 ?_;refine B8N ?_;refine B8v ?_;refine B8N ?_;obtain⟨q0,q1,q2,q3,q4,q5⟩:=Hrd.out u hG;refine r0N ?_;refine B8N (rsC A8 [0,0,1,0,0,0,2] hB hG λK L hN hL=>?_);refine gs ?_;refine gmd (C:=λv ⟨hgu,hB,hG,_⟩=>Hdt.out _ hG) ?_;refine gs ?_;refine gaa (Q3 _ _ _ _ _) λb10 hb10 hn10=>?_;replace hF:=hF.n1 [] hB hG hb10 hn10;refine geC hL ?_;clear hB hG hL L;rintro u ⟨⟨hgu,hB,hG,-⟩,h10⟩;replace hB:=hB.cons' h10;clear h10;have g10:g≠b10:=by
    have:=(Ho.out.lt g rfl).2;omega
   have Ho2:=B8S (C5 Ho.out hgu);clear Ho;have Ho:=Ho2;clear Ho2;clear hb10 hn10;clear hgu;refine gtT ?_;clear hN K;refine sv hB hF hG 0 0 [_,_,_,_,_] ?_;intro u hu hBG;have Ho2:=B8S (P5 Ho.out (λe=>g10 (B78 e)) hu);clear Ho;have Ho:=Ho2;clear Ho2;clear hB hG hu;obtain⟨hB,hG⟩:=hBG;refine rdC A8 [] [(0,0),(0,1),(0,2),(0,3),(0,4),(0,5),(0,6),(1,7),(0,8)] hB hG λK L hN hL=>?_
   repeat first|refine gya ?_|refine gyr ?_|refine gna ?_|refine gyb (by(rintro v ⟨hgu,hB,hG,-⟩ N hN;have r:=hB.r;simp only[BxR]at r;obtain⟨q0,q1,q2,q3,q4,q5⟩:=Hrd.out v hG;go_simp;exact hN)) ?_
   refine gmd (C:=λv ⟨hgu,hB,hG,_⟩=>Hsb.out _ (HT.grow hG)) ?_;refine gs ?_;refine geC hL ?_;clear hB hG hL L;rintro u ⟨hgu,hB,hG,-⟩;have Ho2:=B8S (C5 Ho.out hgu);clear Ho;have Ho:=Ho2;clear Ho2;obtain⟨z0,z1,z2,z3,z4,o0,o1,o2,o3,o4,hfz⟩:=A1C (enc:=qL) (λ_=>rfl) Ho.out (Q0 f N i).symm i (by rw[Q0];exact hlt);clear hgu;refine gt ?_;clear hN K;clear o0 o1 o2 o3 o4 hfz;generalize hu0:World.setCell (World.setCell (World.setCell (World.setCell (World.setCell u _ _) _ _) _ _) _ _) _ _=u0;have hu1:C7 u g (i*5) (qL Q)=u0:=hu0;have hP:=P6 (enc:=qL) (size:=5) (ps:=K7 f N i) (λ_=>rfl) Ho.out i Q (by rw[Q0];exact hlt);rw[Hst.out,hu1]at hP;have hG2:=O5 Ho.out hG hP.2;have Ho2:=B8S hP.1;clear hG hB Ho hP hu1 hu0;have hG:=hG2;have hB:=Bx.nil u0;have hF:=Fr.nil w;have Ho:=Ho2;clear hG2 Ho2;obtain⟨u,rfl⟩:=exQ u0;refine C8 ?_;refine A6 ?_;refine r0E ?_;refine A6 ?_;go_roundw
   case rel=>exact⟨i+1,by omega,by go_num,Ho.out,hG⟩
   case measure=>simp[intOf];omega
  ·obtain rfl:N=i:=by omega
   have hdec:decide ((N:Int)<(N:Int))=false:=by simp
   have ho:=Ho.out;rw[A1m]at ho;obtain⟨A9,c9,e9,-,-,hL,-⟩:=Q8 ho;cases e9;have HL:=B8S hL;clear ho hL Ho;refine r0T ?_;refine B8N ?_;refine B8T (rfl) ?_;refine B8x ?_;refine B7 ?_;refine B7 ?_;refine D0 ?_;refine A6 ?_;refine r0T ?_;refine rt Tryz.results92 ?_;exact⟨(some ⟨g,0,none⟩,N),rfl,HL.out,hG⟩
abbrev T4(g cp:Nat->Nat)(L i:Nat):Value:=.slice (some ⟨g i,0,none⟩) L (cp i)
def A0b(g cp:Nat->Nat)(L n:Nat):List Value:=(List.range n).map (T4 g cp L)
abbrev K5(v:Value):List Value:=[v]
def C9(M:Mx)(L i:Nat):List Rat:=(List.range L).map (M i)
theorem P4(M:Mx)(L i:Nat):(C9 M L i).length=L:=by unfold C9;simp
theorem A4i(g cp:Nat->Nat)(L n:Nat):(A0b g cp L n).length=n:=by unfold A0b;simp
structure MatW(B n L b0 c0:Nat)(g cp:Nat->Nat)(M:Mx)(W:World):Prop where
 hd:W.ownsRow B 35 1 (.slice (some ⟨b0,0,none⟩) n c0) n ((A0b g cp L n).flatMap K5)
 row:∀i,i<n->W.ownsRow B 48 5 (.slice (some ⟨g i,0,none⟩) L (cp i)) L ((C9 M L i).flatMap qL)
 inj:∀i j,i<n->j<n->g i=g j->i=j
section
variable {B n L b0 c0:Nat} {g cp:Nat->Nat} {M:Mx} {W W':World}
theorem MatW.grow(h:MatW B n L b0 c0 g cp M W)(hg:A4 W W'):MatW B n L b0 c0 g cp M W':=⟨C5 h.hd hg,λi hi=>C5 (h.row i hi) hg,h.inj⟩
theorem MatW.kept(h:MatW B n L b0 c0 g cp M W){r:Option Nat}(hg:W.grownBy W' r)(h0:some b0≠r)(hr:∀i,i<n->some (g i)≠r):MatW B n L b0 c0 g cp M W' :=
 ⟨h.hd.kept hg (.inr h0),λi hi=>(h.row i hi).kept hg (.inr (hr i hi)),h.inj⟩
theorem MatW.b0lt(h:MatW B n L b0 c0 g cp M W):B<=b0/\b0<W.heap.size:=h.hd.lt b0 rfl
theorem MatW.glt(h:MatW B n L b0 c0 g cp M W){i:Nat}(hi:i<n):B<=g i/\g i<W.heap.size:=(h.row i hi).lt (g i) rfl
theorem MatW.gb0(h:MatW B n L b0 c0 g cp M W){i:Nat}(hi:i<n):g i≠b0:=λe=>O0 h.hd (h.row i hi) (by decide) b0 rfl (by rw[<-e];rfl)
theorem MatW.read(h:MatW B n L b0 c0 g cp M W){i:Nat}(hi:i<n):W.cell? ⟨b0,i,none⟩=some (T4 g cp L i):=by
 have h1:=V6 (enc:=K5) (size:=1) (λ_=>rfl) h.hd (A4i g cp L n).symm i 0 (by rw[A4i];exact hi) (by omega);rw[B9P,Nat.add_zero]at h1;rw[h1];unfold A0b;simp
theorem MatW.lq(h:MatW B n L b0 c0 g cp M W){i:Nat}(hi:i<n):Lq W (some ⟨g i,0,none⟩) (C9 M L i):=by
 obtain⟨A,c,e,-,-,hL,-⟩:=Q8 (h.row i hi);cases e;exact hL
theorem A1E{M:Mx}{L i j:Nat}(h:j<L):gq (C9 M L i) j=M i j:=S6 _ h
theorem MatW.cq(h:MatW B n L b0 c0 g cp M W){i j:Nat}(hi:i<n)(hj:j<L):Cq W (g i) (j*5) (M i j):=by
 have h1:=(h.lq hi).read (i:=j) (by rw[P4];exact hj);rw[A1E hj,Nat.zero_add]at h1;exact h1
def Z6(M:Mx)(i j:Nat)(q:Rat):Mx:=λi' j'=>if i'=i/\j'=j then q else M i' j'
theorem A63{M:Mx}{L i j:Nat}{q:Rat}(hj:j<L):(C9 M L i).set j q=C9 (Z6 M i j q) L i:=by
 unfold C9;apply B8I
 ·simp
 ·intro k h1 h2;rw[B95];simp only[List.getElem_map,List.getElem_range];unfold Z6;by_cases e:j=k
  ·subst e;simp
  ·rw[if_neg e,if_neg (by omega)]
theorem A9j{M:Mx}{L i i' j:Nat}{q:Rat}(h:i'≠i):C9 (Z6 M i j q) L i'=C9 M L i':=by
 unfold C9;refine B96 λk _=>?_;unfold Z6;rw[if_neg (by omega)]
theorem MatW.put(h:MatW B n L b0 c0 g cp M W){i j:Nat}(hi:i<n)(hj:j<L)(q:Rat){o:Nat}(ho:o=j*5)(hu:C7 W (g i) o (qL q)=W'):MatW B n L b0 c0 g cp (Z6 M i j q) W'/\W.grownBy W' (some (g i)):=by
 subst ho;obtain⟨h1,h2⟩:=P6 (enc:=qL) (size:=5) (ps:=C9 M L i) (λ_=>rfl) (h.row i hi) j q (by rw[P4];exact hj);rw[hu,A63 hj]at h1;rw[hu]at h2;refine⟨⟨h.hd.kept h2 (.inr λe=>h.gb0 hi (B78 e).symm),λi' hi'=>?_,h.inj⟩,h2⟩;by_cases e:i'=i
 ·subst e;exact h1
 ·rw[A9j e];exact(h.row i' hi').kept h2 (.inr λe2=>e (h.inj i' i hi' hi (B78 e2)))
def sw(f:Nat->Nat)(a b:Nat):Nat->Nat:=λi=>if i=a then f b else if i=b then f a else f i
theorem B6u{a b:Nat}(ha:a<n)(hb:b<n):((A0b g cp L n).set a (T4 g cp L b)).set b (T4 g cp L a)=A0b (sw g a b) (sw cp a b) L n:=by
 unfold A0b;apply B8I
 ·simp
 ·intro k h1 h2;rw[B95,B95];simp only[List.getElem_map,List.getElem_range];unfold T4 sw;by_cases e1:k=a
  ·subst e1;by_cases e2:b=k
   ·subst e2;simp
   ·rw[if_neg e2];simp
  ·by_cases e2:b=k
   ·subst e2;simp[e1]
   ·rw[if_neg e2,if_neg (λe=>e1 e.symm),if_neg e1,if_neg (λe=>e2 e.symm),if_neg e1,if_neg (λe=>e2 e.symm)]
theorem B15{f:Nat->Nat}{a b:Nat}(ha:a<n)(hb:b<n)(h:∀i j,i<n->j<n->f i=f j->i=j):∀i j,i<n->j<n->sw f a b i=sw f a b j->i=j:=λi j hi hj e=>by
 unfold sw at e;split at e<;>split at e<;>rename_i h1 h2<;>(try split at e)<;>(try split at e)<;>(have h3:=h _ _ (by assumption) (by assumption) e;omega)
theorem MatW.swap{W1 W2:World}(h:MatW B n L b0 c0 g cp M W){a b:Nat}(ha:a<n)(hb:b<n)(h1:C7 W b0 a [T4 g cp L b]=W1)(h2:C7 W1 b0 b [T4 g cp L a]=W2):MatW B n L b0 c0 (sw g a b) (sw cp a b) (J5 M a b) W2/\W.grownBy W2 (some b0):=by
 have q1:=P6 (enc:=K5) (size:=1) (ps:=A0b g cp L n) (λ_=>rfl) h.hd a (T4 g cp L b) (by rw[A4i];exact ha);rw[B9P,h1]at q1;have q2:=P6 (enc:=K5) (size:=1) (ps:=(A0b g cp L n).set a (T4 g cp L b)) (λ_=>rfl) q1.1 b (T4 g cp L a) (by rw[B8r,A4i];exact hb);rw[B9P,h2,B6u ha hb]at q2;have hg:=A3w q1.2 q2.2;have key:∀i,i<n->W2.ownsRow B 48 5 (.slice (some ⟨g i,0,none⟩) L (cp i)) L ((C9 M L i).flatMap qL):=λi hi=>(h.row i hi).kept hg (.inr λe=>h.gb0 hi (B78 e));refine⟨⟨q2.1,λi hi=>?_,B15 ha hb h.inj⟩,hg⟩;unfold sw C9 J5;by_cases e1:i=a
 ·simp only[if_pos e1];exact key b hb
 ·by_cases e2:i=b
  ·simp only[if_neg e1,if_pos e2];exact key a ha
  ·simp only[if_neg e1,if_neg e2];exact key i hi
theorem MatW.fresh(h:MatW B n L b0 c0 g cp M W){b:Nat}(hb:W.heap.size<=b):b≠b0/\∀i,i<n->b≠g i:=⟨by have:=h.b0lt;omega,λi hi=>by have:=h.glt hi;omega⟩
theorem MatW.over(h:MatW B n L b0 c0 g cp M W){b i:Nat}{vs:List Value}(hb:b≠b0/\∀i,i<n->b≠g i)(hu:C7 W b i vs=W'):MatW B n L b0 c0 g cp M W':=by
 subst hu;exact h.kept (A1F b vs i W) (λe=>hb.1 (B78 e).symm) (λi hi e=>hb.2 i hi (B78 e).symm)
theorem MatW.lrq(h:MatW B n L b0 c0 g cp M W):Lrq W (some ⟨b0,0,none⟩) ((List.range n).map λi=>((some ⟨g i,0,none⟩,cp i,C9 M L i):Rq)):=λhne=>by
 refine⟨b0,0,rfl,h.b0lt.2,λi r hi=>?_⟩;rw[List.getElem?_map]at hi;obtain⟨k,hk,rfl⟩:=Option.map_eq_some_iff.1 hi;have hin:i<n:=by
  have:=(List.getElem?_eq_some_iff.1 hk).1
  simpa using this
 have hki:k=i:=by
  rw[B98 hin]at hk;exact(B78 hk).symm
 subst hki;simp only;rw[P4,Nat.zero_add];exact⟨h.read hin,h.lq hin⟩
end
end Go.Proofs.YtgpglgbcobeogaaGreatDoor
