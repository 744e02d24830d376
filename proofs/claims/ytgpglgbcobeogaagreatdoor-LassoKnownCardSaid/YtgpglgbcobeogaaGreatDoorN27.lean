import Derived.Test.YtgpglgbcobeogaaGreatDoorN26
set_option linter.unusedSimpArgs false
set_option linter.unusedVariables false
set_option maxHeartbeats 8000000
set_option maxRecDepth 100000
namespace Go.Proofs.YtgpglgbcobeogaaGreatDoor
open Go Go.RowKit
abbrev Mx:=Nat->Nat->Rat
def M7(M:Mx)(a b:Nat):Mx:=λi=>if i=a then M b else if i=b then M a else M i
def N3(M:Mx)(t:Nat)(k:Rat)(n:Nat):Mx:=λi j=>if i=t/\j<n then D5 (M i j) k else M i j
def J4(M:Mx)(i t:Nat)(k:Rat)(n:Nat):Mx:=λi' j=>if i'=i/\j<n then D9 (M i' j) (D5 k (M t j))else M i' j
def K5(M:Mx)(t c L:Nat):Nat->Mx
 | 0=>M
 | i+1=>if i=t then K5 M t c L i else J4 (K5 M t c L i) i t (K5 M t c L i i c) L
def M3(M:Mx)(n top col:Nat):Nat:=W6 (λi=>decide (M i col=0)) (n-top) top
abbrev Gs:=Mx×List Nat
def A0O(n:Nat)(s:Gs)(col:Nat):Nat:=M3 s.1 n s.2.length col
def A0t(n L:Nat)(s:Gs)(col:Nat):Mx:=N3 (M7 s.1 s.2.length (A0O n s col)) s.2.length (H9 (B4 1) (M7 s.1 s.2.length (A0O n s col) s.2.length col)) L
def O0(n L:Nat)(s:Gs)(col:Nat):Gs:=if A0O n s col<n then(K5 (A0t n L s col) s.2.length col L n,s.2++[col])else s
def C9(n L:Nat)(s:Gs):Nat->Gs
 | 0=>s
 | c+1=>O0 n L (C9 n L s c) c
def szM(M:Mx)(n L s:Nat):Prop:=∀i,i<n->∀j,j<L->qs (M i j)<=s
theorem szM.mono{M:Mx}{n L s t:Nat}(h:szM M n L s)(hs:s<=t):szM M n L t:=λi hi j hj=>B9A (h i hi j hj) hs
theorem A1e(M:Mx)(n top col:Nat):(M3 M n top col<n->top<=M3 M n top col/\M (M3 M n top col) col≠0)/\∀i,top<=i->i<M3 M n top col->M i col=0:=by
 obtain⟨h1,h2,h3,h4⟩:=A2e (λi=>decide (M i col=0)) (n-top) top;refine⟨λh=>⟨h1,λe=>?_⟩,λi hi hp=>B9w (h3 i hi hp)⟩;have h5:=h4 (by unfold M3 at h;omega);simp only[decide_eq_false_iff_not]at h5;exact h5 e
theorem B3g{M:Mx}{n top col:Nat}(h:n<=top):M3 M n top col=top:=by
 unfold M3;rw[show n-top=0 by omega];rfl
theorem A9l{M:Mx}{n L s a b:Nat}(h:szM M n L s)(ha:a<n)(hb:b<n):szM (M7 M a b) n L s:=λi hi j hj=>by
 unfold M7;split
 ·exact h b hb j hj
 ·split
  ·exact h a ha j hj
  ·exact h i hi j hj
theorem A81{M:Mx}{n L s t m:Nat}{k:Rat}{r:Nat}(h:szM M n L s)(hk:qs k<=r):szM (N3 M t k m) n L (s+r):=λi hi j hj=>by
 unfold N3;have h1:=h i hi j hj;split
 ·have:=Z8 (M i j) k;unfold D5;omega
 ·omega
theorem A4w{M:Mx}{t c L:Nat}:∀i k,i<=k->K5 M t c L i k=M k
 | 0,_,_=>rfl
 | i+1,k,h=>by
  have ih:=A4w (M:=M) (t:=t) (c:=c) (L:=L) i k (by omega);unfold K5;split
  ·exact ih
  ·funext j;unfold J4;rw[if_neg (by omega),ih]
theorem A2W{M:Mx}{t c L:Nat}:∀i,K5 M t c L i t=M t
 | 0=>rfl
 | i+1=>by
  have ih:=A2W (M:=M) (t:=t) (c:=c) (L:=L) i;unfold K5;split
  ·exact ih
  ·funext j;unfold J4;rw[if_neg (by omega),ih]
theorem A8B{M:Mx}{n L s t c:Nat}(h:szM M n L s)(ht:t<n)(hc:c<L):∀i,i<=n->szM (K5 M t c L i) n L (3*s+1)
 | 0,_=>h.mono (by omega)
 | i+1,hi=>by
  have ih:=A8B h ht hc i (by omega);unfold K5;split
  ·exact ih
  ·intro i' hi' j hj;unfold J4;split
   ·rename_i e;obtain⟨rfl,-⟩:=e;rw[A4w i' i' (B8s _),A2W];have h1:=h i' hi' j hj;have h2:=h i' hi' c hc;have h3:=h t ht j hj;have h4:=Z8 (M i' c) (M t j);have h5:=A0G (M i' j) (D5 (M i' c) (M t j));unfold D9;unfold D5 at h5⊢;omega
   ·exact ih i' hi' j hj
theorem B8T{M:Mx}{le:List Nat}{n L s col:Nat}(h:szM M n L s)(hc:col<L)(hp:A0O n (M,le) col<n):le.length<n/\szM (A0t n L (M,le) col) n L (2*s+1):=by
 have h1:=(A1e M n le.length col).1 hp;have ht:le.length<n:=by
  have:M3 M n le.length col<n:=hp;omega
 have h2:=A9l h ht hp;refine⟨ht,(A81 (r:=s+1) h2 ?_).mono (by omega)⟩;have h4:qs (M7 M le.length (A0O n (M,le) col) le.length col)<=s:=h2 le.length ht col hc;have h3:=A2D (B4 1) (M7 M le.length (A0O n (M,le) col) le.length col);have h5:qs (B4 1)<=1:=by decide
 exact B9A h3 (by omega)
theorem B8I{s:Gs}{n L k col:Nat}(h:szM s.1 n L k)(hc:col<L):szM (O0 n L s col).1 n L (6*k+4):=by
 unfold O0;split
 ·rename_i hp;obtain⟨ht,h1⟩:=B8T (M:=s.1) (le:=s.2) h hc hp;exact(A8B h1 ht hc n (B8s _)).mono (by omega)
 ·exact h.mono (by omega)
theorem A5J{s:Gs}{n L k:Nat}(h:szM s.1 n L k)(hk:1<=k):∀c,c<=L->szM (C9 n L s c).1 n L (k*10^c)
 | 0,_=>by rw[Nat.pow_zero,C0F];exact h
 | c+1,hc=>by
  have h1:=B8I (A5J h hk c (by omega)) (col:=c) (by omega);refine h1.mono ?_;have h2:1<=k*10^c:=B9d hk (C0j (by omega));have h3:k*10^(c+1)=k*10^c*10:=by rw[Nat.pow_succ,C0G]
  rw[h3];omega
theorem A8F{s:Gs}{n L:Nat}(h:s.2.length<=n)(hl:∀x∈s.2,x<L):∀c,c<=L->(C9 n L s c).2.length<=n/\(∀x∈(C9 n L s c).2,x<L)
 | 0,_=>⟨h,hl⟩
 | c+1,hc=>by
  obtain⟨h1,h2⟩:=A8F h hl c (by omega);show(O0 n L (C9 n L s c) c).2.length<=n/\∀x∈(O0 n L (C9 n L s c) c).2,x<L;unfold O0;split
  ·rename_i hp;have h3:=(A1e (C9 n L s c).1 n (C9 n L s c).2.length c).1 hp;have h4:M3 (C9 n L s c).1 n (C9 n L s c).2.length c<n:=hp;refine⟨by simp only[List.length_append,List.length_singleton];omega,λx hx=>?_⟩;rcases List.mem_append.1 hx with hx|hx
   ·exact h2 x hx
   ·have:x=c:=by simpa using hx
    omega
  ·exact⟨h1,h2⟩
theorem U9{w:World}{A:Option Addr}{rs:List Rq}{N L:Nat}(hn:rs.length=N)(hrl:∀r∈rs,r.2.2.length=L)(h:Lrq w A rs){i:Nat}(hi:i<N):∃(bb ob:Nat) (P:Ax),A=some ⟨bb,ob,none⟩/\∀W,A4 w W->W.cell? ⟨bb,ob+i,none⟩=some (.slice P.1 L P.2)/\Lq W P.1 (B7 (rs.map (·.2.2)) i)/\(B7 (rs.map (·.2.2)) i).length=L:=by
 obtain⟨bb,ob,rfl⟩:=h.addr (by omega);have hil:i<rs.length:=by omega
 refine⟨bb,ob,(rs[i].1,rs[i].2.1),rfl,λW hg=>?_⟩;have h3:=(h.grow hg).read (B9Y hil);have e:B7 (rs.map (·.2.2)) i=rs[i].2.2:=by unfold B7;rw[List.getElem?_map,B9Y hil];rfl
 rw[hrl _ (B86 hil)]at h3;rw[e];exact⟨h3.1,h3.2,hrl _ (B86 hil)⟩
theorem A9h(A:Option Addr)(rs:List Rq)(N L c j:Nat)(hn:rs.length=N)(hN2:N<=300)(hrl:∀r∈rs,r.2.2.length=L)(hj:j<L)(hL:L<=20)(w:World)(h:Lrq w A rs) :
  Calls Tryz.prog 96 #[.slice A N c,.int .i64 (j:Nat)] w (G9 (λx:Ax=>.slice x.1 N x.2) (λx W=>Lq W x.1 (J3 (rs.map (·.2.2)) j N)) w):=by
 have hat:∀i,i<N->∃(bb ob ba oa cr:Nat),A=some ⟨bb,ob,none⟩/\∀W,A4 w W->W.cell? ⟨bb,ob+i,none⟩=some (.slice (some ⟨ba,oa,none⟩) L cr)/\Cq W ba (oa+j*5) (gq (B7 (rs.map (·.2.2)) i) j):=λi hi=>by
  obtain⟨bb,ob,⟨P1,P2⟩,e,hP⟩:=U9 hn hrl h hi;obtain⟨h1,h2,h3⟩:=hP w (A4.refl w);obtain⟨ba,oa,e1⟩:=h2.addr (by omega);simp only at e1;subst e1;refine⟨bb,ob,ba,oa,P2,e,λW hg=>?_⟩;obtain⟨h4,h5,h6⟩:=hP W hg;exact⟨h4,h5.read (by omega)⟩
 unfold J3;obtain⟨f,hf⟩:∃f:Nat->Rat,f=λi=>gq (B7 (rs.map (·.2.2)) i) j:=⟨_,rfl⟩
 have hat2:∀i,i<N->∃(bb ob ba oa cr:Nat),A=some ⟨bb,ob,none⟩/\∀W,A4 w W->W.cell? ⟨bb,ob+i,none⟩=some (.slice (some ⟨ba,oa,none⟩) L cr)/\Cq W ba (oa+j*5) (f i):=by rw[hf];exact hat
 rw[<-hf];have hmk:=A1E N (by omega) (N:Int) rfl;have hjL:(j:Int)<(L:Int):=by omega
 have Hat:=B9I hat2;have Hmk:=B9I hmk;clear hat hat2 hmk hf h hrl hn;go_enter Tryz.func96,Tryz.ntmps96;refine en0 ?_;intro u hG hB hF;refine B9D ?_;have hmk:=Hmk.out;refine M6 ?_;intro K hN;go_wp2_with fail;generalize hv:World.alloc u _=v;have hrow:=A0v hG.sz (by omega) hv;have hgv:A4 u v:=hv ▸ A4.alloc u _;have hG2:=hG.trans hgv;clear hv hG hB hmk hgv;rw[<-A2H f N]at hrow;generalize u.heap.size=g at hrow⊢;have Ho:=B9I hrow;have hG:=hG2;have hB:=Bx.nil v;have hF:=Fr.nil w;clear hrow hG2;obtain⟨u,rfl⟩:=exQ v;refine NoK.norm (hN _ _ ?_);clear hN K;refine A6 ?_;refine B9D ?_;refine r0T ?_;refine B9l ?_;clear hB hF;go_loopw [13] (λs0 wr=>∃i:Nat,i<=N/\s0 = .int .i64 i/\wr.ownsRow w.heap.size 48 5 (.slice (some ⟨g,0,none⟩) N N) N ((K7 f N i).flatMap qL)/\A4 w wr) (λs0 _=>N-(intOf s0).toNat)
 case atStart=>exact⟨0,B9a _,rfl,Ho.out,hG⟩
 case round =>
  clear hG Ho;obtain⟨i,hi,rfl,ho,hG⟩:=hrel;obtain⟨u,rfl⟩:=exQ wr;have Ho:=B9I ho;have hB:=Bx.nil u;have hF:=Fr.nil w;clear ho;rcases B8t i N with hlt|hge
  ·have hdec:decide ((i:Int)<(N:Int))=true:=by simp;omega
   have hin:(i:Int)<(N:Int):=by omega
   have hst:=A2A (f:=f) hlt;obtain⟨bb,ob,ba,oa,cr,rfl,hrd⟩:=Hat.out i hlt;obtain⟨Q,hQ⟩:∃q,q=f i:=⟨_,rfl⟩
   rw[<-hQ]at hst;simp only[<-hQ]at hrd;have Hst:=B9I hst;have Hrd:=B9I hrd;clear hst hrd hQ;refine r0T ?_;refine B9D ?_;refine B9L (rfl) ?_;refine B9K ?_;refine A6 ?_;refine B9D ?_;refine B9l ?_;refine B9D ?_;obtain⟨q0,q1,q2,q3,q4,q5⟩:=Hrd.out u hG;refine r0N ?_;obtain⟨q0,q1,q2,q3,q4,q5⟩:=Hrd.out u hG;obtain⟨z0,z1,z2,z3,z4,o0,o1,o2,o3,o4,hfz⟩:=Z6 (enc:=qL) (λ_=>rfl) Ho.out (N2 f N i).symm i (by rw[N2];exact hlt);obtain⟨q0,q1,q2,q3,q4,q5⟩:=Hrd.out u hG;refine r0E ?_;clear q0 q1 q2 q3 q4 q5 o0 o1 o2 o3 o4 hfz;generalize hu0:World.setCell (World.setCell (World.setCell (World.setCell (World.setCell u _ _) _ _) _ _) _ _) _ _=u0;have hu1:C2 u g (i*5) (qL Q)=u0:=hu0;have hP:=R4 (enc:=qL) (size:=5) (ps:=K7 f N i) (λ_=>rfl) Ho.out i Q (by rw[N2];exact hlt);rw[Hst.out,hu1]at hP;have hG2:=N4 Ho.out hG hP.2;have Ho2:=B9I hP.1;clear hG hB Ho hP hu1 hu0;have hG:=hG2;have hB:=Bx.nil u0;have hF:=Fr.nil w;have Ho:=Ho2;clear hG2 Ho2;obtain⟨u,rfl⟩:=exQ u0;refine C5 ?_;refine A6 ?_;refine r0E ?_;refine A6 ?_;go_roundw
   case rel=>exact⟨i+1,by omega,by go_num,Ho.out,hG⟩
   case measure=>simp[intOf];omega
  ·obtain rfl:N=i:=by omega
   have hdec:decide ((N:Int)<(N:Int))=false:=by simp
   have ho:=Ho.out;rw[A1n]at ho;obtain⟨A9,c9,e9,-,-,hL,-⟩:=K8 ho;cases e9;have HL:=B9I hL;clear ho hL Ho;refine r0T ?_;refine B9D ?_;refine B9J (rfl) ?_;refine B9n ?_;refine B9 ?_;refine B9 ?_;refine E4 ?_;refine A6 ?_;refine r0T ?_;refine rt Tryz.results96 ?_;exact⟨(some ⟨g,0,none⟩,N),rfl,HL.out,hG⟩
theorem A78(A Y V:Option Addr)(rs:List Rq)(y v:List Rat)(N L c d k:Nat)(hn:rs.length=N)(hN2:N<=20)(hrl:∀r∈rs,r.2.2.length=L)(hy:y.length=N)(hv:v.length=L)(hL:L<=20)(s:Nat)(hs:s<=10000000)(hX:∀i,i<N->∀j,j<L->qs (gq (B7 (rs.map (·.2.2)) i) j)<=s)(hys:∀i,i<N->qs (gq y i)<=s)(hvs:∀j,j<L->qs (gq v j)<=s)(w:World)(h:Lrq w A rs)(h2:Lq w Y y)(h3:Lq w V v)(HT:Tab w) :
  Calls Tryz.prog 92 #[.slice A N c,.slice Y N d,.slice V L k] w (G9 (λx:Ax=>.slice x.1 N x.2) (λx W=>Lq W x.1 (Y7 (rs.map (·.2.2)) y v N L)) w):=by
 have hBB:1000000000000<=BIG:=by unfold BIG;omega
 have hLs:L*(s+s+1)<=20*(s+s+1):=B9g _ hL;have hat:∀i,i<N->∃(bb ob by0 oy:Nat) (P:Ax) (Z D:Rat),A=some ⟨bb,ob,none⟩/\Y=some ⟨by0,oy,none⟩/\(∀W,A4 w W->W.cell? ⟨bb,ob+i,none⟩=some (.slice P.1 L P.2)/\Cq W by0 (oy+i*5) Z)/\(∀W,A4 w W->Calls Tryz.prog 93 #[.slice V L k,.slice P.1 L P.2] W λe w'=>e = .returned (.tuple #[qV D,.bool true])/\A4 W w')/\(∀W,Tab W->Calls Tryz.prog 50 #[qV Z,qV D] W λe w'=>e = .returned (qV (D9 Z D))/\A4 W w')/\D9 Z D=D9 (gq y i) (E7 v (B7 (rs.map (·.2.2)) i) L):=λi hi=>by
  obtain⟨bb,ob,P,e,hP⟩:=U9 hn hrl h hi;obtain⟨by0,oy,e2⟩:=h2.addr (by omega);subst e2;refine⟨bb,ob,by0,oy,P,gq y i,E7 v (B7 (rs.map (·.2.2)) i) L,e,rfl,λW hg=>⟨(hP W hg).1,(h2.grow hg).read (by omega)⟩,λW hg=>?_,λW hT=>?_,rfl⟩
  ·obtain⟨h4,h5,h6⟩:=hP W hg;exact A2v V P.1 v _ k P.2 L hv h6 (by omega) s s hvs (hX i hi) (by omega) W (h3.grow hg) h5 (HT.grow hg)
  ·have z1:=A1m (a:=v) (b:=B7 (rs.map (·.2.2)) i) (n:=L) hvs (hX i hi) L (B8s _);have z2:=hys i hi;exact A16 _ _ W (by omega) hT
 unfold Y7;obtain⟨f,hf⟩:∃f:Nat->Rat,f=λi=>D9 (gq y i) (E7 v (B7 (rs.map (·.2.2)) i) L):=⟨_,rfl⟩
 have hfi:∀i,f i=D9 (gq y i) (E7 v (B7 (rs.map (·.2.2)) i) L):=by rw[hf];exact λ_=>rfl
 simp only[<-hfi]at hat;rw[<-hf];have hmk:=A1E N (by omega) (N:Int) rfl;have Hat:=B9I hat;have Hmk:=B9I hmk;clear hat hmk hf hfi h h2 h3 hrl hn hX hys hvs hs hLs hy hv;go_enter Tryz.func92,Tryz.ntmps92;refine en0 ?_;intro u hG hB hF;refine B9D ?_;have hmk:=Hmk.out;refine M6 ?_;intro K hN;go_wp2_with fail;generalize hv:World.alloc u _=v;have hrow:=A0v hG.sz (by omega) hv;have hgv:A4 u v:=hv ▸ A4.alloc u _;have hG2:=hG.trans hgv;clear hv hG hB hmk hgv;rw[<-A2H f N]at hrow;generalize u.heap.size=g at hrow⊢;have Ho:=B9I hrow;have hG:=hG2;have hB:=Bx.nil v;have hF:=Fr.nil w;clear hrow hG2;obtain⟨u,rfl⟩:=exQ v;refine NoK.norm (hN _ _ ?_);clear hN K;refine A6 ?_;refine B9D ?_;refine r0T ?_;refine B9l ?_;clear hB hF;go_loopw [17] (λs0 wr=>∃i:Nat,i<=N/\s0 = .int .i64 i/\wr.ownsRow w.heap.size 48 5 (.slice (some ⟨g,0,none⟩) N N) N ((K7 f N i).flatMap qL)/\A4 w wr) (λs0 _=>N-(intOf s0).toNat)
 case atStart=>exact⟨0,B9a _,rfl,Ho.out,hG⟩
 case round =>
  clear hG Ho;obtain⟨i,hi,rfl,ho,hG⟩:=hrel;obtain⟨u,rfl⟩:=exQ wr;have Ho:=B9I ho;have hB:=Bx.nil u;have hF:=Fr.nil w;clear ho;rcases B8t i N with hlt|hge
  ·have hdec:decide ((i:Int)<(N:Int))=true:=by simp;omega
   have hin:(i:Int)<(N:Int):=by omega
   have hst:=A2A (f:=f) hlt;obtain⟨bb,ob,by0,oy,P,Z,D,rfl,rfl,hrd,hdt,hsb,e⟩:=Hat.out i hlt;rw[<-e]at hst;obtain⟨Q,hQ⟩:∃q,q=D9 Z D:=⟨_,rfl⟩
   rw[<-hQ]at hst;simp only[<-hQ]at hsb;have Hst:=B9I hst;have Hrd:=B9I hrd;have Hdt:=B9I hdt;have Hsb:=B9I hsb;clear hst hrd hdt hsb hQ e;refine r0T ?_;refine B9D ?_;refine B9L (rfl) ?_;refine B9K ?_;refine A6 ?_;refine B9D ?_;refine B9l ?_;refine B9D ?_;obtain⟨q0,q1,q2,q3,q4,q5⟩:=Hrd.out u hG;refine r0N ?_;refine B9D (rsC A8 [0,0,1,0,0,0,2] hB hG λK L hN hL=>?_);refine gs ?_;refine gmd (C:=λv ⟨hgu,hB,hG,_⟩=>Hdt.out _ hG) ?_;refine gs ?_;refine gaa (G6 _ _ _ _ _) λb10 hb10 hn10=>?_;replace hF:=hF.n1 [] hB hG hb10 hn10;refine geC hL ?_;clear hB hG hL L;rintro u ⟨⟨hgu,hB,hG,-⟩,h10⟩;replace hB:=hB.cons' h10;clear h10;have g10:g≠b10:=by
    have:=(Ho.out.lt g rfl).2;omega
   have Ho2:=B9I (C0 Ho.out hgu);clear Ho;have Ho:=Ho2;clear Ho2;clear hb10 hn10;clear hgu;refine gtT ?_;clear hN K;refine sv hB hF hG 0 0 [_,_,_,_,_] ?_;intro u hu hBG;have Ho2:=B9I (H5 Ho.out (λe=>g10 (B8y e)) hu);clear Ho;have Ho:=Ho2;clear Ho2;clear hB hG hu;obtain⟨hB,hG⟩:=hBG;refine rdC A8 [] [(0,0),(0,1),(0,2),(0,3),(0,4),(0,5),(0,6),(1,7),(0,8)] hB hG λK L hN hL=>?_
   repeat first|refine gya ?_|refine gyr ?_|refine gna ?_|refine gyb (by(rintro v ⟨hgu,hB,hG,-⟩ N hN;have r:=hB.r;simp only[BxR]at r;obtain⟨q0,q1,q2,q3,q4,q5⟩:=Hrd.out v hG;go_simp;exact hN)) ?_
   refine gmd (C:=λv ⟨hgu,hB,hG,_⟩=>Hsb.out _ (HT.grow hG)) ?_;refine gs ?_;refine geC hL ?_;clear hB hG hL L;rintro u ⟨hgu,hB,hG,-⟩;have Ho2:=B9I (C0 Ho.out hgu);clear Ho;have Ho:=Ho2;clear Ho2;obtain⟨z0,z1,z2,z3,z4,o0,o1,o2,o3,o4,hfz⟩:=Z6 (enc:=qL) (λ_=>rfl) Ho.out (N2 f N i).symm i (by rw[N2];exact hlt);clear hgu;refine gt ?_;clear hN K;clear o0 o1 o2 o3 o4 hfz;generalize hu0:World.setCell (World.setCell (World.setCell (World.setCell (World.setCell u _ _) _ _) _ _) _ _) _ _=u0;have hu1:C2 u g (i*5) (qL Q)=u0:=hu0;have hP:=R4 (enc:=qL) (size:=5) (ps:=K7 f N i) (λ_=>rfl) Ho.out i Q (by rw[N2];exact hlt);rw[Hst.out,hu1]at hP;have hG2:=N4 Ho.out hG hP.2;have Ho2:=B9I hP.1;clear hG hB Ho hP hu1 hu0;have hG:=hG2;have hB:=Bx.nil u0;have hF:=Fr.nil w;have Ho:=Ho2;clear hG2 Ho2;obtain⟨u,rfl⟩:=exQ u0;refine C5 ?_;refine A6 ?_;refine r0E ?_;refine A6 ?_;go_roundw
   case rel=>exact⟨i+1,by omega,by go_num,Ho.out,hG⟩
   case measure=>simp[intOf];omega
  ·obtain rfl:N=i:=by omega
   have hdec:decide ((N:Int)<(N:Int))=false:=by simp
   have ho:=Ho.out;rw[A1n]at ho;obtain⟨A9,c9,e9,-,-,hL,-⟩:=K8 ho;cases e9;have HL:=B9I hL;clear ho hL Ho;refine r0T ?_;refine B9D ?_;refine B9J (rfl) ?_;refine B9n ?_;refine B9 ?_;refine B9 ?_;refine E4 ?_;refine A6 ?_;refine r0T ?_;refine rt Tryz.results92 ?_;exact⟨(some ⟨g,0,none⟩,N),rfl,HL.out,hG⟩
abbrev R6(g cp:Nat->Nat)(L i:Nat):Value:=.slice (some ⟨g i,0,none⟩) L (cp i)
def A0l(g cp:Nat->Nat)(L n:Nat):List Value:=(List.range n).map (R6 g cp L)
abbrev J8(v:Value):List Value:=[v]
def G1(M:Mx)(L i:Nat):List Rat:=(List.range L).map (M i)
theorem A15(M:Mx)(L i:Nat):(G1 M L i).length=L:=by unfold G1;simp
theorem A4U(g cp:Nat->Nat)(L n:Nat):(A0l g cp L n).length=n:=by unfold A0l;simp
structure MatW(B n L b0 c0:Nat)(g cp:Nat->Nat)(M:Mx)(W:World):Prop where
 hd:W.ownsRow B 35 1 (.slice (some ⟨b0,0,none⟩) n c0) n ((A0l g cp L n).flatMap J8)
 row:∀i,i<n->W.ownsRow B 48 5 (.slice (some ⟨g i,0,none⟩) L (cp i)) L ((G1 M L i).flatMap qL)
 inj:∀i j,i<n->j<n->g i=g j->i=j
section
variable {B n L b0 c0:Nat} {g cp:Nat->Nat} {M:Mx} {W W':World}
theorem MatW.grow(h:MatW B n L b0 c0 g cp M W)(hg:A4 W W'):MatW B n L b0 c0 g cp M W':=⟨C0 h.hd hg,λi hi=>C0 (h.row i hi) hg,h.inj⟩
theorem MatW.kept(h:MatW B n L b0 c0 g cp M W){r:Option Nat}(hg:W.grownBy W' r)(h0:some b0≠r)(hr:∀i,i<n->some (g i)≠r):MatW B n L b0 c0 g cp M W' :=
 ⟨h.hd.kept hg (.inr h0),λi hi=>(h.row i hi).kept hg (.inr (hr i hi)),h.inj⟩
theorem MatW.b0lt(h:MatW B n L b0 c0 g cp M W):B<=b0/\b0<W.heap.size:=h.hd.lt b0 rfl
theorem MatW.glt(h:MatW B n L b0 c0 g cp M W){i:Nat}(hi:i<n):B<=g i/\g i<W.heap.size:=(h.row i hi).lt (g i) rfl
theorem MatW.gb0(h:MatW B n L b0 c0 g cp M W){i:Nat}(hi:i<n):g i≠b0:=λe=>N7 h.hd (h.row i hi) (by decide) b0 rfl (by rw[<-e];rfl)
theorem MatW.read(h:MatW B n L b0 c0 g cp M W){i:Nat}(hi:i<n):W.cell? ⟨b0,i,none⟩=some (R6 g cp L i):=by
 have h1:=X6 (enc:=J8) (size:=1) (λ_=>rfl) h.hd (A4U g cp L n).symm i 0 (by rw[A4U];exact hi) (by omega);rw[C0F,Nat.add_zero]at h1;rw[h1];unfold A0l;simp
theorem MatW.lq(h:MatW B n L b0 c0 g cp M W){i:Nat}(hi:i<n):Lq W (some ⟨g i,0,none⟩) (G1 M L i):=by
 obtain⟨A,c,e,-,-,hL,-⟩:=K8 (h.row i hi);cases e;exact hL
theorem B4s{M:Mx}{L i j:Nat}(h:j<L):gq (G1 M L i) j=M i j:=W5 _ h
theorem MatW.cq(h:MatW B n L b0 c0 g cp M W){i j:Nat}(hi:i<n)(hj:j<L):Cq W (g i) (j*5) (M i j):=by
 have h1:=(h.lq hi).read (i:=j) (by rw[A15];exact hj);rw[B4s hj,Nat.zero_add]at h1;exact h1
def A0A(M:Mx)(i j:Nat)(q:Rat):Mx:=λi' j'=>if i'=i/\j'=j then q else M i' j'
theorem B0f{M:Mx}{L i j:Nat}{q:Rat}(hj:j<L):(G1 M L i).set j q=G1 (A0A M i j q) L i:=by
 unfold G1;apply B88
 ·simp
 ·intro k h1 h2;rw[C0t];simp only[List.getElem_map,List.getElem_range];unfold A0A;by_cases e:j=k
  ·subst e;simp
  ·rw[if_neg e,if_neg (by omega)]
theorem A8I{M:Mx}{L i i' j:Nat}{q:Rat}(h:i'≠i):G1 (A0A M i j q) L i'=G1 M L i':=by
 unfold G1;refine C0u λk _=>?_;unfold A0A;rw[if_neg (by omega)]
theorem MatW.put(h:MatW B n L b0 c0 g cp M W){i j:Nat}(hi:i<n)(hj:j<L)(q:Rat){o:Nat}(ho:o=j*5)(hu:C2 W (g i) o (qL q)=W'):MatW B n L b0 c0 g cp (A0A M i j q) W'/\W.grownBy W' (some (g i)):=by
 subst ho;obtain⟨h1,h2⟩:=R4 (enc:=qL) (size:=5) (ps:=G1 M L i) (λ_=>rfl) (h.row i hi) j q (by rw[A15];exact hj);rw[hu,B0f hj]at h1;rw[hu]at h2;refine⟨⟨h.hd.kept h2 (.inr λe=>h.gb0 hi (B8y e).symm),λi' hi'=>?_,h.inj⟩,h2⟩;by_cases e:i'=i
 ·subst e;exact h1
 ·rw[A8I e];exact(h.row i' hi').kept h2 (.inr λe2=>e (h.inj i' i hi' hi (B8y e2)))
def sw(f:Nat->Nat)(a b:Nat):Nat->Nat:=λi=>if i=a then f b else if i=b then f a else f i
theorem B49{a b:Nat}(ha:a<n)(hb:b<n):((A0l g cp L n).set a (R6 g cp L b)).set b (R6 g cp L a)=A0l (sw g a b) (sw cp a b) L n:=by
 unfold A0l;apply B88
 ·simp
 ·intro k h1 h2;rw[C0t,C0t];simp only[List.getElem_map,List.getElem_range];unfold R6 sw;by_cases e1:k=a
  ·subst e1;by_cases e2:b=k
   ·subst e2;simp
   ·rw[if_neg e2];simp
  ·by_cases e2:b=k
   ·subst e2;simp[e1]
   ·rw[if_neg e2,if_neg (λe=>e1 e.symm),if_neg e1,if_neg (λe=>e2 e.symm),if_neg e1,if_neg (λe=>e2 e.symm)]
theorem B3X{f:Nat->Nat}{a b:Nat}(ha:a<n)(hb:b<n)(h:∀i j,i<n->j<n->f i=f j->i=j):∀i j,i<n->j<n->sw f a b i=sw f a b j->i=j:=λi j hi hj e=>by
 unfold sw at e;split at e<;>split at e<;>rename_i h1 h2<;>(try split at e)<;>(try split at e)<;>(have h3:=h _ _ (by assumption) (by assumption) e;omega)
theorem MatW.swap{W1 W2:World}(h:MatW B n L b0 c0 g cp M W){a b:Nat}(ha:a<n)(hb:b<n)(h1:C2 W b0 a [R6 g cp L b]=W1)(h2:C2 W1 b0 b [R6 g cp L a]=W2):MatW B n L b0 c0 (sw g a b) (sw cp a b) (M7 M a b) W2/\W.grownBy W2 (some b0):=by
 have q1:=R4 (enc:=J8) (size:=1) (ps:=A0l g cp L n) (λ_=>rfl) h.hd a (R6 g cp L b) (by rw[A4U];exact ha);rw[C0F,h1]at q1;have q2:=R4 (enc:=J8) (size:=1) (ps:=(A0l g cp L n).set a (R6 g cp L b)) (λ_=>rfl) q1.1 b (R6 g cp L a) (by rw[B9h,A4U];exact hb);rw[C0F,h2,B49 ha hb]at q2;have hg:=A3G q1.2 q2.2;have key:∀i,i<n->W2.ownsRow B 48 5 (.slice (some ⟨g i,0,none⟩) L (cp i)) L ((G1 M L i).flatMap qL):=λi hi=>(h.row i hi).kept hg (.inr λe=>h.gb0 hi (B8y e));refine⟨⟨q2.1,λi hi=>?_,B3X ha hb h.inj⟩,hg⟩;unfold sw G1 M7;by_cases e1:i=a
 ·simp only[if_pos e1];exact key b hb
 ·by_cases e2:i=b
  ·simp only[if_neg e1,if_pos e2];exact key a ha
  ·simp only[if_neg e1,if_neg e2];exact key i hi
theorem MatW.fresh(h:MatW B n L b0 c0 g cp M W){b:Nat}(hb:W.heap.size<=b):b≠b0/\∀i,i<n->b≠g i:=⟨by have:=h.b0lt;omega,λi hi=>by have:=h.glt hi;omega⟩
theorem MatW.over(h:MatW B n L b0 c0 g cp M W){b i:Nat}{vs:List Value}(hb:b≠b0/\∀i,i<n->b≠g i)(hu:C2 W b i vs=W'):MatW B n L b0 c0 g cp M W':=by
 subst hu;exact h.kept (V6 b vs i W) (λe=>hb.1 (B8y e).symm) (λi hi e=>hb.2 i hi (B8y e).symm)
theorem MatW.lrq(h:MatW B n L b0 c0 g cp M W):Lrq W (some ⟨b0,0,none⟩) ((List.range n).map λi=>((some ⟨g i,0,none⟩,cp i,G1 M L i):Rq)):=λhne=>by
 refine⟨b0,0,rfl,h.b0lt.2,λi r hi=>?_⟩;rw[List.getElem?_map]at hi;obtain⟨k,hk,rfl⟩:=Option.map_eq_some_iff.1 hi;have hin:i<n:=by
  have:=(List.getElem?_eq_some_iff.1 hk).1
  simpa using this
 have hki:k=i:=by
  rw[C0z hin]at hk;exact(B8y hk).symm
 subst hki;simp only;rw[A15,Nat.zero_add];exact⟨h.read hin,h.lq hin⟩
end
theorem B6J:qV 0 = .agg A3D:=rfl
theorem A6I(A Y V:Option Addr)(rs:List Rq)(y v:List Rat)(N L c d k:Nat)(hn:rs.length=N)(hN:1<=N)(hN2:N<=20)(hrl:∀r∈rs,r.2.2.length=L)(hy:y.length=N)(hv:v.length=L)(hL1:1<=L)(hL:L<=20)(s:Nat)(hs:s<=10000000)(hX:∀i,i<N->∀j,j<L->qs (gq (B7 (rs.map (·.2.2)) i) j)<=s)(hys:∀i,i<N->qs (gq y i)<=s)(hvs:∀j,j<L->qs (gq v j)<=s)(w:World)(h:Lrq w A rs)(h2:Lq w Y y)(h3:Lq w V v)(HT:Tab w) :
  Calls Tryz.prog 33 #[.slice A N c,.slice Y N d,.slice V L k] w (G9 (λx:Ax=>.tuple #[.slice x.1 L x.2,.int .i64 0]) (λx W=>Lq W x.1 (R3 (rs.map (·.2.2)) y v N L)) w):=by
 have hBB:1000000000000<=BIG:=by unfold BIG;omega
 have hck:∀W,A4 w W->Calls Tryz.prog 91 #[.slice A N c,.slice Y N d,.slice V L k,.agg A3D] W λe w'=>e = .returned (.int .i64 0)/\A4 W w':=λW hg=>by
  have h4:=A6L A Y V rs N L L c d k hn hN (by omega) hL1 hL hrl 0 (by rw[A3A];omega) W (h.grow hg);rw[if_neg (by simp),if_neg (by simp[Rat.lt_irrefl]),B6J]at h4;exact h4
 have hrs:=λW (hg:A4 w W)=>A78 A Y V rs y v N L c d k hn hN2 hrl hy hv hL s hs hX hys hvs W (h.grow hg) (h2.grow hg) (h3.grow hg) (HT.grow hg);have hcl:=λW (hg:A4 w W) j (hj:j<L)=>A9h A rs N L c j hn (by omega) hrl hj hL W (h.grow hg);have hR:=A5N (X:=rs.map (·.2.2)) (y:=y) (w:=v) hN2 hL hs hX hys hvs;have hRl:=A7p (rs.map (·.2.2)) y v N L;obtain⟨T5,hT5⟩:∃T,T=500000000:=⟨_,rfl⟩
 have hNs:N*(s+T5+1)<=20*(s+T5+1):=B9g _ hN2;have hCs:∀j,j<L->∀i,i<N->qs (gq (J3 (rs.map (·.2.2)) j N) i)<=s:=λj hj i hi=>by rw[A3p _ j N hi];exact hX i hi j hj
 unfold R3;obtain⟨R,hRe⟩:∃R,R=Y7 (rs.map (·.2.2)) y v N L:=⟨_,rfl⟩
 rw[<-hRe]at hR hRl;rw[<-hT5]at hR;simp only[<-hRe]at hrs⊢;have hdt:∀W j,j<L->∀(P1 P2:Ax),Lq W P1.1 (J3 (rs.map (·.2.2)) j N)->Lq W P2.1 R->Tab W->Calls Tryz.prog 93 #[.slice P1.1 N P1.2,.slice P2.1 N P2.2] W λe w'=>e = .returned (.tuple #[qV (E7 (J3 (rs.map (·.2.2)) j N) R N),.bool true])/\A4 W w':=λW j hj P1 P2 g1 g2 hT =>
  A2v P1.1 P2.1 _ R P1.2 P2.2 N (B1e _ j N) hRl (by omega) s T5 (hCs j hj) hR (by omega) W g1 g2 hT
 obtain⟨C,hC⟩:∃C:Nat->List Rat,C=λj=>J3 (rs.map (·.2.2)) j N:=⟨_,rfl⟩
 have hCi:∀j,J3 (rs.map (·.2.2)) j N=C j:=by rw[hC];exact λ_=>rfl
 simp only[hCi]at hcl hdt⊢;obtain⟨f,hf⟩:∃f:Nat->Rat,f=λj=>E7 (C j) R N:=⟨_,rfl⟩
 have hfi:∀j,E7 (C j) R N=f j:=by rw[hf];exact λ_=>rfl
 simp only[hfi]at hdt;rw[<-hf];have hmk:=A1E L (by omega) (L:Int) rfl;have Hck:=B9I hck;have Hrs:=B9I hrs;have Hcl:=B9I hcl;have Hdt:=B9I hdt;have Hmk:=B9I hmk;clear hck hrs hcl hdt hmk hf hfi hC hCi hRe hR hRl hCs h h2 h3 hrl hn hX hys hvs hs hNs hy hv hT5;go_enter Tryz.func33,Tryz.ntmps33;refine en0 ?_;intro u hG hB hF;refine B9D ?_;refine B9D (rsE A8 [0,0,0,0,1,0] hB hG λL hL=>?_);refine gs ?_;refine gmd (C:=λv ⟨hgu,hB,hG,_⟩=>Hck.out _ hG) ?_;refine gs ?_;refine geT hL ?_;clear hB hG hL L;rintro u ⟨-,hB,hG,-⟩;refine r0T ?_;refine B9J (rfl) ?_;refine B9K ?_;refine A6 ?_;refine B9D (rsE A8 [0,0,0,1,0] hB hG λL hL=>?_);refine gs ?_;refine gxd (X:=Ax) (λx:Ax=>.slice x.1 N x.2) (λx W=>Lq W x.1 R) (λx u u' hg h=>Lq.grow h hg) (λx23=>?_) (C:=by(rintro v ⟨hgu,hB,hG,-⟩;exact Hrs.out _ hG));refine gs ?_;refine geT hL ?_;clear hB hG hL L;rintro u ⟨⟨hgu,hB,hG,-⟩,hx23⟩;have HR:=B9I hx23;clear hx23;clear hgu;have HG0:=B9I hG;clear hB hF hG;obtain⟨w0,rfl⟩:=exQ w;obtain⟨w,hwu⟩:=exQ u;rw[<-hwu]at HG0 HR;have hB:=Bx.nil u;have hF:=Fr.nil w;have hG:A4 w u:=hwu ▸ A4.refl u;clear hwu;have HT':=HT.grow HG0.out;have hcl:=λW (hg:A4 w W)=>Hcl.out W (HG0.out.trans hg);clear HT Hcl Hck Hrs;have HT:=HT';have Hcl:=B9I hcl;clear HT' hcl;refine B9D ?_;have hmk:=Hmk.out;refine M6 ?_;intro K hN;go_wp2_with fail;generalize hv:World.alloc u _=v;have hrow:=A0v hG.sz (by omega) hv;have hgv:A4 u v:=hv ▸ A4.alloc u _;have hG2:=hG.trans hgv;clear hv hG hB hmk hgv;rw[<-A2H f L]at hrow;generalize u.heap.size=g at hrow⊢;have Ho:=B9I hrow;have hG:=hG2;have hB:=Bx.nil v;have hF:=Fr.nil w;clear hrow hG2;obtain⟨u,rfl⟩:=exQ v;refine NoK.norm (hN _ _ ?_);clear hN K;refine A6 ?_;refine B9D ?_;refine r0T ?_;refine B9l ?_;clear hB hF;go_loopw [29] (λs0 wr=>∃i:Nat,i<=L/\s0 = .int .i64 i/\wr.ownsRow w.heap.size 48 5 (.slice (some ⟨g,0,none⟩) L L) L ((K7 f L i).flatMap qL)/\A4 w wr) (λs0 _=>L-(intOf s0).toNat)
 case atStart=>exact⟨0,B9a _,rfl,Ho.out,hG⟩
 case round =>
  clear hG Ho;obtain⟨i,hi,rfl,ho,hG⟩:=hrel;obtain⟨u,rfl⟩:=exQ wr;have Ho:=B9I ho;have hB:=Bx.nil u;have hF:=Fr.nil w;clear ho;rcases B8t i L with hlt|hge
  ·have hdec:decide ((i:Int)<(L:Int))=true:=by simp;omega
   have hin:(i:Int)<(L:Int):=by omega
   have hst:=A2A (f:=f) hlt;have hcl:=λW (hg:A4 w W)=>Hcl.out W hg i hlt;have hdt:=λW=>Hdt.out W i hlt;obtain⟨Q,hQ⟩:∃q,q=f i:=⟨_,rfl⟩
   rw[<-hQ]at hst;simp only[<-hQ]at hdt;obtain⟨Ci,hCi⟩:∃q,q=C i:=⟨_,rfl⟩
   simp only[<-hCi]at hdt hcl;have Hst:=B9I hst;have Hcli:=B9I hcl;have Hdti:=B9I hdt;clear hst hcl hdt hQ hCi;refine r0T ?_;refine B9D ?_;refine B9L (rfl) ?_;refine B9K ?_;refine A6 ?_;refine B9D ?_;refine B9l ?_;refine r0T ?_;refine rsC A8 [0,0,0,0,1,0,1,0,0,0,0] hB hG λK L hN hL=>?_;refine gs ?_;refine gxd (X:=Ax) (λx:Ax=>.slice x.1 N x.2) (λx W=>Lq W x.1 Ci) (λx u u' hg h=>Lq.grow h hg) (λx37=>?_) (C:=by(rintro v ⟨hgu,hB,hG,-⟩;exact Hcli.out _ hG));refine gs ?_;refine gmd (C:=λv ⟨⟨hgu,hB,hG,_⟩,hx37⟩=>Hdti.out _ x37 x23 hx37 (HR.out.grow hG) (HT.grow hG)) ?_;refine gs ?_;refine geC hL ?_;clear hB hG hL L;rintro u ⟨⟨hgu,hB,hG,-⟩,hx37⟩;clear hx37;have Ho2:=B9I (C0 Ho.out hgu);clear Ho;have Ho:=Ho2;clear Ho2;obtain⟨z0,z1,z2,z3,z4,o0,o1,o2,o3,o4,hfz⟩:=Z6 (enc:=qL) (λ_=>rfl) Ho.out (N2 f L i).symm i (by rw[N2];exact hlt);clear hgu;refine gt ?_;clear hN K;clear o0 o1 o2 o3 o4 hfz;generalize hu0:World.setCell (World.setCell (World.setCell (World.setCell (World.setCell u _ _) _ _) _ _) _ _) _ _=u0;have hu1:C2 u g (i*5) (qL Q)=u0:=hu0;have hP:=R4 (enc:=qL) (size:=5) (ps:=K7 f L i) (λ_=>rfl) Ho.out i Q (by rw[N2];exact hlt);rw[Hst.out,hu1]at hP;have hG2:=N4 Ho.out hG hP.2;have Ho2:=B9I hP.1;clear hG hB Ho hP hu1 hu0;have hG:=hG2;have hB:=Bx.nil u0;have hF:=Fr.nil w;have Ho:=Ho2;clear hG2 Ho2;obtain⟨u,rfl⟩:=exQ u0;refine C5 ?_;refine A6 ?_;refine r0E ?_;refine A6 ?_;go_roundw
   case rel=>exact⟨i+1,by omega,by go_num,Ho.out,hG⟩
   case measure=>simp[intOf];omega
  ·obtain rfl:L=i:=by omega
   have hdec:decide ((L:Int)<(L:Int))=false:=by simp
   have ho:=Ho.out;rw[A1n]at ho;obtain⟨A9,c9,e9,-,-,hL,-⟩:=K8 ho;cases e9;have HL:=B9I hL;clear ho hL Ho;refine r0T ?_;refine B9D ?_;refine B9J (rfl) ?_;refine B9n ?_;refine B9 ?_;refine B9 ?_;refine E4 ?_;refine A6 ?_;refine r0T ?_;refine rt Tryz.results33 ?_;exact⟨(some ⟨g,0,none⟩,L),rfl,HL.out,HG0.out.trans hG⟩
theorem B1i(A Y V:Option Addr)(rs:List Rq)(y v:List Rat)(N L c d k:Nat)(a:Rat)(hn:rs.length=N)(hN:1<=N)(hN2:N<=20)(hrl:∀r∈rs,r.2.2.length=L)(hy:y.length=N)(hv:v.length=L)(hL1:1<=L)(hL:L<=20)(s:Nat)(hs:s<=10000000)(hX:∀i,i<N->∀j,j<L->qs (gq (B7 (rs.map (·.2.2)) i) j)<=s)(hys:∀i,i<N->qs (gq y i)<=s)(hvs:∀j,j<L->qs (gq v j)<=s)(ha:qs a<=s)(ha0:¬a<0)(w:World)(h:Lrq w A rs)(h2:Lq w Y y)(h3:Lq w V v)(HT:Tab w) :
  Calls Tryz.prog 32 #[.slice A N c,.slice Y N d,.slice V L k,qV a] w λe w'=>e = .returned (.tuple #[qV (A4N (rs.map (·.2.2)) y v N L a),.int .i64 0])/\A4 w w':=by
 have hBB:1000000000000<=BIG:=by unfold BIG;omega
 obtain⟨T5,hT5⟩:∃T,T=500000000:=⟨_,rfl⟩
 have hNs:N*(T5+T5+1)<=20*(T5+T5+1):=B9g _ hN2;have hck:∀W,A4 w W->Calls Tryz.prog 91 #[.slice A N c,.slice Y N d,.slice V L k,qV a] W λe w'=>e = .returned (.int .i64 0)/\A4 W w':=λW hg=>by
  have h4:=A6L A Y V rs N L L c d k hn hN (by omega) hL1 hL hrl a (by omega) W (h.grow hg);rw[if_neg (by simp),if_neg ha0]at h4;exact h4
 have hrs:=λW (hg:A4 w W)=>A78 A Y V rs y v N L c d k hn hN2 hrl hy hv hL s hs hX hys hvs W (h.grow hg) (h2.grow hg) (h3.grow hg) (HT.grow hg);have hR:=A5N (X:=rs.map (·.2.2)) (y:=y) (w:=v) hN2 hL hs hX hys hvs;have hRl:=A7p (rs.map (·.2.2)) y v N L;unfold A4N;obtain⟨R,hRe⟩:∃R,R=Y7 (rs.map (·.2.2)) y v N L:=⟨_,rfl⟩
 rw[<-hRe]at hR hRl⊢;rw[<-hT5]at hR;simp only[<-hRe]at hrs;have hdt:∀W (P2:Ax),Lq W P2.1 R->Tab W->Calls Tryz.prog 93 #[.slice P2.1 N P2.2,.slice P2.1 N P2.2] W λe w'=>e = .returned (.tuple #[qV (E7 R R N),.bool true])/\A4 W w':=λW P2 g2 hT =>
  A2v P2.1 P2.1 R R P2.2 P2.2 N hRl hRl (by omega) T5 T5 hR hR (by omega) W g2 g2 hT
 have hDz:qs (E7 R R N)<=30000000000:=by
  have h4:=A1m hR hR N (B8s _);omega
 obtain⟨D,hD⟩:∃D,D=E7 R R N:=⟨_,rfl⟩
 rw[<-hD]at hDz⊢;simp only[<-hD]at hdt;have h2z:qs (B4 2)<=41:=B61 2 (by omega);have hdv:=λW hT=>A4s D (B4 2) W (by omega) hT;have hHz:qs (H9 D (B4 2))<=30000000041:=B9A (A2D D (B4 2)) (by omega);have hnz:nzq (B4 2)=true:=by decide
 obtain⟨E,hE⟩:∃E,E=H9 D (B4 2):=⟨_,rfl⟩
 rw[<-hE]at hHz⊢;simp only[<-hE,hnz]at hdv;have hSz:∀j,j<=L->qs (A2M v j)<=20*(s+1)+1:=λj hj=>B9A (B4S hvs j hj) (by have:=B9g (s+1) (show j<=20 by omega);omega);have hat:∀j,j<L->∃bv ov,V=some ⟨bv,ov,none⟩/\(∀W,A4 w W->Cq W bv (ov+j*5) (gq v j)):=λj hj=>by
  obtain⟨bv,ov,e⟩:=h3.addr (by omega);subst e;exact⟨bv,ov,rfl,λW hg=>(h3.grow hg).read (by omega)⟩
 have Hck:=B9I hck;have Hrs:=B9I hrs;have Hdt:=B9I hdt;have Hdv:=B9I hdv;have Hat:=B9I hat;have HSz:=B9I hSz;have Hvs:=B9I hvs;clear hck hrs hdt hdv hat hSz hD hE hRe hR hRl h h2 h3 hrl hn hX hys hvs hNs hy hv hDz h2z hnz ha0 hT5;go_enter Tryz.func32,Tryz.ntmps32;refine en2 ?_;intro u hG b8 b7 hB hF;refine B9D ?_;refine B9D (rsE A8 [0,0,0,0,1,0] hB hG λL hL=>?_);refine gs ?_;refine gmd (C:=λv ⟨hgu,hB,hG,_⟩=>Hck.out _ hG) ?_;refine gs ?_;refine geT hL ?_;clear hB hG hL L;rintro u ⟨-,hB,hG,-⟩;refine r0T ?_;refine B9J (rfl) ?_;refine B9K ?_;refine A6 ?_;refine B9D (rsE A8 [0,0,0,1,0] hB hG λL hL=>?_);refine gs ?_;refine gxd (X:=Ax) (λx:Ax=>.slice x.1 N x.2) (λx W=>Lq W x.1 R) (λx u u' hg h=>Lq.grow h hg) (λx31=>?_) (C:=by(rintro v ⟨hgu,hB,hG,-⟩;exact Hrs.out _ hG));refine gs ?_;refine geT hL ?_;clear hB hG hL L;rintro u ⟨⟨hgu,hB,hG,-⟩,hx31⟩;obtain⟨w1,hw1⟩:=exQ u;have HP:=B9I (show Lq w1 x31.1 R from hw1 ▸ hx31);have hG1:A4 w1 u:=hw1 ▸ A4.refl u;clear hx31 hw1;clear hgu;refine B9D (rsC A8 [0,0,1,0,0,0,2] hB hG λK L hN hL=>?_);refine gs ?_;refine gmd (C:=λv ⟨hgu,hB,hG,_⟩=>Hdt.out _ x31 (HP.out.grow (hG1.trans hgu)) (HT.grow hG)) ?_;refine gs ?_;refine gaa (G6 _ _ _ _ _) λb12 hb12 hn12=>?_;replace hF:=hF.n1 [] hB hG hb12 hn12;refine geC hL ?_;clear hB hG hL L;rintro u ⟨⟨-,hB,hG,-⟩,h12⟩;replace hB:=hB.cons' h12;clear h12;clear hb12 hn12;refine gtT ?_;clear hN K;refine st hB hF hG 0 0 [_,_,_,_,_] ?_;clear hB hG;intro u hB hG;clear HP hG1;refine B9D (rdC A8 [5] [(0,0),(1,1),(1,2),(0,3),(0,4),(0,5),(2,6)] hB hG λK L hN hL=>?_);refine gs ?_;refine gmw (C:=λv=>I5 2 (by omega) (by omega) _) ?_;refine gmd (C:=λv ⟨hgu,hB,hG,_⟩=>Hdv.out _ (HT.grow hG)) ?_;refine gs ?_;refine gaa (G6 _ _ _ _ _) λb14 hb14 hn14=>?_;replace hF:=hF.n1 [] hB hG hb14 hn14;refine geC hL ?_;clear hB hG hL L;rintro u ⟨⟨-,hB,hG,-⟩,h14⟩;replace hB:=hB.cons' h14;clear h14;clear hb14 hn14;refine gtT ?_;clear hN K;refine st hB hF hG 0 0 [_,_,_,_,_] ?_;clear hB hG;intro u hB hG;refine B9D (rsC A8 [0,2] hB hG λK L hN hL=>?_);refine gs ?_;refine gaa (G6 _ _ _ _ _) λb16 hb16 hn16=>?_;replace hF:=hF.n1 [] hB hG hb16 hn16;refine geC hL ?_;clear hB hG hL L;rintro u ⟨⟨-,hB,hG,-⟩,h16⟩;replace hB:=hB.cons' h16;clear h16;clear hb16 hn16;refine gtT ?_;clear hN K;refine st hB hF hG 0 0 [_,_,_,_,_] ?_;clear hB hG;intro u hB hG;refine B9D ?_;refine r0T ?_;refine B9l ?_;go_loopw [47] (λs0 wr=>∃(j:Nat) (S:Rat),j<=L/\s0 = .int .i64 j/\S=A2M v j/\Bx wr [(b16,48,L9 S),(b14,48,L9 E),(b12,48,L9 D),(b7,48,L9 a),(b8,48,A3D)]/\A4 w wr) (λs0 _=>L-(intOf s0).toNat)
 case atStart=>exact⟨0,0,B9a _,rfl,rfl,hB,hG⟩
 case round =>
  clear hB hG;obtain⟨j,S,hj,rfl,hS,hB,hG⟩:=hrel;obtain⟨u,rfl⟩:=exQ wr;have z1:=HSz.out j hj;rw[<-hS]at z1;rcases B8t j L with hlt|hge
  ·have hdec:decide ((j:Int)<(L:Int))=true:=by simp;omega
   have hjn:(j:Int)<(L:Int):=by omega
   obtain⟨bv,ov,rfl,hrd⟩:=Hat.out j hlt;have z2:=Hvs.out j hlt;have hnx:A2M v (j+1)=G5 (A2M v j) (Q5 (gq v j)):=rfl;rw[<-hS]at hnx;obtain⟨X,hX⟩:∃X,X=gq v j:=⟨_,rfl⟩
   rw[<-hX]at z2 hnx;simp only[<-hX]at hrd;have hab:=λW=>A62 X (by have:=G3 X;omega) W;have z3:=A3c X;obtain⟨B1,hB1⟩:∃D,D=Q5 X:=⟨_,rfl⟩
   rw[<-hB1]at hnx z3;simp only[<-hB1]at hab;have had:=λW hT=>A1M S B1 W (by omega) hT;have Hrd:=B9I hrd;have Hnx:=B9I hnx;have Hab:=B9I hab;have Had:=B9I had;clear hrd hnx hab had hX hB1 hS z1 z2 z3;refine r0T ?_;refine B9D ?_;refine B9L (rfl) ?_;refine B9K ?_;refine A6 ?_;refine B9D ?_;refine B9l ?_;refine B9D (rsC A8 [0,0,2] hB hG λK L hN hL=>?_)
   repeat first|refine gya ?_|refine gyr ?_|refine gna ?_|refine gyb (by(rintro v ⟨hgu,hB,hG,-⟩ N hN;have r:=hB.r;simp only[BxR]at r;obtain⟨y1,y2,y3,y4,y5⟩:=Hrd.out v hG;go_simp;exact hN)) ?_
   refine gaa (G6 _ _ _ _ _) λb18 hb18 hn18=>?_;replace hF:=hF.n1 [] hB hG hb18 hn18;refine geC hL ?_;clear hB hG hL L;rintro u ⟨⟨-,hB,hG,-⟩,h18⟩;replace hB:=hB.cons' h18;clear h18;clear hb18 hn18;refine gtT ?_;clear hN K;refine st hB hF hG 0 0 [_,_,_,_,_] ?_;clear hB hG;intro u hB hG;refine rdC A8 [] [(0,0),(0,1),(1,2),(1,3)] hB hG λK L hN hL=>?_
   repeat first|refine gya ?_|refine gyr ?_|refine gna ?_|refine gyb (by(rintro v ⟨hgu,hB,hG,-⟩ N hN;have r:=hB.r;simp only[BxR]at r;obtain⟨y1,y2,y3,y4,y5⟩:=Hrd.out v hG;go_simp;exact hN)) ?_
   refine gmw (C:=λv=>Hab.out _) ?_;refine gmd (C:=λv ⟨hgu,hB,hG,_⟩=>Had.out _ (HT.grow hG)) ?_;refine geC hL ?_;clear hB hG hL L;rintro u ⟨-,hB,hG,-⟩;refine gt ?_;clear hN K;refine st hB hF hG 1 0 [_,_,_,_,_] ?_;clear hB hG;intro u hB hG;refine C5 ?_;refine A6 ?_;refine r0E ?_;refine A6 ?_;go_roundw
   case rel=>exact⟨j+1,G5 S B1,by omega,by go_num,Hnx.out.symm,hB.tail,hG⟩
   case measure=>simp[intOf];omega
  ·obtain rfl:L=j:=by omega
   have hdec:decide ((L:Int)<(L:Int))=false:=by simp
   have z4:=Z8 a S;have hml:=λW hT=>A0q a S W (by omega) hT;rw[<-hS];obtain⟨F,hF9⟩:∃F,F=D5 a S:=⟨_,rfl⟩
   rw[<-hF9];simp only[<-hF9]at hml;have z5:qs F<=300000000:=by rw[hF9];unfold D5;omega
   have had:=λW hT=>A1M E F W (by omega) hT;have Hml:=B9I hml;have Had:=B9I had;clear hml had hS hF9 z1 z4 z5;refine r0T ?_;refine B9D ?_;refine B9J (rfl) ?_;refine B9n ?_;refine B9 ?_;refine B9 ?_;refine E4 ?_;refine A6 ?_;refine B9D (rdC A8 [] [(0,0),(0,1),(0,2),(1,3),(1,4)] hB hG λK L hN hL=>?_);refine gs ?_;refine gmd (C:=λv ⟨hgu,hB,hG,_⟩=>Hml.out _ (HT.grow hG)) ?_;refine gmd (C:=λv ⟨hgu,hB,hG,_⟩=>Had.out _ (HT.grow hG)) ?_;refine geC hL ?_;clear hB hG hL L;rintro u ⟨-,hB,hG,-⟩;refine gtT ?_;clear hN K;refine st hB hF hG 4 0 [_,_,_,_,_] ?_;clear hB hG;intro u hB hG;refine rt Tryz.results32 ?_;exact⟨rfl,hG⟩
end Go.Proofs.YtgpglgbcobeogaaGreatDoor
