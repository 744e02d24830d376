import Derived.Test.YtgpglgbcobeogaaGreatDoorW27
set_option linter.unusedSimpArgs false
set_option linter.unusedVariables false
set_option maxHeartbeats 8000000
set_option maxRecDepth 100000
namespace Go.Proofs.YtgpglgbcobeogaaGreatDoor
open Go Go.RowKit
abbrev Mx:=Nat→Nat→Rat
def M6(M:Mx)(a b:Nat):Mx:=fun i=>if i=a then M b else if i=b then M a else M i
def N6(M:Mx)(t:Nat)(k:Rat)(n:Nat):Mx:=fun i j=>if i=t∧j<n then D8 (M i j) k else M i j
def J4(M:Mx)(i t:Nat)(k:Rat)(n:Nat):Mx:=fun i' j=>if i'=i∧j<n then F8 (M i' j) (D8 k (M t j))else M i' j
def K3(M:Mx)(t c L:Nat):Nat→Mx
 | 0=>M
 | i+1=>if i=t then K3 M t c L i else J4 (K3 M t c L i) i t (K3 M t c L i i c) L
def L7(M:Mx)(n top col:Nat):Nat:=A0K (fun i=>decide (M i col=0)) (n-top) top
abbrev Gs:=Mx×List Nat
def A0B(n:Nat)(s:Gs)(col:Nat):Nat:=L7 s.1 n s.2.length col
def A0s(n L:Nat)(s:Gs)(col:Nat):Mx:=N6 (M6 s.1 s.2.length (A0B n s col)) s.2.length (I8 (C1 1) (M6 s.1 s.2.length (A0B n s col) s.2.length col)) L
def O4(n L:Nat)(s:Gs)(col:Nat):Gs:=if A0B n s col<n then(K3 (A0s n L s col) s.2.length col L n,s.2++[col])else s
def C9(n L:Nat)(s:Gs):Nat→Gs
 | 0=>s
 | c+1=>O4 n L (C9 n L s c) c
def szM(M:Mx)(n L s:Nat):Prop:=∀i,i<n→∀j,j<L→qs (M i j)≤s
theorem szM.mono{M:Mx}{n L s t:Nat}(h:szM M n L s)(hs:s≤t):szM M n L t:=fun i hi j hj=>B9Y (h i hi j hj) hs
theorem A1j(M:Mx)(n top col:Nat):(L7 M n top col<n→top≤L7 M n top col∧M (L7 M n top col) col≠0)∧∀i,top≤i→i<L7 M n top col→M i col=0:=by
 obtain⟨h1,h2,h3,h4⟩:=A4Q (fun i=>decide (M i col=0)) (n-top) top;refine⟨fun h=>⟨h1,fun e=>?_⟩,fun i hi hp=>C0K (h3 i hi hp)⟩;have h5:=h4 (by unfold L7 at h;omega);simp only[decide_eq_false_iff_not]at h5;exact h5 e
theorem B6K{M:Mx}{n top col:Nat}(h:n≤top):L7 M n top col=top:=by
 unfold L7;rw[show n-top=0 by omega];rfl
theorem A9G{M:Mx}{n L s a b:Nat}(h:szM M n L s)(ha:a<n)(hb:b<n):szM (M6 M a b) n L s:=fun i hi j hj=>by
 unfold M6;split
 ·exact h b hb j hj
 ·split
  ·exact h a ha j hj
  ·exact h i hi j hj
theorem A8N{M:Mx}{n L s t m:Nat}{k:Rat}{r:Nat}(h:szM M n L s)(hk:qs k≤r):szM (N6 M t k m) n L (s+r):=fun i hi j hj=>by
 unfold N6;have h1:=h i hi j hj;split
 ·have:=A0d (M i j) k;unfold D8;omega
 ·omega
theorem A5L{M:Mx}{t c L:Nat}:∀i k,i≤k→K3 M t c L i k=M k
 | 0,_,_=>rfl
 | i+1,k,h=>by
  have ih:=A5L (M:=M) (t:=t) (c:=c) (L:=L) i k (by omega);unfold K3;split
  ·exact ih
  ·funext j;unfold J4;rw[if_neg (by omega),ih]
theorem A2n{M:Mx}{t c L:Nat}:∀i,K3 M t c L i t=M t
 | 0=>rfl
 | i+1=>by
  have ih:=A2n (M:=M) (t:=t) (c:=c) (L:=L) i;unfold K3;split
  ·exact ih
  ·funext j;unfold J4;rw[if_neg (by omega),ih]
theorem A8I{M:Mx}{n L s t c:Nat}(h:szM M n L s)(ht:t<n)(hc:c<L):∀i,i≤n→szM (K3 M t c L i) n L (3*s+1)
 | 0,_=>h.mono (by omega)
 | i+1,hi=>by
  have ih:=A8I h ht hc i (by omega);unfold K3;split
  ·exact ih
  ·intro i' hi' j hj;unfold J4;split
   ·rename_i e;obtain⟨rfl,-⟩:=e;rw[A5L i' i' (B9G _),A2n];have h1:=h i' hi' j hj;have h2:=h i' hi' c hc;have h3:=h t ht j hj;have h4:=A0d (M i' c) (M t j);have h5:=A01 (M i' j) (D8 (M i' c) (M t j));unfold F8;unfold D8 at h5⊢;omega
   ·exact ih i' hi' j hj
theorem B6Q{M:Mx}{le:List Nat}{n L s col:Nat}(h:szM M n L s)(hc:col<L)(hp:A0B n (M,le) col<n):le.length<n∧szM (A0s n L (M,le) col) n L (2*s+1):=by
 have h1:=(A1j M n le.length col).1 hp;have ht:le.length<n:=by
  have:L7 M n le.length col<n:=hp;omega
 have h2:=A9G h ht hp;refine⟨ht,(A8N (r:=s+1) h2 ?_).mono (by omega)⟩;have h4:qs (M6 M le.length (A0B n (M,le) col) le.length col)≤s:=h2 le.length ht col hc;have h3:=A3i (C1 1) (M6 M le.length (A0B n (M,le) col) le.length col);have h5:qs (C1 1)≤1:=by decide
 exact B9Y h3 (by omega)
theorem B8j{s:Gs}{n L k col:Nat}(h:szM s.1 n L k)(hc:col<L):szM (O4 n L s col).1 n L (6*k+4):=by
 unfold O4;split
 ·rename_i hp;obtain⟨ht,h1⟩:=B6Q (M:=s.1) (le:=s.2) h hc hp;exact(A8I h1 ht hc n (B9G _)).mono (by omega)
 ·exact h.mono (by omega)
theorem A5u{s:Gs}{n L k:Nat}(h:szM s.1 n L k)(hk:1≤k):∀c,c≤L→szM (C9 n L s c).1 n L (k*10^c)
 | 0,_=>by rw[Nat.pow_zero,C0d];exact h
 | c+1,hc=>by
  have h1:=B8j (A5u h hk c (by omega)) (col:=c) (by omega);refine h1.mono ?_;have h2:1≤k*10^c:=B91 hk (C07 (by omega));have h3:k*10^(c+1)=k*10^c*10:=by rw[Nat.pow_succ,C0e]
  rw[h3];omega
theorem A8k{s:Gs}{n L:Nat}(h:s.2.length≤n)(hl:∀x∈s.2,x<L):∀c,c≤L→(C9 n L s c).2.length≤n∧(∀x∈(C9 n L s c).2,x<L)
 | 0,_=>⟨h,hl⟩
 | c+1,hc=>by
  obtain⟨h1,h2⟩:=A8k h hl c (by omega);show(O4 n L (C9 n L s c) c).2.length≤n∧∀x∈(O4 n L (C9 n L s c) c).2,x<L;unfold O4;split
  ·rename_i hp;have h3:=(A1j (C9 n L s c).1 n (C9 n L s c).2.length c).1 hp;have h4:L7 (C9 n L s c).1 n (C9 n L s c).2.length c<n:=hp;refine⟨by simp only[List.length_append,List.length_singleton];omega,fun x hx=>?_⟩;rcases List.mem_append.1 hx with hx|hx
   ·exact h2 x hx
   ·have:x=c:=by simpa using hx
    omega
  ·exact⟨h1,h2⟩
theorem U5{w:World}{A:Option Addr}{rs:List Rq}{N L:Nat}(hn:rs.length=N)(hrl:∀r∈rs,r.2.2.length=L)(h:Lrq w A rs){i:Nat}(hi:i<N):∃(bb ob:Nat) (P:Ax),A=some ⟨bb,ob,none⟩∧∀W,A4 w W→W.cell? ⟨bb,ob+i,none⟩=some (.slice P.1 L P.2)∧Lq W P.1 (B7 (rs.map (·.2.2)) i)∧(B7 (rs.map (·.2.2)) i).length=L:=by
 obtain⟨bb,ob,rfl⟩:=h.addr (by omega);have hil:i<rs.length:=by omega
 refine⟨bb,ob,(rs[i].1,rs[i].2.1),rfl,fun W hg=>?_⟩;have h3:=(h.grow hg).read (B9w hil);have e:B7 (rs.map (·.2.2)) i=rs[i].2.2:=by unfold B7;rw[List.getElem?_map,B9w hil];rfl
 rw[hrl _ (B9U hil)]at h3;rw[e];exact⟨h3.1,h3.2,hrl _ (B9U hil)⟩
theorem A78(A:Option Addr)(rs:List Rq)(N L c j:Nat)(hn:rs.length=N)(hN2:N≤300)(hrl:∀r∈rs,r.2.2.length=L)(hj:j<L)(hL:L≤20)(w:World)(h:Lrq w A rs) :
  Calls Tryz.prog 96 #[.slice A N c,.int .i64 (j:Nat)] w (G1 (fun x:Ax=>.slice x.1 N x.2) (fun x W=>Lq W x.1 (H8 (rs.map (·.2.2)) j N)) w):=by
 have hat:∀i,i<N→∃(bb ob ba oa cr:Nat),A=some ⟨bb,ob,none⟩∧∀W,A4 w W→W.cell? ⟨bb,ob+i,none⟩=some (.slice (some ⟨ba,oa,none⟩) L cr)∧Cq W ba (oa+j*5) (gq (B7 (rs.map (·.2.2)) i) j):=fun i hi=>by
  obtain⟨bb,ob,⟨P1,P2⟩,e,hP⟩:=U5 hn hrl h hi;obtain⟨h1,h2,h3⟩:=hP w (A4.refl w);obtain⟨ba,oa,e1⟩:=h2.addr (by omega);simp only at e1;subst e1;refine⟨bb,ob,ba,oa,P2,e,fun W hg=>?_⟩;obtain⟨h4,h5,h6⟩:=hP W hg;exact⟨h4,h5.read (by omega)⟩
 unfold H8;obtain⟨f,hf⟩:∃f:Nat→Rat,f=fun i=>gq (B7 (rs.map (·.2.2)) i) j:=⟨_,rfl⟩
 have hat2:∀i,i<N→∃(bb ob ba oa cr:Nat),A=some ⟨bb,ob,none⟩∧∀W,A4 w W→W.cell? ⟨bb,ob+i,none⟩=some (.slice (some ⟨ba,oa,none⟩) L cr)∧Cq W ba (oa+j*5) (f i):=by rw[hf];exact hat
 rw[←hf];have hmk:=A08 N (by omega) (N:Int) rfl;have hjL:(j:Int)<(L:Int):=by omega
 have Hat:=B9g hat2;have Hmk:=B9g hmk;clear hat hat2 hmk hf h hrl hn;go_enter Tryz.func96,Tryz.ntmps96;refine en0 ?_;intro u hG hB hF;refine B9b ?_;have hmk:=Hmk.out;refine L8 ?_;intro K hN;go_wp2_with fail;generalize hv:World.alloc u _=v;have hrow:=A0t hG.sz (by omega) hv;have hgv:A4 u v:=hv ▸ A4.alloc u _;have hG2:=hG.trans hgv;clear hv hG hB hmk hgv;rw[←A2D f N]at hrow;generalize u.heap.size=g at hrow⊢;have Ho:=B9g hrow;have hG:=hG2;have hB:=Bx.nil v;have hF:=Fr.nil w;clear hrow hG2;obtain⟨u,rfl⟩:=exQ v;refine NoK.norm (hN _ _ ?_);clear hN K;refine A6 ?_;refine B9b ?_;refine r0T ?_;refine B99 ?_;clear hB hF;go_loopw [13] (fun s0 wr=>∃i:Nat,i≤N∧s0 = .int .i64 i∧wr.ownsRow w.heap.size 48 5 (.slice (some ⟨g,0,none⟩) N N) N ((K6 f N i).flatMap qL)∧A4 w wr) (fun s0 _=>N-(intOf s0).toNat)
 case atStart=>exact⟨0,B9y _,rfl,Ho.out,hG⟩
 case round =>
  clear hG Ho;obtain⟨i,hi,rfl,ho,hG⟩:=hrel;obtain⟨u,rfl⟩:=exQ wr;have Ho:=B9g ho;have hB:=Bx.nil u;have hF:=Fr.nil w;clear ho;rcases B9H i N with hlt|hge
  ·have hdec:decide ((i:Int)<(N:Int))=true:=by simp;omega
   have hin:(i:Int)<(N:Int):=by omega
   have hst:=A1w (f:=f) hlt;obtain⟨bb,ob,ba,oa,cr,rfl,hrd⟩:=Hat.out i hlt;obtain⟨Q,hQ⟩:∃q,q=f i:=⟨_,rfl⟩
   rw[←hQ]at hst;simp only[←hQ]at hrd;have Hst:=B9g hst;have Hrd:=B9g hrd;clear hst hrd hQ;refine r0T ?_;refine B9b ?_;refine B9j (rfl) ?_;refine B9i ?_;refine A6 ?_;refine B9b ?_;refine B99 ?_;refine B9b ?_;obtain⟨q0,q1,q2,q3,q4,q5⟩:=Hrd.out u hG;refine r0N ?_;obtain⟨q0,q1,q2,q3,q4,q5⟩:=Hrd.out u hG;obtain⟨z0,z1,z2,z3,z4,o0,o1,o2,o3,o4,hfz⟩:=A0C (enc:=qL) (fun _=>rfl) Ho.out (N2 f N i).symm i (by rw[N2];exact hlt);obtain⟨q0,q1,q2,q3,q4,q5⟩:=Hrd.out u hG;refine r0E ?_;clear q0 q1 q2 q3 q4 q5 o0 o1 o2 o3 o4 hfz;generalize hu0:World.setCell (World.setCell (World.setCell (World.setCell (World.setCell u _ _) _ _) _ _) _ _) _ _=u0;have hu1:C2 u g (i*5) (qL Q)=u0:=hu0;have hP:=O7 (enc:=qL) (size:=5) (ps:=K6 f N i) (fun _=>rfl) Ho.out i Q (by rw[N2];exact hlt);rw[Hst.out,hu1]at hP;have hG2:=N7 Ho.out hG hP.2;have Ho2:=B9g hP.1;clear hG hB Ho hP hu1 hu0;have hG:=hG2;have hB:=Bx.nil u0;have hF:=Fr.nil w;have Ho:=Ho2;clear hG2 Ho2;obtain⟨u,rfl⟩:=exQ u0;refine C8 ?_;refine A6 ?_;refine r0E ?_;refine A6 ?_;go_roundw
   case rel=>exact⟨i+1,by omega,by go_num,Ho.out,hG⟩
   case measure=>simp[intOf];omega
  ·obtain rfl:N=i:=by omega
   have hdec:decide ((N:Int)<(N:Int))=false:=by simp
   have ho:=Ho.out;rw[A1v]at ho;obtain⟨A9,c9,e9,-,-,hL,-⟩:=K9 ho;cases e9;have HL:=B9g hL;clear ho hL Ho;refine r0T ?_;refine B9b ?_;refine B9h (rfl) ?_;refine C0B ?_;refine C0 ?_;refine C0 ?_;refine E4 ?_;refine A6 ?_;refine r0T ?_;refine rt Tryz.results96 ?_;exact⟨(some ⟨g,0,none⟩,N),rfl,HL.out,hG⟩
theorem B4c(A Y V:Option Addr)(rs:List Rq)(y v:List Rat)(N L c d k:Nat)(hn:rs.length=N)(hN2:N≤20)(hrl:∀r∈rs,r.2.2.length=L)(hy:y.length=N)(hv:v.length=L)(hL:L≤20)(s:Nat)(hs:s≤10000000)(hX:∀i,i<N→∀j,j<L→qs (gq (B7 (rs.map (·.2.2)) i) j)≤s)(hys:∀i,i<N→qs (gq y i)≤s)(hvs:∀j,j<L→qs (gq v j)≤s)(w:World)(h:Lrq w A rs)(h2:Lq w Y y)(h3:Lq w V v)(HT:Tab w) :
  Calls Tryz.prog 92 #[.slice A N c,.slice Y N d,.slice V L k] w (G1 (fun x:Ax=>.slice x.1 N x.2) (fun x W=>Lq W x.1 (A0v (rs.map (·.2.2)) y v N L)) w):=by
 have hBB:1000000000000≤BIG:=by unfold BIG;omega
 have hLs:L*(s+s+1)≤20*(s+s+1):=B94 _ hL;have hat:∀i,i<N→∃(bb ob by0 oy:Nat) (P:Ax) (Z D:Rat),A=some ⟨bb,ob,none⟩∧Y=some ⟨by0,oy,none⟩∧(∀W,A4 w W→W.cell? ⟨bb,ob+i,none⟩=some (.slice P.1 L P.2)∧Cq W by0 (oy+i*5) Z)∧(∀W,A4 w W→Calls Tryz.prog 93 #[.slice V L k,.slice P.1 L P.2] W fun e w'=>e = .returned (.tuple #[qV D,.bool true])∧A4 W w')∧(∀W,Tab W→Calls Tryz.prog 50 #[qV Z,qV D] W fun e w'=>e = .returned (qV (F8 Z D))∧A4 W w')∧F8 Z D=F8 (gq y i) (E7 v (B7 (rs.map (·.2.2)) i) L):=fun i hi=>by
  obtain⟨bb,ob,P,e,hP⟩:=U5 hn hrl h hi;obtain⟨by0,oy,e2⟩:=h2.addr (by omega);subst e2;refine⟨bb,ob,by0,oy,P,gq y i,E7 v (B7 (rs.map (·.2.2)) i) L,e,rfl,fun W hg=>⟨(hP W hg).1,(h2.grow hg).read (by omega)⟩,fun W hg=>?_,fun W hT=>?_,rfl⟩
  ·obtain⟨h4,h5,h6⟩:=hP W hg;exact A3X V P.1 v _ k P.2 L hv h6 (by omega) s s hvs (hX i hi) (by omega) W (h3.grow hg) h5 (HT.grow hg)
  ·have z1:=A1J (a:=v) (b:=B7 (rs.map (·.2.2)) i) (n:=L) hvs (hX i hi) L (B9G _);have z2:=hys i hi;exact A2R _ _ W (by omega) hT
 unfold A0v;obtain⟨f,hf⟩:∃f:Nat→Rat,f=fun i=>F8 (gq y i) (E7 v (B7 (rs.map (·.2.2)) i) L):=⟨_,rfl⟩
 have hfi:∀i,f i=F8 (gq y i) (E7 v (B7 (rs.map (·.2.2)) i) L):=by rw[hf];exact fun _=>rfl
 simp only[←hfi]at hat;rw[←hf];have hmk:=A08 N (by omega) (N:Int) rfl;have Hat:=B9g hat;have Hmk:=B9g hmk;clear hat hmk hf hfi h h2 h3 hrl hn hX hys hvs hs hLs hy hv;go_enter Tryz.func92,Tryz.ntmps92;refine en0 ?_;intro u hG hB hF;refine B9b ?_;have hmk:=Hmk.out;refine L8 ?_;intro K hN;go_wp2_with fail;generalize hv:World.alloc u _=v;have hrow:=A0t hG.sz (by omega) hv;have hgv:A4 u v:=hv ▸ A4.alloc u _;have hG2:=hG.trans hgv;clear hv hG hB hmk hgv;rw[←A2D f N]at hrow;generalize u.heap.size=g at hrow⊢;have Ho:=B9g hrow;have hG:=hG2;have hB:=Bx.nil v;have hF:=Fr.nil w;clear hrow hG2;obtain⟨u,rfl⟩:=exQ v;refine NoK.norm (hN _ _ ?_);clear hN K;refine A6 ?_;refine B9b ?_;refine r0T ?_;refine B99 ?_;clear hB hF;go_loopw [17] (fun s0 wr=>∃i:Nat,i≤N∧s0 = .int .i64 i∧wr.ownsRow w.heap.size 48 5 (.slice (some ⟨g,0,none⟩) N N) N ((K6 f N i).flatMap qL)∧A4 w wr) (fun s0 _=>N-(intOf s0).toNat)
 case atStart=>exact⟨0,B9y _,rfl,Ho.out,hG⟩
 case round =>
  clear hG Ho;obtain⟨i,hi,rfl,ho,hG⟩:=hrel;obtain⟨u,rfl⟩:=exQ wr;have Ho:=B9g ho;have hB:=Bx.nil u;have hF:=Fr.nil w;clear ho;rcases B9H i N with hlt|hge
  ·have hdec:decide ((i:Int)<(N:Int))=true:=by simp;omega
   have hin:(i:Int)<(N:Int):=by omega
   have hst:=A1w (f:=f) hlt;obtain⟨bb,ob,by0,oy,P,Z,D,rfl,rfl,hrd,hdt,hsb,e⟩:=Hat.out i hlt;rw[←e]at hst;obtain⟨Q,hQ⟩:∃q,q=F8 Z D:=⟨_,rfl⟩
   rw[←hQ]at hst;simp only[←hQ]at hsb;have Hst:=B9g hst;have Hrd:=B9g hrd;have Hdt:=B9g hdt;have Hsb:=B9g hsb;clear hst hrd hdt hsb hQ e;refine r0T ?_;refine B9b ?_;refine B9j (rfl) ?_;refine B9i ?_;refine A6 ?_;refine B9b ?_;refine B99 ?_;refine B9b ?_;obtain⟨q0,q1,q2,q3,q4,q5⟩:=Hrd.out u hG;refine r0N ?_;refine B9b (rsC A8 [0,0,1,0,0,0,2] hB hG fun K L hN hL=>?_);refine gs ?_;refine gmd (C:=fun v ⟨hgu,hB,hG,_⟩=>Hdt.out _ hG) ?_;refine gs ?_;refine gaa (J5 _ _ _ _ _) fun b10 hb10 hn10=>?_;replace hF:=hF.n1 [] hB hG hb10 hn10;refine geC hL ?_;clear hB hG hL L;rintro u ⟨⟨hgu,hB,hG,-⟩,h10⟩;replace hB:=hB.cons' h10;clear h10;have g10:g≠b10:=by
    have:=(Ho.out.lt g rfl).2;omega
   have Ho2:=B9g (B9 Ho.out hgu);clear Ho;have Ho:=Ho2;clear Ho2;clear hb10 hn10;clear hgu;refine gtT ?_;clear hN K;refine sv hB hF hG 0 0 [_,_,_,_,_] ?_;intro u hu hBG;have Ho2:=B9g (H7 Ho.out (fun e=>g10 (B9M e)) hu);clear Ho;have Ho:=Ho2;clear Ho2;clear hB hG hu;obtain⟨hB,hG⟩:=hBG;refine rdC A8 [] [(0,0),(0,1),(0,2),(0,3),(0,4),(0,5),(0,6),(1,7),(0,8)] hB hG fun K L hN hL=>?_
   repeat first|refine gya ?_|refine gyr ?_|refine gna ?_|refine gyb (by(rintro v ⟨hgu,hB,hG,-⟩ N hN;have r:=hB.r;simp only[BxR]at r;obtain⟨q0,q1,q2,q3,q4,q5⟩:=Hrd.out v hG;go_simp;exact hN)) ?_
   refine gmd (C:=fun v ⟨hgu,hB,hG,_⟩=>Hsb.out _ (HT.grow hG)) ?_;refine gs ?_;refine geC hL ?_;clear hB hG hL L;rintro u ⟨hgu,hB,hG,-⟩;have Ho2:=B9g (B9 Ho.out hgu);clear Ho;have Ho:=Ho2;clear Ho2;obtain⟨z0,z1,z2,z3,z4,o0,o1,o2,o3,o4,hfz⟩:=A0C (enc:=qL) (fun _=>rfl) Ho.out (N2 f N i).symm i (by rw[N2];exact hlt);clear hgu;refine gt ?_;clear hN K;clear o0 o1 o2 o3 o4 hfz;generalize hu0:World.setCell (World.setCell (World.setCell (World.setCell (World.setCell u _ _) _ _) _ _) _ _) _ _=u0;have hu1:C2 u g (i*5) (qL Q)=u0:=hu0;have hP:=O7 (enc:=qL) (size:=5) (ps:=K6 f N i) (fun _=>rfl) Ho.out i Q (by rw[N2];exact hlt);rw[Hst.out,hu1]at hP;have hG2:=N7 Ho.out hG hP.2;have Ho2:=B9g hP.1;clear hG hB Ho hP hu1 hu0;have hG:=hG2;have hB:=Bx.nil u0;have hF:=Fr.nil w;have Ho:=Ho2;clear hG2 Ho2;obtain⟨u,rfl⟩:=exQ u0;refine C8 ?_;refine A6 ?_;refine r0E ?_;refine A6 ?_;go_roundw
   case rel=>exact⟨i+1,by omega,by go_num,Ho.out,hG⟩
   case measure=>simp[intOf];omega
  ·obtain rfl:N=i:=by omega
   have hdec:decide ((N:Int)<(N:Int))=false:=by simp
   have ho:=Ho.out;rw[A1v]at ho;obtain⟨A9,c9,e9,-,-,hL,-⟩:=K9 ho;cases e9;have HL:=B9g hL;clear ho hL Ho;refine r0T ?_;refine B9b ?_;refine B9h (rfl) ?_;refine C0B ?_;refine C0 ?_;refine C0 ?_;refine E4 ?_;refine A6 ?_;refine r0T ?_;refine rt Tryz.results92 ?_;exact⟨(some ⟨g,0,none⟩,N),rfl,HL.out,hG⟩
abbrev R8(g cp:Nat→Nat)(L i:Nat):Value:=.slice (some ⟨g i,0,none⟩) L (cp i)
def A0a(g cp:Nat→Nat)(L n:Nat):List Value:=(List.range n).map (R8 g cp L)
abbrev J6(v:Value):List Value:=[v]
def G0(M:Mx)(L i:Nat):List Rat:=(List.range L).map (M i)
theorem A2J(M:Mx)(L i:Nat):(G0 M L i).length=L:=by unfold G0;simp
theorem A4P(g cp:Nat→Nat)(L n:Nat):(A0a g cp L n).length=n:=by unfold A0a;simp
structure MatW(B n L b0 c0:Nat)(g cp:Nat→Nat)(M:Mx)(W:World):Prop where
 hd:W.ownsRow B 35 1 (.slice (some ⟨b0,0,none⟩) n c0) n ((A0a g cp L n).flatMap J6)
 row:∀i,i<n→W.ownsRow B 48 5 (.slice (some ⟨g i,0,none⟩) L (cp i)) L ((G0 M L i).flatMap qL)
 inj:∀i j,i<n→j<n→g i=g j→i=j
section
variable {B n L b0 c0:Nat} {g cp:Nat→Nat} {M:Mx} {W W':World}
theorem MatW.grow(h:MatW B n L b0 c0 g cp M W)(hg:A4 W W'):MatW B n L b0 c0 g cp M W':=⟨B9 h.hd hg,fun i hi=>B9 (h.row i hi) hg,h.inj⟩
theorem MatW.kept(h:MatW B n L b0 c0 g cp M W){r:Option Nat}(hg:W.grownBy W' r)(h0:some b0≠r)(hr:∀i,i<n→some (g i)≠r):MatW B n L b0 c0 g cp M W' :=
 ⟨h.hd.kept hg (.inr h0),fun i hi=>(h.row i hi).kept hg (.inr (hr i hi)),h.inj⟩
theorem MatW.b0lt(h:MatW B n L b0 c0 g cp M W):B≤b0∧b0<W.heap.size:=h.hd.lt b0 rfl
theorem MatW.glt(h:MatW B n L b0 c0 g cp M W){i:Nat}(hi:i<n):B≤g i∧g i<W.heap.size:=(h.row i hi).lt (g i) rfl
theorem MatW.gb0(h:MatW B n L b0 c0 g cp M W){i:Nat}(hi:i<n):g i≠b0:=fun e=>N9 h.hd (h.row i hi) (by decide) b0 rfl (by rw[←e];rfl)
theorem MatW.read(h:MatW B n L b0 c0 g cp M W){i:Nat}(hi:i<n):W.cell? ⟨b0,i,none⟩=some (R8 g cp L i):=by
 have h1:=R9 (enc:=J6) (size:=1) (fun _=>rfl) h.hd (A4P g cp L n).symm i 0 (by rw[A4P];exact hi) (by omega);rw[C0d,Nat.add_zero]at h1;rw[h1];unfold A0a;simp
theorem MatW.lq(h:MatW B n L b0 c0 g cp M W){i:Nat}(hi:i<n):Lq W (some ⟨g i,0,none⟩) (G0 M L i):=by
 obtain⟨A,c,e,-,-,hL,-⟩:=K9 (h.row i hi);cases e;exact hL
theorem B7R{M:Mx}{L i j:Nat}(h:j<L):gq (G0 M L i) j=M i j:=W8 _ h
theorem MatW.cq(h:MatW B n L b0 c0 g cp M W){i j:Nat}(hi:i<n)(hj:j<L):Cq W (g i) (j*5) (M i j):=by
 have h1:=(h.lq hi).read (i:=j) (by rw[A2J];exact hj);rw[B7R hj,Nat.zero_add]at h1;exact h1
def Y5(M:Mx)(i j:Nat)(q:Rat):Mx:=fun i' j'=>if i'=i∧j'=j then q else M i' j'
theorem B0I{M:Mx}{L i j:Nat}{q:Rat}(hj:j<L):(G0 M L i).set j q=G0 (Y5 M i j q) L i:=by
 unfold G0;apply B9W
 ·simp
 ·intro k h1 h2;rw[C1I];simp only[List.getElem_map,List.getElem_range];unfold Y5;by_cases e:j=k
  ·subst e;simp
  ·rw[if_neg e,if_neg (by omega)]
theorem A9V{M:Mx}{L i i' j:Nat}{q:Rat}(h:i'≠i):G0 (Y5 M i j q) L i'=G0 M L i':=by
 unfold G0;refine C1J fun k _=>?_;unfold Y5;rw[if_neg (by omega)]
theorem MatW.put(h:MatW B n L b0 c0 g cp M W){i j:Nat}(hi:i<n)(hj:j<L)(q:Rat){o:Nat}(ho:o=j*5)(hu:C2 W (g i) o (qL q)=W'):MatW B n L b0 c0 g cp (Y5 M i j q) W'∧W.grownBy W' (some (g i)):=by
 subst ho;obtain⟨h1,h2⟩:=O7 (enc:=qL) (size:=5) (ps:=G0 M L i) (fun _=>rfl) (h.row i hi) j q (by rw[A2J];exact hj);rw[hu,B0I hj]at h1;rw[hu]at h2;refine⟨⟨h.hd.kept h2 (.inr fun e=>h.gb0 hi (B9M e).symm),fun i' hi'=>?_,h.inj⟩,h2⟩;by_cases e:i'=i
 ·subst e;exact h1
 ·rw[A9V e];exact(h.row i' hi').kept h2 (.inr fun e2=>e (h.inj i' i hi' hi (B9M e2)))
def sw(f:Nat→Nat)(a b:Nat):Nat→Nat:=fun i=>if i=a then f b else if i=b then f a else f i
theorem B4K{a b:Nat}(ha:a<n)(hb:b<n):((A0a g cp L n).set a (R8 g cp L b)).set b (R8 g cp L a)=A0a (sw g a b) (sw cp a b) L n:=by
 unfold A0a;apply B9W
 ·simp
 ·intro k h1 h2;rw[C1I,C1I];simp only[List.getElem_map,List.getElem_range];unfold R8 sw;by_cases e1:k=a
  ·subst e1;by_cases e2:b=k
   ·subst e2;simp
   ·rw[if_neg e2];simp
  ·by_cases e2:b=k
   ·subst e2;simp[e1]
   ·rw[if_neg e2,if_neg (fun e=>e1 e.symm),if_neg e1,if_neg (fun e=>e2 e.symm),if_neg e1,if_neg (fun e=>e2 e.symm)]
theorem B3R{f:Nat→Nat}{a b:Nat}(ha:a<n)(hb:b<n)(h:∀i j,i<n→j<n→f i=f j→i=j):∀i j,i<n→j<n→sw f a b i=sw f a b j→i=j:=fun i j hi hj e=>by
 unfold sw at e;split at e<;>split at e<;>rename_i h1 h2<;>(try split at e)<;>(try split at e)<;>(have h3:=h _ _ (by assumption) (by assumption) e;omega)
theorem MatW.swap{W1 W2:World}(h:MatW B n L b0 c0 g cp M W){a b:Nat}(ha:a<n)(hb:b<n)(h1:C2 W b0 a [R8 g cp L b]=W1)(h2:C2 W1 b0 b [R8 g cp L a]=W2):MatW B n L b0 c0 (sw g a b) (sw cp a b) (M6 M a b) W2∧W.grownBy W2 (some b0):=by
 have q1:=O7 (enc:=J6) (size:=1) (ps:=A0a g cp L n) (fun _=>rfl) h.hd a (R8 g cp L b) (by rw[A4P];exact ha);rw[C0d,h1]at q1;have q2:=O7 (enc:=J6) (size:=1) (ps:=(A0a g cp L n).set a (R8 g cp L b)) (fun _=>rfl) q1.1 b (R8 g cp L a) (by rw[B95,A4P];exact hb);rw[C0d,h2,B4K ha hb]at q2;have hg:=A3g q1.2 q2.2;have key:∀i,i<n→W2.ownsRow B 48 5 (.slice (some ⟨g i,0,none⟩) L (cp i)) L ((G0 M L i).flatMap qL):=fun i hi=>(h.row i hi).kept hg (.inr fun e=>h.gb0 hi (B9M e));refine⟨⟨q2.1,fun i hi=>?_,B3R ha hb h.inj⟩,hg⟩;unfold sw G0 M6;by_cases e1:i=a
 ·simp only[if_pos e1];exact key b hb
 ·by_cases e2:i=b
  ·simp only[if_neg e1,if_pos e2];exact key a ha
  ·simp only[if_neg e1,if_neg e2];exact key i hi
theorem MatW.fresh(h:MatW B n L b0 c0 g cp M W){b:Nat}(hb:W.heap.size≤b):b≠b0∧∀i,i<n→b≠g i:=⟨by have:=h.b0lt;omega,fun i hi=>by have:=h.glt hi;omega⟩
theorem MatW.over(h:MatW B n L b0 c0 g cp M W){b i:Nat}{vs:List Value}(hb:b≠b0∧∀i,i<n→b≠g i)(hu:C2 W b i vs=W'):MatW B n L b0 c0 g cp M W':=by
 subst hu;exact h.kept (V6 b vs i W) (fun e=>hb.1 (B9M e).symm) (fun i hi e=>hb.2 i hi (B9M e).symm)
theorem MatW.lrq(h:MatW B n L b0 c0 g cp M W):Lrq W (some ⟨b0,0,none⟩) ((List.range n).map fun i=>((some ⟨g i,0,none⟩,cp i,G0 M L i):Rq)):=fun hne=>by
 refine⟨b0,0,rfl,h.b0lt.2,fun i r hi=>?_⟩;rw[List.getElem?_map]at hi;obtain⟨k,hk,rfl⟩:=Option.map_eq_some_iff.1 hi;have hin:i<n:=by
  have:=(List.getElem?_eq_some_iff.1 hk).1
  simpa using this
 have hki:k=i:=by
  rw[C1N hin]at hk;exact(B9M hk).symm
 subst hki;simp only;rw[A2J,Nat.zero_add];exact⟨h.read hin,h.lq hin⟩
end
end Go.Proofs.YtgpglgbcobeogaaGreatDoor
