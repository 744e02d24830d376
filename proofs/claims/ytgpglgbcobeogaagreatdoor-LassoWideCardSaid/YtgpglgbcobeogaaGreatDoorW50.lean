/-
  The claim's theorem: LsPq LsPr LsWc LassoWideZ.
-/
import Derived.Test.YtgpglgbcobeogaaGreatDoorW49
set_option linter.unusedSimpArgs false
set_option linter.unusedVariables false
set_option maxHeartbeats 8000000
set_option maxRecDepth 100000
namespace Go.Proofs.YtgpglgbcobeogaaGreatDoor
open Go Go.RowKit
theorem B8c(A Y:Option Addr)(N M c d:Nat)(q:Rat)(z:Int)(hz:(z != 0)=true)(w:World)(ht:∀W,A4 w W→Calls Tryz.prog 35 #[.slice A N c,.slice Y M d] W fun e w'=>e = .returned (.tuple #[qV q,.int .i64 0])∧A4 W w')
  (hu:∀W,A4 w W→Calls Tryz.prog 58 #[.slice A N c] W fun e w'=>e = .returned (.int .i64 z)∧A4 W w') :
  Calls Tryz.prog 49 #[.slice A N c,.slice Y M d] w fun e w'=>e = .returned (.tuple #[.slice none 0 0,.int .i64 z])∧A4 w w':=by
 have Ht:=B9g ht;have Hu:=B9g hu;clear ht hu;go_enter Tryz.func49,Tryz.ntmps49;refine en0 ?_;intro u hG hB hF;refine B9b (rsC N1 [0,0,1,0,0,0,2] hB hG fun K L hN hL=>?_);refine gs ?_;refine gmd (C:=fun v ⟨hgu,hB,hG,_⟩=>Ht.out _ hG) ?_;refine gs ?_;refine gaa (J5 _ _ _ _ _) fun b6 hb6 hn6=>?_;replace hF:=hF.n1 [] hB hG hb6 hn6;refine geC hL ?_;clear hB hG hL L;rintro u ⟨⟨-,hB,hG,-⟩,h6⟩;replace hB:=hB.cons' h6;clear h6;clear hb6 hn6;refine gtT ?_;clear hN K;refine st hB hF hG 0 0 [_,_,_,_,_] ?_;clear hB hG;intro u hB hG;refine B9b ?_;refine r0T ?_;refine B9h (rfl) ?_;refine B9i ?_;refine A6 ?_;refine B9b ?_;refine B9b (rsE N1 [0,1,0] hB hG fun L hL=>?_);refine gs ?_;refine gmd (C:=fun v ⟨hgu,hB,hG,_⟩=>Hu.out _ hG) ?_;refine gs ?_;refine geT hL ?_;clear hB hG hL L;rintro u ⟨-,hB,hG,-⟩;refine r0T ?_;refine B9j (rfl) ?_;refine r0T ?_;refine rt Tryz.results49 ?_;exact⟨rfl,hG⟩
theorem B2u{X:List (List Rat)}{y:List Rat}{N L S:Nat}(h1:1≤S)(h:∀i,i<L→qs (gq (I0 X y N L) i)≤S):qs (N3 X y N L)≤S :=
 A6B h1 (fun j hj=>by rw[A73 X y N L hj];exact h j hj) L (B9G _)
theorem B60(A:Option Addr)(rs:List Rq)(N Lw c:Nat)(Y:Ax)(y:List Rat)(hn:rs.length=N)(hN1:1≤N)(hN2:N≤20)(hL1:1≤Lw)(hL2:Lw≤6)(hrl:∀r∈rs,r.2.2.length=Lw)(hy:y.length=N)(s g:Nat)(hs1:1≤s)(hs:s≤1000)(hX:∀i,i<N→∀j,j<Lw→qs (gq (B7 (rs.map (·.2.2)) i) j)≤s)(hys:∀i,i<N→qs (gq y i)≤s)(hg1:1≤g)
  (hG:∀i,i<Lw→∀j,j<Lw→qs (gq (B7 (J9 (rs.map (·.2.2)) N Lw) i) j)≤g) (hP:∀i,i<Lw→qs (gq (I0 (rs.map (·.2.2)) y N Lw) i)≤g) (hBz:1600*(g*10^(Lw+1))+100≤BIG)
  (hun:A1P (rs.map (·.2.2)) N Lw) (w:World) (h:Lrq w A rs) (h2:Lq w Y.1 y) (HT:Tab w) :
  Calls Tryz.prog 49 #[.slice A N c,.slice Y.1 N Y.2] w fun e w'=>∃(ks:List Kq) (v:Value),e = .returned (.tuple #[v,.int .i64 0])∧w'.ownsRow w.heap.size 84 6 v ks.length (ks.flatMap kqL)∧(∀x∈ks,Lq w' x.2.1.1 x.2.2)∧ks.map F9=A7T (rs.map (·.2.2)) y N Lw∧A4 w w':=by
 have hgZ:10*g≤g*10^(Lw+1):=by
  rw[Nat.pow_succ,B97 (10^Lw) 10,←C0e,B97 g 10];exact C0c _ (C07 (by omega))
 have htp:=B2u hg1 hP;have hsz:∀k,k<3^Lw→(∀i,i<Lw→qs (gq (Q5 (rs.map (·.2.2)) y N Lw k) i)≤20*(g*10^(Lw+1)))∧(∀i,i<Lw→qs (gq (R6 (rs.map (·.2.2)) N Lw k) i)≤20*(g*10^(Lw+1)))∧∀x∈L6 (rs.map (·.2.2)) y N Lw k,qs x.1≤20*(g*10^(Lw+1))∧qs x.2≤20*(g*10^(Lw+1)):=fun k _=>by
  obtain⟨z1,z2,z3⟩:=A8O hg1 hL2 hG hP k;generalize g*10^(Lw+1)=Z at *;exact⟨fun i _=>B9Y (z1 i) (by omega),fun i _=>B9Y (z2 i) (by omega),z3⟩
 have hsv:∀k,k<3^Lw→A1q Lw (J9 (rs.map (·.2.2)) N Lw) (I0 (rs.map (·.2.2)) y N Lw) (E6 Lw k) (Q5 (rs.map (·.2.2)) y N Lw k) (R6 (rs.map (·.2.2)) N Lw k) (L6 (rs.map (·.2.2)) y N Lw k):=fun k _=>A7l hun hL1 hL2 hg1 hG hP (by generalize g*10^(Lw+1)=Z at *;omega) k;have hln:∀k,k<3^Lw→(Q5 (rs.map (·.2.2)) y N Lw k).length=Lw∧(R6 (rs.map (·.2.2)) N Lw k).length=Lw∧(L6 (rs.map (·.2.2)) y N Lw k).length≤1000:=fun k _=>B0c _ y N Lw k hL2;have hall:=B3v (y:=y) hun;have hne:1≤(A15 (rs.map (·.2.2)) y N Lw).length:=by rw[B5Z];exact B8i.1
 unfold A7T;rw[←hall]at hne⊢;generalize g*10^(Lw+1)=Z at *;exact B3V A rs N Lw c Y y hn hN1 hN2 hL1 hL2 hrl hy s hs1 hs hX hys hun _ _ _ (20*Z) (40*Z) (by omega) (by omega) (by omega) (by omega) hln hsz hsv hne w h h2 HT
def A06(n i:Nat):List Rat:=(List.range n).map fun j=>if j=i then 1 else 0
def L9(n:Nat):List (List Rat):=(List.range n).map (A06 n)
theorem A6g(n i:Nat):(A06 n i).length=n:=by unfold A06;simp
theorem B0L{n i j:Nat}(hj:j<n):gq (A06 n i) j=if j=i then 1 else 0:=W8 _ hj
theorem B7x{n i:Nat}(hi:i<n):(M4 n).set i (C1 1)=A06 n i:=by
 unfold M4 A06;apply B9W
 ·simp
 ·intro j h1 h2;rw[C1I];simp only[List.getElem_replicate,List.getElem_map,List.getElem_range];by_cases e:i=j
  ·rw[if_pos e,if_pos e.symm];rfl
  ·rw[if_neg e,if_neg (fun h=>e h.symm)]
theorem B0s{n i:Nat}(hi:i<n):B7 (L9 n) i=A06 n i:=A2I hi
theorem A9q(n:Nat):A1P (L9 n) n n:=by
 unfold A1P;rw[A6r (B9G n) (fun v _ hk j hj=>?_) n (B9G n),List.length_range];have h:=hk j hj;unfold C7 at h
 have hm:∀t,t<n→F0 (L9 n) j t=if t=j then 1 else 0:=fun t ht=>by
  show gq (B7 (L9 n) j) t=_;rw[B0s hj];exact B0L ht
 rw[A1M hj fun t ht hne=>by rw[hm t ht,if_neg hne];grind,hm j hj,if_pos rfl]at h;grind
theorem A4D{n i j:Nat}(hi:i<n)(hj:j<n):qs (gq (B7 (L9 n) i) j)≤1:=by
 rw[B0s hi,B0L hj];split<;>decide
theorem B3w(n:Nat)(hn1:1≤n)(hn2:n≤20)(w:World):Calls Tryz.prog 47 #[.int .i64 (n:Nat)] w (G1 (fun x:Ax×List Rq=>.slice x.1.1 n x.1.2) (fun x W=>Lrz W x.1.1 x.2∧x.2.length=n∧(∀r∈x.2,r.2.2.length=n)∧x.2.map (·.2.2)=L9 n) w):=by
 have hzo:=fun W=>B6v n hn2 W;have Hzo:=B9g hzo;have f1:decide ((n:Int)<1)=false:=by simp;omega
 have f1n:decide (n=0)=false:=by simp;omega
 have f2:decide ((300:Int)<(n:Int))=false:=by simp;omega
 have f2n:decide (300<n)=false:=by simp;omega
 clear hzo;go_enter Tryz.func47,Tryz.ntmps47;refine en0 ?_;intro u hG hB hF;refine B9b ?_;refine r0T ?_;refine B9h (rfl) ?_;refine B9i ?_;refine A6 ?_;refine r0T ?_;refine B9b ?_;refine r0T ?_;refine B99 ?_;clear hB hF;go_loopw [4,3] (fun s0 s1 wr=>∃(i:Nat) (ps:List Ax),i≤n∧s0 = .int .i64 i∧ps.length=i∧RdL w.heap.size n s1 ps (A06 n) wr∧A4 w wr) (fun s0 _ _=>n-(intOf s0).toNat)
 case atStart=>exact⟨0,[],B9y _,rfl,rfl,RdL.start _ _ _ _,hG⟩
 case round =>
  clear hG;obtain⟨i,ps,hi,rfl,hpl,hR,hG⟩:=hrel;obtain⟨u,rfl⟩:=exQ wr;have hB:=Bx.nil u;have hF:=Fr.nil w;have HR:=B9g hR;have Hpl:=B9g hpl;have ho:=hR.hd;rw[hpl]at ho;have Ho:=B9g ho;clear hR hpl ho;rcases B9H i n with hlt|hge
  ·have hdec:decide ((i:Int)<(n:Int))=true:=by simp;omega
   have hin:(i:Int)<(n:Int):=by omega
   obtain⟨u5,hu5⟩:=exQ u;have hg5:A4 u5 u:=hu5 ▸ A4.refl u;have hwu5:w.heap.size≤u5.heap.size:=hu5 ▸ hG.sz;rw[←hu5]at HR Ho;clear hu5;refine B9b ?_;refine r0T ?_;refine B9j (rfl) ?_;refine B9i ?_;refine A6 ?_;refine B9b ?_;refine B99 ?_;refine B9b (rsE A8 [0,1,0] hB hG fun L hL=>?_);refine gs ?_;refine gxd (X:=Nat) (fun x:Nat=>.slice (some ⟨x,0,none⟩) n n) (fun x W=>ZW u5.heap.size x n n (M4 n) W) (fun x u u' hg h=>h.grow hg) (fun x18=>?_) (C:=by(rintro v ⟨hgu,hB,hG,-⟩;exact(Hzo.out _).mono fun e W ⟨x,g1,g2,g3⟩=>⟨x,g1,g2.mono (hg5.trans hgu).size,g3⟩));refine gs ?_;refine geT hL ?_;clear hB hG hL L;rintro u ⟨⟨hgu,hB,hG,-⟩,hx18⟩;have HZ:=B9g hx18;replace hg5:=hg5.trans hgu;clear hx18;clear hgu;refine B9b (rsC A8 [0,0,1,0] hB hG fun K L hN hL=>?_);refine gs ?_;refine grd (W7 (C1 1)) (fun(x21:Ax×Ax)=>?_) (C:=fun v _=>A55 1 (by omega) (by omega) _);refine gs ?_;refine geC hL ?_;clear hB hG hL L;rintro u ⟨⟨hgu,hB,hG,-⟩,hx21⟩;obtain⟨hx21a,hx21b⟩:Rn u x21.1 _∧Rn u x21.2 _:=hx21;have HZ2:=B9g (HZ.out.grow hgu);replace hg5:=hg5.trans hgu;clear HZ;have HZ:=HZ2;clear HZ2;obtain⟨y0,y1,y2,o0,o1,o2,hfz⟩:=HZ.out.spot hlt;clear hgu;refine gtT ?_;clear hN K;clear o0 o1 o2 hfz;generalize hu0:World.setCell (World.setCell (World.setCell u _ _) _ _) _ _=u0;have hu1:C2 u x18 (i*3) (zL x21 (C1 1))=u0:=hu0;have hP:=HZ.out.put hlt (B5t hx21a hx21b) hu1;rw[B7x hlt]at hP
   have hg9:A4 u5 u0:=hg5.grown hP.2 (fun k hk=>by
    have e:=B9M hk;have:=HZ.out.lt.1
    omega)
   have hG2:A4 w u0:=hG.grown hP.2 (fun k hk=>by
    have e:=B9M hk;have:=HZ.out.lt.1
    omega)
   have HZ2:=B9g hP.1.lzt;have Ho2:=B9g (B9 Ho.out hg9);have HR2:=B9g (HR.out.grow hg9);clear hG hB HZ Ho HR hP hu1 hu0 hg5 hg9 hx21a hx21b;have hG:=hG2;have hB:=Bx.nil u0;have HZ:=HZ2;have Ho:=Ho2;have HR:=HR2;clear hG2 HZ2 Ho2 HR2;obtain⟨u,rfl⟩:=exQ u0;refine R0 (w:=w) A8 2 [0,0] (by kernel_rfl) (by simp only[List.drop_succ_cons,List.drop_zero];exact rfl) (fun _=>True) noG hB hG trivial ?_;intro K L hN hL;simp only[List.zip_cons_cons,List.zip_nil_left];refine gs ?_;refine H6 ?_;rintro v ⟨hgu,hB1,hG1,-⟩;have ROWn:=B9g (B9 Ho.out hgu);clear Ho;have Ho:=ROWn;clear ROWn;have HR2:=B9g (HR.out.grow hgu);have HZ2:=B9g (HZ.out.grow hgu);clear HR HZ;have HR:=HR2;have HZ:=HZ2;clear HR2 HZ2;clear hB hG;have hB:=hB1;have hG:=hG1;clear hB1 hG1;refine hL _ _ ?_;clear hL L hgu;obtain⟨u,rfl⟩:=exQ v;refine S9 B2U w.heap.size _ _ _ _ [.slice (some ⟨x18,0,none⟩) n n] rfl rfl (B1Q (some ⟨x18,0,none⟩) n n u) rfl (fun _=>rfl) (fun _=>rfl) (fun _ _=>rfl) Ho.out (by omega) (by omega) hG.sz fun p v' w' g1 g2 g3=>?_;have hBn:=Bx.nil w';have HR2:=B9g (RdL.add (P:=(some ⟨x18,0,none⟩,n)) HR.out (by rw[Hpl.out];exact HZ.out) (by rw[Hpl.out];exact g1) g2);clear HR HZ;have HR:=HR2;clear HR2;have hGn:=S7 Ho.out hG g2;clear Ho hB hG;have Ho:=B9g g1;have hB:=hBn;have hG:=hGn;clear g1 g2 g3 hBn hGn;obtain⟨u,rfl⟩:=exQ w';simp only[Act.put,List.setIfInBounds_toArray,List.set_cons_succ,List.set_cons_zero];refine NoK.norm (hN _ _ ?_);clear hN K;refine C8 ?_;refine A6 ?_;refine r0E ?_;refine A6 ?_;go_roundw
   case rel=>exact⟨i+1,ps++[(some ⟨x18,0,none⟩,n)],by omega,by go_num,by rw[List.length_append,Hpl.out];rfl,HR.out,hG⟩
   case measure=>simp[intOf];omega
  ·obtain rfl:n=i:=by omega
   have hdec:decide ((n:Int)<(n:Int))=false:=by simp
   obtain⟨g,c0,rfl,-,hc0⟩:=X9 Ho.out (by omega);clear Ho;have HLr:=B9g (HR.out.lrz Hpl.out (B9G _) (fun i hi=>A6g n i));clear HR Hpl;refine B9b ?_;refine r0T ?_;refine B9h (rfl) ?_;refine C0B ?_;refine C0 ?_;refine C0 ?_;refine E4 ?_;refine A6 ?_;refine r0T ?_;refine rt Tryz.results47 ?_;exact⟨((some ⟨g,0,none⟩,c0),A1B ps (A06 n) n),rfl,⟨HLr.out,B4g ps _ n,B1a fun i _=>A6g n i,B6h ps _ n⟩,hG⟩
theorem A9C(A:Option Addr)(rs:List Rq)(n Lw c:Nat)(hn:rs.length=n)(hn1:1≤n)(hL:6<Lw)(hrl:∀r∈rs,r.2.2.length=Lw)(w:World)(h:Lrq w A rs) :
  Calls Tryz.prog 58 #[.slice A n c] w fun e w'=>e = .returned (.int .i64 4)∧A4 w w':=by
 obtain⟨bb,ob,P0,eA,hP0⟩:=U5 hn hrl h (i:=0) (by omega);have hr0:=fun W hg=>(hP0 W hg).1;simp only[Nat.add_zero]at hr0;subst eA;have hNi:(0:Int)<(n:Int):=by omega
 have hNn:0<n:=by omega
 have f6:decide ((6:Int)<(Lw:Int))=true:=by simp;omega
 have f6n:decide (6<Lw)=true:=by simp;omega
 have Hr0:=B9g hr0;clear hr0 hP0 h hrl hn;go_enter Tryz.func58,Tryz.ntmps58;refine en0 ?_;intro u hG hB hF;refine B9b ?_;refine B9b ?_;have q0:=Hr0.out u hG;refine r0N ?_;refine B9j (rfl) ?_;refine r0T ?_;refine rt Tryz.results58 ?_;exact⟨rfl,hG⟩
theorem B5U{n:Nat}(hn:n≤6):∀i,i<n→∀j,j<n→qs (gq (B7 (J9 (L9 n) n n) i) j)≤43:=fun i hi j hj=>B0a (g:=43) (s:=1) (fun a ha b hb=>A4D ha hb) (by omega) hi hj
theorem B82{n:Nat}(hn:n≤6){y:List Rat}(hy:∀i,i<n→qs (gq y i)≤5):∀i,i<n→qs (gq (I0 (L9 n) y n n) i)≤43:=fun i hi=>by
 rw[show gq (I0 (L9 n) y n n) i=E7 (H8 (L9 n) i n) y n from W8 _ hi];have h1:=A1J (a:=H8 (L9 n) i n) (b:=y) (n:=n) (s:=1) (t:=5) (fun r hr=>by rw[A1O _ i n hr];exact A4D hr hi) hy n (B9G _);have h2:n*(1+5+1)≤6*(1+5+1):=B94 _ hn;omega
theorem B5P{n:Nat}(hn:n≤6):1600*(43*10^(n+1))+100≤BIG∧100*(67*10^(n+1))≤BIG:=by
 have h1:10^(n+1)≤10^7:=B9n (by omega) (by omega);have h2:43*10^(n+1)≤43*10^7:=C0Z _ h1;have h3:67*10^(n+1)≤67*10^7:=C0Z _ h1;unfold BIG;omega
theorem B1c{n:Nat}(hn1:1≤n)(hn:n≤9){y:List Rat}(hyn:y.length=n)(hy:∀i,i<n→qs (gq y i)≤5):∃(ke:Int) (kl:Nat),((n≤6∧ke=0)∨(6<n∧ke=4)) ∧
  (∀(W:World) (X Y:Ax) (rs:List Rq),rs.map (·.2.2)=L9 n→Lrq W X.1 rs→Lq W Y.1 y→Tab W→Calls Tryz.prog 14 #[.slice X.1 n X.2,.slice Y.1 n Y.2,qV (C1 1)] W (G1 (fun x:Ax=>.tuple #[.slice x.1 kl x.2,.int .i64 ke]) (fun _ _=>True) W)) ∧
  (∀(W:World) (X Y:Ax) (rs:List Rq),rs.map (·.2.2)=L9 n→Lrq W X.1 rs→Lq W Y.1 y→Tab W→Calls Tryz.prog 49 #[.slice X.1 n X.2,.slice Y.1 n Y.2] W (G1 (fun v:Value=>.tuple #[v,.int .i64 ke]) (fun _ _=>True) W)):=by
 have hBB:1000000000000≤BIG:=by unfold BIG;omega
 have hq0:qs (C1 1)≤1:=by decide
 have hq1:qs (C1 1)≤BIG:=by omega
 have hlen:∀rs:List Rq,rs.map (·.2.2)=L9 n→rs.length=n∧∀r∈rs,r.2.2.length=n:=fun rs e=>by
  have h1:rs.length=(L9 n).length:=by rw[←e,List.length_map]
  refine⟨by rw[h1];unfold L9;simp,fun r hr=>?_⟩;have h2:r.2.2∈L9 n:=by rw[←e];exact List.mem_map_of_mem hr
  unfold L9 at h2;obtain⟨i,-,h3⟩:=List.mem_map.1 h2;rw[←h3];exact A6g n i
 have hX5:∀rs:List Rq,rs.map (·.2.2)=L9 n→∀i,i<n→∀j,j<n→qs (gq (B7 (rs.map (·.2.2)) i) j)≤5:=fun rs e i hi j hj=>by
  rw[e];exact B9Y (A4D hi hj) (by omega)
 rcases B9H 6 n with h6|h6
 ·refine⟨4,0,.inr ⟨h6,rfl⟩,fun W X Y rs e h1 h2 hT=>?_,fun W X Y rs e h1 h2 hT=>?_⟩
  ·obtain⟨l1,l2⟩:=hlen rs e;refine(B2v X.1 Y.1 n n X.2 Y.2 (C1 1) (by decide) hq1 4 rfl W (fun W' hg=>A30 X.1 Y.1 rs n n X.2 Y.2 l1 hn1 (by omega) hn1 (by omega) l2 W' (h1.grow hg)) fun W' hg=>A9C X.1 rs n n X.2 l1 hn1 h6 l2 W' (h1.grow hg)).mono ?_;rintro e w' ⟨rfl,hg⟩;exact⟨(none,0),rfl,trivial,hg⟩
  ·obtain⟨l1,l2⟩:=hlen rs e;refine(B8c X.1 Y.1 n n X.2 Y.2 _ 4 rfl W (fun W' hg=>A5V X.1 Y.1 rs y n n X.2 Y.2 l1 hn1 (by omega) l2 hyn hn1 (by omega) 5 (by omega) (by omega) (hX5 rs e) hy W' (h1.grow hg) (h2.grow hg) (hT.grow hg)) fun W' hg=>A9C X.1 rs n n X.2 l1 hn1 h6 l2 W' (h1.grow hg)).mono ?_;rintro e w' ⟨rfl,hg⟩;exact⟨.slice none 0 0,rfl,trivial,hg⟩
 ·obtain⟨b1,b2⟩:=B5P h6;refine⟨0,n,.inl ⟨h6,rfl⟩,fun W X Y rs e h1 h2 hT=>?_,fun W X Y rs e h1 h2 hT=>?_⟩
  ·obtain⟨l1,l2⟩:=hlen rs e;refine(B4L X.1 rs n n X.2 Y y l1 hn1 (by omega) hn1 h6 l2 hyn 5 67 (by omega) (by omega) (hX5 rs e) hy (by omega) b2 (C1 1) (by decide) (by omega) (by rw[e];exact A9q n) W h1 h2 hT).mono ?_;rintro e w' ⟨x,rfl,-,hg⟩;exact⟨x,rfl,trivial,hg⟩
  ·obtain⟨l1,l2⟩:=hlen rs e;have hP:=B60 X.1 rs n n X.2 Y y l1 hn1 (by omega) hn1 h6 l2 hyn 5 43 (by omega) (by omega) (hX5 rs e) hy (by omega) (by rw[e];exact B5U h6) (by rw[e];exact B82 h6 hy) b1 (by rw[e];exact A9q n) W h1 h2 hT;refine hP.mono ?_;rintro e w' ⟨ks,v,rfl,-,-,-,hg⟩;exact⟨v,rfl,trivial,hg⟩
theorem B5L(A:Option Addr)(la:List Int)(ca:Nat)(n:Int)(hla:la.length≤9223372036854775807)(hba:∀x∈la,-9223372036854775808≤x∧x≤9223372036854775807)(lo2 : -9223372036854775808≤n)(hi2:n≤9223372036854775807)
  (w:World) (h1:Li w A la) (HT:Tab w) :
  Calls Tryz.prog 7 #[.slice A la.length ca,.int .i64 n] w fun e w'=>e = .returned (.bool true)∧A4 w w':=by
 clear lo2 hi2;obtain⟨pa,hpa⟩:∃p,p=la.length:=⟨_,rfl⟩
 rw[←hpa];have hBB:100000000≤BIG:=by unfold BIG;omega
 have rN:=A4g n (m:=9) (by omega);have hp1:=fun W=>A5M n 9 (by omega) (by omega) W;obtain⟨y1,hy1⟩:∃y,y=N5 n 9:=⟨_,rfl⟩
 rw[←hy1]at rN;simp only[←hy1]at hp1;obtain⟨N,hN⟩:∃N:Nat,y1+1=(N:Int):=⟨(y1+1).toNat,by omega⟩
 have fy1:IntKind.i64.wrap (y1+1)=(N:Int):=by rw[B9x _ (by omega)];exact hN
 have hN1:1≤N:=by omega
 have hN9:N≤9:=by omega
 have lY:=B40 la N;have sY:=B71 la N;have hro:=fun W (hg:A4 w W)=>B1r A la ca pa N hpa (by omega) (by omega) hba W (h1.grow hg);generalize A0H la N=Y at *;have hyz:∀i,i<N→qs (gq Y i)≤5:=fun i hi=>sY _ (A4T (by omega));have hir:∀(W:World) (X:Ax) (rs:List Rq),rs.length=N→(∀r∈rs,r.2.2.length=N)→rs.map (·.2.2)=L9 N→Lrz W X.1 rs→Tab W→Calls Tryz.prog 15 #[.slice X.1 N X.2] W (G1 (fun x:Ax×List Rq=>.slice x.1.1 N x.1.2) (fun x W'=>x.2.map (·.2.2)=L9 N∧Lrq W' x.1.1 x.2) W):=fun W X rs k1 k2 k3 hX hT =>
  (B4i X.1 rs X.2 N k1.symm (by omega) (fun r hr=>⟨by have:=k2 r hr;omega,fun x hx=>by
   obtain⟨i,hi,e⟩:=C1A (show r.2.2∈rs.map (·.2.2)from List.mem_map_of_mem hr);rw[List.length_map,k1]at hi;obtain⟨j,hj,ej⟩:=C1A hx;have h5:=A4D (n:=N) hi (j:=j) (by rw[←k2 r hr];exact hj);have h6:gq (B7 (L9 N) i) j=x:=by
    rw[←k3];have h7:B7 (rs.map (·.2.2)) i=r.2.2:=by unfold B7;rw[B9w (by rw[List.length_map,k1];exact hi),e];rfl
    rw[h7];unfold gq;rw[B9w hj,ej];rfl
   rw[h6]at h5
   omega⟩) W hX hT).mono fun e w' ⟨v,rs',he,e1,e2,e3,hg'⟩=>by
   obtain⟨A2,c2,rfl,-,hLw,-⟩:=B1l e3 e2;exact⟨((A2,c2),rs'),he,⟨e1.trans k3,hLw⟩,hg'⟩
 have hiy:∀(W:World) (X:Ax),Lz W X.1 Y→Tab W→Calls Tryz.prog 16 #[.slice X.1 N X.2] W (G1 (fun x:Ax=>.slice x.1 N x.2) (fun x W=>Lq W x.1 Y) W):=fun W X hX hT =>
  (B83 X.1 Y X.2 N lY.symm (by omega) (fun x hx=>B9Y (sY x hx) (by omega)) W hX hT).mono fun e w' ⟨A',c',he,h,hg'⟩=>⟨(A',c'),he,h,hg'⟩
 have hey:=fun W=>B3w N hN1 (by omega) W;obtain⟨ke,kl,hke,hle,hpa2⟩:=B1c hN1 hN9 lY hyz;have Hp1:=B9g hp1;have Hro:=B9g hro;have Hir:=B9g hir;have Hiy:=B9g hiy;have Hey:=B9g hey;have Hke:=B9g hke;have Hle:=B9g hle;have Hpa:=B9g hpa2;clear hp1 hro hir hiy hey hke hle hpa2 lY sY hyz hN hy1 rN h1 hba hpa hla;go_enter Tryz.func7,Tryz.ntmps7;refine en0 ?_;intro u hG hB hF;refine B9b (rsE A07 [0,1,0,0] hB hG fun L hL=>?_);refine gs ?_;refine gmw (C:=fun v=>Hp1.out _) ?_;refine gs ?_;refine geT hL ?_;clear hB hG hL L;rintro u ⟨-,hB,hG,-⟩;refine B9b (rsE A07 [0,1,0] hB hG fun L hL=>?_);refine gs ?_;refine gxd (X:=(Ax×List Rq)) (fun x:Ax×List Rq=>.slice x.1.1 N x.1.2) (fun x W=>Lrz W x.1.1 x.2∧x.2.length=N∧(∀r∈x.2,r.2.2.length=N)∧x.2.map (·.2.2)=L9 N) (fun x u u' hg h=>⟨h.1.grow hg,h.2⟩) (fun x15=>?_) (C:=fun v _=>Hey.out _);refine gs ?_;refine geT hL ?_;clear hB hG hL L;rintro u ⟨⟨hgu,hB,hG,-⟩,hx15⟩;have HX:=B9g hx15;obtain⟨w2,hw2⟩:=exQ u;rw[←hw2]at HX;have hg2:A4 w2 u:=hw2 ▸ A4.refl u;clear hx15 hw2;clear hgu;refine B9b (rsE A07 [0,0,1,0] hB hG fun L hL=>?_);refine gs ?_;refine gxd (X:=Ax) (fun x:Ax=>.slice x.1 N x.2) (fun x W=>Lz W x.1 Y) (fun x u u' hg h=>Lz.grow h hg) (fun x18=>?_) (C:=by(rintro v ⟨hgu,hB,hG,-⟩;exact Hro.out _ hG));refine gs ?_;refine geT hL ?_;clear hB hG hL L;rintro u ⟨⟨hgu,hB,hG,-⟩,hx18⟩;have HX2:=B9g (And.intro (HX.out.1.grow (hg2.trans hgu)) (And.intro hx18 HX.out.2));clear hx18 HX hg2;clear hgu;have HG0:=B9g hG;clear hB hF hG;obtain⟨w0,rfl⟩:=exQ w;obtain⟨w,hwu⟩:=exQ u;rw[←hwu]at HG0 HX2;have hB:=Bx.nil u;have hF:=Fr.nil w;have hG:A4 w u:=hwu ▸ A4.refl u;clear hwu;have HGa:=B9g HG0.out;have HT':=HT.grow HG0.out;clear HT HG0;have HT:=HT';clear HT';refine B9b (rsE A07 [0,1,0,1,1,1,0,0,0,0,0] hB hG fun L hL=>?_);refine gs ?_;refine gxd (X:=(Ax×List Rq)) (fun x:Ax×List Rq=>.slice x.1.1 N x.1.2) (fun x W=>x.2.map (·.2.2)=L9 N∧Lrq W x.1.1 x.2) (fun x u u' hg h=>⟨h.1,h.2.grow hg⟩) (fun x21=>?_) (C:=by(rintro v ⟨hgu,hB,hG,-⟩;exact Hir.out _ x15.1 x15.2 HX2.out.2.2.1 HX2.out.2.2.2.1 HX2.out.2.2.2.2 (HX2.out.1.grow hG) (HT.grow hG)));refine gs ?_;refine gxd (X:=Ax) (fun x:Ax=>.slice x.1 N x.2) (fun x W=>Lq W x.1 Y) (fun x u u' hg h=>Lq.grow h hg) (fun x23=>?_) (C:=by(rintro v ⟨⟨hgu,hB,hG,-⟩,hx21⟩;exact Hiy.out _ x18 (HX2.out.2.1.grow hG) (HT.grow hG)));refine gmw (C:=fun v=>A0N 1 (by omega) (by omega) _) ?_;refine gxd (X:=Ax) (fun x:Ax=>.tuple #[.slice x.1 kl x.2,.int .i64 ke]) (fun x W=>True) (fun x u u' hg h=>h) (fun x25=>?_) (C:=by(rintro v ⟨⟨⟨hgu,hB,hG,-⟩,hx21⟩,hx23⟩;exact Hle.out _ x21.1 x23 x21.2 hx21.1 hx21.2 hx23 (HT.grow hG)));refine gs ?_;refine geT hL ?_;clear hB hG hL L;rintro u ⟨⟨⟨⟨hgu,hB,hG,-⟩,hx21⟩,hx23⟩,hx25⟩;clear hx21 hx23 hx25;clear hgu;refine B9b (rsE A07 [0,1,0,1,1,0,0,0,0,0] hB hG fun L hL=>?_);refine gs ?_;refine gxd (X:=(Ax×List Rq)) (fun x:Ax×List Rq=>.slice x.1.1 N x.1.2) (fun x W=>x.2.map (·.2.2)=L9 N∧Lrq W x.1.1 x.2) (fun x u u' hg h=>⟨h.1,h.2.grow hg⟩) (fun x30=>?_) (C:=by(rintro v ⟨hgu,hB,hG,-⟩;exact Hir.out _ x15.1 x15.2 HX2.out.2.2.1 HX2.out.2.2.2.1 HX2.out.2.2.2.2 (HX2.out.1.grow hG) (HT.grow hG)))
 refine gs ?_;refine gxd (X:=Ax) (fun x:Ax=>.slice x.1 N x.2) (fun x W=>Lq W x.1 Y) (fun x u u' hg h=>Lq.grow h hg) (fun x32=>?_) (C:=by(rintro v ⟨⟨hgu,hB,hG,-⟩,hx30⟩;exact Hiy.out _ x18 (HX2.out.2.1.grow hG) (HT.grow hG)));refine gxd (X:=Value) (fun v=>.tuple #[v,.int .i64 ke]) (fun x W=>True) (fun x u u' hg h=>h) (fun x33=>?_) (C:=by(rintro v ⟨⟨⟨hgu,hB,hG,-⟩,hx30⟩,hx32⟩;exact Hpa.out _ x30.1 x32 x30.2 hx30.1 hx30.2 hx32 (HT.grow hG)));refine gs ?_;refine geT hL ?_;clear hB hG hL L;rintro u ⟨⟨⟨⟨hgu,hB,hG,-⟩,hx30⟩,hx32⟩,hx33⟩;clear hx30 hx32 hx33;clear hgu;refine B9b ?_;rcases Hke.out with⟨h6,e0⟩|⟨h6,e0⟩
 ·clear Hke;subst e0;have f37:decide ((6:Int)<(N:Int))=false:=by simp;omega
  have f37n:decide (6<N)=false:=by simp;omega
  clear h6;refine r0T ?_;refine B9h (rfl) ?_;refine B9i ?_;refine A6 ?_;refine B9b (rsE A07 [1,0,0,0,0,0,0,0,0,0] hB hG fun L hL=>?_);refine gmd (C:=fun v ⟨hgu,hB,hG,_⟩=>B03 _ (HT.grow hG)) ?_;refine gs ?_;refine geT hL ?_;clear hB hG hL L;rintro u ⟨-,hB,hG,-⟩;refine rt Tryz.results7 ?_;exact⟨rfl,HGa.out.trans hG⟩
 ·clear Hke;subst e0;have f37:decide ((6:Int)<(N:Int))=true:=by simp;omega
  refine r0T ?_;refine B9j (rfl) ?_;refine B9b (rsE A07 [1,0,0,0,0,0,0,0,0,0] hB hG fun L hL=>?_);refine gmd (C:=fun v ⟨hgu,hB,hG,_⟩=>B03 _ (HT.grow hG)) ?_;refine gs ?_;refine geT hL ?_;clear hB hG hL L;rintro u ⟨-,hB,hG,-⟩;refine rt Tryz.results7 ?_;exact⟨rfl,HGa.out.trans hG⟩
end Go.Proofs.YtgpglgbcobeogaaGreatDoor
namespace Go.Proofs.YtgpglgbcobeogaaGreatDoor.lassoWide
open Go.ChangeShapes Go.WideShapes Go.ChangeAt Go.RowKit
theorem B30:∀t∈Tryz.f7.params.toList,Tryz.prog.readableRec t=true∧t<Tryz.prog.types.size:=by
 have h:(Tryz.f7.params.toList.all fun t=>Tryz.prog.readableRec t&&decide (t<Tryz.prog.types.size))=true:=by kernel_rfl
 intro t ht;have:=List.all_eq_true.1 h t ht
 simpa using this
theorem B7s(H:Type)(enc:TypeId×Value→H)(W:World)(base:Nat)(args:Array Value)(ds gs:List (DataW H))(before:List MemPlace)
  (hval:∀(j:Nat) t v,Tryz.f7.params[j]?=some t→args[j]?=some v→Value.okWide Tryz.prog W .any base t v)
  (hW:DataW.Whole enc Tryz.prog Tryz.f7.params.toList Rows.lassoWideSpec.vars false W args.toList ds gs before) (hL:laidMetH Tryz.prog Rows.lassoWideRow.laid W) :
  Calls Tryz.prog 7 args W fun e W'=>∃v,e = .returned v∧Rows.lassoWideSpec.post enc Tryz.prog Tryz.f7 false true false false W args v W':=by
 have hW':=hW;obtain⟨p,q,hA0,hV,rfl,hfz,hnd⟩:=hW;have hA:DataW.TrodAll enc Tryz.prog W 0 (fun _=>true) true Tryz.f7.params.toList args.toList ds p:=hA0;rw[Tryz.params7]at hA hval;obtain⟨v0,vs0,d0,ds0,p0,q0,ha0,rfl,rfl,h0,hA1⟩:=trodAll_cons hA;obtain⟨v1,vs1,d1,ds1,p1,q1,rfl,rfl,rfl,h1,hA2⟩:=trodAll_cons hA1;obtain⟨rfl,rfl,rfl⟩:=trodAll_nil hA2;obtain rfl:args=#[v0,v1]:=by
  cases args
  simp_all
 obtain⟨rfl,rfl⟩:=trodVars_none hV;obtain⟨A0,l0,c0,rfl,hl0,hn0,hb0⟩:=B67 (hval 0 22 v0 rfl rfl) h0;obtain⟨n1,rfl,rfl,rfl,w1⟩:=open_int C1G (hval 1 3 v1 rfl rfl) h1;obtain⟨lo1,hi1⟩:=bounds_i64 w1;refine(B5L A0 l0 c0 n1 hn0 hb0 lo1 hi1 W hl0 (B1n (by kernel_rfl) hL)).mono fun e W' ⟨he,hg⟩=>?_;exact⟨_,he,B8a hW' rfl rfl rfl rfl (by kernel_rfl) B30 hg⟩
def wit:Array Value:=#[.slice none 0 0,.int .i64 0]
theorem B31(os:Os):laidMet Tryz.prog Rows.lassoWideRow.laid ((laidWorld os).forCall (fun _ _=>0) ⟨#[],wit,[]⟩).memory :=
 laidMet_of_run' 8 (by kernel_rfl) (by kernel_rfl)
theorem reads(os:Os){H:Type}(enc:TypeId×Value→H):∃places,DataW.whole enc Tryz.prog ((laidWorld os).forCall (fun _ _=>0) ⟨#[],wit,[]⟩).memory Tryz.f7.params.toList Rows.lassoWideSpec.vars false wit.toList 8=some ([.nil,.lit (.int .i64 0)],[],places) :=
 ⟨[],by kernel_rfl⟩
theorem B4X(os:Os)(started:os.Started)(H:Type)(enc:TypeId×Value→H)(F:Stop.Interp) :
  ReturnsInHanded {} Tryz.checked os 7 .any ((OpenSpec.ofChange Rows.lassoWideSpec).preRow enc Tryz.prog Tryz.f7 Rows.lassoWideRow.domain false Rows.lassoWideRow.laid) (((OpenSpec.ofChange Rows.lassoWideSpec).at F).post enc Tryz.prog Tryz.f7 false true false false):=by
 obtain⟨places,hx⟩:=reads os enc
 refine returnsInHanded_of_row (C:=Tryz.checked) (s:=OpenSpec.ofChange Rows.lassoWideSpec) B6g started (by kernel_rfl) Tryz.func7
  (witness_row_at (enc:=enc) (C:=Tryz.checked) false (laidWorld os) wit rfl (by kernel_rfl) (by kernel_rfl) (by kernel_rfl)
   (OpenSpec.preRow_of_cond 8 hx (by kernel_rfl) (fun k hk=>by cases hk) (by kernel_rfl) (B31 os))) ?_
 intro W base args ds gs before hval hW _ _ _ hL _ _;exact B7s H enc W base args ds gs before hval hW hL
theorem B4O:Rows.LassoWideSaid :=
 OpenClaim.holds_of_cond 7 Tryz.f7 rfl rfl rfl rfl rfl rfl rfl ⟨rfl,rfl,rfl,rfl,rfl⟩ rfl rfl rfl rfl rfl (by kernel_rfl) Tryz.func7 (by kernel_rfl)
  (C0K (by kernel_rfl)) (by unfold Func.isWrapper;first|(rw[if_pos (by decide +kernel)];kernel_rfl)|(rw[if_neg (by decide +kernel)];exact⟨rfl,rfl⟩))
  (fun os started H enc _ F=>by rw[OpenClaim.pre_eq_preRow];exact B4X os started H enc F)
theorem plain(f:FuncId)(fn:Func)(hf:Tryz.pinned.checked.prog.funcNamed Rows.lassoWideRow.func=some f)(hfn:Tryz.pinned.checked.prog.funcs[f]?=some fn) :
  false=Tryz.pinned.checked.prog.looks []∧∀(j:Nat) t,fn.params[j]?=some t→Tryz.pinned.checked.prog.wantsStandIn t=false:=by
 obtain rfl:f=7:=B9M ((show Tryz.prog.funcNamed Rows.lassoWideRow.func=some 7 by kernel_rfl).symm.trans hf) |>.symm;obtain rfl:fn=Tryz.f7:=(B9M (Tryz.func7.symm.trans hfn)).symm;refine⟨by kernel_rfl,fun j t ht=>?_⟩;have h:(Tryz.f7.params.toList.all fun t=>!Tryz.prog.wantsStandIn t)=true:=by kernel_rfl
 have:=List.all_eq_true.1 h t (Array.mem_toList_iff.2 (Array.mem_of_getElem? ht));have h2:Tryz.prog.wantsStandIn t=false:=by simpa using this
 exact h2
theorem card:Rows.LassoWideCardSaid :=
 Claim7.holds_tied_plain_at .later [] _ _ _ _ B4O (fun _ h=>by cases h) (by kernel_rfl) (fun _ h=>by cases h) lassoWide_row_tie rfl ⟨rfl,rfl⟩ (by kernel_rfl) rfl plain (by kernel_rfl)
end Go.Proofs.YtgpglgbcobeogaaGreatDoor.lassoWide
namespace Go.Proofs.YtgpglgbcobeogaaGreatDoor
theorem lassoWide_holds:Rows.LassoWideCardSaid:=lassoWide.card
#print axioms lassoWide_holds
end Go.Proofs.YtgpglgbcobeogaaGreatDoor
