/- Contracts and laws. -/
import Derived.Test.YtgpglgbcobeogaaGreatDoorT33
set_option linter.unusedSimpArgs false
set_option linter.unusedVariables false
set_option maxHeartbeats 8000000
set_option maxRecDepth 100000
namespace Go.Proofs.YtgpglgbcobeogaaGreatDoor
open Go Go.RowKit
theorem A8J : qV 0 = .agg A2N:=rfl
theorem A4l (A Y V : Option Addr) (rs : List Rq) (y v : List Rat) (N L c d k : Nat) (hn : rs.length = N) (hN : 1 ≤ N) (hN2 : N ≤ 20) (hrl : ∀ r ∈ rs,r.2.2.length = L) (hy : y.length = N) (hv : v.length = L) (hL1 : 1 ≤ L) (hL : L ≤ 20) (s : Nat) (hs : s ≤ 1000) (hX : ∀ i,i < N → ∀ j,j < L → qs (gq (B7 (rs.map (·.2.2)) i) j) ≤ s) (hys : ∀ i,i < N → qs (gq y i) ≤ s) (hvs : ∀ j,j < L → qs (gq v j) ≤ s) (w : World) (h : Lrq w A rs) (h2 : Lq w Y y) (h3 : Lq w V v) (HT : Tab w) :
  Calls Tryz.prog 33 #[.slice A N c,.slice Y N d,.slice V L k] w (F8 (fun x : Ax=>.tuple #[.slice x.1 L x.2,.int .i64 0]) (fun x W=>Lq W x.1 (J7 (rs.map (·.2.2)) y v N L)) w):=by
 have hBB : 100000000 ≤ BIG:=by unfold BIG;omega
 have hck : ∀ W,A4 w W → Calls Tryz.prog 91 #[.slice A N c,.slice Y N d,.slice V L k,.agg A2N] W fun e w'=>e = .returned (.int .i64 0) ∧ A4 W w':=fun W hg=>by
  have h4:=A34 A Y V rs N L L c d k hn hN (by omega) hL1 hL hrl 0 (by rw [X9];omega) W (h.grow hg)
  rw [if_neg (by simp),if_neg (by simp [Rat.lt_irrefl]),A8J] at h4
  exact h4
 have hrs:=fun W (hg : A4 w W)=>A77 A Y V rs y v N L c d k hn hN2 hrl hy hv hL s hs hX hys hvs W (h.grow hg) (h2.grow hg) (h3.grow hg) (HT.grow hg)
 have hcl:=fun W (hg : A4 w W) j (hj : j < L)=>A7U A rs N L c j hn (by omega) hrl hj hL W (h.grow hg)
 have hR:=A18 (X:=rs.map (·.2.2)) (y:=y) (w:=v) hN2 hL hs hX hys hvs
 have hRl:=A4n (rs.map (·.2.2)) y v N L
 obtain ⟨T5,hT5⟩ : ∃ T,T = 50000:=⟨_,rfl⟩
 have hNs : N * (s + T5 + 1) ≤ 20 * (s + T5 + 1):=Nat.mul_le_mul_right _ hN2
 have hCs : ∀ j,j < L → ∀ i,i < N → qs (gq (G6 (rs.map (·.2.2)) j N) i) ≤ s:=fun j hj i hi=>by rw [A5l _ j N hi];exact hX i hi j hj
 unfold J7
 obtain ⟨R,hRe⟩ : ∃ R,R = K5 (rs.map (·.2.2)) y v N L:=⟨_,rfl⟩
 rw [← hRe] at hR hRl
 rw [← hT5] at hR
 simp only [← hRe] at hrs ⊢
 have hdt : ∀ W j,j < L → ∀ (P1 P2 : Ax),Lq W P1.1 (G6 (rs.map (·.2.2)) j N) → Lq W P2.1 R → Tab W → Calls Tryz.prog 93 #[.slice P1.1 N P1.2,.slice P2.1 N P2.2] W fun e w'=>e = .returned (.tuple #[qV (E4 (G6 (rs.map (·.2.2)) j N) R N),.bool true]) ∧ A4 W w':=fun W j hj P1 P2 g1 g2 hT =>
  A1m P1.1 P2.1 _ R P1.2 P2.2 N (A6Z _ j N) hRl (by omega) s T5 (hCs j hj) hR (by omega) W g1 g2 hT
 obtain ⟨C,hC⟩ : ∃ C : Nat → List Rat,C = fun j=>G6 (rs.map (·.2.2)) j N:=⟨_,rfl⟩
 have hCi : ∀ j,G6 (rs.map (·.2.2)) j N = C j:=by rw [hC];exact fun _=>rfl
 simp only [hCi] at hcl hdt ⊢
 obtain ⟨f,hf⟩ : ∃ f : Nat → Rat,f = fun j=>E4 (C j) R N:=⟨_,rfl⟩
 have hfi : ∀ j,E4 (C j) R N = f j:=by rw [hf];exact fun _=>rfl
 simp only [hfi] at hdt
 rw [← hf]
 have hmk:=A01 L (by omega) (L : Int) rfl
 have Hck:=Lib.hid hck
 have Hrs:=Lib.hid hrs
 have Hcl:=Lib.hid hcl
 have Hdt:=Lib.hid hdt
 have Hmk:=Lib.hid hmk
 clear hck hrs hcl hdt hmk hf hfi hC hCi hRe hR hRl hCs h h2 h3 hrl hn hX hys hvs hs hNs hy hv hT5
 go_enter Tryz.func33,Tryz.ntmps33
 refine en0 ?_
 intro u hG hB hF
 refine wp_seq ?_
 refine wp_seq (rsE A8 [0,0,0,0,1,0] hB hG fun L hL=>?_)
 refine gs ?_
 refine gmd (C:=fun v ⟨hgu,hB,hG,_⟩=>Hck.out _ hG) ?_
 refine gs ?_
 refine geT hL ?_
 clear hB hG hL L
 rintro u ⟨-,hB,hG,-⟩
 refine r0T ?_
 refine wp_cond_false (rfl) ?_
 refine wp_skip ?_
 refine A6 ?_
 refine wp_seq (rsE A8 [0,0,0,1,0] hB hG fun L hL=>?_)
 refine gs ?_
 refine gxd (X:=Ax) (fun x : Ax=>.slice x.1 N x.2) (fun x W=>Lq W x.1 R) (fun x u u' hg h=>Lq.grow h hg) (fun x23=>?_) (C:=by (rintro v ⟨hgu,hB,hG,-⟩;exact Hrs.out _ hG))
 refine gs ?_
 refine geT hL ?_
 clear hB hG hL L
 rintro u ⟨⟨hgu,hB,hG,-⟩,hx23⟩
 have HR:=Lib.hid hx23
 clear hx23
 clear hgu
 have HG0:=Lib.hid hG
 clear hB hF hG
 obtain ⟨w0,rfl⟩ : ∃ x,x = w:=⟨_,rfl⟩
 obtain ⟨w,hwu⟩ : ∃ x,x = u:=⟨_,rfl⟩
 rw [← hwu] at HG0 HR
 have hB:=Bx.nil u
 have hF:=Fr.nil w
 have hG : A4 w u:=hwu ▸ A4.refl u
 clear hwu
 have HT':=HT.grow HG0.out
 have hcl:=fun W (hg : A4 w W)=>Hcl.out W (HG0.out.trans hg)
 clear HT Hcl Hck Hrs
 have HT:=HT'
 have Hcl:=Lib.hid hcl
 clear HT' hcl
 refine wp_seq ?_
 have hmk:=Hmk.out
 refine K7 ?_
 intro K hN
 go_wp2_with fail
 generalize hv : World.alloc u _ = v
 have hrow:=A0S hG.sz (by omega) hv
 have hgv : A4 u v:=hv ▸ A4.alloc u _
 have hG2:=hG.trans hgv
 clear hv hG hB hmk hgv
 rw [← A1g f L] at hrow
 generalize u.heap.size = g at hrow ⊢
 have Ho:=Lib.hid hrow
 have hG:=hG2
 have hB:=Bx.nil v
 have hF:=Fr.nil w
 clear hrow hG2
 obtain ⟨u,rfl⟩ : ∃ x,x = v:=⟨_,rfl⟩
 refine NoK.norm (hN _ _ ?_)
 clear hN K
 refine A6 ?_
 refine wp_seq ?_
 refine r0T ?_
 refine wp_block ?_
 clear hB hF
 go_loopw [29] (fun s0 wr=>∃ i : Nat,i ≤ L ∧ s0 = .int .i64 i ∧ wr.ownsRow w.heap.size 48 5 (.slice (some ⟨g,0,none⟩) L L) L ((J3 f L i).flatMap qL) ∧ A4 w wr) (fun s0 _=>L - (intOf s0).toNat)
 case atStart=>exact ⟨0,Nat.zero_le _,rfl,Ho.out,hG⟩
 case round =>
  clear hG Ho
  obtain ⟨i,hi,rfl,ho,hG⟩:=hrel
  obtain ⟨u,rfl⟩ : ∃ x,x = wr:=⟨_,rfl⟩
  have Ho:=Lib.hid ho
  have hB:=Bx.nil u
  have hF:=Fr.nil w
  clear ho
  rcases Nat.lt_or_ge i L with hlt | hge
  ·have hdec : decide ((i : Int) < (L : Int)) = true:=by simp;omega
   have hin : (i : Int) < (L : Int):=by omega
   have hst:=A13 (f:=f) hlt
   have hcl:=fun W (hg : A4 w W)=>Hcl.out W hg i hlt
   have hdt:=fun W=>Hdt.out W i hlt
   obtain ⟨Q,hQ⟩ : ∃ q,q = f i:=⟨_,rfl⟩
   rw [← hQ] at hst
   simp only [← hQ] at hdt
   obtain ⟨Ci,hCi⟩ : ∃ q,q = C i:=⟨_,rfl⟩
   simp only [← hCi] at hdt hcl
   have Hst:=Lib.hid hst
   have Hcli:=Lib.hid hcl
   have Hdti:=Lib.hid hdt
   clear hst hcl hdt hQ hCi
   refine r0T ?_
   refine wp_seq ?_
   refine wp_cond_true (rfl) ?_
   refine wp_skip ?_
   refine A6 ?_
   refine wp_seq ?_
   refine wp_block ?_
   refine r0T ?_
   refine rsC A8 [0,0,0,0,1,0,1,0,0,0,0] hB hG fun K L hN hL=>?_
   refine gs ?_
   refine gxd (X:=Ax) (fun x : Ax=>.slice x.1 N x.2) (fun x W=>Lq W x.1 Ci) (fun x u u' hg h=>Lq.grow h hg) (fun x37=>?_) (C:=by (rintro v ⟨hgu,hB,hG,-⟩;exact Hcli.out _ hG))
   refine gs ?_
   refine gmd (C:=fun v ⟨⟨hgu,hB,hG,_⟩,hx37⟩=>Hdti.out _ x37 x23 hx37 (HR.out.grow hG) (HT.grow hG)) ?_
   refine gs ?_
   refine geC hL ?_
   clear hB hG hL L
   rintro u ⟨⟨hgu,hB,hG,-⟩,hx37⟩
   clear hx37
   have Ho2:=Lib.hid (D1 Ho.out hgu)
   clear Ho
   have Ho:=Ho2
   clear Ho2
   obtain ⟨z0,z1,z2,z3,z4,o0,o1,o2,o3,o4,hfz⟩:=A0U (enc:=qL) (fun _=>rfl) Ho.out (N1 f L i).symm i (by rw [N1];exact hlt)
   clear hgu
   refine gt ?_
   clear hN K
   clear o0 o1 o2 o3 o4 hfz
   generalize hu0 : World.setCell (World.setCell (World.setCell (World.setCell (World.setCell u _ _) _ _) _ _) _ _) _ _ = u0
   have hu1 : D3 u g (i * 5) (qL Q) = u0:=hu0
   have hP:=R4 (enc:=qL) (size:=5) (ps:=J3 f L i) (fun _=>rfl) Ho.out i Q (by rw [N1];exact hlt)
   rw [Hst.out,hu1] at hP
   have hG2:=Q8 Ho.out hG hP.2
   have Ho2:=Lib.hid hP.1
   clear hG hB Ho hP hu1 hu0
   have hG:=hG2
   have hB:=Bx.nil u0
   have hF:=Fr.nil w
   have Ho:=Ho2
   clear hG2 Ho2
   obtain ⟨u,rfl⟩ : ∃ x,x = u0:=⟨_,rfl⟩
   refine C3 ?_
   refine A6 ?_
   refine r0E ?_
   refine A6 ?_
   go_roundw
   case rel=>exact ⟨i + 1,by omega,by go_num,Ho.out,hG⟩
   case measure=>simp [intOf];omega
  ·obtain rfl : L = i:=by omega
   have hdec : decide ((L : Int) < (L : Int)) = false:=by simp
   have ho:=Ho.out
   rw [A1i] at ho
   obtain ⟨A9,c9,e9,-,-,hL,-⟩:=M9 ho
   cases e9
   have HL:=Lib.hid hL
   clear ho hL Ho
   refine r0T ?_
   refine wp_seq ?_
   refine wp_cond_false (rfl) ?_
   refine wp_exit ?_
   refine B8 ?_
   refine B8 ?_
   refine D6 ?_
   refine A6 ?_
   refine r0T ?_
   refine rt Tryz.results33 ?_
   exact ⟨(some ⟨g,0,none⟩,L),rfl,HL.out,HG0.out.trans hG⟩
theorem B31 (A Y V : Option Addr) (rs : List Rq) (y v : List Rat) (N L c d k : Nat) (a : Rat) (hn : rs.length = N) (hN : 1 ≤ N) (hN2 : N ≤ 20) (hrl : ∀ r ∈ rs,r.2.2.length = L) (hy : y.length = N) (hv : v.length = L) (hL1 : 1 ≤ L) (hL : L ≤ 20) (s : Nat) (hs : s ≤ 1000) (hX : ∀ i,i < N → ∀ j,j < L → qs (gq (B7 (rs.map (·.2.2)) i) j) ≤ s) (hys : ∀ i,i < N → qs (gq y i) ≤ s) (hvs : ∀ j,j < L → qs (gq v j) ≤ s) (ha : qs a ≤ s) (ha0 : ¬ a < 0) (w : World) (h : Lrq w A rs) (h2 : Lq w Y y) (h3 : Lq w V v) (HT : Tab w) :
  Calls Tryz.prog 32 #[.slice A N c,.slice Y N d,.slice V L k,qV a] w fun e w'=>e = .returned (.tuple #[qV (A1N (rs.map (·.2.2)) y v N L a),.int .i64 0]) ∧ A4 w w':=by
 have hBB : 100000000 ≤ BIG:=by unfold BIG;omega
 obtain ⟨T5,hT5⟩ : ∃ T,T = 50000:=⟨_,rfl⟩
 have hNs : N * (T5 + T5 + 1) ≤ 20 * (T5 + T5 + 1):=Nat.mul_le_mul_right _ hN2
 have hck : ∀ W,A4 w W → Calls Tryz.prog 91 #[.slice A N c,.slice Y N d,.slice V L k,qV a] W fun e w'=>e = .returned (.int .i64 0) ∧ A4 W w':=fun W hg=>by
  have h4:=A34 A Y V rs N L L c d k hn hN (by omega) hL1 hL hrl a (by omega) W (h.grow hg)
  rw [if_neg (by simp),if_neg ha0] at h4
  exact h4
 have hrs:=fun W (hg : A4 w W)=>A77 A Y V rs y v N L c d k hn hN2 hrl hy hv hL s hs hX hys hvs W (h.grow hg) (h2.grow hg) (h3.grow hg) (HT.grow hg)
 have hR:=A18 (X:=rs.map (·.2.2)) (y:=y) (w:=v) hN2 hL hs hX hys hvs
 have hRl:=A4n (rs.map (·.2.2)) y v N L
 unfold A1N
 obtain ⟨R,hRe⟩ : ∃ R,R = K5 (rs.map (·.2.2)) y v N L:=⟨_,rfl⟩
 rw [← hRe] at hR hRl ⊢
 rw [← hT5] at hR
 simp only [← hRe] at hrs
 have hdt : ∀ W (P2 : Ax),Lq W P2.1 R → Tab W → Calls Tryz.prog 93 #[.slice P2.1 N P2.2,.slice P2.1 N P2.2] W fun e w'=>e = .returned (.tuple #[qV (E4 R R N),.bool true]) ∧ A4 W w':=fun W P2 g2 hT =>
  A1m P2.1 P2.1 R R P2.2 P2.2 N hRl hRl (by omega) T5 T5 hR hR (by omega) W g2 g2 hT
 have hDz : qs (E4 R R N) ≤ 3000000:=by
  have h4:=Y7 hR hR N (Nat.le_refl _)
  omega
 obtain ⟨D,hD⟩ : ∃ D,D = E4 R R N:=⟨_,rfl⟩
 rw [← hD] at hDz ⊢
 simp only [← hD] at hdt
 have h2z : qs (B9 2) ≤ 41:=A4y 2 (by omega)
 have hdv:=fun W hT=>A61 D (B9 2) W (by omega) hT
 have hHz : qs (K3 D (B9 2)) ≤ 3000041:=Nat.le_trans (A2u D (B9 2)) (by omega)
 have hnz : nzq (B9 2) = true:=by decide
 obtain ⟨E,hE⟩ : ∃ E,E = K3 D (B9 2):=⟨_,rfl⟩
 rw [← hE] at hHz ⊢
 simp only [← hE,hnz] at hdv
 have hSz : ∀ j,j ≤ L → qs (T9 v j) ≤ 20 * (s + 1) + 1:=fun j hj=>Nat.le_trans (A52 hvs j hj) (by have := Nat.mul_le_mul_right (s + 1) (show j ≤ 20 by omega);omega)
 have hat : ∀ j,j < L → ∃ bv ov,V = some ⟨bv,ov,none⟩ ∧ (∀ W,A4 w W → Cq W bv (ov + j * 5) (gq v j)):=fun j hj=>by
  obtain ⟨bv,ov,e⟩:=h3.addr (by omega)
  subst e
  exact ⟨bv,ov,rfl,fun W hg=>(h3.grow hg).read (by omega)⟩
 have Hck:=Lib.hid hck
 have Hrs:=Lib.hid hrs
 have Hdt:=Lib.hid hdt
 have Hdv:=Lib.hid hdv
 have Hat:=Lib.hid hat
 have HSz:=Lib.hid hSz
 have Hvs:=Lib.hid hvs
 clear hck hrs hdt hdv hat hSz hD hE hRe hR hRl h h2 h3 hrl hn hX hys hvs hNs hy hv hDz h2z hnz ha0 hT5
 go_enter Tryz.func32,Tryz.ntmps32
 refine en2 ?_
 intro u hG b8 b7 hB hF
 refine wp_seq ?_
 refine wp_seq (rsE A8 [0,0,0,0,1,0] hB hG fun L hL=>?_)
 refine gs ?_
 refine gmd (C:=fun v ⟨hgu,hB,hG,_⟩=>Hck.out _ hG) ?_
 refine gs ?_
 refine geT hL ?_
 clear hB hG hL L
 rintro u ⟨-,hB,hG,-⟩
 refine r0T ?_
 refine wp_cond_false (rfl) ?_
 refine wp_skip ?_
 refine A6 ?_
 refine wp_seq (rsE A8 [0,0,0,1,0] hB hG fun L hL=>?_)
 refine gs ?_
 refine gxd (X:=Ax) (fun x : Ax=>.slice x.1 N x.2) (fun x W=>Lq W x.1 R) (fun x u u' hg h=>Lq.grow h hg) (fun x31=>?_) (C:=by (rintro v ⟨hgu,hB,hG,-⟩;exact Hrs.out _ hG))
 refine gs ?_
 refine geT hL ?_
 clear hB hG hL L
 rintro u ⟨⟨hgu,hB,hG,-⟩,hx31⟩
 obtain ⟨w1,hw1⟩ : ∃ x,x = u:=⟨_,rfl⟩
 have HP:=Lib.hid (show Lq w1 x31.1 R from hw1 ▸ hx31)
 have hG1 : A4 w1 u:=hw1 ▸ A4.refl u
 clear hx31 hw1
 clear hgu
 refine wp_seq (rsC A8 [0,0,1,0,0,0,2] hB hG fun K L hN hL=>?_)
 refine gs ?_
 refine gmd (C:=fun v ⟨hgu,hB,hG,_⟩=>Hdt.out _ x31 (HP.out.grow (hG1.trans hgu)) (HT.grow hG)) ?_
 refine gs ?_
 refine gaa (H7 _ _ _ _ _) fun b12 hb12 hn12=>?_
 replace hF:=hF.n1 [] hB hG hb12 hn12
 refine geC hL ?_
 clear hB hG hL L
 rintro u ⟨⟨-,hB,hG,-⟩,h12⟩
 replace hB:=hB.cons' h12
 clear h12
 clear hb12 hn12
 refine gtT ?_
 clear hN K
 refine st hB hF hG 0 0 [_,_,_,_,_] ?_
 clear hB hG
 intro u hB hG
 clear HP hG1
 refine wp_seq (rdC A8 [5] [(0,0),(1,1),(1,2),(0,3),(0,4),(0,5),(2,6)] hB hG fun K L hN hL=>?_)
 refine gs ?_
 refine gmw (C:=fun v=>Z0 2 (by omega) (by omega) _) ?_
 refine gmd (C:=fun v ⟨hgu,hB,hG,_⟩=>Hdv.out _ (HT.grow hG)) ?_
 refine gs ?_
 refine gaa (H7 _ _ _ _ _) fun b14 hb14 hn14=>?_
 replace hF:=hF.n1 [] hB hG hb14 hn14
 refine geC hL ?_
 clear hB hG hL L
 rintro u ⟨⟨-,hB,hG,-⟩,h14⟩
 replace hB:=hB.cons' h14
 clear h14
 clear hb14 hn14
 refine gtT ?_
 clear hN K
 refine st hB hF hG 0 0 [_,_,_,_,_] ?_
 clear hB hG
 intro u hB hG
 refine wp_seq (rsC A8 [0,2] hB hG fun K L hN hL=>?_)
 refine gs ?_
 refine gaa (H7 _ _ _ _ _) fun b16 hb16 hn16=>?_
 replace hF:=hF.n1 [] hB hG hb16 hn16
 refine geC hL ?_
 clear hB hG hL L
 rintro u ⟨⟨-,hB,hG,-⟩,h16⟩
 replace hB:=hB.cons' h16
 clear h16
 clear hb16 hn16
 refine gtT ?_
 clear hN K
 refine st hB hF hG 0 0 [_,_,_,_,_] ?_
 clear hB hG
 intro u hB hG
 refine wp_seq ?_
 refine r0T ?_
 refine wp_block ?_
 go_loopw [47] (fun s0 wr=>∃ (j : Nat) (S : Rat),j ≤ L ∧ s0 = .int .i64 j ∧ S = T9 v j ∧ Bx wr [(b16,48,N5 S),(b14,48,N5 E),(b12,48,N5 D),(b7,48,N5 a),(b8,48,A2N)] ∧ A4 w wr) (fun s0 _=>L - (intOf s0).toNat)
 case atStart=>exact ⟨0,0,Nat.zero_le _,rfl,rfl,hB,hG⟩
 case round =>
  clear hB hG
  obtain ⟨j,S,hj,rfl,hS,hB,hG⟩:=hrel
  obtain ⟨u,rfl⟩ : ∃ x,x = wr:=⟨_,rfl⟩
  have z1:=HSz.out j hj
  rw [← hS] at z1
  rcases Nat.lt_or_ge j L with hlt | hge
  ·have hdec : decide ((j : Int) < (L : Int)) = true:=by simp;omega
   have hjn : (j : Int) < (L : Int):=by omega
   obtain ⟨bv,ov,rfl,hrd⟩:=Hat.out j hlt
   have z2:=Hvs.out j hlt
   have hnx : T9 v (j + 1) = E6 (T9 v j) (I7 (gq v j)):=rfl
   rw [← hS] at hnx
   obtain ⟨X,hX⟩ : ∃ X,X = gq v j:=⟨_,rfl⟩
   rw [← hX] at z2 hnx
   simp only [← hX] at hrd
   have hab:=fun W=>A4d X (by have := E8 X;omega) W
   have z3:=A0o X
   obtain ⟨B1,hB1⟩ : ∃ D,D = I7 X:=⟨_,rfl⟩
   rw [← hB1] at hnx z3
   simp only [← hB1] at hab
   have had:=fun W hT=>A1C S B1 W (by omega) hT
   have Hrd:=Lib.hid hrd
   have Hnx:=Lib.hid hnx
   have Hab:=Lib.hid hab
   have Had:=Lib.hid had
   clear hrd hnx hab had hX hB1 hS z1 z2 z3
   refine r0T ?_
   refine wp_seq ?_
   refine wp_cond_true (rfl) ?_
   refine wp_skip ?_
   refine A6 ?_
   refine wp_seq ?_
   refine wp_block ?_
   refine wp_seq (rsC A8 [0,0,2] hB hG fun K L hN hL=>?_)
   repeat first | refine gya ?_ | refine gyr ?_ | refine gna ?_ | refine gyb (by (rintro v ⟨hgu,hB,hG,-⟩ N hN;have r:=hB.r;simp only [BxR] at r;obtain ⟨y1,y2,y3,y4,y5⟩:=Hrd.out v hG;go_simp;exact hN)) ?_
   refine gaa (H7 _ _ _ _ _) fun b18 hb18 hn18=>?_
   replace hF:=hF.n1 [] hB hG hb18 hn18
   refine geC hL ?_
   clear hB hG hL L
   rintro u ⟨⟨-,hB,hG,-⟩,h18⟩
   replace hB:=hB.cons' h18
   clear h18
   clear hb18 hn18
   refine gtT ?_
   clear hN K
   refine st hB hF hG 0 0 [_,_,_,_,_] ?_
   clear hB hG
   intro u hB hG
   refine rdC A8 [] [(0,0),(0,1),(1,2),(1,3)] hB hG fun K L hN hL=>?_
   repeat first | refine gya ?_ | refine gyr ?_ | refine gna ?_ | refine gyb (by (rintro v ⟨hgu,hB,hG,-⟩ N hN;have r:=hB.r;simp only [BxR] at r;obtain ⟨y1,y2,y3,y4,y5⟩:=Hrd.out v hG;go_simp;exact hN)) ?_
   refine gmw (C:=fun v=>Hab.out _) ?_
   refine gmd (C:=fun v ⟨hgu,hB,hG,_⟩=>Had.out _ (HT.grow hG)) ?_
   refine geC hL ?_
   clear hB hG hL L
   rintro u ⟨-,hB,hG,-⟩
   refine gt ?_
   clear hN K
   refine st hB hF hG 1 0 [_,_,_,_,_] ?_
   clear hB hG
   intro u hB hG
   refine C3 ?_
   refine A6 ?_
   refine r0E ?_
   refine A6 ?_
   go_roundw
   case rel=>exact ⟨j + 1,E6 S B1,by omega,by go_num,Hnx.out.symm,hB.tail,hG⟩
   case measure=>simp [intOf];omega
  ·obtain rfl : L = j:=by omega
   have hdec : decide ((L : Int) < (L : Int)) = false:=by simp
   have z4:=S8 a S
   have hml:=fun W hT=>A0Z a S W (by omega) hT
   rw [← hS]
   obtain ⟨F,hF9⟩ : ∃ F,F = C2 a S:=⟨_,rfl⟩
   rw [← hF9]
   simp only [← hF9] at hml
   have z5 : qs F ≤ 30000:=by rw [hF9];unfold C2;omega
   have had:=fun W hT=>A1C E F W (by omega) hT
   have Hml:=Lib.hid hml
   have Had:=Lib.hid had
   clear hml had hS hF9 z1 z4 z5
   refine r0T ?_
   refine wp_seq ?_
   refine wp_cond_false (rfl) ?_
   refine wp_exit ?_
   refine B8 ?_
   refine B8 ?_
   refine D6 ?_
   refine A6 ?_
   refine wp_seq (rdC A8 [] [(0,0),(0,1),(0,2),(1,3),(1,4)] hB hG fun K L hN hL=>?_)
   refine gs ?_
   refine gmd (C:=fun v ⟨hgu,hB,hG,_⟩=>Hml.out _ (HT.grow hG)) ?_
   refine gmd (C:=fun v ⟨hgu,hB,hG,_⟩=>Had.out _ (HT.grow hG)) ?_
   refine geC hL ?_
   clear hB hG hL L
   rintro u ⟨-,hB,hG,-⟩
   refine gtT ?_
   clear hN K
   refine st hB hF hG 4 0 [_,_,_,_,_] ?_
   clear hB hG
   intro u hB hG
   refine rt Tryz.results32 ?_
   exact ⟨rfl,hG⟩
end Go.Proofs.YtgpglgbcobeogaaGreatDoor
