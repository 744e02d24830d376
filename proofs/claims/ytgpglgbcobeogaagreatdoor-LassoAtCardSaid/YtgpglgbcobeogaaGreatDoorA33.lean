/- Contracts and laws. -/
import Derived.Test.YtgpglgbcobeogaaGreatDoorA32
set_option linter.unusedSimpArgs false
set_option linter.unusedVariables false
set_option maxHeartbeats 8000000
set_option maxRecDepth 100000
namespace Go.Proofs.YtgpglgbcobeogaaGreatDoor
open Go Go.RowKit
theorem S8 {w : World} {A : Option Addr} {rs : List Rq} {N L : Nat} (hn : rs.length = N) (hrl : ∀ r ∈ rs,r.2.2.length = L) (h : Lrq w A rs) {i : Nat} (hi : i < N) : ∃ (bb ob : Nat) (P : Ax),A = some ⟨bb,ob,none⟩ ∧ ∀ W,A4 w W → W.cell? ⟨bb,ob + i,none⟩ = some (.slice P.1 L P.2) ∧ Lq W P.1 (B8 (rs.map (·.2.2)) i) ∧ (B8 (rs.map (·.2.2)) i).length = L:=by
 obtain ⟨bb,ob,rfl⟩:=h.addr (by omega)
 have hil : i < rs.length:=by omega
 refine ⟨bb,ob,(rs[i].1,rs[i].2.1),rfl,fun W hg=>?_⟩
 have h3:=(h.grow hg).read (List.getElem?_eq_getElem hil)
 have e : B8 (rs.map (·.2.2)) i = rs[i].2.2:=by unfold B8;rw [List.getElem?_map,List.getElem?_eq_getElem hil];rfl
 rw [hrl _ (List.getElem_mem hil)] at h3
 rw [e]
 exact ⟨h3.1,h3.2,hrl _ (List.getElem_mem hil)⟩
theorem A7r (A : Option Addr) (rs : List Rq) (N L c j : Nat) (hn : rs.length = N) (hN2 : N ≤ 300) (hrl : ∀ r ∈ rs,r.2.2.length = L) (hj : j < L) (hL : L ≤ 20) (w : World) (h : Lrq w A rs) :
  Calls Tryz.prog 96 #[.slice A N c,.int .i64 (j : Nat)] w (G7 (fun x : Ax=>.slice x.1 N x.2) (fun x W=>Lq W x.1 (I4 (rs.map (·.2.2)) j N)) w):=by
 have hat : ∀ i,i < N → ∃ (bb ob ba oa cr : Nat),A = some ⟨bb,ob,none⟩ ∧ ∀ W,A4 w W → W.cell? ⟨bb,ob + i,none⟩ = some (.slice (some ⟨ba,oa,none⟩) L cr) ∧ Cq W ba (oa + j * 5) (gq (B8 (rs.map (·.2.2)) i) j):=fun i hi=>by
  obtain ⟨bb,ob,⟨P1,P2⟩,e,hP⟩:=S8 hn hrl h hi
  obtain ⟨h1,h2,h3⟩:=hP w (A4.refl w)
  obtain ⟨ba,oa,e1⟩:=h2.addr (by omega)
  simp only at e1
  subst e1
  refine ⟨bb,ob,ba,oa,P2,e,fun W hg=>?_⟩
  obtain ⟨h4,h5,h6⟩:=hP W hg
  exact ⟨h4,h5.read (by omega)⟩
 unfold I4
 obtain ⟨f,hf⟩ : ∃ f : Nat → Rat,f = fun i=>gq (B8 (rs.map (·.2.2)) i) j:=⟨_,rfl⟩
 have hat2 : ∀ i,i < N → ∃ (bb ob ba oa cr : Nat),A = some ⟨bb,ob,none⟩ ∧ ∀ W,A4 w W → W.cell? ⟨bb,ob + i,none⟩ = some (.slice (some ⟨ba,oa,none⟩) L cr) ∧ Cq W ba (oa + j * 5) (f i):=by rw [hf];exact hat
 rw [← hf]
 have hmk:=A0i N (by omega) (N : Int) rfl
 have hjL : (j : Int) < (L : Int):=by omega
 have Hat:=Lib.hid hat2
 have Hmk:=Lib.hid hmk
 clear hat hat2 hmk hf h hrl hn
 go_enter Tryz.func96,Tryz.ntmps96
 refine en0 ?_
 intro u hG hB hF
 refine wp_seq ?_
 have hmk:=Hmk.out
 refine L9 ?_
 intro K hN
 go_wp2_with fail
 generalize hv : World.alloc u _ = v
 have hrow:=A0O hG.sz (by omega) hv
 have hgv : A4 u v:=hv ▸ A4.alloc u _
 have hG2:=hG.trans hgv
 clear hv hG hB hmk hgv
 rw [← A1K f N] at hrow
 generalize u.heap.size = g at hrow ⊢
 have Ho:=Lib.hid hrow
 have hG:=hG2
 have hB:=Bx.nil v
 have hF:=Fr.nil w
 clear hrow hG2
 obtain ⟨u,rfl⟩ : ∃ x,x = v:=⟨_,rfl⟩
 refine NoK.norm (hN _ _ ?_)
 clear hN K
 refine A6 ?_
 refine wp_seq ?_
 refine r0T ?_
 refine wp_block ?_
 clear hB hF
 go_loopw [13] (fun s0 wr=>∃ i : Nat,i ≤ N ∧ s0 = .int .i64 i ∧ wr.ownsRow w.heap.size 48 5 (.slice (some ⟨g,0,none⟩) N N) N ((I9 f N i).flatMap qL) ∧ A4 w wr) (fun s0 _=>N - (intOf s0).toNat)
 case atStart=>exact ⟨0,Nat.zero_le _,rfl,Ho.out,hG⟩
 case round =>
  clear hG Ho
  obtain ⟨i,hi,rfl,ho,hG⟩:=hrel
  obtain ⟨u,rfl⟩ : ∃ x,x = wr:=⟨_,rfl⟩
  have Ho:=Lib.hid ho
  have hB:=Bx.nil u
  have hF:=Fr.nil w
  clear ho
  rcases Nat.lt_or_ge i N with hlt | hge
  ·have hdec : decide ((i : Int) < (N : Int)) = true:=by simp;omega
   have hin : (i : Int) < (N : Int):=by omega
   have hst:=A1a (f:=f) hlt
   obtain ⟨bb,ob,ba,oa,cr,rfl,hrd⟩:=Hat.out i hlt
   obtain ⟨Q,hQ⟩ : ∃ q,q = f i:=⟨_,rfl⟩
   rw [← hQ] at hst
   simp only [← hQ] at hrd
   have Hst:=Lib.hid hst
   have Hrd:=Lib.hid hrd
   clear hst hrd hQ
   refine r0T ?_
   refine wp_seq ?_
   refine wp_cond_true (rfl) ?_
   refine wp_skip ?_
   refine A6 ?_
   refine wp_seq ?_
   refine wp_block ?_
   refine wp_seq ?_
   obtain ⟨q0,q1,q2,q3,q4,q5⟩:=Hrd.out u hG
   refine r0N ?_
   obtain ⟨q0,q1,q2,q3,q4,q5⟩:=Hrd.out u hG
   obtain ⟨z0,z1,z2,z3,z4,o0,o1,o2,o3,o4,hfz⟩:=Y5 (enc:=qL) (fun _=>rfl) Ho.out (L6 f N i).symm i (by rw [L6];exact hlt)
   obtain ⟨q0,q1,q2,q3,q4,q5⟩:=Hrd.out u hG
   refine r0E ?_
   clear q0 q1 q2 q3 q4 q5 o0 o1 o2 o3 o4 hfz
   generalize hu0 : World.setCell (World.setCell (World.setCell (World.setCell (World.setCell u _ _) _ _) _ _) _ _) _ _ = u0
   have hu1 : D5 u g (i * 5) (qL Q) = u0:=hu0
   have hP:=P6 (enc:=qL) (size:=5) (ps:=I9 f N i) (fun _=>rfl) Ho.out i Q (by rw [L6];exact hlt)
   rw [Hst.out,hu1] at hP
   have hG2:=O9 Ho.out hG hP.2
   have Ho2:=Lib.hid hP.1
   clear hG hB Ho hP hu1 hu0
   have hG:=hG2
   have hB:=Bx.nil u0
   have hF:=Fr.nil w
   have Ho:=Ho2
   clear hG2 Ho2
   obtain ⟨u,rfl⟩ : ∃ x,x = u0:=⟨_,rfl⟩
   refine D4 ?_
   refine A6 ?_
   refine r0E ?_
   refine A6 ?_
   go_roundw
   case rel=>exact ⟨i + 1,by omega,by go_num,Ho.out,hG⟩
   case measure=>simp [intOf];omega
  ·obtain rfl : N = i:=by omega
   have hdec : decide ((N : Int) < (N : Int)) = false:=by simp
   have ho:=Ho.out
   rw [A1O] at ho
   obtain ⟨A9,c9,e9,-,-,hL,-⟩:=M3 ho
   cases e9
   have HL:=Lib.hid hL
   clear ho hL Ho
   refine r0T ?_
   refine wp_seq ?_
   refine wp_cond_false (rfl) ?_
   refine wp_exit ?_
   refine B6 ?_
   refine B6 ?_
   refine E6 ?_
   refine A6 ?_
   refine r0T ?_
   refine rt Tryz.results96 ?_
   exact ⟨(some ⟨g,0,none⟩,N),rfl,HL.out,hG⟩
theorem B0q (A Y V : Option Addr) (rs : List Rq) (y v : List Rat) (N L c d k : Nat) (hn : rs.length = N) (hN2 : N ≤ 20) (hrl : ∀ r ∈ rs,r.2.2.length = L) (hy : y.length = N) (hv : v.length = L) (hL : L ≤ 20) (s : Nat) (hs : s ≤ 1000) (hX : ∀ i,i < N → ∀ j,j < L → qs (gq (B8 (rs.map (·.2.2)) i) j) ≤ s) (hys : ∀ i,i < N → qs (gq y i) ≤ s) (hvs : ∀ j,j < L → qs (gq v j) ≤ s) (w : World) (h : Lrq w A rs) (h2 : Lq w Y y) (h3 : Lq w V v) (HT : Tab w) :
  Calls Tryz.prog 92 #[.slice A N c,.slice Y N d,.slice V L k] w (G7 (fun x : Ax=>.slice x.1 N x.2) (fun x W=>Lq W x.1 (A0K (rs.map (·.2.2)) y v N L)) w):=by
 have hBB : 100000000 ≤ BIG:=by unfold BIG;omega
 have hLs : L * (s + s + 1) ≤ 20 * (s + s + 1):=Nat.mul_le_mul_right _ hL
 have hat : ∀ i,i < N → ∃ (bb ob by0 oy : Nat) (P : Ax) (Z D : Rat),A = some ⟨bb,ob,none⟩ ∧ Y = some ⟨by0,oy,none⟩ ∧ (∀ W,A4 w W → W.cell? ⟨bb,ob + i,none⟩ = some (.slice P.1 L P.2) ∧ Cq W by0 (oy + i * 5) Z) ∧ (∀ W,A4 w W → Calls Tryz.prog 93 #[.slice V L k,.slice P.1 L P.2] W fun e w'=>e = .returned (.tuple #[qV D,.bool true]) ∧ A4 W w') ∧ (∀ W,Tab W → Calls Tryz.prog 50 #[qV Z,qV D] W fun e w'=>e = .returned (qV (C4 Z D)) ∧ A4 W w') ∧ C4 Z D = C4 (gq y i) (H4 v (B8 (rs.map (·.2.2)) i) L):=fun i hi=>by
  obtain ⟨bb,ob,P,e,hP⟩:=S8 hn hrl h hi
  obtain ⟨by0,oy,e2⟩:=h2.addr (by omega)
  subst e2
  refine ⟨bb,ob,by0,oy,P,gq y i,H4 v (B8 (rs.map (·.2.2)) i) L,e,rfl,fun W hg=>⟨(hP W hg).1,(h2.grow hg).read (by omega)⟩,fun W hg=>?_,fun W hT=>?_,rfl⟩
  ·obtain ⟨h4,h5,h6⟩:=hP W hg
   exact A2Y V P.1 v _ k P.2 L hv h6 (by omega) s s hvs (hX i hi) (by omega) W (h3.grow hg) h5 (HT.grow hg)
  ·have z1:=A2e (a:=v) (b:=B8 (rs.map (·.2.2)) i) (n:=L) hvs (hX i hi) L (Nat.le_refl _)
   have z2:=hys i hi
   exact A1S _ _ W (by omega) hT
 unfold A0K
 obtain ⟨f,hf⟩ : ∃ f : Nat → Rat,f = fun i=>C4 (gq y i) (H4 v (B8 (rs.map (·.2.2)) i) L):=⟨_,rfl⟩
 have hfi : ∀ i,f i = C4 (gq y i) (H4 v (B8 (rs.map (·.2.2)) i) L):=by rw [hf];exact fun _=>rfl
 simp only [← hfi] at hat
 rw [← hf]
 have hmk:=A0i N (by omega) (N : Int) rfl
 have Hat:=Lib.hid hat
 have Hmk:=Lib.hid hmk
 clear hat hmk hf hfi h h2 h3 hrl hn hX hys hvs hs hLs hy hv
 go_enter Tryz.func92,Tryz.ntmps92
 refine en0 ?_
 intro u hG hB hF
 refine wp_seq ?_
 have hmk:=Hmk.out
 refine L9 ?_
 intro K hN
 go_wp2_with fail
 generalize hv : World.alloc u _ = v
 have hrow:=A0O hG.sz (by omega) hv
 have hgv : A4 u v:=hv ▸ A4.alloc u _
 have hG2:=hG.trans hgv
 clear hv hG hB hmk hgv
 rw [← A1K f N] at hrow
 generalize u.heap.size = g at hrow ⊢
 have Ho:=Lib.hid hrow
 have hG:=hG2
 have hB:=Bx.nil v
 have hF:=Fr.nil w
 clear hrow hG2
 obtain ⟨u,rfl⟩ : ∃ x,x = v:=⟨_,rfl⟩
 refine NoK.norm (hN _ _ ?_)
 clear hN K
 refine A6 ?_
 refine wp_seq ?_
 refine r0T ?_
 refine wp_block ?_
 clear hB hF
 go_loopw [17] (fun s0 wr=>∃ i : Nat,i ≤ N ∧ s0 = .int .i64 i ∧ wr.ownsRow w.heap.size 48 5 (.slice (some ⟨g,0,none⟩) N N) N ((I9 f N i).flatMap qL) ∧ A4 w wr) (fun s0 _=>N - (intOf s0).toNat)
 case atStart=>exact ⟨0,Nat.zero_le _,rfl,Ho.out,hG⟩
 case round =>
  clear hG Ho
  obtain ⟨i,hi,rfl,ho,hG⟩:=hrel
  obtain ⟨u,rfl⟩ : ∃ x,x = wr:=⟨_,rfl⟩
  have Ho:=Lib.hid ho
  have hB:=Bx.nil u
  have hF:=Fr.nil w
  clear ho
  rcases Nat.lt_or_ge i N with hlt | hge
  ·have hdec : decide ((i : Int) < (N : Int)) = true:=by simp;omega
   have hin : (i : Int) < (N : Int):=by omega
   have hst:=A1a (f:=f) hlt
   obtain ⟨bb,ob,by0,oy,P,Z,D,rfl,rfl,hrd,hdt,hsb,e⟩:=Hat.out i hlt
   rw [← e] at hst
   obtain ⟨Q,hQ⟩ : ∃ q,q = C4 Z D:=⟨_,rfl⟩
   rw [← hQ] at hst
   simp only [← hQ] at hsb
   have Hst:=Lib.hid hst
   have Hrd:=Lib.hid hrd
   have Hdt:=Lib.hid hdt
   have Hsb:=Lib.hid hsb
   clear hst hrd hdt hsb hQ e
   refine r0T ?_
   refine wp_seq ?_
   refine wp_cond_true (rfl) ?_
   refine wp_skip ?_
   refine A6 ?_
   refine wp_seq ?_
   refine wp_block ?_
   refine wp_seq ?_
   obtain ⟨q0,q1,q2,q3,q4,q5⟩:=Hrd.out u hG
   refine r0N ?_
   refine wp_seq (rsC A8 [0,0,1,0,0,0,2] hB hG fun K L hN hL=>?_)
   refine gs ?_
   refine gmd (C:=fun v ⟨hgu,hB,hG,_⟩=>Hdt.out _ hG) ?_
   refine gs ?_
   refine gaa (K7 _ _ _ _ _) fun b10 hb10 hn10=>?_
   replace hF:=hF.n1 [] hB hG hb10 hn10
   refine geC hL ?_
   clear hB hG hL L
   rintro u ⟨⟨hgu,hB,hG,-⟩,h10⟩
   replace hB:=hB.cons' h10
   clear h10
   have g10 : g ≠ b10:=by
    have := (Ho.out.lt g rfl).2
    omega
   have Ho2:=Lib.hid (C9 Ho.out hgu)
   clear Ho
   have Ho:=Ho2
   clear Ho2
   clear hb10 hn10
   clear hgu
   refine gtT ?_
   clear hN K
   refine sv hB hF hG 0 0 [_,_,_,_,_] ?_
   intro u hu hBG
   have Ho2:=Lib.hid (M5 Ho.out (fun e=>g10 (Option.some.inj e)) hu)
   clear Ho
   have Ho:=Ho2
   clear Ho2
   clear hB hG hu
   obtain ⟨hB,hG⟩:=hBG
   refine rdC A8 [] [(0,0),(0,1),(0,2),(0,3),(0,4),(0,5),(0,6),(1,7),(0,8)] hB hG fun K L hN hL=>?_
   repeat first | refine gya ?_ | refine gyr ?_ | refine gna ?_ | refine gyb (by (rintro v ⟨hgu,hB,hG,-⟩ N hN;have r:=hB.r;simp only [BxR] at r;obtain ⟨q0,q1,q2,q3,q4,q5⟩:=Hrd.out v hG;go_simp;exact hN)) ?_
   refine gmd (C:=fun v ⟨hgu,hB,hG,_⟩=>Hsb.out _ (HT.grow hG)) ?_
   refine gs ?_
   refine geC hL ?_
   clear hB hG hL L
   rintro u ⟨hgu,hB,hG,-⟩
   have Ho2:=Lib.hid (C9 Ho.out hgu)
   clear Ho
   have Ho:=Ho2
   clear Ho2
   obtain ⟨z0,z1,z2,z3,z4,o0,o1,o2,o3,o4,hfz⟩:=Y5 (enc:=qL) (fun _=>rfl) Ho.out (L6 f N i).symm i (by rw [L6];exact hlt)
   clear hgu
   refine gt ?_
   clear hN K
   clear o0 o1 o2 o3 o4 hfz
   generalize hu0 : World.setCell (World.setCell (World.setCell (World.setCell (World.setCell u _ _) _ _) _ _) _ _) _ _ = u0
   have hu1 : D5 u g (i * 5) (qL Q) = u0:=hu0
   have hP:=P6 (enc:=qL) (size:=5) (ps:=I9 f N i) (fun _=>rfl) Ho.out i Q (by rw [L6];exact hlt)
   rw [Hst.out,hu1] at hP
   have hG2:=O9 Ho.out hG hP.2
   have Ho2:=Lib.hid hP.1
   clear hG hB Ho hP hu1 hu0
   have hG:=hG2
   have hB:=Bx.nil u0
   have hF:=Fr.nil w
   have Ho:=Ho2
   clear hG2 Ho2
   obtain ⟨u,rfl⟩ : ∃ x,x = u0:=⟨_,rfl⟩
   refine D4 ?_
   refine A6 ?_
   refine r0E ?_
   refine A6 ?_
   go_roundw
   case rel=>exact ⟨i + 1,by omega,by go_num,Ho.out,hG⟩
   case measure=>simp [intOf];omega
  ·obtain rfl : N = i:=by omega
   have hdec : decide ((N : Int) < (N : Int)) = false:=by simp
   have ho:=Ho.out
   rw [A1O] at ho
   obtain ⟨A9,c9,e9,-,-,hL,-⟩:=M3 ho
   cases e9
   have HL:=Lib.hid hL
   clear ho hL Ho
   refine r0T ?_
   refine wp_seq ?_
   refine wp_cond_false (rfl) ?_
   refine wp_exit ?_
   refine B6 ?_
   refine B6 ?_
   refine E6 ?_
   refine A6 ?_
   refine r0T ?_
   refine rt Tryz.results92 ?_
   exact ⟨(some ⟨g,0,none⟩,N),rfl,HL.out,hG⟩
abbrev P5 (g cp : Nat → Nat) (L i : Nat) : Value:=.slice (some ⟨g i,0,none⟩) L (cp i)
def A0G (g cp : Nat → Nat) (L n : Nat) : List Value:=(List.range n).map (P5 g cp L)
abbrev I5 (v : Value) : List Value:=[v]
def F7 (M : Mx) (L i : Nat) : List Rat:=(List.range L).map (M i)
theorem A1V (M : Mx) (L i : Nat) : (F7 M L i).length = L:=by unfold F7;simp
theorem A3u (g cp : Nat → Nat) (L n : Nat) : (A0G g cp L n).length = n:=by unfold A0G;simp
structure MatW (B n L b0 c0 : Nat) (g cp : Nat → Nat) (M : Mx) (W : World) : Prop where
 hd : W.ownsRow B 35 1 (.slice (some ⟨b0,0,none⟩) n c0) n ((A0G g cp L n).flatMap I5)
 row : ∀ i,i < n → W.ownsRow B 48 5 (.slice (some ⟨g i,0,none⟩) L (cp i)) L ((F7 M L i).flatMap qL)
 inj : ∀ i j,i < n → j < n → g i = g j → i = j
section
variable {B n L b0 c0 : Nat} {g cp : Nat → Nat} {M : Mx} {W W' : World}
theorem MatW.grow (h : MatW B n L b0 c0 g cp M W) (hg : A4 W W') : MatW B n L b0 c0 g cp M W':=⟨C9 h.hd hg,fun i hi=>C9 (h.row i hi) hg,h.inj⟩
theorem MatW.kept (h : MatW B n L b0 c0 g cp M W) {r : Option Nat} (hg : W.grownBy W' r) (h0 : some b0 ≠ r) (hr : ∀ i,i < n → some (g i) ≠ r) : MatW B n L b0 c0 g cp M W' :=
 ⟨h.hd.kept hg (.inr h0),fun i hi=>(h.row i hi).kept hg (.inr (hr i hi)),h.inj⟩
theorem MatW.b0lt (h : MatW B n L b0 c0 g cp M W) : B ≤ b0 ∧ b0 < W.heap.size:=h.hd.lt b0 rfl
theorem MatW.glt (h : MatW B n L b0 c0 g cp M W) {i : Nat} (hi : i < n) : B ≤ g i ∧ g i < W.heap.size:=(h.row i hi).lt (g i) rfl
theorem MatW.gb0 (h : MatW B n L b0 c0 g cp M W) {i : Nat} (hi : i < n) : g i ≠ b0:=fun e=>N2 h.hd (h.row i hi) (by decide) b0 rfl (by rw [← e];rfl)
theorem MatW.read (h : MatW B n L b0 c0 g cp M W) {i : Nat} (hi : i < n) : W.cell? ⟨b0,i,none⟩ = some (P5 g cp L i):=by
 have h1:=Y9 (enc:=I5) (size:=1) (fun _=>rfl) h.hd (A3u g cp L n).symm i 0 (by rw [A3u];exact hi) (by omega)
 rw [Nat.mul_one,Nat.add_zero] at h1
 rw [h1]
 unfold A0G
 simp
theorem MatW.lq (h : MatW B n L b0 c0 g cp M W) {i : Nat} (hi : i < n) : Lq W (some ⟨g i,0,none⟩) (F7 M L i):=by
 obtain ⟨A,c,e,-,-,hL,-⟩:=M3 (h.row i hi)
 cases e
 exact hL
theorem B1g {M : Mx} {L i j : Nat} (h : j < L) : gq (F7 M L i) j = M i j:=V9 _ h
theorem MatW.cq (h : MatW B n L b0 c0 g cp M W) {i j : Nat} (hi : i < n) (hj : j < L) : Cq W (g i) (j * 5) (M i j):=by
 have h1:=(h.lq hi).read (i:=j) (by rw [A1V];exact hj)
 rw [B1g hj,Nat.zero_add] at h1
 exact h1
def T7 (M : Mx) (i j : Nat) (q : Rat) : Mx:=fun i' j'=>if i' = i ∧ j' = j then q else M i' j'
theorem A5g {M : Mx} {L i j : Nat} {q : Rat} (hj : j < L) : (F7 M L i).set j q = F7 (T7 M i j q) L i:=by
 unfold F7
 apply List.ext_getElem
 ·simp
 ·intro k h1 h2
  rw [List.getElem_set]
  simp only [List.getElem_map,List.getElem_range]
  unfold T7
  by_cases e : j = k
  ·subst e;simp
  ·rw [if_neg e,if_neg (by omega)]
theorem A6H {M : Mx} {L i i' j : Nat} {q : Rat} (h : i' ≠ i) : F7 (T7 M i j q) L i' = F7 M L i':=by
 unfold F7
 refine List.map_congr_left fun k _=>?_
 unfold T7
 rw [if_neg (by omega)]
theorem MatW.put (h : MatW B n L b0 c0 g cp M W) {i j : Nat} (hi : i < n) (hj : j < L) (q : Rat) {o : Nat} (ho : o = j * 5) (hu : D5 W (g i) o (qL q) = W') : MatW B n L b0 c0 g cp (T7 M i j q) W' ∧ W.grownBy W' (some (g i)):=by
 subst ho
 obtain ⟨h1,h2⟩:=P6 (enc:=qL) (size:=5) (ps:=F7 M L i) (fun _=>rfl) (h.row i hi) j q (by rw [A1V];exact hj)
 rw [hu,A5g hj] at h1
 rw [hu] at h2
 refine ⟨⟨h.hd.kept h2 (.inr fun e=>h.gb0 hi (Option.some.inj e).symm),fun i' hi'=>?_,h.inj⟩,h2⟩
 by_cases e : i' = i
 ·subst e;exact h1
 ·rw [A6H e]
  exact (h.row i' hi').kept h2 (.inr fun e2=>e (h.inj i' i hi' hi (Option.some.inj e2)))
def sw (f : Nat → Nat) (a b : Nat) : Nat → Nat:=fun i=>if i = a then f b else if i = b then f a else f i
theorem A8b {a b : Nat} (ha : a < n) (hb : b < n) : ((A0G g cp L n).set a (P5 g cp L b)).set b (P5 g cp L a) = A0G (sw g a b) (sw cp a b) L n:=by
 unfold A0G
 apply List.ext_getElem
 ·simp
 ·intro k h1 h2
  rw [List.getElem_set,List.getElem_set]
  simp only [List.getElem_map,List.getElem_range]
  unfold P5 sw
  by_cases e1 : k = a
  ·subst e1
   by_cases e2 : b = k
   ·subst e2;simp
   ·rw [if_neg e2];simp
  ·by_cases e2 : b = k
   ·subst e2;simp [e1]
   ·rw [if_neg e2,if_neg (fun e=>e1 e.symm),if_neg e1,if_neg (fun e=>e2 e.symm),if_neg e1,if_neg (fun e=>e2 e.symm)]
theorem B4Y {f : Nat → Nat} {a b : Nat} (ha : a < n) (hb : b < n) (h : ∀ i j,i < n → j < n → f i = f j → i = j) : ∀ i j,i < n → j < n → sw f a b i = sw f a b j → i = j:=fun i j hi hj e=>by
 unfold sw at e
 split at e <;> split at e <;> rename_i h1 h2 <;> (try split at e) <;> (try split at e) <;> (have h3:=h _ _ (by assumption) (by assumption) e;omega)
theorem MatW.swap {W1 W2 : World} (h : MatW B n L b0 c0 g cp M W) {a b : Nat} (ha : a < n) (hb : b < n) (h1 : D5 W b0 a [P5 g cp L b] = W1) (h2 : D5 W1 b0 b [P5 g cp L a] = W2) : MatW B n L b0 c0 (sw g a b) (sw cp a b) (T2 M a b) W2 ∧ W.grownBy W2 (some b0):=by
 have q1:=P6 (enc:=I5) (size:=1) (ps:=A0G g cp L n) (fun _=>rfl) h.hd a (P5 g cp L b) (by rw [A3u];exact ha)
 rw [Nat.mul_one,h1] at q1
 have q2:=P6 (enc:=I5) (size:=1) (ps:=(A0G g cp L n).set a (P5 g cp L b)) (fun _=>rfl) q1.1 b (P5 g cp L a) (by rw [List.length_set,A3u];exact hb)
 rw [Nat.mul_one,h2,A8b ha hb] at q2
 have hg:=A2U q1.2 q2.2
 have key : ∀ i,i < n → W2.ownsRow B 48 5 (.slice (some ⟨g i,0,none⟩) L (cp i)) L ((F7 M L i).flatMap qL):=fun i hi=>(h.row i hi).kept hg (.inr fun e=>h.gb0 hi (Option.some.inj e))
 refine ⟨⟨q2.1,fun i hi=>?_,B4Y ha hb h.inj⟩,hg⟩
 unfold sw F7 T2
 by_cases e1 : i = a
 ·simp only [if_pos e1]
  exact key b hb
 ·by_cases e2 : i = b
  ·simp only [if_neg e1,if_pos e2]
   exact key a ha
  ·simp only [if_neg e1,if_neg e2]
   exact key i hi
theorem MatW.fresh (h : MatW B n L b0 c0 g cp M W) {b : Nat} (hb : W.heap.size ≤ b) : b ≠ b0 ∧ ∀ i,i < n → b ≠ g i:=⟨by have := h.b0lt;omega,fun i hi=>by have := h.glt hi;omega⟩
theorem MatW.over (h : MatW B n L b0 c0 g cp M W) {b i : Nat} {vs : List Value} (hb : b ≠ b0 ∧ ∀ i,i < n → b ≠ g i) (hu : D5 W b i vs = W') : MatW B n L b0 c0 g cp M W':=by
 subst hu
 exact h.kept (A0g b vs i W) (fun e=>hb.1 (Option.some.inj e).symm) (fun i hi e=>hb.2 i hi (Option.some.inj e).symm)
theorem MatW.lrq (h : MatW B n L b0 c0 g cp M W) : Lrq W (some ⟨b0,0,none⟩) ((List.range n).map fun i=>((some ⟨g i,0,none⟩,cp i,F7 M L i) : Rq)):=fun hne=>by
 refine ⟨b0,0,rfl,h.b0lt.2,fun i r hi=>?_⟩
 rw [List.getElem?_map] at hi
 obtain ⟨k,hk,rfl⟩:=Option.map_eq_some_iff.1 hi
 have hin : i < n:=by
  have := (List.getElem?_eq_some_iff.1 hk).1
  simpa using this
 have hki : k = i:=by
  rw [List.getElem?_range hin] at hk
  exact (Option.some.inj hk).symm
 subst hki
 simp only
 rw [A1V,Nat.zero_add]
 exact ⟨h.read hin,h.lq hin⟩
end
end Go.Proofs.YtgpglgbcobeogaaGreatDoor
