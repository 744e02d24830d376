/- Contracts and laws. -/
import Derived.Test.YtlkniebmjdoopaaGreatDoorR36
import Derived.Deep.LoopGhost
set_option linter.unusedSimpArgs false
set_option linter.unusedVariables false
set_option maxHeartbeats 8000000
set_option maxRecDepth 100000
namespace Go.Proofs.YtlkniebmjdoopaaGreatDoor
open Go Go.RowKit
def A25 (sh : FuncId) (p : List Rat) (Ps : List (List Rat)) (n : Nat) : Prop:=∀ (w : World) (A : Option Addr) (c : Nat),PR p (A,c) w → Tab w → Calls Tryz.prog 71 #[.slice A p.length c,.func (.func sh) #[] #[]] w (Z6 Ps n w)
def A4B (F : FuncId) (p : List Rat) (Ps : List (List Rat)) (n : Nat) : Prop:=∀ (w : World) (A : Option Addr) (c : Nat),PR p (A,c) w → Tab w → Calls Tryz.prog F #[.slice A p.length c] w (Z6 Ps n w)
theorem B7F {p : List Rat} {Ps : List (List Rat)} {n : Nat} (h : A25 114 p Ps n) : A4B 48 p Ps n:=by
 intro w A c hp HT
 have hc:=fun W (hg : A3 w W)=>h W A c (hp.grow hg) (HT.grow hg)
 unfold Z6 at hc ⊢
 obtain ⟨np,hnp⟩ : ∃ n,n = p.length:=⟨_,rfl⟩
 rw [← hnp]
 simp only [← hnp] at hc
 have Hc:=Lib.hid hc
 clear hc hnp hp h
 go_enter Tryz.func48,Tryz.ntmps48
 refine en0 ?_
 intro u hG hB hF
 refine wp_seq (rsE A5 [0,1,0] hB hG fun L hL=>?_)
 refine gs ?_
 refine gxd (X:=Ax) (fun y : Ax=>.slice y.1 n y.2) (fun y W=>RW Ps y.1 W ∧ n ≤ y.2) (fun x u u' hg h=>⟨h.1.grow hg,h.2⟩) (fun x4=>?_) (C:=by (rintro v ⟨hgu,hB,hG,-⟩;exact Hc.out _ hG))
 refine gs ?_
 refine geT hL ?_
 clear hB hG hL L
 rintro u ⟨⟨hgu,hB,hG,-⟩,hx4⟩
 have HP:=Lib.hid hx4
 clear hx4
 clear hgu
 refine rt Tryz.results48 ?_
 exact ⟨x4,rfl,HP.out,hG⟩
theorem B4v {p : List Rat} {Ps : List (List Rat)} {n : Nat} (hr : Y9 p = 0) (hl : p.length ≤ 1000) (hs : ∀ x ∈ p,qs x ≤ BIG) (h : A25 72 p Ps n) : A4B 22 p Ps n:=by
 intro w A c hp HT
 have hc:=fun W (hg : A3 w W)=>h W A c (hp.grow hg) (HT.grow hg)
 have hrf:=fun W (hg : A3 w W)=>A3v A p p.length c rfl hp.2.1 (by omega) hs W (hp.1.grow hg)
 rw [hr] at hrf
 unfold Z6 at hc ⊢
 obtain ⟨np,hnp⟩ : ∃ n,n = p.length:=⟨_,rfl⟩
 rw [← hnp]
 simp only [← hnp] at hc hrf
 have Hc:=Lib.hid hc
 have Hrf:=Lib.hid hrf
 clear hc hrf hnp hp h hr hl hs
 go_enter Tryz.func22,Tryz.ntmps22
 refine en0 ?_
 intro u hG hB hF
 refine wp_seq ?_
 refine wp_seq (rsE A5 [0,1,0] hB hG fun L hL=>?_)
 refine gs ?_
 refine gmd (C:=fun v ⟨hgu,hB,hG,_⟩=>Hrf.out _ hG) ?_
 refine gs ?_
 refine geT hL ?_
 clear hB hG hL L
 rintro u ⟨-,hB,hG,-⟩
 refine wp_cond_false (rfl) ?_
 refine wp_skip ?_
 refine A4 ?_
 refine wp_seq (rsE A5 [0,1,0] hB hG fun L hL=>?_)
 refine gs ?_
 refine gxd (X:=Ax) (fun y : Ax=>.slice y.1 n y.2) (fun y W=>RW Ps y.1 W ∧ n ≤ y.2) (fun x u u' hg h=>⟨h.1.grow hg,h.2⟩) (fun x7=>?_) (C:=by (rintro v ⟨hgu,hB,hG,-⟩;exact Hc.out _ hG))
 refine gs ?_
 refine geT hL ?_
 clear hB hG hL L
 rintro u ⟨⟨hgu,hB,hG,-⟩,hx7⟩
 have HP:=Lib.hid hx7
 clear hx7
 clear hgu
 refine rt Tryz.results22 ?_
 exact ⟨x7,rfl,HP.out,hG⟩
theorem B3C (A : Option Addr) (c n N : Nat) (Ps : List (List Rat)) (lo hi : Rat) (C I : Int) (hC : C ≤ 0) (w : World) (HT : Tab w) (hrf : ∀ W,A3 w W → Calls Tryz.prog 50 #[.slice A n c] W fun e w'=>e = .returned (.int .i64 0) ∧ A3 W w') (hcm : ∀ W,Calls Tryz.prog 18 #[qV lo,qV hi] W fun e w'=>e = .returned (.int .i64 C) ∧ A3 W w')
  (hsi : ∀ W,A3 w W → Calls Tryz.prog 48 #[.slice A n c] W (Z6 Ps N W)) (hin : ∀ W (y : Ax),RW Ps y.1 W → Tab W → Calls Tryz.prog 55 #[.slice y.1 N y.2,spV lo hi] W fun e w'=>e = .returned (.int .i64 I) ∧ A3 W w') : Calls Tryz.prog 14 #[.slice A n c,qV lo,qV hi] w fun e w'=>e = .returned (.tuple #[.int .i64 I,.int .i64 0]) ∧ A3 w w':=by
 have f17 : decide (C > 0) = false:=decide_eq_false (by omega)
 unfold Z6 at hsi
 have Hrf:=Lib.hid hrf
 have Hcm:=Lib.hid hcm
 have Hsi:=Lib.hid hsi
 have Hin:=Lib.hid hin
 clear hrf hcm hsi hin
 go_enter Tryz.func14,Tryz.ntmps14
 refine en2 ?_
 intro u hG b5 b4 hB hF
 refine wp_seq ?_
 refine wp_seq (rsE A5 [0,1,0] hB hG fun L hL=>?_)
 refine gs ?_
 refine gmd (C:=fun v ⟨hgu,hB,hG,_⟩=>Hrf.out _ hG) ?_
 refine gs ?_
 refine geT hL ?_
 clear hB hG hL L
 rintro u ⟨-,hB,hG,-⟩
 refine r0T ?_
 refine wp_cond_false (rfl) ?_
 refine wp_skip ?_
 refine A4 ?_
 refine wp_seq ?_
 refine wp_seq (rsE A5 [0,0,1,0] hB hG fun L hL=>?_)
 refine gs ?_
 refine gmw (C:=fun v=>Hcm.out _) ?_
 refine gs ?_
 refine geT hL ?_
 clear hB hG hL L
 rintro u ⟨-,hB,hG,-⟩
 refine wp_cond_false (rfl) ?_
 refine wp_skip ?_
 refine A4 ?_
 refine wp_seq (rdC A5 [] [(0,0),(0,2),(0,3),(0,4),(1,1),(1,5),(0,6)] hB hG fun K L hN hL=>?_)
 refine gs ?_
 refine gxd (X:=Ax) (fun y : Ax=>.slice y.1 N y.2) (fun y W=>RW Ps y.1 W ∧ N ≤ y.2) (fun x u u' hg h=>⟨h.1.grow hg,h.2⟩) (fun x19=>?_) (C:=by (rintro v ⟨hgu,hB,hG,-⟩;exact Hsi.out _ hG))
 refine gmd (C:=fun v ⟨⟨hgu,hB,hG,_⟩,hx19⟩=>Hin.out _ x19 hx19.1 (HT.grow hG)) ?_
 refine gs ?_
 refine geC hL ?_
 clear hB hG hL L
 rintro u ⟨⟨-,hB,hG,-⟩,hx19⟩
 refine gtT ?_
 clear hN K
 refine rt Tryz.results14 ?_
 exact ⟨rfl,hG⟩
theorem B6i {a b : Rat} : decide (0 < H4 a b) = decide (b < a):=by
 unfold H4
 by_cases h1 : a < b
 ·rw [if_pos h1]
  have : ¬ b < a:=by grind
  simp [this]
 ·rw [if_neg h1]
  by_cases h2 : b < a
  ·rw [if_pos h2]
   simp [h2]
  ·rw [if_neg h2]
   simp [h2]
theorem B6B (a b : Rat) (h : qs a + qs b + 1 ≤ BIG) (w : World) : Calls Tryz.prog 52 #[qV a,qV b] w fun e w'=>e = .returned (qV (Z5 a b)) ∧ A3 w w':=by
 have hc:=fun W=>A01 b a W (by omega)
 have hz:=@B6i b a
 obtain ⟨Z,hZ⟩ : ∃ Z,Z = H4 b a:=⟨_,rfl⟩
 rw [← hZ] at hz
 simp only [← hZ] at hc
 have Hc:=Lib.hid hc
 clear hc hZ
 by_cases hab : a < b
 ·have fZ : decide (0 < Z) = true:=by rw [hz];exact decide_eq_true hab
  have e : Z5 a b = b:=if_pos hab
  rw [e]
  clear hab hz e
  go_enter Tryz.func52,Tryz.ntmps52
  refine en3 ?_
  intro u hG b4 b3 b2 hB hF
  refine wp_seq ?_
  refine wp_seq (rsE A5 [0,0,1,0] hB hG fun L hL=>?_)
  refine gs ?_
  refine gmw (C:=fun v=>Hc.out _) ?_
  refine gs ?_
  refine geT hL ?_
  clear hB hG hL L
  rintro u ⟨-,hB,hG,-⟩
  refine wp_cond_true (rfl) ?_
  refine r0T ?_
  refine st hB hF hG 2 0 [_,_,_,_,_] ?_
  clear hB hG
  intro u hB hG
  refine rt Tryz.results52 ?_
  exact ⟨rfl,hG⟩
 ·have fZ : decide (0 < Z) = false:=by rw [hz];exact decide_eq_false hab
  have e : Z5 a b = a:=if_neg hab
  rw [e]
  clear hab hz e
  go_enter Tryz.func52,Tryz.ntmps52
  refine en3 ?_
  intro u hG b4 b3 b2 hB hF
  refine wp_seq ?_
  refine wp_seq (rsE A5 [0,0,1,0] hB hG fun L hL=>?_)
  refine gs ?_
  refine gmw (C:=fun v=>Hc.out _) ?_
  refine gs ?_
  refine geT hL ?_
  clear hB hG hL L
  rintro u ⟨-,hB,hG,-⟩
  refine wp_cond_false (rfl) ?_
  refine wp_skip ?_
  refine A4 ?_
  refine r0T ?_
  refine st hB hF hG 2 0 [_,_,_,_,_] ?_
  clear hB hG
  intro u hB hG
  refine rt Tryz.results52 ?_
  exact ⟨rfl,hG⟩
def J7 (f : Nat → Rat) : Nat → Rat
 | 0=>B1 0
 | i + 1=>Z5 (J7 f i) (I0 (f i))
def I5 (p : List Rat) (i : Nat) : Rat:=M0 (gq p i) (B6 p)
def E0 (p : List Rat) : Rat:=I7 (J7 (I5 p) (trN p - 1)) (B1 1)
theorem A4x {f : Nat → Rat} {n s : Nat} (hs : 1 ≤ s) (h : ∀ i,i < n → qs (f i) ≤ s) : ∀ i,i ≤ n → qs (J7 f i) ≤ s
 | 0,_=>by
  have : qs (B1 0) ≤ 1:=by decide
  unfold J7
  omega
 | i + 1,hi=>by
  unfold J7
  exact B57 (A4x hs h i (by omega)) (by rw [A6A];exact h i (by omega))
theorem B6N (A : Option Addr) (c n : Nat) (E : Int) (hE : (E != 0) = true) (w : World) (hrf : ∀ W,A3 w W → Calls Tryz.prog 50 #[.slice A n c] W fun e w'=>e = .returned (.int .i64 E) ∧ A3 W w') : Calls Tryz.prog 13 #[.slice A n c] w fun e w'=>e = .returned (.tuple #[qV 0,.int .i64 E]) ∧ A3 w w':=by
 have Hrf:=Lib.hid hrf
 clear hrf
 go_enter Tryz.func13,Tryz.ntmps13
 refine en1 ?_
 intro u hG b2 hB hF
 refine wp_seq ?_
 refine wp_seq (rsE M1 [0,1,0] hB hG fun L hL=>?_)
 refine gs ?_
 refine gmd (C:=fun v ⟨hgu,hB,hG,_⟩=>Hrf.out _ hG) ?_
 refine gs ?_
 refine geT hL ?_
 clear hB hG hL L
 rintro u ⟨-,hB,hG,-⟩
 refine r0T ?_
 refine wp_cond_true (rfl) ?_
 refine r0T ?_
 refine st hB hF hG 0 0 [_,_,_,_,_] ?_
 clear hB hG
 intro u hB hG
 refine rt Tryz.results13 ?_
 exact ⟨by kernel_rfl,hG⟩
theorem B48 (A : Option Addr) (c n : Nat) (p : List Rat) (hn : p.length = n) (hm : n ≤ 1000) (s : Nat) (hs1 : 1 ≤ s) (hs : ∀ x ∈ p,qs x ≤ s) (hB : 8 * s + 100 ≤ BIG) (hr : Y9 p = 0) (w : World) (hp : PR p (A,c) w) (HT : Tab w) : Calls Tryz.prog 13 #[.slice A n c] w fun e w'=>e = .returned (.tuple #[qV (E0 p),.int .i64 0]) ∧ A3 w w':=by
 have hBm:=K8
 have hpc : n ≤ c:=hn ▸ hp.2.1
 have hrf:=fun W (hg : A3 w W)=>A3v A p n c hn hpc (by omega) (fun x hx=>Nat.le_trans (hs x hx) (by omega)) W (hp.1.grow hg)
 rw [hr] at hrf
 have hdg:=fun W (hg : A3 w W)=>A2K A p n c hn hpc (by omega) (fun x hx=>Nat.le_trans (hs x hx) (by omega)) W (hp.1.grow hg)
 have hT1 : 1 ≤ trN p:=by
  unfold Y9 at hr
  rcases Nat.eq_zero_or_pos (trN p) with h0 | h0
  ·rw [if_pos h0] at hr
   omega
  ·exact h0
 have hTn : trN p ≤ n:=by have := H8 p;omega
 obtain ⟨D,hD⟩ : ∃ D,D = trN p - 1:=⟨_,rfl⟩
 have e1 : (trN p : Int) - 1 = (D : Int):=by omega
 simp only [e1] at hdg
 have zt : qs (B6 p) ≤ s:=P3 hs (by omega)
 have hst : ∀ i,i < D → ∃ (b o : Nat) (ok : Bool),A = some ⟨b,o,none⟩ ∧ (∀ W,A3 w W → Cq W b (o + i * 5) (gq p i)) ∧ (∀ W,A3 w W → Cq W b (o + D * 5) (B6 p)) ∧ (∀ W,Tab W → Calls Tryz.prog 51 #[qV (gq p i),qV (B6 p)] W fun e w'=>e = .returned (.tuple #[qV (I5 p i),.bool ok]) ∧ A3 W w') ∧ (∀ W,Calls Tryz.prog 53 #[qV (I5 p i)] W fun e w'=>e = .returned (qV (I0 (I5 p i))) ∧ A3 W w') ∧ ∀ W,Calls Tryz.prog 52 #[qV (J7 (I5 p) i),qV (I0 (I5 p i))] W fun e w'=>e = .returned (qV (J7 (I5 p) (i + 1))) ∧ A3 W w':=fun i hi=>by
  obtain ⟨b,o,e⟩:=hp.1.addr (by omega)
  simp only at e
  subst e
  have zf : ∀ j,j < D → qs (I5 p j) ≤ 2 * s:=fun j hj=>by
   have h1:=P3 hs (i:=j) (by omega)
   have h2:=A4R (gq p j) (B6 p)
   unfold I5 M0
   omega
  have z1:=zf i hi
  have z2:=A4x (f:=I5 p) (n:=D) (s:=2 * s) (by omega) zf i (by omega)
  have z3:=A6A (I5 p i)
  have z4:=F7 (I5 p i)
  have z5:=P3 hs (i:=i) (by omega)
  refine ⟨b,o,nzq (B6 p),rfl,fun W hg=>(hp.1.grow hg).read (by omega),fun W hg=>?_,fun W hT=>A2y (a:=gq p i) (b:=B6 p) (w:=W) (by omega) hT,fun W=>B02 _ (by omega) W,fun W=>B6B _ _ (by omega) W⟩
  have h9:=(hp.1.grow hg).read (i:=trN p - 1) (by omega)
  rw [← hD] at h9
  unfold B6
  rw [← hD]
  exact h9
 have zL : qs (J7 (I5 p) D) ≤ 2 * s:=A4x (f:=I5 p) (n:=D) (s:=2 * s) (by omega) (fun j hj=>by
   have h1:=P3 hs (i:=j) (by omega)
   have h2:=A4R (gq p j) (B6 p)
   unfold I5 M0
   omega) D (Nat.le_refl _)
 have z1 : qs (B1 1) ≤ 1:=by decide
 have had:=fun (W : World) (hT : Tab W)=>A31 (J7 (I5 p) D) (B1 1) W (by omega) hT
 have hb0 : J7 (I5 p) 0 = B1 0:=rfl
 unfold E0
 rw [← hD]
 obtain ⟨t,ht⟩ : ∃ t,t = B6 p:=⟨_,rfl⟩
 obtain ⟨f,hf⟩ : ∃ f,f = I5 p:=⟨_,rfl⟩
 rw [← hf] at hb0 ⊢
 simp only [← hf] at had
 simp only [← hf,← ht] at hst
 obtain ⟨G,hG9⟩ : ∃ G,G = J7 f:=⟨_,rfl⟩
 rw [← hG9] at hb0 ⊢
 simp only [← hG9] at had hst
 obtain ⟨Q,hQ⟩ : ∃ Q,Q = I7 (G D) (B1 1):=⟨_,rfl⟩
 rw [← hQ]
 simp only [← hQ] at had
 have hDn : D ≤ n ∧ D ≤ c:=by omega
 obtain ⟨h91,h92⟩:=hDn
 have Hrf:=Lib.hid hrf
 have Hdg:=Lib.hid hdg
 have Hst:=Lib.hid hst
 have Had:=Lib.hid had
 have Hb0:=Lib.hid hb0
 have HDn:=Lib.hid (show D < n by omega)
 clear hrf hdg hst had hb0 hD e1 zt zL z1 ht hf hG9 hQ hT1 hTn hr hs hp hn hs1 hB
 go_enter Tryz.func13,Tryz.ntmps13
 refine en1 ?_
 intro u hG b2 hB hF
 refine wp_seq ?_
 refine wp_seq (rsE M1 [0,1,0] hB hG fun L hL=>?_)
 refine gs ?_
 refine gmd (C:=fun v ⟨hgu,hB,hG,_⟩=>Hrf.out _ hG) ?_
 refine gs ?_
 refine geT hL ?_
 clear hB hG hL L
 rintro u ⟨-,hB,hG,-⟩
 refine r0T ?_
 refine wp_cond_false (rfl) ?_
 refine wp_skip ?_
 refine A4 ?_
 refine wp_seq (rsE M1 [0,1,0] hB hG fun L hL=>?_)
 refine gs ?_
 refine gmd (C:=fun v ⟨hgu,hB,hG,_⟩=>Hdg.out _ hG) ?_
 refine gs ?_
 refine geT hL ?_
 clear hB hG hL L
 rintro u ⟨-,hB,hG,-⟩
 refine wp_seq (rsC M1 [1,2] hB hG fun K L hN hL=>?_)
 refine gmw (C:=fun v=>Y8 0 (by omega) (by omega) _) ?_
 refine gaa (O4 _ _ _ _ _) fun b6 hb6 hn6=>?_
 replace hF:=hF.n1 [] hB hG hb6 hn6
 refine geC hL ?_
 clear hB hG hL L
 rintro u ⟨⟨-,hB,hG,-⟩,h6⟩
 replace hB:=hB.cons' h6
 clear h6
 clear hb6 hn6
 refine gtT ?_
 clear hN K
 refine st hB hF hG 0 0 [_,_,_,_,_] ?_
 clear hB hG
 intro u hB hG
 refine wp_seq ?_
 refine wp_seq ?_
 have HF:=Lib.hid hF
 refine r0N ?_
 refine wp_block ?_
 clear hF
 go_loopw [24] (fun s0 wr=>∃ i : Nat,i ≤ D ∧ s0 = .int .i64 i ∧ Bx wr [(b6,39,H7 (G i)),(b2,39,#[.bool false,.int .u64 0,.string ⟨#[]⟩,.int .u64 0,.string ⟨#[]⟩])] ∧ A3 w wr) (fun s0 _=>D - (intOf s0).toNat)
 case atStart=>exact ⟨0,Nat.zero_le _,rfl,by rw [Hb0.out];exact hB,hG⟩
 case round =>
  clear hG hB
  obtain ⟨i,hi,rfl,hB,hG⟩:=hrel
  obtain ⟨u,rfl⟩ : ∃ x,x = wr:=⟨_,rfl⟩
  have hF:=HF.out
  rcases Nat.lt_or_ge i D with hlt | hge
  ·have hdec : decide ((i : Int) < (D : Int)) = true:=by simp;omega
   have hin : (i : Int) < (D : Int):=by omega
   have hDn : (D : Int) < (n : Int):=by have := HDn.out;omega
   obtain ⟨b,o,ok,rfl,hrd,hrt,hdv,hab,hmx⟩:=Hst.out i hlt
   obtain ⟨X,hX⟩ : ∃ X,X = gq p i:=⟨_,rfl⟩
   obtain ⟨F,hF9⟩ : ∃ X,X = f i:=⟨_,rfl⟩
   obtain ⟨Y,hY⟩ : ∃ X,X = I0 F:=⟨_,rfl⟩
   obtain ⟨G0,hG0⟩ : ∃ X,X = G i:=⟨_,rfl⟩
   obtain ⟨G1,hG1⟩ : ∃ X,X = G (i + 1):=⟨_,rfl⟩
   simp only [← hX] at hrd hdv
   simp only [← hF9] at hdv hab hmx
   simp only [← hY] at hab hmx
   simp only [← hG0,← hG1] at hmx
   rw [← hG0] at hB
   have HG1:=Lib.hid hG1
   have Hrd:=Lib.hid hrd
   have Hrt:=Lib.hid hrt
   have Hdv:=Lib.hid hdv
   have Hab:=Lib.hid hab
   have Hmx:=Lib.hid hmx
   clear hrd hrt hdv hab hmx hX hF9 hY hG0 hG1
   refine r0T ?_
   refine wp_seq ?_
   refine wp_cond_true (rfl) ?_
   refine wp_skip ?_
   refine A4 ?_
   refine wp_seq ?_
   refine wp_block ?_
   refine wp_seq (rsC M1 [0,0,2] hB hG fun K L hN hL=>?_)
   repeat first | refine gya ?_ | refine gyr ?_ | refine gna ?_ | refine gyb (by (rintro v ⟨hgu,hB,hG,-⟩ N hN;have r:=hB.r;simp only [BxR] at r;(first | obtain ⟨x1,x2,x3,x4,x5⟩:=Hrd.out v hG | skip);(first | obtain ⟨y1,y2,y3,y4,y5⟩:=Hrt.out v hG | skip);go_simp;exact hN)) ?_
   refine gaa (O4 _ _ _ _ _) fun b8 hb8 hn8=>?_
   replace hF:=hF.n1 [] hB hG hb8 hn8
   refine geC hL ?_
   clear hB hG hL L
   rintro u ⟨⟨-,hB,hG,-⟩,h8⟩
   replace hB:=hB.cons' h8
   clear h8
   clear hb8 hn8
   refine gtT ?_
   clear hN K
   refine st hB hF hG 0 0 [_,_,_,_,_] ?_
   clear hB hG
   intro u hB hG
   refine wp_seq (rdC M1 [8] [(0,0),(0,1),(0,2),(0,3),(0,4),(1,5),(0,6),(0,7),(0,8),(2,9)] hB hG fun K L hN hL=>?_)
   repeat first | refine gya ?_ | refine gyr ?_ | refine gna ?_ | refine gyb (by (rintro v ⟨hgu,hB,hG,-⟩ N hN;have r:=hB.r;simp only [BxR] at r;(first | obtain ⟨x1,x2,x3,x4,x5⟩:=Hrd.out v hG | skip);(first | obtain ⟨y1,y2,y3,y4,y5⟩:=Hrt.out v hG | skip);go_simp;exact hN)) ?_
   refine gmd (C:=fun v ⟨hgu,hB,hG,_⟩=>Hdv.out _ (HT.grow hG)) ?_
   refine gs ?_
   refine gaa (O4 _ _ _ _ _) fun b9 hb9 hn9=>?_
   replace hF:=hF.n1 [] hB hG hb9 hn9
   refine geC hL ?_
   clear hB hG hL L
   rintro u ⟨⟨-,hB,hG,-⟩,h9⟩
   replace hB:=hB.cons' h9
   clear h9
   clear hb9 hn9
   refine gtT ?_
   clear hN K
   refine st hB hF hG 0 0 [_,_,_,_,_] ?_
   clear hB hG
   intro u hB hG
   refine rdC M1 [] [(0,0),(0,1),(1,2),(1,3)] hB hG fun K L hN hL=>?_
   repeat first | refine gya ?_ | refine gyr ?_ | refine gna ?_ | refine gyb (by (rintro v ⟨hgu,hB,hG,-⟩ N hN;have r:=hB.r;simp only [BxR] at r;(first | obtain ⟨x1,x2,x3,x4,x5⟩:=Hrd.out v hG | skip);(first | obtain ⟨y1,y2,y3,y4,y5⟩:=Hrt.out v hG | skip);go_simp;exact hN)) ?_
   refine gmw (C:=fun v=>Hab.out _) ?_
   refine gmw (C:=fun v=>Hmx.out _) ?_
   refine geC hL ?_
   clear hB hG hL L
   rintro u ⟨-,hB,hG,-⟩
   refine gt ?_
   clear hN K
   refine st hB hF hG 2 0 [_,_,_,_,_] ?_
   clear hB hG
   intro u hB hG
   refine D5 ?_
   refine A4 ?_
   refine r0E ?_
   refine A4 ?_
   go_roundw
   case rel=>exact ⟨i + 1,by omega,by go_num,by rw [← HG1.out];exact hB.tail.tail,hG⟩
   case measure=>simp [intOf];omega
  ·obtain rfl : D = i:=by omega
   have hdec : decide ((D : Int) < (D : Int)) = false:=by simp
   obtain ⟨G0,hG0⟩ : ∃ X,X = G D:=⟨_,rfl⟩
   have had:=Had.out
   simp only [← hG0] at had
   rw [← hG0] at hB
   have Had2:=Lib.hid had
   clear hge hi had hG0
   refine r0T ?_
   refine wp_seq ?_
   refine wp_cond_false (rfl) ?_
   refine wp_exit ?_
   refine B4 ?_
   refine B4 ?_
   refine E1 ?_
   refine A4 ?_
   refine wp_seq (rdC M1 [] [(0,0),(1,1),(1,2)] hB hG fun K L hN hL=>?_)
   refine gs ?_
   refine gmw (C:=fun v=>Y8 1 (by omega) (by omega) _) ?_
   refine gmd (C:=fun v ⟨hgu,hB,hG,_⟩=>Had2.out _ (HT.grow hG)) ?_
   refine geC hL ?_
   clear hB hG hL L
   rintro u ⟨-,hB,hG,-⟩
   refine gtT ?_
   clear hN K
   refine st hB hF hG 1 0 [_,_,_,_,_] ?_
   clear hB hG
   intro u hB hG
   refine rt Tryz.results13 ?_
   exact ⟨rfl,hG⟩
abbrev Z4 (F : FuncId) (args : Array Value) (W : World) (v : Int) : Prop:=Calls Tryz.prog F args W fun e w'=>e = .returned (.int .i64 v) ∧ A3 W w'
abbrev R4 (F : FuncId) (args : Array Value) (W : World) (v : Value) : Prop:=Calls Tryz.prog F args W fun e w'=>e = .returned v ∧ A3 W w'
abbrev A1X (s : Rat × Rat) : Array Value:=#[.bool (D2 s.1.num),.int .u64 (B3 s.1.num.natAbs),.string (A8 s.1.num.natAbs),.int .u64 (B3 (H9 s.1.den)),.string (A8 (H9 s.1.den)),.bool (D2 s.2.num),.int .u64 (B3 s.2.num.natAbs),.string (A8 s.2.num.natAbs),.int .u64 (B3 (H9 s.2.den)),.string (A8 (H9 s.2.den))]
end Go.Proofs.YtlkniebmjdoopaaGreatDoor
namespace Go.Proofs.YtlkniebmjdoopaaGreatDoor
def pv : List Rat → Rat → Rat
 | [],_=>0
 | a :: l,x=>a + x * pv l x
def pd : List Rat → Rat → Rat
 | [],_=>0
 | _ :: l,x=>pv l x + x * pd l x
def E4 : List Rat → List Rat → List Rat
 | [],m=>m
 | a :: l,[]=>a :: l
 | a :: l,b :: m=>(a + b) :: E4 l m
def psc (k : Rat) (l : List Rat) : List Rat:=l.map (k * ·)
def B7 : List Rat → List Rat → List Rat
 | [],_=>[]
 | a :: l,m=>E4 (psc a m) (0 :: B7 l m)
theorem K3 (x : Rat) : ∀ a b : List Rat,pv (E4 a b) x = pv a x + pv b x
 | [],m=>by simp only [E4,pv];grind
 | a :: l,[]=>by simp only [E4,pv];grind
 | a :: l,b :: m=>by simp only [E4,pv,K3 x l m];grind
theorem A41 (x : Rat) : ∀ a b : List Rat,pd (E4 a b) x = pd a x + pd b x
 | [],m=>by simp only [E4,pd];grind
 | a :: l,[]=>by simp only [E4,pd];grind
 | a :: l,b :: m=>by simp only [E4,pd,A41 x l m,K3];grind
theorem F2 (k x : Rat) : ∀ l : List Rat,pv (psc k l) x = k * pv l x
 | []=>by simp only [psc,List.map_nil,pv];grind
 | a :: l=>by
  have h:=F2 k x l
  simp only [psc] at h
  simp only [psc,List.map_cons,pv,h];grind
theorem A6Y (k x : Rat) : ∀ l : List Rat,pd (psc k l) x = k * pd l x
 | []=>by simp only [psc,List.map_nil,pd];grind
 | a :: l=>by
  have h:=A6Y k x l
  have h2:=F2 k x l
  simp only [psc] at h h2
  simp only [psc,List.map_cons,pd,h,h2];grind
theorem D6 (x : Rat) : ∀ a b : List Rat,pv (B7 a b) x = pv a x * pv b x
 | [],m=>by simp only [B7,pv];grind
 | a :: l,m=>by simp only [B7,K3,F2,pv,D6 x l m];grind
theorem A1N (x : Rat) : ∀ a b : List Rat,pd (B7 a b) x = pd a x * pv b x + pv a x * pd b x
 | [],m=>by simp only [B7,pv,pd];grind
 | a :: l,m=>by simp only [B7,A41,A6Y,pd,pv,A1N x l m,D6];grind
def M3 (a b : List Rat) : List Rat:=E4 a (psc (-1) b)
theorem Y3 (a b : List Rat) (x : Rat) : pv (M3 a b) x = pv a x - pv b x:=by unfold M3;rw [K3,F2];grind
theorem B2q (a b : List Rat) (x : Rat) : pd (M3 a b) x = pd a x - pd b x:=by unfold M3;rw [A41,A6Y];grind
theorem N3 (x : Rat) : pv [1] x = 1:=by simp only [pv];grind
theorem N8 (c x : Rat) : pv [c] x = c:=by simp only [pv];grind
theorem B42 (c x : Rat) : pd [c] x = 0:=by simp only [pd,pv];grind
def R1 : List Rat → List Rat
 | []=>[]
 | _ :: l=>E4 l (0 :: R1 l)
theorem X1 (x : Rat) : ∀ l : List Rat,pv (R1 l) x = pd l x
 | []=>rfl
 | a :: l=>by simp only [R1,K3,pv,pd,X1 x l];grind
def mg (a : Rat) : Rat:=if 0 ≤ a then a else -a
theorem A2D {a b : Rat} : mg a ≤ b ↔ a ≤ b ∧ -a ≤ b:=by unfold mg;grind
theorem A9l {a b : Rat} : mg a < b ↔ a < b ∧ -a < b:=by unfold mg;grind
theorem B7Y (a : Rat) : a ≤ mg a ∧ -a ≤ mg a:=by unfold mg;grind
theorem G8 (a : Rat) : 0 ≤ mg a:=by unfold mg;grind
theorem A1e (a b : Rat) : mg (a + b) ≤ mg a + mg b:=by unfold mg;grind
theorem V9 (a b : Rat) : mg (a * b) = mg a * mg b:=by
 unfold mg
 by_cases h1 : 0 ≤ a <;> by_cases h2 : 0 ≤ b <;> simp only [h1,h2,if_true,if_false]
 ·rw [if_pos (Rat.mul_nonneg h1 h2)]
 ·have := Rat.mul_nonneg h1 (show (0 : Rat) ≤ -b by grind)
  by_cases h : 0 ≤ a * b <;> simp only [h,if_true,if_false] <;> grind
 ·have := Rat.mul_nonneg (show (0 : Rat) ≤ -a by grind) h2
  by_cases h : 0 ≤ a * b <;> simp only [h,if_true,if_false] <;> grind
 ·have := Rat.mul_nonneg (show (0 : Rat) ≤ -a by grind) (show (0 : Rat) ≤ -b by grind)
  by_cases h : 0 ≤ a * b <;> simp only [h,if_true,if_false] <;> grind
theorem A5t (a : Rat) : mg (-a) = mg a:=by unfold mg;grind
theorem A3V {a : Rat} (h : mg a ≤ 0) : a = 0:=by unfold mg at h;grind
def Trm (l : List Rat) : Prop:=∀ h : l ≠ [],l.getLast h ≠ 0
theorem Trm.tail {a : Rat} {l : List Rat} (h : Trm (a :: l)) : Trm l:=fun hl=>by
 have := h (by simp)
 rwa [List.getLast_cons hl] at this
theorem A9p : ∀ l : List Rat,Trm l → l ≠ [] → ∃ c N : Rat,0 < c ∧ 1 ≤ N ∧ ((∀ x,N ≤ x → c ≤ pv l x) ∨ (∀ x,N ≤ x → pv l x ≤ -c))
 | [],_,h=>absurd rfl h
 | [a],h,_=>by
  have ha : a ≠ 0:=h (by simp)
  by_cases h0 : 0 < a
  ·exact ⟨a,1,h0,by grind,.inl fun x _=>by simp only [pv];grind⟩
  ·exact ⟨-a,1,by grind,by grind,.inr fun x _=>by simp only [pv];grind⟩
 | a :: b :: l,h,_=>by
  obtain ⟨c,N,hc,hN,hh⟩:=A9p (b :: l) h.tail (by simp)
  have hpos : ∀ x,max N ((mg a + c) / c) ≤ x → 1 ≤ x ∧ N ≤ x ∧ mg a + c ≤ c * x:=by
   intro x hx
   have h1 : N ≤ x:=Rat.le_trans (by grind) hx
   have h2 : (mg a + c) / c ≤ x:=Rat.le_trans (by grind) hx
   refine ⟨by grind,h1,?_⟩
   by_cases h3 : mg a + c ≤ c * x
   ·exact h3
   ·exact absurd ((Rat.lt_div_iff hc).2 (show x * c < mg a + c by grind)) (by grind)
  have hab:=B7Y a
  refine ⟨c,max N ((mg a + c) / c),hc,by grind,?_⟩
  rcases hh with hh | hh
  ·refine .inl fun x hx=>?_
   obtain ⟨h1,h2,h3⟩:=hpos x hx
   have h4:=hh x h2
   have h5 : c * x ≤ pv (b :: l) x * x:=Rat.mul_le_mul_of_nonneg_right h4 (by grind)
   show c ≤ a + x * pv (b :: l) x
   grind
  ·refine .inr fun x hx=>?_
   obtain ⟨h1,h2,h3⟩:=hpos x hx
   have h4:=hh x h2
   have h5 : c * x ≤ (-pv (b :: l) x) * x:=Rat.mul_le_mul_of_nonneg_right (by grind) (by grind)
   show a + x * pv (b :: l) x ≤ -c
   grind
theorem A54 : ∀ l : List Rat,∃ t,Trm t ∧ t.length ≤ l.length ∧ ∀ x,pv t x = pv l x ∧ pd t x = pd l x
 | []=>⟨[],fun h=>absurd rfl h,Nat.le_refl _,fun x=>⟨rfl,rfl⟩⟩
 | a :: l=>by
  obtain ⟨t,h1,h2,h3⟩:=A54 l
  by_cases ht : t = []
  ·subst ht
   by_cases ha : a = 0
   ·refine ⟨[],fun h=>absurd rfl h,by simp,fun x=>?_⟩
    have := h3 x
    simp only [pv,pd] at this ⊢
    grind
   ·refine ⟨[a],fun h=>ha,by simp,fun x=>?_⟩
    have := h3 x
    simp only [pv,pd] at this ⊢
    grind
  ·refine ⟨a :: t,fun h=>?_,by simp [h2],fun x=>?_⟩
   ·rw [List.getLast_cons ht];exact h1 ht
   ·have := h3 x
    simp only [pv,pd] at this ⊢
    grind
def Nz (l : List Rat) : Prop:=∃ x,pv l x ≠ 0
theorem A4C {l : List Rat} (h : Nz l) : ∃ N : Rat,1 ≤ N ∧ ∀ x,N ≤ x → pv l x ≠ 0:=by
 obtain ⟨t,h1,h2,h3⟩:=A54 l
 obtain ⟨x,hx⟩:=h
 have ht : t ≠ []:=fun e=>by
  rw [← (h3 x).1,e] at hx
  exact hx rfl
 obtain ⟨c,N,hc,hN,hh⟩:=A9p t h1 ht
 refine ⟨N,hN,fun y hy e=>?_⟩
 rw [← (h3 y).1] at e
 rcases hh with hh | hh <;> have := hh y hy <;> grind
theorem B0e {l : List Rat} {N : Rat} (h : ∀ x,N ≤ x → pv l x = 0) (x : Rat) : pv l x = 0:=by
 by_cases hz : Nz l
 ·obtain ⟨M,h1,h2⟩:=A4C hz
  exact absurd (h (max N M) (by grind)) (h2 _ (by grind))
 ·by_cases hx : pv l x = 0
  ·exact hx
  ·exact absurd ⟨x,hx⟩ hz
theorem A9K {l m : List Rat} {N : Rat} (h : ∀ x,N ≤ x → pv l x = pv m x) (x : Rat) : pv l x = pv m x:=by
 have h2:=B0e (l:=M3 l m) (N:=N) (fun x hx=>by rw [Y3,h x hx];grind) x
 rw [Y3] at h2
 grind
theorem A22 : ∀ {l : List Rat},(∀ x,pv l x = 0) → ∀ a ∈ l,a = 0
 | [],_,a,ha=>by cases ha
 | b :: l,h,a,ha=>by
  have hb : b = 0:=by have := h 0;simp only [pv] at this;grind
  have hl : ∀ x,pv l x = 0:=B0e (N:=1) fun x hx=>by
   have := h x
   simp only [pv,hb] at this
   have h2 : x * pv l x = 0:=by grind
   rcases Rat.mul_eq_zero.1 h2 with h3 | h3
   ·grind
   ·exact h3
  rcases List.mem_cons.1 ha with e | e
  ·rw [e,hb]
  ·exact A22 hl a e
theorem A3t : ∀ {l : List Rat},(∀ a ∈ l,a = 0) → ∀ x,pd l x = 0 ∧ pv l x = 0
 | [],_,x=>⟨rfl,rfl⟩
 | a :: l,h,x=>by
  have h1:=A3t (fun b hb=>h b (List.mem_cons_of_mem _ hb)) x
  have h2:=h a List.mem_cons_self
  simp only [pd,pv,h1.1,h1.2,h2]
  grind
theorem A12 {l m : List Rat} (h : ∀ x,pv l x = pv m x) (x : Rat) : pd l x = pd m x:=by
 have h1:=A22 (l:=M3 l m) fun x=>by rw [Y3,h x];grind
 have h2:=(A3t h1 x).1
 rw [B2q] at h2
 grind
theorem A1o : ∀ {a b : List Rat},Trm a → Trm b → (∀ x,pv a x = pv b x) → a = b
 | [],[],_,_,_=>rfl
 | [],b :: m,_,hb,h=>by
  have := A22 (l:=b :: m) (fun x=>(h x).symm) _ (List.getLast_mem (by simp))
  exact absurd this (hb (by simp))
 | a :: l,[],ha,_,h=>by
  have := A22 (l:=a :: l) (fun x=>h x) _ (List.getLast_mem (by simp))
  exact absurd this (ha (by simp))
 | a :: l,b :: m,ha,hb,h=>by
  have e : a = b:=by have := h 0;simp only [pv] at this;grind
  have e2 : ∀ x,pv l x = pv m x:=A9K (N:=1) fun x hx=>by
   have := h x
   simp only [pv,e] at this
   have h2 : x * (pv l x - pv m x) = 0:=by grind
   rcases Rat.mul_eq_zero.1 h2 with h3 | h3
   ·grind
   ·grind
  rw [e,A1o ha.tail hb.tail e2]
theorem A02 {g u v : List Rat} (hg : Nz g) (h : ∀ x,pv g x * pv u x = pv g x * pv v x) (x : Rat) : pv u x = pv v x:=by
 obtain ⟨N,h1,h2⟩:=A4C hg
 refine A9K (N:=N) (fun x hx=>?_) x
 have h3 : pv g x * (pv u x - pv v x) = 0:=by have := h x;grind
 rcases Rat.mul_eq_zero.1 h3 with h4 | h4
 ·exact absurd h4 (h2 x hx)
 ·grind
theorem A93 {a b : List Rat} (ha : Nz a) (hb : Nz b) : Nz (B7 a b):=by
 obtain ⟨N,h1,h2⟩:=A4C ha
 obtain ⟨M,h3,h4⟩:=A4C hb
 refine ⟨max N M,fun e=>?_⟩
 rw [D6] at e
 rcases Rat.mul_eq_zero.1 e with h | h
 ·exact h2 _ (by grind) h
 ·exact h4 _ (by grind) h
end Go.Proofs.YtlkniebmjdoopaaGreatDoor
