/- Contracts and laws. -/
import Derived.Test.YtlkniebmjdoopaaGreatDoorK37
set_option linter.unusedSimpArgs false
set_option linter.unusedVariables false
set_option maxHeartbeats 8000000
set_option maxRecDepth 100000
namespace Go.Proofs.YtlkniebmjdoopaaGreatDoor
open Go Go.RowKit
def A2x (sh : FuncId) (p : List Rat) (Ps : List (List Rat)) (n : Nat) : Prop:=∀ (w : World) (A : Option Addr) (c : Nat),PR p (A,c) w → Tab w → Calls Tryz.prog 71 #[.slice A p.length c,.func (.func sh) #[] #[]] w (I4 Ps n w)
def A3y (F : FuncId) (p : List Rat) (Ps : List (List Rat)) (n : Nat) : Prop:=∀ (w : World) (A : Option Addr) (c : Nat),PR p (A,c) w → Tab w → Calls Tryz.prog F #[.slice A p.length c] w (I4 Ps n w)
theorem B5q {p : List Rat} {Ps : List (List Rat)} {n : Nat} (h : A2x 114 p Ps n) : A3y 48 p Ps n:=by
 intro w A c hp HT
 have hc:=fun W (hg : A3 w W)=>h W A c (hp.grow hg) (HT.grow hg)
 unfold I4 at hc ⊢
 obtain ⟨np,hnp⟩ : ∃ n,n = p.length:=⟨_,rfl⟩
 rw [← hnp]
 simp only [← hnp] at hc
 have Hc:=Lib.hid hc
 clear hc hnp hp h
 go_enter Tryz.func48,Tryz.ntmps48
 refine en0 ?_
 intro u hG hB hF
 refine wp_seq (rsE A5 [0,1,0] hB hG fun L hL=>?_)
 refine gs ?_
 refine gxd (X:=Ax) (fun y : Ax=>.slice y.1 n y.2) (fun y W=>RW Ps y.1 W ∧ n ≤ y.2) (fun x u u' hg h=>⟨h.1.grow hg,h.2⟩) (fun x4=>?_) (C:=by (rintro v ⟨hgu,hB,hG,-⟩;exact Hc.out _ hG))
 refine gs ?_
 refine geT hL ?_
 clear hB hG hL L
 rintro u ⟨⟨hgu,hB,hG,-⟩,hx4⟩
 have HP:=Lib.hid hx4
 clear hx4
 clear hgu
 refine rt Tryz.results48 ?_
 exact ⟨x4,rfl,HP.out,hG⟩
theorem B21 {p : List Rat} {Ps : List (List Rat)} {n : Nat} (hr : S5 p = 0) (hl : p.length ≤ 1000) (hs : ∀ x ∈ p,qs x ≤ BIG) (h : A2x 72 p Ps n) : A3y 22 p Ps n:=by
 intro w A c hp HT
 have hc:=fun W (hg : A3 w W)=>h W A c (hp.grow hg) (HT.grow hg)
 have hrf:=fun W (hg : A3 w W)=>A3M A p p.length c rfl hp.2.1 (by omega) hs W (hp.1.grow hg)
 rw [hr] at hrf
 unfold I4 at hc ⊢
 obtain ⟨np,hnp⟩ : ∃ n,n = p.length:=⟨_,rfl⟩
 rw [← hnp]
 simp only [← hnp] at hc hrf
 have Hc:=Lib.hid hc
 have Hrf:=Lib.hid hrf
 clear hc hrf hnp hp h hr hl hs
 go_enter Tryz.func22,Tryz.ntmps22
 refine en0 ?_
 intro u hG hB hF
 refine wp_seq ?_
 refine wp_seq (rsE A5 [0,1,0] hB hG fun L hL=>?_)
 refine gs ?_
 refine gmd (C:=fun v ⟨hgu,hB,hG,_⟩=>Hrf.out _ hG) ?_
 refine gs ?_
 refine geT hL ?_
 clear hB hG hL L
 rintro u ⟨-,hB,hG,-⟩
 refine wp_cond_false (rfl) ?_
 refine wp_skip ?_
 refine A4 ?_
 refine wp_seq (rsE A5 [0,1,0] hB hG fun L hL=>?_)
 refine gs ?_
 refine gxd (X:=Ax) (fun y : Ax=>.slice y.1 n y.2) (fun y W=>RW Ps y.1 W ∧ n ≤ y.2) (fun x u u' hg h=>⟨h.1.grow hg,h.2⟩) (fun x7=>?_) (C:=by (rintro v ⟨hgu,hB,hG,-⟩;exact Hc.out _ hG))
 refine gs ?_
 refine geT hL ?_
 clear hB hG hL L
 rintro u ⟨⟨hgu,hB,hG,-⟩,hx7⟩
 have HP:=Lib.hid hx7
 clear hx7
 clear hgu
 refine rt Tryz.results22 ?_
 exact ⟨x7,rfl,HP.out,hG⟩
theorem B58 (A : Option Addr) (c n : Nat) (lo hi : Rat) (E : Int) (hE : (E != 0) = true) (w : World) (hrf : ∀ W,A3 w W → Calls Tryz.prog 50 #[.slice A n c] W fun e w'=>e = .returned (.int .i64 E) ∧ A3 W w') : Calls Tryz.prog 14 #[.slice A n c,qV lo,qV hi] w fun e w'=>e = .returned (.tuple #[.int .i64 0,.int .i64 E]) ∧ A3 w w':=by
 have Hrf:=Lib.hid hrf
 clear hrf
 go_enter Tryz.func14,Tryz.ntmps14
 refine en2 ?_
 intro u hG b5 b4 hB hF
 refine wp_seq ?_
 refine wp_seq (rsE A5 [0,1,0] hB hG fun L hL=>?_)
 refine gs ?_
 refine gmd (C:=fun v ⟨hgu,hB,hG,_⟩=>Hrf.out _ hG) ?_
 refine gs ?_
 refine geT hL ?_
 clear hB hG hL L
 rintro u ⟨-,hB,hG,-⟩
 refine r0T ?_
 refine wp_cond_true (rfl) ?_
 refine r0T ?_
 refine rt Tryz.results14 ?_
 exact ⟨rfl,hG⟩
theorem B3q (A : Option Addr) (c n : Nat) (lo hi : Rat) (w : World) (hrf : ∀ W,A3 w W → Calls Tryz.prog 50 #[.slice A n c] W fun e w'=>e = .returned (.int .i64 0) ∧ A3 W w') (hcm : ∀ W,Calls Tryz.prog 18 #[qV lo,qV hi] W fun e w'=>e = .returned (.int .i64 1) ∧ A3 W w') : Calls Tryz.prog 14 #[.slice A n c,qV lo,qV hi] w fun e w'=>e = .returned (.tuple #[.int .i64 0,.int .i64 1]) ∧ A3 w w':=by
 have Hrf:=Lib.hid hrf
 have Hcm:=Lib.hid hcm
 clear hrf hcm
 go_enter Tryz.func14,Tryz.ntmps14
 refine en2 ?_
 intro u hG b5 b4 hB hF
 refine wp_seq ?_
 refine wp_seq (rsE A5 [0,1,0] hB hG fun L hL=>?_)
 refine gs ?_
 refine gmd (C:=fun v ⟨hgu,hB,hG,_⟩=>Hrf.out _ hG) ?_
 refine gs ?_
 refine geT hL ?_
 clear hB hG hL L
 rintro u ⟨-,hB,hG,-⟩
 refine r0T ?_
 refine wp_cond_false (rfl) ?_
 refine wp_skip ?_
 refine A4 ?_
 refine wp_seq ?_
 refine wp_seq (rsE A5 [0,0,1,0] hB hG fun L hL=>?_)
 refine gs ?_
 refine gmw (C:=fun v=>Hcm.out _) ?_
 refine gs ?_
 refine geT hL ?_
 clear hB hG hL L
 rintro u ⟨-,hB,hG,-⟩
 refine wp_cond_true (rfl) ?_
 refine r0T ?_
 refine rt Tryz.results14 ?_
 exact ⟨rfl,hG⟩
theorem B6b (A : Option Addr) (c n N : Nat) (Ps : List (List Rat)) (lo hi : Rat) (C I : Int) (hC : C ≤ 0) (w : World) (HT : Tab w) (hrf : ∀ W,A3 w W → Calls Tryz.prog 50 #[.slice A n c] W fun e w'=>e = .returned (.int .i64 0) ∧ A3 W w') (hcm : ∀ W,Calls Tryz.prog 18 #[qV lo,qV hi] W fun e w'=>e = .returned (.int .i64 C) ∧ A3 W w')
  (hsi : ∀ W,A3 w W → Calls Tryz.prog 48 #[.slice A n c] W (I4 Ps N W)) (hin : ∀ W (y : Ax),RW Ps y.1 W → Tab W → Calls Tryz.prog 55 #[.slice y.1 N y.2,spV lo hi] W fun e w'=>e = .returned (.int .i64 I) ∧ A3 W w') : Calls Tryz.prog 14 #[.slice A n c,qV lo,qV hi] w fun e w'=>e = .returned (.tuple #[.int .i64 I,.int .i64 0]) ∧ A3 w w':=by
 have f17 : decide (C > 0) = false:=decide_eq_false (by omega)
 unfold I4 at hsi
 have Hrf:=Lib.hid hrf
 have Hcm:=Lib.hid hcm
 have Hsi:=Lib.hid hsi
 have Hin:=Lib.hid hin
 clear hrf hcm hsi hin
 go_enter Tryz.func14,Tryz.ntmps14
 refine en2 ?_
 intro u hG b5 b4 hB hF
 refine wp_seq ?_
 refine wp_seq (rsE A5 [0,1,0] hB hG fun L hL=>?_)
 refine gs ?_
 refine gmd (C:=fun v ⟨hgu,hB,hG,_⟩=>Hrf.out _ hG) ?_
 refine gs ?_
 refine geT hL ?_
 clear hB hG hL L
 rintro u ⟨-,hB,hG,-⟩
 refine r0T ?_
 refine wp_cond_false (rfl) ?_
 refine wp_skip ?_
 refine A4 ?_
 refine wp_seq ?_
 refine wp_seq (rsE A5 [0,0,1,0] hB hG fun L hL=>?_)
 refine gs ?_
 refine gmw (C:=fun v=>Hcm.out _) ?_
 refine gs ?_
 refine geT hL ?_
 clear hB hG hL L
 rintro u ⟨-,hB,hG,-⟩
 refine wp_cond_false (rfl) ?_
 refine wp_skip ?_
 refine A4 ?_
 refine wp_seq (rdC A5 [] [(0,0),(0,2),(0,3),(0,4),(1,1),(1,5),(0,6)] hB hG fun K L hN hL=>?_)
 refine gs ?_
 refine gxd (X:=Ax) (fun y : Ax=>.slice y.1 N y.2) (fun y W=>RW Ps y.1 W ∧ N ≤ y.2) (fun x u u' hg h=>⟨h.1.grow hg,h.2⟩) (fun x19=>?_) (C:=by (rintro v ⟨hgu,hB,hG,-⟩;exact Hsi.out _ hG))
 refine gmd (C:=fun v ⟨⟨hgu,hB,hG,_⟩,hx19⟩=>Hin.out _ x19 hx19.1 (HT.grow hG)) ?_
 refine gs ?_
 refine geC hL ?_
 clear hB hG hL L
 rintro u ⟨⟨-,hB,hG,-⟩,hx19⟩
 refine gtT ?_
 clear hN K
 refine rt Tryz.results14 ?_
 exact ⟨rfl,hG⟩
theorem A68 {a b : Rat} : decide (0 < K6 a b) = decide (b < a):=by
 unfold K6
 by_cases h1 : a < b
 ·rw [if_pos h1]
  have : ¬ b < a:=by grind
  simp [this]
 ·rw [if_neg h1]
  by_cases h2 : b < a
  ·rw [if_pos h2]
   simp [h2]
  ·rw [if_neg h2]
   simp [h2]
theorem B3o (a b : Rat) (h : qs a + qs b + 1 ≤ BIG) (w : World) : Calls Tryz.prog 52 #[qV a,qV b] w fun e w'=>e = .returned (qV (A0b a b)) ∧ A3 w w':=by
 have hc:=fun W=>A2S b a W (by omega)
 have hz:=@A68 b a
 obtain ⟨Z,hZ⟩ : ∃ Z,Z = K6 b a:=⟨_,rfl⟩
 rw [← hZ] at hz
 simp only [← hZ] at hc
 have Hc:=Lib.hid hc
 clear hc hZ
 by_cases hab : a < b
 ·have fZ : decide (0 < Z) = true:=by rw [hz];exact decide_eq_true hab
  have e : A0b a b = b:=if_pos hab
  rw [e]
  clear hab hz e
  go_enter Tryz.func52,Tryz.ntmps52
  refine en3 ?_
  intro u hG b4 b3 b2 hB hF
  refine wp_seq ?_
  refine wp_seq (rsE A5 [0,0,1,0] hB hG fun L hL=>?_)
  refine gs ?_
  refine gmw (C:=fun v=>Hc.out _) ?_
  refine gs ?_
  refine geT hL ?_
  clear hB hG hL L
  rintro u ⟨-,hB,hG,-⟩
  refine wp_cond_true (rfl) ?_
  refine r0T ?_
  refine st hB hF hG 2 0 [_,_,_,_,_] ?_
  clear hB hG
  intro u hB hG
  refine rt Tryz.results52 ?_
  exact ⟨rfl,hG⟩
 ·have fZ : decide (0 < Z) = false:=by rw [hz];exact decide_eq_false hab
  have e : A0b a b = a:=if_neg hab
  rw [e]
  clear hab hz e
  go_enter Tryz.func52,Tryz.ntmps52
  refine en3 ?_
  intro u hG b4 b3 b2 hB hF
  refine wp_seq ?_
  refine wp_seq (rsE A5 [0,0,1,0] hB hG fun L hL=>?_)
  refine gs ?_
  refine gmw (C:=fun v=>Hc.out _) ?_
  refine gs ?_
  refine geT hL ?_
  clear hB hG hL L
  rintro u ⟨-,hB,hG,-⟩
  refine wp_cond_false (rfl) ?_
  refine wp_skip ?_
  refine A4 ?_
  refine r0T ?_
  refine st hB hF hG 2 0 [_,_,_,_,_] ?_
  clear hB hG
  intro u hB hG
  refine rt Tryz.results52 ?_
  exact ⟨rfl,hG⟩
def N3 (f : Nat → Rat) : Nat → Rat
 | 0=>A8 0
 | i + 1=>A0b (N3 f i) (H6 (f i))
def J4 (p : List Rat) (i : Nat) : Rat:=J5 (gq p i) (C1 p)
def H7 (p : List Rat) : Rat:=M4 (N3 (J4 p) (trN p - 1)) (A8 1)
theorem A5z {f : Nat → Rat} {n s : Nat} (hs : 1 ≤ s) (h : ∀ i,i < n → qs (f i) ≤ s) : ∀ i,i ≤ n → qs (N3 f i) ≤ s
 | 0,_=>by
  have : qs (A8 0) ≤ 1:=by decide
  unfold N3
  omega
 | i + 1,hi=>by
  unfold N3
  exact B13 (A5z hs h i (by omega)) (by rw [A4s];exact h i (by omega))
theorem B1t (A : Option Addr) (c n : Nat) (E : Int) (hE : (E != 0) = true) (w : World) (hrf : ∀ W,A3 w W → Calls Tryz.prog 50 #[.slice A n c] W fun e w'=>e = .returned (.int .i64 E) ∧ A3 W w') : Calls Tryz.prog 13 #[.slice A n c] w fun e w'=>e = .returned (.tuple #[qV 0,.int .i64 E]) ∧ A3 w w':=by
 have Hrf:=Lib.hid hrf
 clear hrf
 go_enter Tryz.func13,Tryz.ntmps13
 refine en1 ?_
 intro u hG b2 hB hF
 refine wp_seq ?_
 refine wp_seq (rsE C2 [0,1,0] hB hG fun L hL=>?_)
 refine gs ?_
 refine gmd (C:=fun v ⟨hgu,hB,hG,_⟩=>Hrf.out _ hG) ?_
 refine gs ?_
 refine geT hL ?_
 clear hB hG hL L
 rintro u ⟨-,hB,hG,-⟩
 refine r0T ?_
 refine wp_cond_true (rfl) ?_
 refine r0T ?_
 refine st hB hF hG 0 0 [_,_,_,_,_] ?_
 clear hB hG
 intro u hB hG
 refine rt Tryz.results13 ?_
 exact ⟨by kernel_rfl,hG⟩
theorem B3r (A : Option Addr) (c n : Nat) (p : List Rat) (hn : p.length = n) (hm : n ≤ 1000) (s : Nat) (hs1 : 1 ≤ s) (hs : ∀ x ∈ p,qs x ≤ s) (hB : 8 * s + 100 ≤ BIG) (hr : S5 p = 0) (w : World) (hp : PR p (A,c) w) (HT : Tab w) : Calls Tryz.prog 13 #[.slice A n c] w fun e w'=>e = .returned (.tuple #[qV (H7 p),.int .i64 0]) ∧ A3 w w':=by
 have hBm:=K9
 have hpc : n ≤ c:=hn ▸ hp.2.1
 have hrf:=fun W (hg : A3 w W)=>A3M A p n c hn hpc (by omega) (fun x hx=>Nat.le_trans (hs x hx) (by omega)) W (hp.1.grow hg)
 rw [hr] at hrf
 have hdg:=fun W (hg : A3 w W)=>A2c A p n c hn hpc (by omega) (fun x hx=>Nat.le_trans (hs x hx) (by omega)) W (hp.1.grow hg)
 have hT1 : 1 ≤ trN p:=by
  unfold S5 at hr
  rcases Nat.eq_zero_or_pos (trN p) with h0 | h0
  ·rw [if_pos h0] at hr
   omega
  ·exact h0
 have hTn : trN p ≤ n:=by have := G4 p;omega
 obtain ⟨D,hD⟩ : ∃ D,D = trN p - 1:=⟨_,rfl⟩
 have e1 : (trN p : Int) - 1 = (D : Int):=by omega
 simp only [e1] at hdg
 have zt : qs (C1 p) ≤ s:=P8 hs (by omega)
 have hst : ∀ i,i < D → ∃ (b o : Nat) (ok : Bool),A = some ⟨b,o,none⟩ ∧ (∀ W,A3 w W → Cq W b (o + i * 5) (gq p i)) ∧ (∀ W,A3 w W → Cq W b (o + D * 5) (C1 p)) ∧ (∀ W,Tab W → Calls Tryz.prog 51 #[qV (gq p i),qV (C1 p)] W fun e w'=>e = .returned (.tuple #[qV (J4 p i),.bool ok]) ∧ A3 W w') ∧ (∀ W,Calls Tryz.prog 53 #[qV (J4 p i)] W fun e w'=>e = .returned (qV (H6 (J4 p i))) ∧ A3 W w') ∧ ∀ W,Calls Tryz.prog 52 #[qV (N3 (J4 p) i),qV (H6 (J4 p i))] W fun e w'=>e = .returned (qV (N3 (J4 p) (i + 1))) ∧ A3 W w':=fun i hi=>by
  obtain ⟨b,o,e⟩:=hp.1.addr (by omega)
  simp only at e
  subst e
  have zf : ∀ j,j < D → qs (J4 p j) ≤ 2 * s:=fun j hj=>by
   have h1:=P8 hs (i:=j) (by omega)
   have h2:=A4T (gq p j) (C1 p)
   unfold J4 J5
   omega
  have z1:=zf i hi
  have z2:=A5z (f:=J4 p) (n:=D) (s:=2 * s) (by omega) zf i (by omega)
  have z3:=A4s (J4 p i)
  have z4:=F8 (J4 p i)
  have z5:=P8 hs (i:=i) (by omega)
  refine ⟨b,o,nzq (C1 p),rfl,fun W hg=>(hp.1.grow hg).read (by omega),fun W hg=>?_,fun W hT=>A2v (a:=gq p i) (b:=C1 p) (w:=W) (by omega) hT,fun W=>A8g _ (by omega) W,fun W=>B3o _ _ (by omega) W⟩
  have h9:=(hp.1.grow hg).read (i:=trN p - 1) (by omega)
  rw [← hD] at h9
  unfold C1
  rw [← hD]
  exact h9
 have zL : qs (N3 (J4 p) D) ≤ 2 * s:=A5z (f:=J4 p) (n:=D) (s:=2 * s) (by omega) (fun j hj=>by
   have h1:=P8 hs (i:=j) (by omega)
   have h2:=A4T (gq p j) (C1 p)
   unfold J4 J5
   omega) D (Nat.le_refl _)
 have z1 : qs (A8 1) ≤ 1:=by decide
 have had:=fun (W : World) (hT : Tab W)=>A3Z (N3 (J4 p) D) (A8 1) W (by omega) hT
 have hb0 : N3 (J4 p) 0 = A8 0:=rfl
 unfold H7
 rw [← hD]
 obtain ⟨t,ht⟩ : ∃ t,t = C1 p:=⟨_,rfl⟩
 obtain ⟨f,hf⟩ : ∃ f,f = J4 p:=⟨_,rfl⟩
 rw [← hf] at hb0 ⊢
 simp only [← hf] at had
 simp only [← hf,← ht] at hst
 obtain ⟨G,hG9⟩ : ∃ G,G = N3 f:=⟨_,rfl⟩
 rw [← hG9] at hb0 ⊢
 simp only [← hG9] at had hst
 obtain ⟨Q,hQ⟩ : ∃ Q,Q = M4 (G D) (A8 1):=⟨_,rfl⟩
 rw [← hQ]
 simp only [← hQ] at had
 have hDn : D ≤ n ∧ D ≤ c:=by omega
 obtain ⟨h91,h92⟩:=hDn
 have Hrf:=Lib.hid hrf
 have Hdg:=Lib.hid hdg
 have Hst:=Lib.hid hst
 have Had:=Lib.hid had
 have Hb0:=Lib.hid hb0
 have HDn:=Lib.hid (show D < n by omega)
 clear hrf hdg hst had hb0 hD e1 zt zL z1 ht hf hG9 hQ hT1 hTn hr hs hp hn hs1 hB
 go_enter Tryz.func13,Tryz.ntmps13
 refine en1 ?_
 intro u hG b2 hB hF
 refine wp_seq ?_
 refine wp_seq (rsE C2 [0,1,0] hB hG fun L hL=>?_)
 refine gs ?_
 refine gmd (C:=fun v ⟨hgu,hB,hG,_⟩=>Hrf.out _ hG) ?_
 refine gs ?_
 refine geT hL ?_
 clear hB hG hL L
 rintro u ⟨-,hB,hG,-⟩
 refine r0T ?_
 refine wp_cond_false (rfl) ?_
 refine wp_skip ?_
 refine A4 ?_
 refine wp_seq (rsE C2 [0,1,0] hB hG fun L hL=>?_)
 refine gs ?_
 refine gmd (C:=fun v ⟨hgu,hB,hG,_⟩=>Hdg.out _ hG) ?_
 refine gs ?_
 refine geT hL ?_
 clear hB hG hL L
 rintro u ⟨-,hB,hG,-⟩
 refine wp_seq (rsC C2 [1,2] hB hG fun K L hN hL=>?_)
 refine gmw (C:=fun v=>O7 0 (by omega) (by omega) _) ?_
 refine gaa (N0 _ _ _ _ _) fun b6 hb6 hn6=>?_
 replace hF:=hF.n1 [] hB hG hb6 hn6
 refine geC hL ?_
 clear hB hG hL L
 rintro u ⟨⟨-,hB,hG,-⟩,h6⟩
 replace hB:=hB.cons' h6
 clear h6
 clear hb6 hn6
 refine gtT ?_
 clear hN K
 refine st hB hF hG 0 0 [_,_,_,_,_] ?_
 clear hB hG
 intro u hB hG
 refine wp_seq ?_
 refine wp_seq ?_
 have HF:=Lib.hid hF
 refine r0N ?_
 refine wp_block ?_
 clear hF
 go_loopw [24] (fun s0 wr=>∃ i : Nat,i ≤ D ∧ s0 = .int .i64 i ∧ Bx wr [(b6,39,G5 (G i)),(b2,39,#[.bool false,.int .u64 0,.string ⟨#[]⟩,.int .u64 0,.string ⟨#[]⟩])] ∧ A3 w wr) (fun s0 _=>D - (intOf s0).toNat)
 case atStart=>exact ⟨0,Nat.zero_le _,rfl,by rw [Hb0.out];exact hB,hG⟩
 case round =>
  clear hG hB
  obtain ⟨i,hi,rfl,hB,hG⟩:=hrel
  obtain ⟨u,rfl⟩ : ∃ x,x = wr:=⟨_,rfl⟩
  have hF:=HF.out
  rcases Nat.lt_or_ge i D with hlt | hge
  ·have hdec : decide ((i : Int) < (D : Int)) = true:=by simp;omega
   have hin : (i : Int) < (D : Int):=by omega
   have hDn : (D : Int) < (n : Int):=by have := HDn.out;omega
   obtain ⟨b,o,ok,rfl,hrd,hrt,hdv,hab,hmx⟩:=Hst.out i hlt
   obtain ⟨X,hX⟩ : ∃ X,X = gq p i:=⟨_,rfl⟩
   obtain ⟨F,hF9⟩ : ∃ X,X = f i:=⟨_,rfl⟩
   obtain ⟨Y,hY⟩ : ∃ X,X = H6 F:=⟨_,rfl⟩
   obtain ⟨G0,hG0⟩ : ∃ X,X = G i:=⟨_,rfl⟩
   obtain ⟨G1,hG1⟩ : ∃ X,X = G (i + 1):=⟨_,rfl⟩
   simp only [← hX] at hrd hdv
   simp only [← hF9] at hdv hab hmx
   simp only [← hY] at hab hmx
   simp only [← hG0,← hG1] at hmx
   rw [← hG0] at hB
   have HG1:=Lib.hid hG1
   have Hrd:=Lib.hid hrd
   have Hrt:=Lib.hid hrt
   have Hdv:=Lib.hid hdv
   have Hab:=Lib.hid hab
   have Hmx:=Lib.hid hmx
   clear hrd hrt hdv hab hmx hX hF9 hY hG0 hG1
   refine r0T ?_
   refine wp_seq ?_
   refine wp_cond_true (rfl) ?_
   refine wp_skip ?_
   refine A4 ?_
   refine wp_seq ?_
   refine wp_block ?_
   refine wp_seq (rsC C2 [0,0,2] hB hG fun K L hN hL=>?_)
   repeat first | refine gya ?_ | refine gyr ?_ | refine gna ?_ | refine gyb (by (rintro v ⟨hgu,hB,hG,-⟩ N hN;have r:=hB.r;simp only [BxR] at r;(first | obtain ⟨x1,x2,x3,x4,x5⟩:=Hrd.out v hG | skip);(first | obtain ⟨y1,y2,y3,y4,y5⟩:=Hrt.out v hG | skip);go_simp;exact hN)) ?_
   refine gaa (N0 _ _ _ _ _) fun b8 hb8 hn8=>?_
   replace hF:=hF.n1 [] hB hG hb8 hn8
   refine geC hL ?_
   clear hB hG hL L
   rintro u ⟨⟨-,hB,hG,-⟩,h8⟩
   replace hB:=hB.cons' h8
   clear h8
   clear hb8 hn8
   refine gtT ?_
   clear hN K
   refine st hB hF hG 0 0 [_,_,_,_,_] ?_
   clear hB hG
   intro u hB hG
   refine wp_seq (rdC C2 [8] [(0,0),(0,1),(0,2),(0,3),(0,4),(1,5),(0,6),(0,7),(0,8),(2,9)] hB hG fun K L hN hL=>?_)
   repeat first | refine gya ?_ | refine gyr ?_ | refine gna ?_ | refine gyb (by (rintro v ⟨hgu,hB,hG,-⟩ N hN;have r:=hB.r;simp only [BxR] at r;(first | obtain ⟨x1,x2,x3,x4,x5⟩:=Hrd.out v hG | skip);(first | obtain ⟨y1,y2,y3,y4,y5⟩:=Hrt.out v hG | skip);go_simp;exact hN)) ?_
   refine gmd (C:=fun v ⟨hgu,hB,hG,_⟩=>Hdv.out _ (HT.grow hG)) ?_
   refine gs ?_
   refine gaa (N0 _ _ _ _ _) fun b9 hb9 hn9=>?_
   replace hF:=hF.n1 [] hB hG hb9 hn9
   refine geC hL ?_
   clear hB hG hL L
   rintro u ⟨⟨-,hB,hG,-⟩,h9⟩
   replace hB:=hB.cons' h9
   clear h9
   clear hb9 hn9
   refine gtT ?_
   clear hN K
   refine st hB hF hG 0 0 [_,_,_,_,_] ?_
   clear hB hG
   intro u hB hG
   refine rdC C2 [] [(0,0),(0,1),(1,2),(1,3)] hB hG fun K L hN hL=>?_
   repeat first | refine gya ?_ | refine gyr ?_ | refine gna ?_ | refine gyb (by (rintro v ⟨hgu,hB,hG,-⟩ N hN;have r:=hB.r;simp only [BxR] at r;(first | obtain ⟨x1,x2,x3,x4,x5⟩:=Hrd.out v hG | skip);(first | obtain ⟨y1,y2,y3,y4,y5⟩:=Hrt.out v hG | skip);go_simp;exact hN)) ?_
   refine gmw (C:=fun v=>Hab.out _) ?_
   refine gmw (C:=fun v=>Hmx.out _) ?_
   refine geC hL ?_
   clear hB hG hL L
   rintro u ⟨-,hB,hG,-⟩
   refine gt ?_
   clear hN K
   refine st hB hF hG 2 0 [_,_,_,_,_] ?_
   clear hB hG
   intro u hB hG
   refine F0 ?_
   refine A4 ?_
   refine r0E ?_
   refine A4 ?_
   go_roundw
   case rel=>exact ⟨i + 1,by omega,by go_num,by rw [← HG1.out];exact hB.tail.tail,hG⟩
   case measure=>simp [intOf];omega
  ·obtain rfl : D = i:=by omega
   have hdec : decide ((D : Int) < (D : Int)) = false:=by simp
   obtain ⟨G0,hG0⟩ : ∃ X,X = G D:=⟨_,rfl⟩
   have had:=Had.out
   simp only [← hG0] at had
   rw [← hG0] at hB
   have Had2:=Lib.hid had
   clear hge hi had hG0
   refine r0T ?_
   refine wp_seq ?_
   refine wp_cond_false (rfl) ?_
   refine wp_exit ?_
   refine D7 ?_
   refine D7 ?_
   refine G8 ?_
   refine A4 ?_
   refine wp_seq (rdC C2 [] [(0,0),(1,1),(1,2)] hB hG fun K L hN hL=>?_)
   refine gs ?_
   refine gmw (C:=fun v=>O7 1 (by omega) (by omega) _) ?_
   refine gmd (C:=fun v ⟨hgu,hB,hG,_⟩=>Had2.out _ (HT.grow hG)) ?_
   refine geC hL ?_
   clear hB hG hL L
   rintro u ⟨-,hB,hG,-⟩
   refine gtT ?_
   clear hN K
   refine st hB hF hG 1 0 [_,_,_,_,_] ?_
   clear hB hG
   intro u hB hG
   refine rt Tryz.results13 ?_
   exact ⟨rfl,hG⟩
end Go.Proofs.YtlkniebmjdoopaaGreatDoor
