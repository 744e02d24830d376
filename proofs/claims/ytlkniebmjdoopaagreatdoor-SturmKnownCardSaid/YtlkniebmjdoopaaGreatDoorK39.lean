/- Contracts and laws. -/
import Derived.Test.YtlkniebmjdoopaaGreatDoorK38
import Derived.Deep.LoopGhost
set_option linter.unusedSimpArgs false
set_option linter.unusedVariables false
set_option maxHeartbeats 16000000
set_option maxRecDepth 100000
namespace Go.Proofs.YtlkniebmjdoopaaGreatDoor
open Go Go.RowKit
abbrev F9 (F : FuncId) (args : Array Value) (W : World) (v : Int) : Prop:=Calls Tryz.prog F args W fun e w'=>e = .returned (.int .i64 v) ∧ A3 W w'
abbrev F5 (F : FuncId) (args : Array Value) (W : World) (v : Value) : Prop:=Calls Tryz.prog F args W fun e w'=>e = .returned v ∧ A3 W w'
abbrev W7 (s : Rat × Rat) : Array Value:=#[.bool (D1 s.1.num),.int .u64 (B3 s.1.num.natAbs),.string (B1 s.1.num.natAbs),.int .u64 (B3 (G3 s.1.den)),.string (B1 (G3 s.1.den)),.bool (D1 s.2.num),.int .u64 (B3 s.2.num.natAbs),.string (B1 s.2.num.natAbs),.int .u64 (B3 (G3 s.2.den)),.string (B1 (G3 s.2.den))]
theorem B6m : W7 (0,0) = #[.bool false,.int .u64 0,.string ⟨#[]⟩,.int .u64 0,.string ⟨#[]⟩,.bool false,.int .u64 0,.string ⟨#[]⟩,.int .u64 0,.string ⟨#[]⟩]:=by kernel_rfl
theorem B2R (A : Option Addr) (c n N : Nat) (Ps : List (List Rat)) (lo hi d : Rat) (SB I : Int) (hSB : 0 < SB) (hI : (I != 1) = true) (w : World) (HT : Tab w) (hrf : ∀ W,A3 w W → F9 50 #[.slice A n c] W 0) (hsg : ∀ W,F9 21 #[qV d] W SB)
  (hsi : ∀ W,A3 w W → Calls Tryz.prog 48 #[.slice A n c] W (I4 Ps N W)) (hin : ∀ W (y : Ax),RW Ps y.1 W → Tab W → F9 55 #[.slice y.1 N y.2,spV lo hi] W I) : F5 36 #[.slice A n c,spV lo hi,qV d] w (.tuple #[spV 0 0,.int .i64 1]):=by
 have f20 : decide (SB ≤ 0) = false:=decide_eq_false (by omega)
 unfold I4 at hsi
 have Hrf:=Lib.hid hrf
 have Hsg:=Lib.hid hsg
 have Hsi:=Lib.hid hsi
 have Hin:=Lib.hid hin
 clear hrf hsg hsi hin
 go_enter Tryz.func36,Tryz.ntmps36
 refine en3 ?_
 intro u hG b6 b5 b4 hB hF
 refine wp_seq ?_
 refine wp_seq (rsE C2 [0,1,0] hB hG fun L hL=>?_)
 refine gs ?_
 refine gmd (C:=fun v ⟨hgu,hB,hG,_⟩=>Hrf.out _ hG) ?_
 refine gs ?_
 refine geT hL ?_
 clear hB hG hL L
 rintro u ⟨-,hB,hG,-⟩
 refine r0T ?_
 refine wp_cond_false (rfl) ?_
 refine wp_skip ?_
 refine A4 ?_
 refine wp_seq ?_
 refine wp_seq (rdC C2 [] [(0,0),(1,1),(0,2),(0,3),(0,4),(0,6),(1,5),(1,7),(0,8)] hB hG fun K L hN hL=>?_)
 refine gs ?_
 refine gmw (C:=fun v=>Hsg.out _) ?_
 refine gs ?_
 refine gxd (X:=Ax) (fun y : Ax=>.slice y.1 N y.2) (fun y W=>RW Ps y.1 W ∧ N ≤ y.2) (fun x u u' hg h=>⟨h.1.grow hg,h.2⟩) (fun x22=>?_) (C:=by (rintro v ⟨hgu,hB,hG,-⟩;exact Hsi.out _ hG))
 first | refine gmd (C:=fun v ⟨⟨hgu,hB,hG,_⟩,hx22⟩=>Hin.out _ x22 hx22.1 (HT.grow hG)) ?_ | refine G7 ?_
 refine gs ?_
 refine geC hL ?_
 clear hB hG hL L
 rintro u ⟨⟨-,hB,hG,-⟩,hx22⟩
 refine gtT ?_
 clear hN K
 refine wp_cond_true (rfl) ?_
 refine r0T ?_
 refine st hB hF hG 2 0 [_,_,_,_,_,_,_,_,_,_] ?_
 clear hB hG
 intro u hB hG
 refine rt Tryz.results36 ?_
 exact ⟨by kernel_rfl,hG⟩
theorem B3O (A : Option Addr) (c n N : Nat) (f : List Rat) (Ps : List (List Rat)) (s : Nat → Rat × Rat) (D : Nat → Rat) (K : Nat) (d : Rat) (SB side : Int) (hSB : 0 < SB) (w : World) (HT : Tab w) (hrf : ∀ W,A3 w W → F9 50 #[.slice A n c] W 0) (hsg : ∀ W,F9 21 #[qV d] W SB)
  (hsi : ∀ W,A3 w W → Calls Tryz.prog 48 #[.slice A n c] W (I4 Ps N W)) (hin : ∀ W (y : Ax),RW Ps y.1 W → Tab W → F9 55 #[.slice y.1 N y.2,spV (s 0).1 (s 0).2] W 1) (hfr : ∀ W,A3 w W → Calls Tryz.prog 95 #[.slice A n c] W (E7 f W)) (hab : ∀ W (x : Ax),PR f x W → Tab W → F9 96 #[.slice x.1 f.length x.2,qV (s 0).1] W side)
  (hsb : ∀ k,k ≤ K → ∀ W,Tab W → F5 97 #[qV (s k).2,qV (s k).1] W (qV (D k))) (hcm : ∀ k,k ≤ K → ∃ C : Int,(0 < C ↔ k < K) ∧ ∀ W,F9 18 #[qV (D k),qV d] W C) (hhf : ∀ k,k < K → ∀ W (x : Ax),PR f x W → Tab W → F5 98 #[.slice x.1 f.length x.2,.int .i64 side,spV (s k).1 (s k).2] W (spV (s (k + 1)).1 (s (k + 1)).2)) : F5 36 #[.slice A n c,spV (s 0).1 (s 0).2,qV d] w (.tuple #[spV (s K).1 (s K).2,.int .i64 0]):=by
 have f20 : decide (SB ≤ 0) = false:=decide_eq_false (by omega)
 unfold I4 at hsi
 unfold E7 at hfr
 obtain ⟨nf,hnf⟩ : ∃ n,n = f.length:=⟨_,rfl⟩
 simp only [← hnf] at hfr hab hhf
 obtain ⟨S0,hS0⟩ : ∃ S,S = s 0:=⟨_,rfl⟩
 simp only [← hS0] at hin hab ⊢
 obtain ⟨lo,hi⟩:=S0
 simp only at hin hab ⊢
 have Hrf:=Lib.hid hrf
 have Hsg:=Lib.hid hsg
 have Hsi:=Lib.hid hsi
 have Hin:=Lib.hid hin
 have Hfr:=Lib.hid hfr
 have Hab:=Lib.hid hab
 have Hsb:=Lib.hid hsb
 have Hcm:=Lib.hid hcm
 have Hhf:=Lib.hid hhf
 have HS0:=Lib.hid hS0
 clear hrf hsg hsi hin hfr hab hsb hcm hhf hS0 hnf
 go_enter Tryz.func36,Tryz.ntmps36
 refine en3 ?_
 intro u hG b6 b5 b4 hB hF
 refine wp_seq ?_
 refine wp_seq (rsE C2 [0,1,0] hB hG fun L hL=>?_)
 refine gs ?_
 refine gmd (C:=fun v ⟨hgu,hB,hG,_⟩=>Hrf.out _ hG) ?_
 refine gs ?_
 refine geT hL ?_
 clear hB hG hL L
 rintro u ⟨-,hB,hG,-⟩
 refine r0T ?_
 refine wp_cond_false (rfl) ?_
 refine wp_skip ?_
 refine A4 ?_
 refine wp_seq ?_
 refine wp_seq (rdC C2 [] [(0,0),(1,1),(0,2),(0,3),(0,4),(0,6),(1,5),(1,7),(0,8)] hB hG fun K L hN hL=>?_)
 refine gs ?_
 refine gmw (C:=fun v=>Hsg.out _) ?_
 refine gs ?_
 refine gxd (X:=Ax) (fun y : Ax=>.slice y.1 N y.2) (fun y W=>RW Ps y.1 W ∧ N ≤ y.2) (fun x u u' hg h=>⟨h.1.grow hg,h.2⟩) (fun x22=>?_) (C:=by (rintro v ⟨hgu,hB,hG,-⟩;exact Hsi.out _ hG))
 first | refine gmd (C:=fun v ⟨⟨hgu,hB,hG,_⟩,hx22⟩=>Hin.out _ x22 hx22.1 (HT.grow hG)) ?_ | refine G7 ?_
 refine gs ?_
 refine geC hL ?_
 clear hB hG hL L
 rintro u ⟨⟨hgu,hB,hG,-⟩,hx22⟩
 clear hx22
 clear hgu
 refine gtT ?_
 clear hN K
 refine wp_cond_false (rfl) ?_
 refine wp_skip ?_
 refine A4 ?_
 refine wp_seq (rsE C2 [0,1,0] hB hG fun L hL=>?_)
 refine gs ?_
 refine gxd (X:=Ax) (fun x : Ax=>.slice x.1 nf x.2) (fun x W=>PR f x W) (fun x u u' hg h=>h.grow hg) (fun x29=>?_) (C:=by (rintro v ⟨hgu,hB,hG,-⟩;exact Hfr.out _ hG))
 refine gs ?_
 refine geT hL ?_
 clear hB hG hL L
 rintro u ⟨⟨hgu,hB,hG,-⟩,hx29⟩
 have HP:=Lib.hid hx29
 clear hx29
 clear hgu
 refine wp_seq (rsE C2 [0,0,0,1,0] hB hG fun L hL=>?_)
 refine gs ?_
 refine gmd (C:=fun v ⟨hgu,hB,hG,_⟩=>Hab.out _ x29 (HP.out.grow hgu) (HT.grow hG)) ?_
 refine gs ?_
 refine geT hL ?_
 clear hB hG hL L
 rintro u ⟨hgu,hB,hG,-⟩
 have HP2:=Lib.hid (HP.out.grow hgu)
 clear HP
 have HP:=HP2
 clear HP2
 clear hgu
 refine wp_seq ?_
 refine wp_block ?_
 have HF:=Lib.hid hF
 clear hF
 go_loopg [] K (fun k wr=>∃ i : Nat,i + k = K ∧ Bx wr [(b4,48,W7 (s i)),(b5,39,G5 d),(b6,48,W7 (0,0))] ∧ PR f x29 wr ∧ A3 w wr)
 case atStart=>exact ⟨0,Nat.zero_add _,by rw [← HS0.out,B6m];exact hB,HP.out,hG⟩
 case round =>
  clear hG hB HP
  obtain ⟨i,hi,hB,hp,hG⟩:=hrel
  have HP:=Lib.hid hp
  clear hp
  obtain ⟨u,rfl⟩ : ∃ x,x = wr:=⟨_,rfl⟩
  have hF:=HF.out
  obtain ⟨C,hC,hcm⟩:=Hcm.out i (by omega)
  have hsb:=Hsb.out i (by omega)
  obtain ⟨Si,hSi⟩ : ∃ S,S = s i:=⟨_,rfl⟩
  obtain ⟨Di,hDi⟩ : ∃ S,S = D i:=⟨_,rfl⟩
  simp only [← hSi,← hDi] at hsb
  simp only [← hDi] at hcm
  rw [← hSi] at hB
  obtain ⟨l1,r1⟩:=Si
  simp only at hsb
  have Hsb1:=Lib.hid hsb
  have Hcm1:=Lib.hid hcm
  have Hi:=Lib.hid hi
  clear hsb hcm hDi
  rcases Nat.eq_zero_or_pos gk with h0 | h0
  ·have f41 : decide (C > 0) = false:=decide_eq_false (fun h=>by have := hC.1 h;omega)
   have HSi:=Lib.hid hSi
   have hiK : i = K:=by omega
   have HiK:=Lib.hid hiK
   clear hC h0 hi hSi hiK
   refine wp_seq ?_
   refine wp_seq (rdC C2 [] [(0,0),(0,1),(0,2),(0,3),(0,5),(1,4),(1,6)] hB hG fun K L hN hL=>?_)
   refine gs ?_
   refine gmd (C:=fun v ⟨hgu,hB,hG,_⟩=>Hsb1.out _ (HT.grow hG)) ?_
   refine gmw (C:=fun v=>Hcm1.out _) ?_
   refine geC hL ?_
   clear hB hG hL L
   rintro u ⟨hgu,hB,hG,-⟩
   have HP2:=Lib.hid (HP.out.grow hgu)
   clear HP
   have HP:=HP2
   clear HP2
   clear hgu
   refine gtT ?_
   clear hN K
   refine wp_cond_false (rfl) ?_
   refine wp_exit ?_
   refine D7 ?_
   refine D7 ?_
   refine G8 ?_
   refine A4 ?_
   refine r0T ?_
   refine st hB hF hG 2 0 [_,_,_,_,_,_,_,_,_,_] ?_
   clear hB hG
   intro u hB hG
   refine rt Tryz.results36 ?_
   exact ⟨by rw [← HiK.out,← HSi.out],hG⟩
  ·have f41 : decide (C > 0) = true:=decide_eq_true (hC.2 (by omega))
   have hhf:=Hhf.out i (by omega)
   simp only [← hSi] at hhf
   obtain ⟨S2,hS2⟩ : ∃ S,S = s (i + 1):=⟨_,rfl⟩
   simp only [← hS2] at hhf
   obtain ⟨l2,r2⟩:=S2
   simp only at hhf
   have Hhf1:=Lib.hid hhf
   have HS2:=Lib.hid hS2
   have Hg:=Lib.hid h0
   clear hC hi hhf hSi hS2 h0
   refine wp_seq ?_
   refine wp_seq (rdC C2 [] [(0,0),(0,1),(0,2),(0,3),(0,5),(1,4),(1,6)] hB hG fun K L hN hL=>?_)
   refine gs ?_
   refine gmd (C:=fun v ⟨hgu,hB,hG,_⟩=>Hsb1.out _ (HT.grow hG)) ?_
   refine gmw (C:=fun v=>Hcm1.out _) ?_
   refine geC hL ?_
   clear hB hG hL L
   rintro u ⟨hgu,hB,hG,-⟩
   have HP2:=Lib.hid (HP.out.grow hgu)
   clear HP
   have HP:=HP2
   clear HP2
   clear hgu
   refine gtT ?_
   clear hN K
   refine wp_cond_true (rfl) ?_
   refine wp_skip ?_
   refine A4 ?_
   refine wp_block ?_
   refine rsC C2 [0,0,0,1] hB hG fun K L hN hL=>?_
   refine gs ?_
   refine gmd (C:=fun v ⟨hgu,hB,hG,_⟩=>Hhf1.out _ x29 (HP.out.grow hgu) (HT.grow hG)) ?_
   refine geC hL ?_
   clear hB hG hL L
   rintro u ⟨hgu,hB,hG,-⟩
   have HP2:=Lib.hid (HP.out.grow hgu)
   clear HP
   have HP:=HP2
   clear HP2
   clear hgu
   refine gt ?_
   clear hN K
   have hb4:=hB.head
   refine sv hB hF hG 0 0 [_,_,_,_,_,_,_,_,_,_] ?_
   intro u2 hu hBG
   have HP2:=Lib.hid (HP.out.put hb4 (by decide) hu)
   clear hB hG hu HP hb4
   obtain ⟨hB,hG⟩:=hBG
   have HP:=HP2
   clear HP2
   obtain ⟨u,rfl⟩ : ∃ x,x = u2:=⟨_,rfl⟩
   refine F0 ?_
   refine A4 ?_
   go_step
   go_roundg (gk - 1)
   case rel=>exact ⟨i + 1,by have := Hi.out;have := Hg.out;omega,by rw [← HS2.out];exact hB,HP.out,hG⟩
   case measure=>have := Hg.out;omega
theorem B37 (A B : Option Addr) (c n N d nq Ng : Nat) (f g : List Rat) (Ps Gs : List (List Rat)) (lo hi : Rat) (DQ I : Int) (hDQ : 0 ≤ DQ ∧ DQ ≤ 24) (hI : 0 < I) (w : World) (HT : Tab w) (hrf : ∀ W,A3 w W → F9 50 #[.slice A n c] W 0) (hdq : ∀ W,A3 w W → F9 11 #[.slice B nq d] W DQ)
  (hsi : ∀ W,A3 w W → Calls Tryz.prog 48 #[.slice A n c] W (I4 Ps N W)) (hin : ∀ W (y : Ax),RW Ps y.1 W → Tab W → F9 55 #[.slice y.1 N y.2,spV lo hi] W 1) (hfr : ∀ W,A3 w W → Calls Tryz.prog 95 #[.slice A n c] W (E7 f W)) (hgc : ∀ W (x : Ax),A3 w W → PR f x W → Calls Tryz.prog 104 #[.slice x.1 f.length x.2,.slice B nq d] W (E7 g W))
  (hsg : ∀ W (x : Ax),PR g x W → Tab W → Calls Tryz.prog 48 #[.slice x.1 g.length x.2] W (I4 Gs Ng W)) (hi2 : ∀ W (y : Ax),RW Gs y.1 W → Tab W → F9 55 #[.slice y.1 Ng y.2,spV lo hi] W I) : F5 40 #[.slice A n c,spV lo hi,.slice B nq d] w (.tuple #[.int .i64 0,.int .i64 0]):=by
 have f19 : decide (DQ > 24) = false:=decide_eq_false (by omega)
 have f29 : decide (DQ < 0) = false:=decide_eq_false (by omega)
 have f38 : decide (I > 0) = true:=decide_eq_true hI
 unfold I4 at hsi hsg
 unfold E7 at hfr hgc
 obtain ⟨nf,hnf⟩ : ∃ n,n = f.length:=⟨_,rfl⟩
 simp only [← hnf] at hfr hgc
 obtain ⟨ng,hng⟩ : ∃ n,n = g.length:=⟨_,rfl⟩
 simp only [← hng] at hgc hsg
 have Hrf:=Lib.hid hrf
 have Hdq:=Lib.hid hdq
 have Hsi:=Lib.hid hsi
 have Hin:=Lib.hid hin
 have Hfr:=Lib.hid hfr
 have Hgc:=Lib.hid hgc
 have Hsg:=Lib.hid hsg
 have Hi2:=Lib.hid hi2
 clear hrf hdq hsi hin hfr hgc hsg hi2 hnf hng
 go_enter Tryz.func40,Tryz.ntmps40
 refine en1 ?_
 intro u hG b4 hB hF
 refine wp_seq ?_
 refine wp_seq (rsE C2 [0,1,0] hB hG fun L hL=>?_)
 refine gs ?_
 refine gmd (C:=fun v ⟨hgu,hB,hG,_⟩=>Hrf.out _ hG) ?_
 refine gs ?_
 refine geT hL ?_
 clear hB hG hL L
 rintro u ⟨-,hB,hG,-⟩
 refine r0T ?_
 refine wp_cond_false (rfl) ?_
 refine wp_skip ?_
 refine A4 ?_
 refine wp_seq ?_
 refine wp_seq (rdC C2 [] [(0,0),(1,1),(0,2),(0,3),(0,4),(0,6),(1,5),(1,7),(0,8)] hB hG fun K L hN hL=>?_)
 refine gs ?_
 refine gmd (C:=fun v ⟨hgu,hB,hG,_⟩=>Hdq.out _ hG) ?_
 refine gs ?_
 refine gxd (X:=Ax) (fun y : Ax=>.slice y.1 N y.2) (fun y W=>RW Ps y.1 W ∧ N ≤ y.2) (fun x u u' hg h=>⟨h.1.grow hg,h.2⟩) (fun x22=>?_) (C:=by (rintro v ⟨hgu,hB,hG,-⟩;exact Hsi.out _ hG))
 first | refine gmd (C:=fun v ⟨⟨hgu,hB,hG,_⟩,hx22⟩=>Hin.out _ x22 hx22.1 (HT.grow hG)) ?_ | refine G7 ?_
 refine gs ?_
 refine geC hL ?_
 clear hB hG hL L
 rintro u ⟨⟨hgu,hB,hG,-⟩,hx22⟩
 clear hx22
 clear hgu
 refine gtT ?_
 clear hN K
 refine wp_cond_false (rfl) ?_
 refine wp_skip ?_
 refine A4 ?_
 refine wp_seq ?_
 refine wp_seq (rsE C2 [0,1,0] hB hG fun L hL=>?_)
 refine gs ?_
 refine gmd (C:=fun v ⟨hgu,hB,hG,_⟩=>Hdq.out _ hG) ?_
 refine gs ?_
 refine geT hL ?_
 clear hB hG hL L
 rintro u ⟨-,hB,hG,-⟩
 refine wp_cond_false (rfl) ?_
 refine wp_skip ?_
 refine A4 ?_
 refine wp_seq (rsE C2 [0,1,0] hB hG fun L hL=>?_)
 refine gs ?_
 refine gxd (X:=Ax) (fun x : Ax=>.slice x.1 nf x.2) (fun x W=>PR f x W) (fun x u u' hg h=>h.grow hg) (fun x31=>?_) (C:=by (rintro v ⟨hgu,hB,hG,-⟩;exact Hfr.out _ hG))
 refine gs ?_
 refine geT hL ?_
 clear hB hG hL L
 rintro u ⟨⟨hgu,hB,hG,-⟩,hx31⟩
 have HP:=Lib.hid hx31
 clear hx31
 clear hgu
 refine wp_seq ?_
 refine wp_seq (rdC C2 [] [(0,0),(0,1),(0,4),(1,2),(1,3),(1,5)] hB hG fun K L hN hL=>?_)
 refine gs ?_
 refine gxd (X:=Ax) (fun x : Ax=>.slice x.1 ng x.2) (fun x W=>PR g x W) (fun x u u' hg h=>h.grow hg) (fun x34=>?_) (C:=by (rintro v ⟨hgu,hB,hG,-⟩;exact Hgc.out _ x31 hG (HP.out.grow hgu)))
 refine gxd (X:=Ax) (fun y : Ax=>.slice y.1 Ng y.2) (fun y W=>RW Gs y.1 W ∧ Ng ≤ y.2) (fun x u u' hg h=>⟨h.1.grow hg,h.2⟩) (fun x35=>?_) (C:=by (rintro v ⟨⟨hgu,hB,hG,-⟩,hx34⟩;exact Hsg.out _ x34 hx34 (HT.grow hG)))
 refine gmd (C:=fun v ⟨⟨⟨hgu,hB,hG,_⟩,hx34⟩,hx35⟩=>Hi2.out _ x35 hx35.1 (HT.grow hG)) ?_
 refine geC hL ?_
 clear hB hG hL L
 rintro u ⟨⟨⟨hgu,hB,hG,-⟩,hx34⟩,hx35⟩
 clear hx34 hx35 HP
 clear hgu
 refine gtT ?_
 clear hN K
 refine wp_cond_true (rfl) ?_
 refine r0T ?_
 refine rt Tryz.results40 ?_
 exact ⟨rfl,hG⟩
theorem B0q (A B : Option Addr) (c n N d nq Ng Nq : Nat) (f g q : List Rat) (Ps Gs Qs : List (List Rat)) (s : Nat → Rat × Rat) (J : Nat → Int) (K : Nat) (DQ I side R : Int) (V : Rat) (hDQ : 0 ≤ DQ ∧ DQ ≤ 24) (hI : ¬ 0 < I) (w : World) (HT : Tab w) (hrf : ∀ W,A3 w W → F9 50 #[.slice A n c] W 0) (hdq : ∀ W,A3 w W → F9 11 #[.slice B nq d] W DQ)
  (hsi : ∀ W,A3 w W → Calls Tryz.prog 48 #[.slice A n c] W (I4 Ps N W)) (hin : ∀ W (y : Ax),RW Ps y.1 W → Tab W → F9 55 #[.slice y.1 N y.2,spV (s 0).1 (s 0).2] W 1) (hfr : ∀ W,A3 w W → Calls Tryz.prog 95 #[.slice A n c] W (E7 f W)) (hgc : ∀ W (x : Ax),A3 w W → PR f x W → Calls Tryz.prog 104 #[.slice x.1 f.length x.2,.slice B nq d] W (E7 g W))
  (hsg : ∀ W (x : Ax),PR g x W → Tab W → Calls Tryz.prog 48 #[.slice x.1 g.length x.2] W (I4 Gs Ng W)) (hi2 : ∀ W (y : Ax),RW Gs y.1 W → Tab W → F9 55 #[.slice y.1 Ng y.2,spV (s 0).1 (s 0).2] W I)
  (hab : ∀ W (x : Ax),PR f x W → Tab W → F9 96 #[.slice x.1 f.length x.2,qV (s 0).1] W side) (hsq : ∀ W,A3 w W → Calls Tryz.prog 48 #[.slice B nq d] W (I4 Qs Nq W)) (hiq : ∀ k,k ≤ K → ∀ W (y : Ax),RW Qs y.1 W → Tab W → F9 55 #[.slice y.1 Nq y.2,spV (s k).1 (s k).2] W (J k)) (hJ : ∀ k,k ≤ K → (0 < J k ↔ k < K))
  (hhf : ∀ k,k < K → ∀ W (x : Ax),PR f x W → Tab W → F5 98 #[.slice x.1 f.length x.2,.int .i64 side,spV (s k).1 (s k).2] W (spV (s (k + 1)).1 (s (k + 1)).2)) (hat : ∀ W,A3 w W → F5 20 #[.slice B nq d,qV (s K).2] W (qV V)) (hsV : ∀ W,F9 21 #[qV V] W R) : F5 40 #[.slice A n c,spV (s 0).1 (s 0).2,.slice B nq d] w (.tuple #[.int .i64 R,.int .i64 0]):=by
 have f19 : decide (DQ > 24) = false:=decide_eq_false (by omega)
 have f29 : decide (DQ < 0) = false:=decide_eq_false (by omega)
 have f38 : decide (I > 0) = false:=decide_eq_false hI
 clear hI
 unfold I4 at hsi hsg hsq
 unfold E7 at hfr hgc
 obtain ⟨nf,hnf⟩ : ∃ n,n = f.length:=⟨_,rfl⟩
 simp only [← hnf] at hfr hgc hab hhf
 obtain ⟨ng,hng⟩ : ∃ n,n = g.length:=⟨_,rfl⟩
 simp only [← hng] at hgc hsg
 obtain ⟨S0,hS0⟩ : ∃ S,S = s 0:=⟨_,rfl⟩
 simp only [← hS0] at hin hi2 hab ⊢
 obtain ⟨lo,hi⟩:=S0
 simp only at hin hi2 hab ⊢
 have Hrf:=Lib.hid hrf
 have Hdq:=Lib.hid hdq
 have Hsi:=Lib.hid hsi
 have Hin:=Lib.hid hin
 have Hfr:=Lib.hid hfr
 have Hgc:=Lib.hid hgc
 have Hsg:=Lib.hid hsg
 have Hi2:=Lib.hid hi2
 have Hab:=Lib.hid hab
 have Hsq:=Lib.hid hsq
 have Hiq:=Lib.hid hiq
 have HJ:=Lib.hid hJ
 have Hhf:=Lib.hid hhf
 have Hat:=Lib.hid hat
 have HsV:=Lib.hid hsV
 have HS0:=Lib.hid hS0
 clear hrf hdq hsi hin hfr hgc hsg hi2 hab hsq hiq hJ hhf hat hsV hS0 hnf hng
 go_enter Tryz.func40,Tryz.ntmps40
 refine en1 ?_
 intro u hG b4 hB hF
 refine wp_seq ?_
 refine wp_seq (rsE C2 [0,1,0] hB hG fun L hL=>?_)
 refine gs ?_
 refine gmd (C:=fun v ⟨hgu,hB,hG,_⟩=>Hrf.out _ hG) ?_
 refine gs ?_
 refine geT hL ?_
 clear hB hG hL L
 rintro u ⟨-,hB,hG,-⟩
 refine r0T ?_
 refine wp_cond_false (rfl) ?_
 refine wp_skip ?_
 refine A4 ?_
 refine wp_seq ?_
 refine wp_seq (rdC C2 [] [(0,0),(1,1),(0,2),(0,3),(0,4),(0,6),(1,5),(1,7),(0,8)] hB hG fun K L hN hL=>?_)
 refine gs ?_
 refine gmd (C:=fun v ⟨hgu,hB,hG,_⟩=>Hdq.out _ hG) ?_
 refine gs ?_
 refine gxd (X:=Ax) (fun y : Ax=>.slice y.1 N y.2) (fun y W=>RW Ps y.1 W ∧ N ≤ y.2) (fun x u u' hg h=>⟨h.1.grow hg,h.2⟩) (fun x22=>?_) (C:=by (rintro v ⟨hgu,hB,hG,-⟩;exact Hsi.out _ hG))
 first | refine gmd (C:=fun v ⟨⟨hgu,hB,hG,_⟩,hx22⟩=>Hin.out _ x22 hx22.1 (HT.grow hG)) ?_ | refine G7 ?_
 refine gs ?_
 refine geC hL ?_
 clear hB hG hL L
 rintro u ⟨⟨hgu,hB,hG,-⟩,hx22⟩
 clear hx22
 clear hgu
 refine gtT ?_
 clear hN K
 refine wp_cond_false (rfl) ?_
 refine wp_skip ?_
 refine A4 ?_
 refine wp_seq ?_
 refine wp_seq (rsE C2 [0,1,0] hB hG fun L hL=>?_)
 refine gs ?_
 refine gmd (C:=fun v ⟨hgu,hB,hG,_⟩=>Hdq.out _ hG) ?_
 refine gs ?_
 refine geT hL ?_
 clear hB hG hL L
 rintro u ⟨-,hB,hG,-⟩
 refine wp_cond_false (rfl) ?_
 refine wp_skip ?_
 refine A4 ?_
 refine wp_seq (rsE C2 [0,1,0] hB hG fun L hL=>?_)
 refine gs ?_
 refine gxd (X:=Ax) (fun x : Ax=>.slice x.1 nf x.2) (fun x W=>PR f x W) (fun x u u' hg h=>h.grow hg) (fun x31=>?_) (C:=by (rintro v ⟨hgu,hB,hG,-⟩;exact Hfr.out _ hG))
 refine gs ?_
 refine geT hL ?_
 clear hB hG hL L
 rintro u ⟨⟨hgu,hB,hG,-⟩,hx31⟩
 have HP:=Lib.hid hx31
 clear hx31
 clear hgu
 refine wp_seq ?_
 refine wp_seq (rdC C2 [] [(0,0),(0,1),(0,4),(1,2),(1,3),(1,5)] hB hG fun K L hN hL=>?_)
 refine gs ?_
 refine gxd (X:=Ax) (fun x : Ax=>.slice x.1 ng x.2) (fun x W=>PR g x W) (fun x u u' hg h=>h.grow hg) (fun x34=>?_) (C:=by (rintro v ⟨hgu,hB,hG,-⟩;exact Hgc.out _ x31 hG (HP.out.grow hgu)))
 refine gxd (X:=Ax) (fun y : Ax=>.slice y.1 Ng y.2) (fun y W=>RW Gs y.1 W ∧ Ng ≤ y.2) (fun x u u' hg h=>⟨h.1.grow hg,h.2⟩) (fun x35=>?_) (C:=by (rintro v ⟨⟨hgu,hB,hG,-⟩,hx34⟩;exact Hsg.out _ x34 hx34 (HT.grow hG)))
 refine gmd (C:=fun v ⟨⟨⟨hgu,hB,hG,_⟩,hx34⟩,hx35⟩=>Hi2.out _ x35 hx35.1 (HT.grow hG)) ?_
 refine geC hL ?_
 clear hB hG hL L
 rintro u ⟨⟨⟨hgu,hB,hG,-⟩,hx34⟩,hx35⟩
 clear hx34 hx35
 have HP2:=Lib.hid (HP.out.grow hgu)
 clear HP
 have HP:=HP2
 clear HP2
 clear hgu
 refine gtT ?_
 clear hN K
 refine wp_cond_false (rfl) ?_
 refine wp_skip ?_
 refine A4 ?_
 refine wp_seq (rsE C2 [0,0,0,1,0] hB hG fun L hL=>?_)
 refine gs ?_
 refine gmd (C:=fun v ⟨hgu,hB,hG,_⟩=>Hab.out _ x31 (HP.out.grow hgu) (HT.grow hG)) ?_
 refine gs ?_
 refine geT hL ?_
 clear hB hG hL L
 rintro u ⟨hgu,hB,hG,-⟩
 have HP2:=Lib.hid (HP.out.grow hgu)
 clear HP
 have HP:=HP2
 clear HP2
 clear hgu
 refine wp_seq (rsE C2 [0,1,0] hB hG fun L hL=>?_)
 refine gs ?_
 refine gxd (X:=Ax) (fun y : Ax=>.slice y.1 Nq y.2) (fun y W=>RW Qs y.1 W ∧ Nq ≤ y.2) (fun x u u' hg h=>⟨h.1.grow hg,h.2⟩) (fun x44=>?_) (C:=by (rintro v ⟨hgu,hB,hG,-⟩;exact Hsq.out _ hG))
 refine gs ?_
 refine geT hL ?_
 clear hB hG hL L
 rintro u ⟨⟨hgu,hB,hG,-⟩,hx44⟩
 have HP2:=Lib.hid (And.intro (HP.out.grow hgu) hx44.1)
 clear HP hx44
 have HP:=HP2
 clear HP2
 clear hgu
 refine wp_seq ?_
 refine wp_block ?_
 have HF:=Lib.hid hF
 clear hF
 go_loopg [] K (fun k wr=>∃ i : Nat,i + k = K ∧ Bx wr [(b4,48,W7 (s i))] ∧ (PR f x31 wr ∧ RW Qs x44.1 wr) ∧ A3 w wr)
 case atStart=>exact ⟨0,Nat.zero_add _,by rw [← HS0.out];exact hB,HP.out,hG⟩
 case round =>
  clear hG hB HP
  obtain ⟨i,hi,hB,hp,hG⟩:=hrel
  have HP:=Lib.hid hp
  clear hp
  obtain ⟨u,rfl⟩ : ∃ x,x = wr:=⟨_,rfl⟩
  have hF:=HF.out
  have hJ:=HJ.out i (by omega)
  have hiq:=Hiq.out i (by omega)
  obtain ⟨C,hC⟩ : ∃ C,C = J i:=⟨_,rfl⟩
  rw [← hC] at hJ
  obtain ⟨Si,hSi⟩ : ∃ S,S = s i:=⟨_,rfl⟩
  simp only [← hSi,← hC] at hiq
  rw [← hSi] at hB
  obtain ⟨l1,r1⟩:=Si
  simp only at hiq
  have Hiq1:=Lib.hid hiq
  have Hi:=Lib.hid hi
  clear hiq hC
  rcases Nat.eq_zero_or_pos gk with h0 | h0
  ·have f48 : decide (C > 0) = false:=decide_eq_false (fun h=>by have := hJ.1 h;omega)
   have hiK : i = K:=by omega
   have hat:=Hat.out
   rw [← hiK] at hat
   simp only [← hSi] at hat
   have Hat1:=Lib.hid hat
   clear hJ h0 hi hSi hiK hat
   refine wp_seq ?_
   refine wp_seq (rsE C2 [0,0,1,0] hB hG fun L hL=>?_)
   refine gs ?_
   refine gmd (C:=fun v ⟨hgu,hB,hG,_⟩=>Hiq1.out _ x44 (HP.out.2.grow hgu) (HT.grow hG)) ?_
   refine gs ?_
   refine geT hL ?_
   clear hB hG hL L
   rintro u ⟨hgu,hB,hG,-⟩
   have HP2:=Lib.hid (And.intro (HP.out.1.grow hgu) (HP.out.2.grow hgu))
   clear HP
   have HP:=HP2
   clear HP2
   clear hgu
   refine wp_cond_false (rfl) ?_
   refine wp_exit ?_
   refine D7 ?_
   refine D7 ?_
   refine G8 ?_
   refine A4 ?_
   refine wp_seq (rsE C2 [0,0,0,1,1,0,0] hB hG fun L hL=>?_)
   refine gs ?_
   refine gmd (C:=fun v ⟨hgu,hB,hG,_⟩=>Hat1.out _ hG) ?_
   refine gmw (C:=fun v=>HsV.out _) ?_
   refine gs ?_
   refine geT hL ?_
   clear hB hG hL L
   rintro u ⟨-,hB,hG,-⟩
   refine rt Tryz.results40 ?_
   exact ⟨rfl,hG⟩
  ·have f48 : decide (C > 0) = true:=decide_eq_true (hJ.2 (by omega))
   have hhf:=Hhf.out i (by omega)
   simp only [← hSi] at hhf
   obtain ⟨S2,hS2⟩ : ∃ S,S = s (i + 1):=⟨_,rfl⟩
   simp only [← hS2] at hhf
   obtain ⟨l2,r2⟩:=S2
   simp only at hhf
   have Hhf1:=Lib.hid hhf
   have HS2:=Lib.hid hS2
   have Hg:=Lib.hid h0
   clear hJ hi hhf hSi hS2 h0
   refine wp_seq ?_
   refine wp_seq (rsE C2 [0,0,1,0] hB hG fun L hL=>?_)
   refine gs ?_
   refine gmd (C:=fun v ⟨hgu,hB,hG,_⟩=>Hiq1.out _ x44 (HP.out.2.grow hgu) (HT.grow hG)) ?_
   refine gs ?_
   refine geT hL ?_
   clear hB hG hL L
   rintro u ⟨hgu,hB,hG,-⟩
   have HP2:=Lib.hid (And.intro (HP.out.1.grow hgu) (HP.out.2.grow hgu))
   clear HP
   have HP:=HP2
   clear HP2
   clear hgu
   refine wp_cond_true (rfl) ?_
   refine wp_skip ?_
   refine A4 ?_
   refine wp_block ?_
   refine rsC C2 [0,0,0,1] hB hG fun K L hN hL=>?_
   refine gs ?_
   refine gmd (C:=fun v ⟨hgu,hB,hG,_⟩=>Hhf1.out _ x31 (HP.out.1.grow hgu) (HT.grow hG)) ?_
   refine geC hL ?_
   clear hB hG hL L
   rintro u ⟨hgu,hB,hG,-⟩
   have HP2:=Lib.hid (And.intro (HP.out.1.grow hgu) (HP.out.2.grow hgu))
   clear HP
   have HP:=HP2
   clear HP2
   clear hgu
   refine gt ?_
   clear hN K
   have hb4:=hB.head
   refine sv hB hF hG 0 0 [_,_,_,_,_,_,_,_,_,_] ?_
   intro u2 hu hBG
   have HP2:=Lib.hid (And.intro (HP.out.1.put hb4 (by decide) hu) (HP.out.2.put hb4 (by decide) hu))
   clear hB hG hu HP hb4
   obtain ⟨hB,hG⟩:=hBG
   have HP:=HP2
   clear HP2
   obtain ⟨u,rfl⟩ : ∃ x,x = u2:=⟨_,rfl⟩
   refine F0 ?_
   refine A4 ?_
   go_step
   go_roundg (gk - 1)
   case rel=>exact ⟨i + 1,by have := Hi.out;have := Hg.out;omega,by rw [← HS2.out];exact hB,HP.out,hG⟩
   case measure=>have := Hg.out;omega
end Go.Proofs.YtlkniebmjdoopaaGreatDoor
namespace Go.Proofs.YtlkniebmjdoopaaGreatDoor
def pv : List Rat → Rat → Rat
 | [],_=>0
 | a :: l,x=>a + x * pv l x
def pd : List Rat → Rat → Rat
 | [],_=>0
 | _ :: l,x=>pv l x + x * pd l x
def E3 : List Rat → List Rat → List Rat
 | [],m=>m
 | a :: l,[]=>a :: l
 | a :: l,b :: m=>(a + b) :: E3 l m
def psc (k : Rat) (l : List Rat) : List Rat:=l.map (k * ·)
def B8 : List Rat → List Rat → List Rat
 | [],_=>[]
 | a :: l,m=>E3 (psc a m) (0 :: B8 l m)
theorem I9 (x : Rat) : ∀ a b : List Rat,pv (E3 a b) x = pv a x + pv b x
 | [],m=>by simp only [E3,pv];grind
 | a :: l,[]=>by simp only [E3,pv];grind
 | a :: l,b :: m=>by simp only [E3,pv,I9 x l m];grind
theorem A5S (x : Rat) : ∀ a b : List Rat,pd (E3 a b) x = pd a x + pd b x
 | [],m=>by simp only [E3,pd];grind
 | a :: l,[]=>by simp only [E3,pd];grind
 | a :: l,b :: m=>by simp only [E3,pd,A5S x l m,I9];grind
theorem F1 (k x : Rat) : ∀ l : List Rat,pv (psc k l) x = k * pv l x
 | []=>by simp only [psc,List.map_nil,pv];grind
 | a :: l=>by
  have h:=F1 k x l
  simp only [psc] at h
  simp only [psc,List.map_cons,pv,h];grind
theorem A38 (k x : Rat) : ∀ l : List Rat,pd (psc k l) x = k * pd l x
 | []=>by simp only [psc,List.map_nil,pd];grind
 | a :: l=>by
  have h:=A38 k x l
  have h2:=F1 k x l
  simp only [psc] at h h2
  simp only [psc,List.map_cons,pd,h,h2];grind
theorem E4 (x : Rat) : ∀ a b : List Rat,pv (B8 a b) x = pv a x * pv b x
 | [],m=>by simp only [B8,pv];grind
 | a :: l,m=>by simp only [B8,I9,F1,pv,E4 x l m];grind
theorem A0D (x : Rat) : ∀ a b : List Rat,pd (B8 a b) x = pd a x * pv b x + pv a x * pd b x
 | [],m=>by simp only [B8,pv,pd];grind
 | a :: l,m=>by simp only [B8,A5S,A38,pd,pv,A0D x l m,E4];grind
def K7 (a b : List Rat) : List Rat:=E3 a (psc (-1) b)
theorem Y3 (a b : List Rat) (x : Rat) : pv (K7 a b) x = pv a x - pv b x:=by unfold K7;rw [I9,F1];grind
theorem B1w (a b : List Rat) (x : Rat) : pd (K7 a b) x = pd a x - pd b x:=by unfold K7;rw [A5S,A38];grind
theorem P9 (x : Rat) : pv [1] x = 1:=by simp only [pv];grind
theorem R0 (c x : Rat) : pv [c] x = c:=by simp only [pv];grind
theorem B1Z (c x : Rat) : pd [c] x = 0:=by simp only [pd,pv];grind
def L8 : List Rat → List Rat
 | []=>[]
 | _ :: l=>E3 l (0 :: L8 l)
theorem S8 (x : Rat) : ∀ l : List Rat,pv (L8 l) x = pd l x
 | []=>rfl
 | a :: l=>by simp only [L8,I9,pv,pd,S8 x l];grind
def mg (a : Rat) : Rat:=if 0 ≤ a then a else -a
theorem A0n {a b : Rat} : mg a ≤ b ↔ a ≤ b ∧ -a ≤ b:=by unfold mg;grind
theorem B2v {a b : Rat} : mg a < b ↔ a < b ∧ -a < b:=by unfold mg;grind
theorem B4P (a : Rat) : a ≤ mg a ∧ -a ≤ mg a:=by unfold mg;grind
theorem I2 (a : Rat) : 0 ≤ mg a:=by unfold mg;grind
theorem A1o (a b : Rat) : mg (a + b) ≤ mg a + mg b:=by unfold mg;grind
theorem A0E (a b : Rat) : mg (a * b) = mg a * mg b:=by
 unfold mg
 by_cases h1 : 0 ≤ a <;> by_cases h2 : 0 ≤ b <;> simp only [h1,h2,if_true,if_false]
 ·rw [if_pos (Rat.mul_nonneg h1 h2)]
 ·have := Rat.mul_nonneg h1 (show (0 : Rat) ≤ -b by grind)
  by_cases h : 0 ≤ a * b <;> simp only [h,if_true,if_false] <;> grind
 ·have := Rat.mul_nonneg (show (0 : Rat) ≤ -a by grind) h2
  by_cases h : 0 ≤ a * b <;> simp only [h,if_true,if_false] <;> grind
 ·have := Rat.mul_nonneg (show (0 : Rat) ≤ -a by grind) (show (0 : Rat) ≤ -b by grind)
  by_cases h : 0 ≤ a * b <;> simp only [h,if_true,if_false] <;> grind
theorem B0E (a : Rat) : mg (-a) = mg a:=by unfold mg;grind
theorem A44 {a : Rat} (h : mg a ≤ 0) : a = 0:=by unfold mg at h;grind
def Trm (l : List Rat) : Prop:=∀ h : l ≠ [],l.getLast h ≠ 0
theorem Trm.tail {a : Rat} {l : List Rat} (h : Trm (a :: l)) : Trm l:=fun hl=>by
 have := h (by simp)
 rwa [List.getLast_cons hl] at this
theorem A9c : ∀ l : List Rat,Trm l → l ≠ [] → ∃ c N : Rat,0 < c ∧ 1 ≤ N ∧ ((∀ x,N ≤ x → c ≤ pv l x) ∨ (∀ x,N ≤ x → pv l x ≤ -c))
 | [],_,h=>absurd rfl h
 | [a],h,_=>by
  have ha : a ≠ 0:=h (by simp)
  by_cases h0 : 0 < a
  ·exact ⟨a,1,h0,by grind,.inl fun x _=>by simp only [pv];grind⟩
  ·exact ⟨-a,1,by grind,by grind,.inr fun x _=>by simp only [pv];grind⟩
 | a :: b :: l,h,_=>by
  obtain ⟨c,N,hc,hN,hh⟩:=A9c (b :: l) h.tail (by simp)
  have hpos : ∀ x,max N ((mg a + c) / c) ≤ x → 1 ≤ x ∧ N ≤ x ∧ mg a + c ≤ c * x:=by
   intro x hx
   have h1 : N ≤ x:=Rat.le_trans (by grind) hx
   have h2 : (mg a + c) / c ≤ x:=Rat.le_trans (by grind) hx
   refine ⟨by grind,h1,?_⟩
   by_cases h3 : mg a + c ≤ c * x
   ·exact h3
   ·exact absurd ((Rat.lt_div_iff hc).2 (show x * c < mg a + c by grind)) (by grind)
  have hab:=B4P a
  refine ⟨c,max N ((mg a + c) / c),hc,by grind,?_⟩
  rcases hh with hh | hh
  ·refine .inl fun x hx=>?_
   obtain ⟨h1,h2,h3⟩:=hpos x hx
   have h4:=hh x h2
   have h5 : c * x ≤ pv (b :: l) x * x:=Rat.mul_le_mul_of_nonneg_right h4 (by grind)
   show c ≤ a + x * pv (b :: l) x
   grind
  ·refine .inr fun x hx=>?_
   obtain ⟨h1,h2,h3⟩:=hpos x hx
   have h4:=hh x h2
   have h5 : c * x ≤ (-pv (b :: l) x) * x:=Rat.mul_le_mul_of_nonneg_right (by grind) (by grind)
   show a + x * pv (b :: l) x ≤ -c
   grind
theorem A5R : ∀ l : List Rat,∃ t,Trm t ∧ t.length ≤ l.length ∧ ∀ x,pv t x = pv l x ∧ pd t x = pd l x
 | []=>⟨[],fun h=>absurd rfl h,Nat.le_refl _,fun x=>⟨rfl,rfl⟩⟩
 | a :: l=>by
  obtain ⟨t,h1,h2,h3⟩:=A5R l
  by_cases ht : t = []
  ·subst ht
   by_cases ha : a = 0
   ·refine ⟨[],fun h=>absurd rfl h,by simp,fun x=>?_⟩
    have := h3 x
    simp only [pv,pd] at this ⊢
    grind
   ·refine ⟨[a],fun h=>ha,by simp,fun x=>?_⟩
    have := h3 x
    simp only [pv,pd] at this ⊢
    grind
  ·refine ⟨a :: t,fun h=>?_,by simp [h2],fun x=>?_⟩
   ·rw [List.getLast_cons ht];exact h1 ht
   ·have := h3 x
    simp only [pv,pd] at this ⊢
    grind
def Nz (l : List Rat) : Prop:=∃ x,pv l x ≠ 0
theorem A3j {l : List Rat} (h : Nz l) : ∃ N : Rat,1 ≤ N ∧ ∀ x,N ≤ x → pv l x ≠ 0:=by
 obtain ⟨t,h1,h2,h3⟩:=A5R l
 obtain ⟨x,hx⟩:=h
 have ht : t ≠ []:=fun e=>by
  rw [← (h3 x).1,e] at hx
  exact hx rfl
 obtain ⟨c,N,hc,hN,hh⟩:=A9c t h1 ht
 refine ⟨N,hN,fun y hy e=>?_⟩
 rw [← (h3 y).1] at e
 rcases hh with hh | hh <;> have := hh y hy <;> grind
theorem A8r {l : List Rat} {N : Rat} (h : ∀ x,N ≤ x → pv l x = 0) (x : Rat) : pv l x = 0:=by
 by_cases hz : Nz l
 ·obtain ⟨M,h1,h2⟩:=A3j hz
  exact absurd (h (max N M) (by grind)) (h2 _ (by grind))
 ·by_cases hx : pv l x = 0
  ·exact hx
  ·exact absurd ⟨x,hx⟩ hz
theorem A8v {l m : List Rat} {N : Rat} (h : ∀ x,N ≤ x → pv l x = pv m x) (x : Rat) : pv l x = pv m x:=by
 have h2:=A8r (l:=K7 l m) (N:=N) (fun x hx=>by rw [Y3,h x hx];grind) x
 rw [Y3] at h2
 grind
theorem A2n : ∀ {l : List Rat},(∀ x,pv l x = 0) → ∀ a ∈ l,a = 0
 | [],_,a,ha=>by cases ha
 | b :: l,h,a,ha=>by
  have hb : b = 0:=by have := h 0;simp only [pv] at this;grind
  have hl : ∀ x,pv l x = 0:=A8r (N:=1) fun x hx=>by
   have := h x
   simp only [pv,hb] at this
   have h2 : x * pv l x = 0:=by grind
   rcases Rat.mul_eq_zero.1 h2 with h3 | h3
   ·grind
   ·exact h3
  rcases List.mem_cons.1 ha with e | e
  ·rw [e,hb]
  ·exact A2n hl a e
theorem A6D : ∀ {l : List Rat},(∀ a ∈ l,a = 0) → ∀ x,pd l x = 0 ∧ pv l x = 0
 | [],_,x=>⟨rfl,rfl⟩
 | a :: l,h,x=>by
  have h1:=A6D (fun b hb=>h b (List.mem_cons_of_mem _ hb)) x
  have h2:=h a List.mem_cons_self
  simp only [pd,pv,h1.1,h1.2,h2]
  grind
theorem A0a {l m : List Rat} (h : ∀ x,pv l x = pv m x) (x : Rat) : pd l x = pd m x:=by
 have h1:=A2n (l:=K7 l m) fun x=>by rw [Y3,h x];grind
 have h2:=(A6D h1 x).1
 rw [B1w] at h2
 grind
theorem A2j : ∀ {a b : List Rat},Trm a → Trm b → (∀ x,pv a x = pv b x) → a = b
 | [],[],_,_,_=>rfl
 | [],b :: m,_,hb,h=>by
  have := A2n (l:=b :: m) (fun x=>(h x).symm) _ (List.getLast_mem (by simp))
  exact absurd this (hb (by simp))
 | a :: l,[],ha,_,h=>by
  have := A2n (l:=a :: l) (fun x=>h x) _ (List.getLast_mem (by simp))
  exact absurd this (ha (by simp))
 | a :: l,b :: m,ha,hb,h=>by
  have e : a = b:=by have := h 0;simp only [pv] at this;grind
  have e2 : ∀ x,pv l x = pv m x:=A8v (N:=1) fun x hx=>by
   have := h x
   simp only [pv,e] at this
   have h2 : x * (pv l x - pv m x) = 0:=by grind
   rcases Rat.mul_eq_zero.1 h2 with h3 | h3
   ·grind
   ·grind
  rw [e,A2j ha.tail hb.tail e2]
theorem A21 {g u v : List Rat} (hg : Nz g) (h : ∀ x,pv g x * pv u x = pv g x * pv v x) (x : Rat) : pv u x = pv v x:=by
 obtain ⟨N,h1,h2⟩:=A3j hg
 refine A8v (N:=N) (fun x hx=>?_) x
 have h3 : pv g x * (pv u x - pv v x) = 0:=by have := h x;grind
 rcases Rat.mul_eq_zero.1 h3 with h4 | h4
 ·exact absurd h4 (h2 x hx)
 ·grind
theorem B5U {a b : List Rat} (ha : Nz a) (hb : Nz b) : Nz (B8 a b):=by
 obtain ⟨N,h1,h2⟩:=A3j ha
 obtain ⟨M,h3,h4⟩:=A3j hb
 refine ⟨max N M,fun e=>?_⟩
 rw [E4] at e
 rcases Rat.mul_eq_zero.1 e with h | h
 ·exact h2 _ (by grind) h
 ·exact h4 _ (by grind) h
end Go.Proofs.YtlkniebmjdoopaaGreatDoor
