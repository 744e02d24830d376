/- Contracts and laws. -/
import Derived.Test.YtgpglgbcobeogaaGreatDoorT31
set_option linter.unusedSimpArgs false
set_option linter.unusedVariables false
set_option maxHeartbeats 2000000
set_option maxRecDepth 100000
namespace Go.Proofs.YtgpglgbcobeogaaGreatDoor
open Go Go.RowKit
theorem A1m (A B : Option Addr) (l l' : List Rat) (c d n : Nat) (hl : l.length = n) (hl' : l'.length = n) (hm : n ≤ 1048576) (s t : Nat) (hs : ∀ i,i < n → qs (gq l i) ≤ s) (hs' : ∀ i,i < n → qs (gq l' i) ≤ t) (hBz : n * (s + t + 1) + s + t + 10 ≤ BIG) (w : World) (h : Lq w A l) (h' : Lq w B l') (HT : Tab w) :
  Calls Tryz.prog 93 #[.slice A n c,.slice B n d] w fun e w'=>e = .returned (.tuple #[qV (E4 l l' n),.bool true]) ∧ A4 w w':=by
 have hM : ∀ j,j ≤ n → qs (E4 l l' j) ≤ n * (s + t + 1) + 1:=fun j hj=>Nat.le_trans (Y7 hs hs' j hj) (Nat.add_le_add_right (Nat.mul_le_mul_right _ hj) 1)
 have hne : ((n : Int) != (n : Int)) = false:=by simp
 have HM:=Lib.hid hM
 have Hs:=Lib.hid hs
 have Hs':=Lib.hid hs'
 have H:=Lib.hid h
 have H':=Lib.hid h'
 have Hl:=Lib.hid hl
 have Hl':=Lib.hid hl'
 clear hM hs hs' h h' hl hl'
 go_enter Tryz.func93,Tryz.ntmps93
 refine en1 ?_
 intro u hG b4 hB hF
 refine wp_seq ?_
 refine r0T ?_
 refine wp_cond_false (rfl) ?_
 refine wp_skip ?_
 refine A6 ?_
 refine wp_seq (rsE A8 [2] hB hG fun L hL=>?_)
 refine gaa (H7 _ _ _ _ _) fun b6 hb6 hn6=>?_
 replace hF:=hF.n1 [] hB hG hb6 hn6
 refine geT hL ?_
 clear hB hG hL L
 rintro u ⟨⟨-,hB,hG,-⟩,h6⟩
 replace hB:=hB.cons' h6
 clear h6
 clear hb6 hn6
 refine wp_seq ?_
 refine r0T ?_
 refine wp_block ?_
 go_loopw [17] (fun s0 wr=>∃ (j : Nat) (S : Rat),j ≤ n ∧ s0 = .int .i64 j ∧ S = E4 l l' j ∧ Bx wr [(b6,48,N5 S),(b4,48,A2N)] ∧ A4 w wr) (fun s0 _=>n - (intOf s0).toNat)
 case atStart=>exact ⟨0,0,Nat.zero_le _,rfl,rfl,hB,hG⟩
 case round =>
  clear hB hG
  obtain ⟨j,S,hj,rfl,hS,hB,hG⟩:=hrel
  obtain ⟨u,rfl⟩ : ∃ x,x = wr:=⟨_,rfl⟩
  have z1:=HM.out j hj
  rw [← hS] at z1
  rcases Nat.lt_or_ge j n with hlt | hge
  ·have hdec : decide ((j : Int) < (n : Int)) = true:=by simp;omega
   have hjn : (j : Int) < (n : Int):=by omega
   have hjl : j < l.length:=by rw [Hl.out];exact hlt
   have hjl' : j < l'.length:=by rw [Hl'.out];exact hlt
   obtain ⟨ba,oa,rfl⟩:=H.out.addr (by omega)
   obtain ⟨bb,ob,rfl⟩:=H'.out.addr (by omega)
   have hrd : ∀ W,A4 w W → Cq W ba (oa + j * 5) (gq l j) ∧ Cq W bb (ob + j * 5) (gq l' j):=fun W hg=>⟨(H.out.grow hg).read hjl,(H'.out.grow hg).read hjl'⟩
   have z2:=Hs.out j hlt
   have z3:=Hs'.out j hlt
   have hnx:=A8o l l' j
   rw [← hS] at hnx
   obtain ⟨X,hX⟩ : ∃ X,X = gq l j:=⟨_,rfl⟩
   obtain ⟨Y,hY⟩ : ∃ X,X = gq l' j:=⟨_,rfl⟩
   simp only [← hX,← hY] at hrd
   rw [← hX] at z2 hnx
   rw [← hY] at z3 hnx
   have z4:=S8 X Y
   have hml:=fun W hT=>A0Z X Y W (by omega) hT
   obtain ⟨D,hD⟩ : ∃ D,D = C2 X Y:=⟨_,rfl⟩
   rw [← hD] at hnx hml
   have z5 : qs D ≤ s + t:=by rw [hD];unfold C2;omega
   have had:=fun W hT=>A1C S D W (by omega) hT
   have Hrd:=Lib.hid hrd
   have Hnx:=Lib.hid hnx
   have Hml:=Lib.hid hml
   have Had:=Lib.hid had
   clear hrd hnx hml had hX hY hD hjl hjl' hS z1 z2 z3 z4 z5
   refine r0T ?_
   refine wp_seq ?_
   refine wp_cond_true (rfl) ?_
   refine wp_skip ?_
   refine A6 ?_
   refine wp_seq ?_
   refine wp_block ?_
   refine wp_seq (rsC A8 [0,0,0,2,0] hB hG fun K L hN hL=>?_)
   repeat first | refine gya ?_ | refine gyr ?_ | refine gna ?_ | refine gyb (by (rintro v ⟨hgu,hB,hG,-⟩ N hN;have r:=hB.r;simp only [BxR] at r;obtain ⟨⟨q1,q2,q3,q4,q5⟩,⟨y1,y2,y3,y4,y5⟩⟩:=Hrd.out v hG;go_simp;exact hN)) ?_
   refine gaa (H7 _ _ _ _ _) fun b8 hb8 hn8=>?_
   refine gs ?_
   replace hF:=hF.n1 [] hB hG hb8 hn8
   refine geC hL ?_
   clear hB hG hL L
   rintro u ⟨⟨-,hB,hG,-⟩,h8⟩
   replace hB:=hB.cons' h8
   clear h8
   clear hb8 hn8
   refine gtT ?_
   clear hN K
   refine st hB hF hG 0 0 [_,_,_,_,_] ?_
   clear hB hG
   intro u hB hG
   refine rdC A8 [] [(0,0),(0,1),(0,2),(0,3),(0,4),(0,5),(1,6),(1,7)] hB hG fun K L hN hL=>?_
   repeat first | refine gya ?_ | refine gyr ?_ | refine gna ?_ | refine gyb (by (rintro v ⟨hgu,hB,hG,-⟩ N hN;have r:=hB.r;simp only [BxR] at r;obtain ⟨⟨q1,q2,q3,q4,q5⟩,⟨y1,y2,y3,y4,y5⟩⟩:=Hrd.out v hG;go_simp;exact hN)) ?_
   refine gmd (C:=fun v ⟨hgu,hB,hG,_⟩=>Hml.out _ (HT.grow hG)) ?_
   refine gmd (C:=fun v ⟨hgu,hB,hG,_⟩=>Had.out _ (HT.grow hG)) ?_
   refine geC hL ?_
   clear hB hG hL L
   rintro u ⟨-,hB,hG,-⟩
   refine gt ?_
   clear hN K
   refine st hB hF hG 1 0 [_,_,_,_,_] ?_
   clear hB hG
   intro u hB hG
   refine C3 ?_
   refine A6 ?_
   refine r0E ?_
   refine A6 ?_
   go_roundw
   case rel=>exact ⟨j + 1,E6 S D,by omega,by go_num,Hnx.out.symm,hB.tail,hG⟩
   case measure=>simp [intOf];omega
  ·obtain rfl : n = j:=by omega
   have hdec : decide ((n : Int) < (n : Int)) = false:=by simp
   rw [← hS]
   clear hS
   refine r0T ?_
   refine wp_seq ?_
   refine wp_cond_false (rfl) ?_
   refine wp_exit ?_
   refine B8 ?_
   refine B8 ?_
   refine D6 ?_
   refine A6 ?_
   refine r0T ?_
   refine st hB hF hG 1 0 [_,_,_,_,_] ?_
   clear hB hG
   intro u hB hG
   refine rt Tryz.results93 ?_
   exact ⟨rfl,hG⟩
theorem A6V {a b : Rat} : decide (0 < G9 a b) = decide (b < a):=by
 unfold G9
 by_cases h1 : a < b
 ·rw [if_pos h1]
  have : ¬ b < a:=by grind
  simp [this]
 ·rw [if_neg h1]
  by_cases h2 : b < a
  ·rw [if_pos h2]
   simp [h2]
  ·rw [if_neg h2]
   simp [h2]
theorem B38 (a b : Rat) (h : qs a + qs b + 1 ≤ BIG) (w : World) : Calls Tryz.prog 98 #[qV a,qV b] w fun e w'=>e = .returned (qV (A0P a b)) ∧ A4 w w':=by
 have hc:=fun W=>A3w b a W (by omega)
 have hz:=@A6V b a
 obtain ⟨Z,hZ⟩ : ∃ Z,Z = G9 b a:=⟨_,rfl⟩
 rw [← hZ] at hz
 simp only [← hZ] at hc
 have Hc:=Lib.hid hc
 clear hc hZ
 by_cases hab : a < b
 ·have fZ : decide (0 < Z) = true:=by rw [hz];exact decide_eq_true hab
  have e : A0P a b = b:=if_pos hab
  rw [e]
  clear hab hz e
  go_enter Tryz.func98,Tryz.ntmps98
  refine en3 ?_
  intro u hG b4 b3 b2 hB hF
  refine wp_seq ?_
  refine wp_seq (rsE A8 [0,0,1,0] hB hG fun L hL=>?_)
  refine gs ?_
  refine gmw (C:=fun v=>Hc.out _) ?_
  refine gs ?_
  refine geT hL ?_
  clear hB hG hL L
  rintro u ⟨-,hB,hG,-⟩
  refine wp_cond_true (rfl) ?_
  refine r0T ?_
  refine st hB hF hG 2 0 [_,_,_,_,_] ?_
  clear hB hG
  intro u hB hG
  refine rt Tryz.results98 ?_
  exact ⟨rfl,hG⟩
 ·have fZ : decide (0 < Z) = false:=by rw [hz];exact decide_eq_false hab
  have e : A0P a b = a:=if_neg hab
  rw [e]
  clear hab hz e
  go_enter Tryz.func98,Tryz.ntmps98
  refine en3 ?_
  intro u hG b4 b3 b2 hB hF
  refine wp_seq ?_
  refine wp_seq (rsE A8 [0,0,1,0] hB hG fun L hL=>?_)
  refine gs ?_
  refine gmw (C:=fun v=>Hc.out _) ?_
  refine gs ?_
  refine geT hL ?_
  clear hB hG hL L
  rintro u ⟨-,hB,hG,-⟩
  refine wp_cond_false (rfl) ?_
  refine wp_skip ?_
  refine A6 ?_
  refine r0T ?_
  refine st hB hF hG 2 0 [_,_,_,_,_] ?_
  clear hB hG
  intro u hB hG
  refine rt Tryz.results98 ?_
  exact ⟨rfl,hG⟩
theorem B2t (A Y : Option Addr) (c M d : Nat) (w : World) : Calls Tryz.prog 57 #[.slice A 0 c,.slice Y M d] w fun e w'=>e = .returned (.bool false) ∧ A4 w w':=by
 go_enter Tryz.func57,Tryz.ntmps57
 refine en0 ?_
 intro u hG hB hF
 refine wp_seq ?_
 refine r0T ?_
 refine wp_cond_true (rfl) ?_
 refine r0T ?_
 refine rt Tryz.results57 ?_
 exact ⟨rfl,hG⟩
theorem B2r (A Y : Option Addr) (c N M d : Nat) (hN : 1 ≤ N) (hN2 : N ≤ 300) (hne : M ≠ N) (w : World) : Calls Tryz.prog 57 #[.slice A N c,.slice Y M d] w fun e w'=>e = .returned (.bool false) ∧ A4 w w':=by
 have f1 : decide ((N : Int) < 1) = false:=by simp;omega
 have f1n : decide (N = 0) = false:=by simp;omega
 have f2 : decide ((300 : Int) < (N : Int)) = false:=by simp;omega
 have f2n : decide (300 < N) = false:=by simp;omega
 have f3 : ((M : Int) != (N : Int)) = true:=by simp;omega
 clear hN hN2 hne
 go_enter Tryz.func57,Tryz.ntmps57
 refine en0 ?_
 intro u hG hB hF
 refine wp_seq ?_
 refine r0T ?_
 refine wp_cond_true (rfl) ?_
 refine r0T ?_
 refine rt Tryz.results57 ?_
 exact ⟨rfl,hG⟩
theorem A5J (A Y : Option Addr) (rs : List Rq) (N L c d : Nat) (hn : rs.length = N) (hN : 1 ≤ N) (hN2 : N ≤ 300) (hL1 : 1 ≤ L) (hL2 : L ≤ 20) (hrl : ∀ r ∈ rs,r.2.2.length = L) (w : World) (h : Lrq w A rs) :
  Calls Tryz.prog 57 #[.slice A N c,.slice Y N d] w fun e w'=>e = .returned (.bool true) ∧ A4 w w':=by
 obtain ⟨bb,ob,rfl⟩:=h.addr (by omega)
 have hrow : ∀ i,i < N → ∃ (Ar : Option Addr) (cr : Nat),∀ W,A4 w W → W.cell? ⟨bb,ob + i,none⟩ = some (.slice Ar L cr):=fun i hi=>by
  have hil : i < rs.length:=by omega
  refine ⟨rs[i].1,rs[i].2.1,fun W hg=>?_⟩
  have h3:=((h.grow hg).read (List.getElem?_eq_getElem hil)).1
  rw [hrl _ (List.getElem_mem hil)] at h3
  exact h3
 obtain ⟨A0,c0,hrow0⟩:=hrow 0 (by omega)
 rw [Nat.add_zero] at hrow0
 have f1 : decide ((N : Int) < 1) = false:=by simp;omega
 have f1n : decide (N = 0) = false:=by simp;omega
 have f2 : decide ((300 : Int) < (N : Int)) = false:=by simp;omega
 have f2n : decide (300 < N) = false:=by simp;omega
 have f3 : ((N : Int) != (N : Int)) = false:=by simp
 have f4 : decide ((L : Int) < 1) = false:=by simp;omega
 have f4n : decide (L = 0) = false:=by simp;omega
 have f5 : decide ((20 : Int) < (L : Int)) = false:=by simp;omega
 have f5n : decide (20 < L) = false:=by simp;omega
 have f6 : ((L : Int) != (L : Int)) = false:=by simp
 have hni : (0 : Int) < (N : Int):=by omega
 have hnp : 0 < N:=by omega
 have fn : decide ((0 : Int) < (N : Int)) = true:=by simp;omega
 have fnn : decide (0 < N) = true:=by simp;omega
 have Hrow:=Lib.hid hrow
 have Hrow0:=Lib.hid hrow0
 clear hrow hrow0 h hrl hn
 go_enter Tryz.func57,Tryz.ntmps57
 refine en0 ?_
 intro u hG hB hF
 refine wp_seq ?_
 refine r0T ?_
 refine wp_cond_false (rfl) ?_
 refine wp_skip ?_
 refine A6 ?_
 refine wp_seq ?_
 have q0:=Hrow0.out u hG
 refine r0N ?_
 refine wp_seq ?_
 refine r0T ?_
 refine wp_cond_false (rfl) ?_
 refine wp_skip ?_
 refine A6 ?_
 refine wp_seq ?_
 refine r0T ?_
 refine wp_block ?_
 clear hB hF
 go_loopw [35] (fun s0 wr=>∃ i : Nat,i ≤ N ∧ s0 = .int .i64 i ∧ A4 w wr) (fun s0 _=>N - (intOf s0).toNat)
 case atStart=>exact ⟨0,Nat.zero_le _,rfl,hG⟩
 case round =>
  clear hG
  obtain ⟨i,hi,rfl,hG⟩:=hrel
  obtain ⟨u,rfl⟩ : ∃ x,x = wr:=⟨_,rfl⟩
  have hB:=Bx.nil u
  have hF:=Fr.nil w
  rcases Nat.lt_or_ge i N with hlt | hge
  ·have hdec : decide ((i : Int) < (N : Int)) = true:=by simp;omega
   have hiN : (i : Int) < (N : Int):=by omega
   obtain ⟨Ar,cr,hrw⟩:=Hrow.out i hlt
   have Hrw:=Lib.hid hrw
   clear hrw
   refine r0T ?_
   refine wp_seq ?_
   refine wp_cond_true (rfl) ?_
   refine wp_skip ?_
   refine A6 ?_
   refine wp_seq ?_
   refine wp_block ?_
   refine wp_seq ?_
   have q0:=Hrow0.out u hG;have q1:=Hrw.out u hG
   refine r0N ?_
   refine r0T ?_
   refine wp_cond_false (rfl) ?_
   refine wp_skip ?_
   refine C3 ?_
   refine A6 ?_
   refine r0E ?_
   refine A6 ?_
   go_roundw
   case rel=>exact ⟨i + 1,by omega,by go_num,hG⟩
   case measure=>simp [intOf];omega
  ·obtain rfl : N = i:=by omega
   have hdec : decide ((N : Int) < (N : Int)) = false:=by simp
   refine r0T ?_
   refine wp_seq ?_
   refine wp_cond_false (rfl) ?_
   refine wp_exit ?_
   refine B8 ?_
   refine B8 ?_
   refine D6 ?_
   refine A6 ?_
   refine r0T ?_
   refine rt Tryz.results57 ?_
   exact ⟨rfl,hG⟩
theorem B3a (A Y V : Option Addr) (N M K c d k : Nat) (a : Rat) (hs : ∀ W,Calls Tryz.prog 57 #[.slice A N c,.slice Y M d] W fun e w'=>e = .returned (.bool false) ∧ A4 W w') (w : World) :
  Calls Tryz.prog 91 #[.slice A N c,.slice Y M d,.slice V K k,qV a] w fun e w'=>e = .returned (.int .i64 5) ∧ A4 w w':=by
 go_enter Tryz.func91,Tryz.ntmps91
 refine en1 ?_
 intro u hG b7 hB hF
 refine wp_seq ?_
 refine wp_seq (rsE A8 [0,0,1,0,0,0,0,0,0,0,0,0,0] hB hG fun L hL=>?_)
 refine gs ?_
 refine gmw (C:=fun v=>hs _) ?_
 refine gs ?_
 refine geT hL ?_
 clear hB hG hL L
 rintro u ⟨-,hB,hG,-⟩
 refine wp_cond_true (rfl) ?_
 refine r0T ?_
 refine rt Tryz.results91 ?_
 exact ⟨rfl,hG⟩
theorem A34 (A Y V : Option Addr) (rs : List Rq) (N L K c d k : Nat) (hn : rs.length = N) (hN : 1 ≤ N) (hN2 : N ≤ 300) (hL1 : 1 ≤ L) (hL2 : L ≤ 20) (hrl : ∀ r ∈ rs, r.2.2.length = L) (a : Rat) (ha : qs a ≤ 1000) (w : World) (h : Lrq w A rs) :
    Calls Tryz.prog 91 #[.slice A N c,.slice Y N d,.slice V K k,qV a] w fun e w'=>e = .returned (.int .i64 (if K ≠ L then 5 else if a < 0 then 1 else 0)) ∧ A4 w w':=by
  have hsh:=fun W (hg : A4 w W)=>A5J A Y rs N L c d hn hN hN2 hL1 hL2 hrl W (h.grow hg)
  obtain ⟨bb,ob,rfl⟩:=h.addr (by omega)
  have hrow0 : ∃ (Ar : Option Addr) (cr : Nat),∀ W,A4 w W → W.cell? ⟨bb,ob,none⟩ = some (.slice Ar L cr):=by
    have hil : 0 < rs.length:=by omega
    refine ⟨rs[0].1,rs[0].2.1,fun W hg=>?_⟩
    have h3:=((h.grow hg).read (List.getElem?_eq_getElem hil)).1
    rw [hrl _ (List.getElem_mem hil),Nat.add_zero] at h3
    exact h3
  obtain ⟨A0,c0,hrow0⟩:=hrow0
  have hni : (0 : Int) < (N : Int):=by omega
  have hnp : 0 < N:=by omega
  have fn : decide ((0 : Int) < (N : Int)) = true:=by simp;omega
  have fnn : decide (0 < N) = true:=by simp;omega
  have hsg:=fun W=>M5 a (by have := E8 a;omega) W
  have hneg:=@A3O a
  have hrg : a.num.sign = -1 ∨ a.num.sign = 0 ∨ a.num.sign = 1 := by rcases Int.lt_trichotomy a.num 0 with h | h | h
                                                                     · exact .inl (Int.sign_eq_neg_one_iff_neg.2 h)
                                                                     · exact .inr (.inl (by rw [h];rfl))
                                                                     · exact .inr (.inr (Int.sign_eq_one_iff_pos.2 h))
  obtain ⟨S,hS⟩ : ∃ S,S = a.num.sign:=⟨_,rfl⟩
  simp only [← hS] at hsg
  rw [← hS] at hneg hrg
  have Hsh:=Lib.hid hsh
  have Hrow0:=Lib.hid hrow0
  have Hsg:=Lib.hid hsg
  clear hsh hrow0 h hrl hn hsg hS
  by_cases hK : K = L
  · subst hK
    have f1 : ((K : Int) != (K : Int)) = false:=by simp
    rw [if_neg (by simp)]
    by_cases h0 : a < 0
    · have f2 : decide (S < 0) = true:=by rw [hneg.2 h0];rfl
      rw [if_pos h0]
      clear hneg hrg h0
      go_enter Tryz.func91,Tryz.ntmps91
      refine en1 ?_
      intro u hG b7 hB hF
      refine wp_seq ?_
      refine wp_seq (rsE A8 [0,0,1,0,0,0,0,0,0,0,0,0,0] hB hG fun L hL=>?_)
      refine gs ?_
      refine gmd (C:=fun v ⟨hgu,hB,hG,_⟩=>Hsh.out _ hG) ?_
      repeat first | refine gya ?_ | refine gyr ?_ | refine gna ?_ | refine gyb (by (rintro v ⟨hgu,hB,hG,-⟩ N hN;have r:=hB.r;simp only [BxR] at r;have q0:=Hrow0.out v hG;go_simp;exact hN)) ?_
      refine geT hL ?_
      clear hB hG hL L
      rintro u ⟨-,hB,hG,-⟩
      refine wp_cond_false (rfl) ?_
      refine wp_skip ?_
      refine A6 ?_
      refine wp_seq ?_
      refine wp_seq (rsE A8 [0,1,0] hB hG fun L hL=>?_)
      repeat first | refine gya ?_ | refine gyr ?_ | refine gna ?_ | refine gyb (by (rintro v ⟨hgu,hB,hG,-⟩ N hN;have r:=hB.r;simp only [BxR] at r;have q0:=Hrow0.out v hG;go_simp;exact hN)) ?_
      refine gmw (C:=fun v=>Hsg.out _) ?_
      refine gs ?_
      refine geT hL ?_
      clear hB hG hL L
      rintro u ⟨-,hB,hG,-⟩
      refine wp_cond_true (rfl) ?_
      refine r0T ?_
      refine rt Tryz.results91 ?_
      exact ⟨rfl,hG⟩
    · have f2 : decide (S < 0) = false := by
        have : S ≠ -1:=fun e=>h0 (hneg.1 e)
        simp
        omega
      rw [if_neg h0]
      clear hneg hrg h0
      go_enter Tryz.func91,Tryz.ntmps91
      refine en1 ?_
      intro u hG b7 hB hF
      refine wp_seq ?_
      refine wp_seq (rsE A8 [0,0,1,0,0,0,0,0,0,0,0,0,0] hB hG fun L hL=>?_)
      refine gs ?_
      refine gmd (C:=fun v ⟨hgu,hB,hG,_⟩=>Hsh.out _ hG) ?_
      repeat first | refine gya ?_ | refine gyr ?_ | refine gna ?_ | refine gyb (by (rintro v ⟨hgu,hB,hG,-⟩ N hN;have r:=hB.r;simp only [BxR] at r;have q0:=Hrow0.out v hG;go_simp;exact hN)) ?_
      refine geT hL ?_
      clear hB hG hL L
      rintro u ⟨-,hB,hG,-⟩
      refine wp_cond_false (rfl) ?_
      refine wp_skip ?_
      refine A6 ?_
      refine wp_seq ?_
      refine wp_seq (rsE A8 [0,1,0] hB hG fun L hL=>?_)
      repeat first | refine gya ?_ | refine gyr ?_ | refine gna ?_ | refine gyb (by (rintro v ⟨hgu,hB,hG,-⟩ N hN;have r:=hB.r;simp only [BxR] at r;have q0:=Hrow0.out v hG;go_simp;exact hN)) ?_
      refine gmw (C:=fun v=>Hsg.out _) ?_
      refine gs ?_
      refine geT hL ?_
      clear hB hG hL L
      rintro u ⟨-,hB,hG,-⟩
      refine wp_cond_false (rfl) ?_
      refine wp_skip ?_
      refine A6 ?_
      refine r0T ?_
      refine rt Tryz.results91 ?_
      exact ⟨rfl,hG⟩
  · have f1 : ((K : Int) != (L : Int)) = true:=by simp;omega
    rw [if_pos hK]
    clear hK hneg hrg
    go_enter Tryz.func91,Tryz.ntmps91
    refine en1 ?_
    intro u hG b7 hB hF
    refine wp_seq ?_
    refine wp_seq (rsE A8 [0,0,1,0,0,0,0,0,0,0,0,0,0] hB hG fun L hL=>?_)
    refine gs ?_
    refine gmd (C:=fun v ⟨hgu,hB,hG,_⟩=>Hsh.out _ hG) ?_
    repeat first | refine gya ?_ | refine gyr ?_ | refine gna ?_ | refine gyb (by (rintro v ⟨hgu,hB,hG,-⟩ N hN;have r:=hB.r;simp only [BxR] at r;have q0:=Hrow0.out v hG;go_simp;exact hN)) ?_
    refine geT hL ?_
    clear hB hG hL L
    rintro u ⟨-,hB,hG,-⟩
    refine wp_cond_true (rfl) ?_
    refine r0T ?_
    refine rt Tryz.results91 ?_
    exact ⟨rfl,hG⟩
end Go.Proofs.YtgpglgbcobeogaaGreatDoor
