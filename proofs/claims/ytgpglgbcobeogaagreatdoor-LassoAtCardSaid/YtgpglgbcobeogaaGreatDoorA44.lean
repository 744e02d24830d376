/- Contracts and laws. -/
import Derived.Test.YtgpglgbcobeogaaGreatDoorA43
set_option linter.unusedSimpArgs false
set_option linter.unusedVariables false
set_option maxHeartbeats 8000000
set_option maxRecDepth 100000
namespace Go.Proofs.YtgpglgbcobeogaaGreatDoor
open Go Go.RowKit
def A3s (l : List Kn) (a : Rat) : List Rat :=
 if knQ l 0 ≤ a then knW l 0
 else (List.range (knW l 0).length).map fun c=>G9 (gq (knW l (atI l a - 1)) c) (E7 (I0 (C4 (knQ l (atI l a - 1)) a) (C4 (knQ l (atI l a - 1)) (knQ l (atI l a)))) (C4 (gq (knW l (atI l a)) c) (gq (knW l (atI l a - 1)) c)))
theorem B3y {A B a W V : Rat} (h : B < A) : V + (A - a) / (A - B) * (W - V) = W + (W - V) / (B - A) * (a - B):=by
 have h1 : A - B ≠ 0:=fun e=>by grind
 have h2 : B - A ≠ 0:=fun e=>by grind
 have e1 : (A - a) / (A - B) * (A - B) = A - a:=Rat.div_mul_cancel h1
 have e2 : (W - V) / (B - A) * (B - A) = W - V:=Rat.div_mul_cancel h2
 obtain ⟨x,hx⟩ : ∃ x,x = (A - a) / (A - B):=⟨_,rfl⟩
 obtain ⟨y,hy⟩ : ∃ y,y = (W - V) / (B - A):=⟨_,rfl⟩
 rw [← hx] at e1 ⊢
 rw [← hy] at e2 ⊢
 grind
theorem B2Y {l : List Kn} {a : Rat} (sh : ShapeK l) (od : OrderK l) (ha : 0 ≤ a) : A3s l a = A0b l a:=by
 obtain ⟨K1,K2,K3⟩:=A3i sh od ha
 unfold A3s A0b
 by_cases h0 : knQ l 0 ≤ a
 ·have e0 : atI l a = 0:=by
   rcases Nat.eq_zero_or_pos (atI l a) with h | h
   ·exact h
   ·have := K2 0 h
    grind
  rw [if_pos h0,if_pos (.inl e0),e0]
 ·rw [if_neg h0]
  have hK0 : atI l a ≠ 0:=fun e=>by rw [e] at K3;grind
  obtain ⟨K,hK⟩ : ∃ K,K = atI l a:=⟨_,rfl⟩
  rw [← hK] at K1 K2 K3 hK0 ⊢
  have hf:=od.falls K (by omega) K1
  have eJ : l.getD (K - 1) (0,[]) = (knQ l (K - 1),knW l (K - 1)):=rfl
  have eK : l.getD K (0,[]) = (knQ l K,knW l K):=rfl
  by_cases hq : a = knQ l K
  ·rw [if_pos (.inr hq)]
   refine B4E (n:=(knW l 0).length) (by simp) (sh.all K K1) fun c hc=>?_
   rw [V9 _ hc,← hq]
   rw [← hq] at hf
   unfold G9 E7 I0 C4
   have h1 : knQ l (K - 1) - a ≠ 0:=fun e=>by grind
   have e1 : (knQ l (K - 1) - a) / (knQ l (K - 1) - a) = 1:=by
    have := Rat.div_mul_cancel (a:=knQ l (K - 1) - a) h1
    rcases Rat.mul_eq_zero.1 (show ((knQ l (K - 1) - a) / (knQ l (K - 1) - a) - 1) * (knQ l (K - 1) - a) = 0 by grind) with h | h
    ·grind
    ·exact absurd h h1
   rw [e1]
   grind
  ·rw [if_neg (fun h=>h.elim hK0 hq)]
   refine List.map_congr_left fun c hc=>?_
   have hc:=List.mem_range.1 hc
   rw [eJ,eK,show gq (X9 (knQ l (K - 1),knW l (K - 1)) (knQ l K,knW l K) (knW l 0).length) c = I0 (C4 (gq (knW l K) c) (gq (knW l (K - 1)) c)) (C4 (knQ l K) (knQ l (K - 1))) from V9 _ hc]
   exact B3y hf
abbrev Kz:=Az × Rat × Ax × List Rat
def kzL (x : Kz) : List Value:=zrL (x.1,x.2.1) ++ [.slice x.2.2.1.1 x.2.2.2.length x.2.2.1.2]
theorem A8i (x : Kz) : (kzL x).length = 4:=rfl
abbrev H8 (x : Kz) : Kn:=(x.2.1,x.2.2.2)
def Lkz (u : World) (A : Option Addr) (l : List Kz) : Prop:=Le kzL 4 u A l ∧ ∀ x ∈ l,Rz u x.1 x.2.1 ∧ Lz u x.2.2.1.1 x.2.2.2
theorem Lkz.grow {u u' : World} {A : Option Addr} {l : List Kz} (h : Lkz u A l) (hg : A4 u u') : Lkz u' A l:=⟨h.1.grow hg,fun x hx=>⟨(h.2 x hx).1.grow hg,(h.2 x hx).2.grow hg⟩⟩
theorem Lkz.at {u : World} {A : Option Addr} {l : List Kz} (h : Lkz u A l) {i : Nat} (hi : i < l.length) : ∃ (b o : Nat) (p : Az) (P : Ax),A = some ⟨b,o,none⟩ ∧ ∀ W,A4 u W → (Cz W b (o + i * 4) p (knQ (l.map H8) i) ∧ W.cell? ⟨b,o + i * 4 + 3,none⟩ = some (.slice P.1 (knW (l.map H8) i).length P.2)) ∧ Rz W p (knQ (l.map H8) i) ∧ Lz W P.1 (knW (l.map H8) i):=by
 obtain ⟨b,o,e,hc⟩:=h.1.at hi
 have e1 : knQ (l.map H8) i = l[i].2.1:=by unfold knQ;rw [List.getElem?_map,List.getElem?_eq_getElem hi];rfl
 have e2 : knW (l.map H8) i = l[i].2.2.2:=by unfold knW;rw [List.getElem?_map,List.getElem?_eq_getElem hi];rfl
 rw [e1,e2]
 obtain ⟨h1,h2⟩:=h.2 _ (List.getElem_mem hi)
 exact ⟨b,o,l[i].1,l[i].2.2.1,e,fun W hg=>⟨⟨⟨hc W hg 0 _ rfl,hc W hg 1 _ rfl,hc W hg 2 _ rfl⟩,hc W hg 3 _ rfl⟩,h1.grow hg,h2.grow hg⟩⟩
theorem B3G (A : Option Addr) (l : List Rat) (n c : Nat) (r : Bool) (hn : l.length = n) (hm : n ≤ 1000) (hr : r = true ↔ ∀ j,j < n → gq l j = 0) (w : World) (h : Lz w A l) :
  Calls Tryz.prog 112 #[.slice A n c] w fun e w'=>e = .returned (.bool r) ∧ A4 w w':=by
 have hat : ∀ i,i < n → ∃ (bb ob : Nat) (p : Az) (X : Rat),A = some ⟨bb,ob,none⟩ ∧ (∀ W,A4 w W → Cz W bb (ob + i * 3) p X) ∧ X = gq l i:=fun i hi=>by
  obtain ⟨bb,ob,e⟩:=h.addr (by omega)
  rw [e] at h
  obtain ⟨p,hp⟩:=h.read (i:=i) (by omega)
  exact ⟨bb,ob,p,gq l i,e,fun W hg=>(hp W hg).2,rfl⟩
 have Hat:=Lib.hid hat
 have Hr:=Lib.hid hr
 clear hat hr h hn
 go_enter Tryz.func112,Tryz.ntmps112
 refine en0 ?_
 intro u hG hB hF
 refine wp_seq ?_
 refine r0T ?_
 refine wp_block ?_
 go_loopw [3] (fun s0 wr=>∃ (i : Nat),i ≤ n ∧ s0 = .int .i64 i ∧ (∀ j,j < i → gq l j = 0) ∧ A4 w wr) (fun s0 _=>n - (intOf s0).toNat)
 case atStart=>exact ⟨0,Nat.zero_le _,rfl,fun j hj=>absurd hj (Nat.not_lt_zero _),hG⟩
 case round =>
  clear hB hG
  obtain ⟨i,hi,rfl,hall,hG⟩:=hrel
  obtain ⟨u,rfl⟩ : ∃ x,x = wr:=⟨_,rfl⟩
  have hB:=Bx.nil u
  have Hall:=Lib.hid hall
  clear hall
  rcases Nat.lt_or_ge i n with hlt | hge
  ·have hdec : decide ((i : Int) < (n : Int)) = true:=by simp;omega
   have hin : (i : Int) < (n : Int):=by omega
   obtain ⟨bb,ob,p,X,rfl,hrd,hX⟩:=Hat.out i hlt
   have hsg:=fun W=>A34 p.1 p.2 X W
   have hz0 : X.num.sign = 0 ↔ X = 0:=by rw [Int.sign_eq_zero_iff_zero,Rat.num_eq_zero]
   obtain ⟨S,hS⟩ : ∃ S,S = X.num.sign:=⟨_,rfl⟩
   rw [← hS] at hz0
   simp only [← hS] at hsg
   have Hrd:=Lib.hid hrd
   have Hsg:=Lib.hid hsg
   have HX:=Lib.hid hX
   clear hrd hsg hS hX
   by_cases hX0 : X = 0
   ·have f7 : (S != 0) = false:=by rw [hz0.2 hX0];rfl
    have f7d : decide (S = 0) = true:=by rw [hz0.2 hX0];rfl
    have hnx:=Lib.hid (show ∀ j,j < i + 1 → gq l j = 0 from fun j hj=>by
     by_cases e1 : j = i
     ·rw [e1,← HX.out];exact hX0
     ·exact Hall.out j (by omega))
    clear hX0 hz0
    refine wp_seq ?_
    refine r0T ?_
    refine wp_cond_true (rfl) ?_
    refine wp_skip ?_
    refine A6 ?_
    refine wp_seq ?_
    refine wp_block ?_
    refine wp_seq (rsE A8 [0,0,0,0,1,0] hB hG fun L hL=>?_)
    repeat first | refine gya ?_ | refine gyr ?_ | refine gna ?_ | refine gyb (by (rintro v ⟨hgu,hB,hG,-⟩ N hN;have r:=hB.r;simp only [BxR] at r;obtain ⟨q1,q2,q3⟩:=Hrd.out v hG;go_simp;exact hN)) ?_
    refine gmw (C:=fun v=>Hsg.out _) ?_
    refine gs ?_
    refine geT hL ?_
    clear hB hG hL L
    rintro u ⟨-,hB,hG,-⟩
    refine wp_cond_false (rfl) ?_
    refine wp_skip ?_
    refine D4 ?_
    refine A6 ?_
    refine r0E ?_
    refine A6 ?_
    go_roundw
    case rel=>exact ⟨i + 1,by omega,by go_num,hnx.out,hG⟩
    case measure=>simp [intOf];omega
   ·have hS0 : S ≠ 0:=fun e1=>hX0 (hz0.1 e1)
    have f7 : (S != 0) = true:=by simp [hS0]
    have f7d : decide (S = 0) = false:=by simp [hS0]
    have hE : r = false:=by
     cases hr : r
     ·rfl
     ·exact absurd (by rw [HX.out];exact Hr.out.1 hr i hlt) hX0
    clear hX0 hz0 hS0
    refine wp_seq ?_
    refine r0T ?_
    refine wp_cond_true (rfl) ?_
    refine wp_skip ?_
    refine A6 ?_
    refine wp_seq ?_
    refine wp_block ?_
    refine wp_seq (rsE A8 [0,0,0,0,1,0] hB hG fun L hL=>?_)
    repeat first | refine gya ?_ | refine gyr ?_ | refine gna ?_ | refine gyb (by (rintro v ⟨hgu,hB,hG,-⟩ N hN;have r:=hB.r;simp only [BxR] at r;obtain ⟨q1,q2,q3⟩:=Hrd.out v hG;go_simp;exact hN)) ?_
    refine gmw (C:=fun v=>Hsg.out _) ?_
    refine gs ?_
    refine geT hL ?_
    clear hB hG hL L
    rintro u ⟨-,hB,hG,-⟩
    refine wp_cond_true (rfl) ?_
    refine r0T ?_
    refine rt Tryz.results112 ?_
    exact ⟨by rw [hE],hG⟩
  ·obtain rfl : n = i:=by omega
   have hdec : decide ((n : Int) < (n : Int)) = false:=by simp
   have hE : r = true:=Hr.out.2 Hall.out
   refine wp_seq ?_
   refine r0T ?_
   refine wp_cond_false (rfl) ?_
   refine wp_exit ?_
   refine B6 ?_
   refine B6 ?_
   refine E6 ?_
   refine A6 ?_
   refine r0T ?_
   refine rt Tryz.results112 ?_
   exact ⟨by rw [hE],hG⟩
theorem B3F (A : Option Addr) (c : Nat) (w : World) : Calls Tryz.prog 44 #[.slice A 0 c] w fun e w'=>e = .returned (.int .i64 5) ∧ A4 w w':=by
 go_enter Tryz.func44,Tryz.ntmps44
 refine en0 ?_
 intro u hG hB hF
 refine wp_seq ?_
 refine r0T ?_
 refine wp_cond_true (rfl) ?_
 refine r0T ?_
 refine rt Tryz.results44 ?_
 exact ⟨rfl,hG⟩
theorem A9v (A : Option Addr) (ks : List Kz) (n c : Nat) (e : Int) (hn : ks.length = n) (hn1 : 1 ≤ n) (hn2 : n ≤ 1000) (hw20 : (knW (ks.map H8) 0).length ≤ 20) (he : Z0 (ks.map H8) e) (s : Nat) (hs : ∀ i,i < n → qs (knQ (ks.map H8) i) ≤ s) (hB : 2 * s + 1 ≤ BIG) (w : World) (h : Lkz w A ks) :
  Calls Tryz.prog 44 #[.slice A n c] w fun e' w'=>e' = .returned (.int .i64 e) ∧ A4 w w':=by
 have hkl : (ks.map H8).length = n:=by rw [List.length_map];exact hn
 have hat : ∀ i,i < n → ∃ (b o : Nat) (p : Az) (P : Ax),A = some ⟨b,o,none⟩ ∧ ∀ W,A4 w W → (Cz W b (o + i * 4) p (knQ (ks.map H8) i) ∧ W.cell? ⟨b,o + i * 4 + 3,none⟩ = some (.slice P.1 (knW (ks.map H8) i).length P.2)) ∧ Rz W p (knQ (ks.map H8) i) ∧ Lz W P.1 (knW (ks.map H8) i):=fun i hi=>h.at (by omega)
 generalize ks.map H8 = l at *
 obtain ⟨bb,ob,p0,P0,hA,h0⟩:=hat 0 (by omega)
 subst hA
 have hat2 : ∀ i,i < n → ∃ (p : Az) (P : Ax),∀ W,A4 w W → (Cz W bb (ob + i * 4) p (knQ l i) ∧ W.cell? ⟨bb,ob + i * 4 + 3,none⟩ = some (.slice P.1 (knW l i).length P.2)) ∧ Rz W p (knQ l i) ∧ Lz W P.1 (knW l i):=fun i hi=>by
  obtain ⟨b',o',p,P,e',h'⟩:=hat i hi
  cases e'
  exact ⟨p,P,h'⟩
 obtain ⟨m,hm⟩ : ∃ m,m = (knW l 0).length:=⟨_,rfl⟩
 have f1 : decide ((n : Int) < 1) = false:=by simp;omega
 have f1n : decide (n = 0) = false:=by simp;omega
 have f2 : decide ((1000 : Int) < (n : Int)) = false:=by simp;omega
 have f2n : decide (1000 < n) = false:=by simp;omega
 have hni : (0 : Int) < (n : Int):=by omega
 have hnp : 0 < n:=by omega
 have hr0 : ∀ W,A4 w W → W.cell? ⟨bb,ob + 3,none⟩ = some (.slice P0.1 m P0.2):=fun W hg=>by
  have h1:=(h0 W hg).1.2
  rw [Nat.zero_mul,Nat.add_zero,← hm] at h1
  exact h1
 obtain ⟨zb,hzb⟩ : ∃ b : Bool,b = true ↔ ∀ j,j < m → gq (knW l 0) j = 0:=by
  by_cases hh : ∀ j,j < m → gq (knW l 0) j = 0
  ·exact ⟨true,by simp;exact hh⟩
  ·exact ⟨false,by simp;simpa using hh⟩
 have hng:=fun W (hg : A4 w W)=>B3G P0.1 (knW l 0) m P0.2 zb hm.symm (by rw [← hm] at hw20;omega) hzb W (h0 W hg).2.2
 have Hat:=Lib.hid hat2
 have Hr0:=Lib.hid hr0
 have Hm:=Lib.hid hm
 have Hkl:=Lib.hid hkl
 have He:=Lib.hid he
 have Hs:=Lib.hid hs
 have Hng:=Lib.hid hng
 have Hzb:=Lib.hid hzb
 rw [← hm] at hw20
 clear hat hat2 h0 hr0 hm hkl he hs h hn hng hzb
 go_enter Tryz.func44,Tryz.ntmps44
 refine en0 ?_
 intro u hG hB hF
 refine wp_seq ?_
 rcases Nat.eq_zero_or_pos m with hm0 | hm1
 ·have f5 : decide ((m : Int) < 1) = true:=by simp;omega
  have f5n : decide (m = 0) = true:=by simp;omega
  have hE : e = 5:=He.out.five fun hS=>by have := hS.some;have := Hm.out;omega
  clear hm0
  refine wp_seq ?_
  (first | have q0:=Hr0.out u hG | skip)
  refine r0N ?_
  refine wp_cond_true (rfl) ?_
  refine r0T ?_
  refine rt Tryz.results44 ?_
  exact ⟨by rw [hE],hG⟩
 ·have f5 : decide ((m : Int) < 1) = false:=by simp;omega
  have f5n : decide (m = 0) = false:=by simp;omega
  have f6 : decide ((20 : Int) < (m : Int)) = false:=by simp;omega
  have f6n : decide (20 < m) = false:=by simp;omega
  refine wp_seq ?_
  (first | have q0:=Hr0.out u hG | skip)
  refine r0N ?_
  refine wp_cond_false (rfl) ?_
  refine wp_skip ?_
  refine A6 ?_
  refine wp_seq ?_
  refine r0T ?_
  refine wp_block ?_
  go_loopw [3] (fun s0 wr=>∃ (i : Nat),i ≤ n ∧ s0 = .int .i64 i ∧ (∀ j,j < i → (knW l j).length = m) ∧ A4 w wr) (fun s0 _=>n - (intOf s0).toNat)
  case atStart=>exact ⟨0,Nat.zero_le _,rfl,fun j hj=>absurd hj (Nat.not_lt_zero _),hG⟩
  case round =>
   clear hB hG
   obtain ⟨i,hi,rfl,hall,hG⟩:=hrel
   obtain ⟨u,rfl⟩ : ∃ x,x = wr:=⟨_,rfl⟩
   have hB:=Bx.nil u
   have Hall:=Lib.hid hall
   clear hall
   rcases Nat.lt_or_ge i n with hlt | hge
   ·have hdec : decide ((i : Int) < (n : Int)) = true:=by simp;omega
    have hin : (i : Int) < (n : Int):=by omega
    obtain ⟨p,P,hrd⟩:=Hat.out i hlt
    obtain ⟨m2,hm2⟩ : ∃ m2,m2 = (knW l i).length:=⟨_,rfl⟩
    have hrd2 : ∀ W,A4 w W → W.cell? ⟨bb,ob + i * 4 + 3,none⟩ = some (.slice P.1 m2 P.2):=fun W hg=>by rw [hm2];exact (hrd W hg).1.2
    have Hrd:=Lib.hid hrd2
    have Hm2:=Lib.hid hm2
    clear hrd hrd2 hm2
    by_cases hmm : m2 = m
    ·have f7 : ((m2 : Int) != (m : Int)) = false:=by simp;omega
     have hnx:=Lib.hid (show ∀ j,j < i + 1 → (knW l j).length = m from fun j hj=>by
      by_cases e1 : j = i
      ·rw [e1,← Hm2.out];exact hmm
      ·exact Hall.out j (by omega))
     clear hmm
     refine wp_seq ?_
     refine r0T ?_
     refine wp_cond_true (rfl) ?_
     refine wp_skip ?_
     refine A6 ?_
     refine wp_seq ?_
     refine wp_block ?_
     refine wp_seq (rdC A8 [] [(0,0),(0,1),(0,2),(0,3),(0,4),(0,5),(0,6),(0,7),(0,8),(0,9),(0,10)] hB hG fun K L hN hL=>?_)
     repeat first | refine gya ?_ | refine gyr ?_ | refine gna ?_ | refine gyb (by (rintro v ⟨hgu,hB,hG,-⟩ N hN;have r:=hB.r;simp only [BxR] at r;have q0:=Hr0.out v hG;have q1:=Hrd.out v hG;go_simp;exact hN)) ?_
     refine geC hL ?_
     clear hB hG hL L
     rintro u ⟨-,hB,hG,-⟩
     refine gtT ?_
     clear hN K
     refine wp_cond_false (rfl) ?_
     refine wp_skip ?_
     refine D4 ?_
     refine A6 ?_
     refine r0E ?_
     refine A6 ?_
     go_roundw
     case rel=>exact ⟨i + 1,by omega,by go_num,hnx.out,hG⟩
     case measure=>simp [intOf];omega
    ·have f7 : ((m2 : Int) != (m : Int)) = true:=by simp;omega
     have hE : e = 5:=He.out.five fun hS=>hmm (by rw [Hm2.out,Hm.out];exact hS.all i (by rw [Hkl.out];exact hlt))
     clear hmm
     refine wp_seq ?_
     refine r0T ?_
     refine wp_cond_true (rfl) ?_
     refine wp_skip ?_
     refine A6 ?_
     refine wp_seq ?_
     refine wp_block ?_
     refine wp_seq (rdC A8 [] [(0,0),(0,1),(0,2),(0,3),(0,4),(0,5),(0,6),(0,7),(0,8),(0,9),(0,10)] hB hG fun K L hN hL=>?_)
     repeat first | refine gya ?_ | refine gyr ?_ | refine gna ?_ | refine gyb (by (rintro v ⟨hgu,hB,hG,-⟩ N hN;have r:=hB.r;simp only [BxR] at r;have q0:=Hr0.out v hG;have q1:=Hrd.out v hG;go_simp;exact hN)) ?_
     refine geC hL ?_
     clear hB hG hL L
     rintro u ⟨-,hB,hG,-⟩
     refine gtT ?_
     clear hN K
     refine wp_cond_true (rfl) ?_
     refine r0T ?_
     refine rt Tryz.results44 ?_
     exact ⟨by rw [hE],hG⟩
   ·obtain rfl : n = i:=by omega
    have hdec : decide ((n : Int) < (n : Int)) = false:=by simp
    have hsh:=Lib.hid (show ShapeK l from ⟨by rw [Hkl.out];exact hn1,by rw [Hkl.out];exact hn2,by rw [← Hm.out];exact hm1,by rw [← Hm.out];exact hw20,fun i hi=>by rw [← Hm.out];exact Hall.out i (by rw [← Hkl.out];exact hi)⟩)
    clear Hall
    refine wp_seq ?_
    refine r0T ?_
    refine wp_cond_false (rfl) ?_
    refine wp_exit ?_
    refine B6 ?_
    refine B6 ?_
    refine E6 ?_
    refine A6 ?_
    refine wp_seq ?_
    obtain ⟨J,hJ⟩ : ∃ J,J = n - 1:=⟨_,rfl⟩
    have hJn : J < n:=by omega
    have hJi : (J : Int) < (n : Int):=by omega
    have fw : IntKind.i64.wrap ((n : Int) - 1) = (J : Int):=by rw [IntWalk.i64_in _ (by omega)];omega
    obtain ⟨pJ,PJ,hrdJ⟩:=Hat.out J hJn
    obtain ⟨X,hX⟩ : ∃ X,X = knQ l J:=⟨_,rfl⟩
    have hrd2 : ∀ W,A4 w W → Cz W bb (ob + J * 4) pJ X:=fun W hg=>by rw [hX];exact (hrdJ W hg).1.1
    have hsg:=fun W=>A34 pJ.1 pJ.2 X W
    have hz0 : X.num.sign = 0 ↔ X = 0:=by rw [Int.sign_eq_zero_iff_zero,Rat.num_eq_zero]
    obtain ⟨S,hS⟩ : ∃ S,S = X.num.sign:=⟨_,rfl⟩
    rw [← hS] at hz0
    simp only [← hS] at hsg
    have hlast : OrderK l → X = 0:=fun hO=>by
     have h1:=hO.last
     rw [Hkl.out,← hJ,← hX] at h1
     exact h1
    have HlJ:=Lib.hid (show l.length - 1 = J by rw [Hkl.out];exact hJ.symm)
    have HXJ:=Lib.hid hX
    have HrdJ:=Lib.hid hrd2
    have Hsg:=Lib.hid hsg
    clear hJ hrdJ hX hrd2 hsg hS
    cases hzb : zb with
    | false =>
     have hE : e = 1:=He.out.one hsh.out fun hO=>by
      have h1:=Hzb.out.2 fun j hj=>hO.zero j (by rw [← Hm.out];exact hj)
      rw [hzb] at h1
      cases h1
     have Hng2:=Lib.hid (fun W hg=>by have h1:=Hng.out W hg;rw [hzb] at h1;exact h1)
     clear Hng hzb hz0 hlast
     refine wp_seq (rsE A8 [0,0,0,0,1,0,0,0,0,0,0,0,0,0,1,0,0] hB hG fun L hL=>?_)
     repeat first | refine gya ?_ | refine gyr ?_ | refine gna ?_ | refine gyb (by (rintro v ⟨hgu,hB,hG,-⟩ N hN;have r:=hB.r;simp only [BxR] at r;have q0:=Hr0.out v hG;obtain ⟨q1,q2,q3⟩:=HrdJ.out v hG;go_simp;exact hN)) ?_
     refine gmd (C:=fun v ⟨hgu,hB,hG,_⟩=>Hng2.out _ hG) ?_
     repeat first | refine gya ?_ | refine gyr ?_ | refine gna ?_ | refine gyb (by (rintro v ⟨hgu,hB,hG,-⟩ N hN;have r:=hB.r;simp only [BxR] at r;have q0:=Hr0.out v hG;obtain ⟨q1,q2,q3⟩:=HrdJ.out v hG;go_simp;exact hN)) ?_
     first | refine gmw (C:=fun v=>Hsg.out _) ?_ | refine H3 ?_
     refine gs ?_
     refine geT hL ?_
     clear hB hG hL L
     rintro u ⟨-,hB,hG,-⟩
     refine wp_cond_true (rfl) ?_
     refine r0T ?_
     refine rt Tryz.results44 ?_
     exact ⟨by rw [hE],hG⟩
    | true =>
     have HZr:=Lib.hid (Hzb.out.1 hzb)
     have Hng2:=Lib.hid (fun W hg=>by have h1:=Hng.out W hg;rw [hzb] at h1;exact h1)
     clear Hng hzb
     by_cases hX0 : X = 0
     ·have f7 : (S != 0) = false:=by rw [hz0.2 hX0];rfl
      have f7d : decide (S = 0) = true:=by rw [hz0.2 hX0];rfl
      have HX0:=Lib.hid hX0
      clear hX0 hz0 hlast
      refine wp_seq (rsE A8 [0,0,0,0,1,0,0,0,0,0,0,0,0,0,1,0,0] hB hG fun L hL=>?_)
      repeat first | refine gya ?_ | refine gyr ?_ | refine gna ?_ | refine gyb (by (rintro v ⟨hgu,hB,hG,-⟩ N hN;have r:=hB.r;simp only [BxR] at r;have q0:=Hr0.out v hG;obtain ⟨q1,q2,q3⟩:=HrdJ.out v hG;go_simp;exact hN)) ?_
      refine gmd (C:=fun v ⟨hgu,hB,hG,_⟩=>Hng2.out _ hG) ?_
      repeat first | refine gya ?_ | refine gyr ?_ | refine gna ?_ | refine gyb (by (rintro v ⟨hgu,hB,hG,-⟩ N hN;have r:=hB.r;simp only [BxR] at r;have q0:=Hr0.out v hG;obtain ⟨q1,q2,q3⟩:=HrdJ.out v hG;go_simp;exact hN)) ?_
      first | refine gmw (C:=fun v=>Hsg.out _) ?_ | refine H3 ?_
      refine gs ?_
      refine geT hL ?_
      clear hB hG hL L
      rintro u ⟨-,hB,hG,-⟩
      refine wp_cond_false (rfl) ?_
      refine wp_skip ?_
      refine A6 ?_
      refine wp_seq ?_
      refine r0T ?_
      refine wp_block ?_
      go_loopw [4] (fun s0 wr=>∃ (i : Nat),i + 1 ≤ n ∧ s0 = .int .i64 ((i + 1 : Nat) : Int) ∧ (∀ j,1 ≤ j → j < i + 1 → knQ l j < knQ l (j - 1)) ∧ A4 w wr) (fun s0 _=>n - (intOf s0).toNat)
      case atStart=>exact ⟨0,by omega,rfl,fun j h1 h2=>by omega,hG⟩
      case round =>
       clear hB hG
       obtain ⟨i,hi,rfl,hall,hG⟩:=hrel
       obtain ⟨u,rfl⟩ : ∃ x,x = wr:=⟨_,rfl⟩
       have hB:=Bx.nil u
       have Hall:=Lib.hid hall
       clear hall
       obtain ⟨i1,hi1⟩ : ∃ k,k = i + 1:=⟨_,rfl⟩
       rw [← hi1] at hi ⊢
       rcases Nat.lt_or_ge i1 n with hlt | hge
       ·have hdec : decide ((i1 : Int) < (n : Int)) = true:=by simp;omega
        have hin : (i1 : Int) < (n : Int):=by omega
        have hin0 : (i : Int) < (n : Int):=by omega
        have fw1 : IntKind.i64.wrap ((i1 : Int) - 1) = (i : Int):=by rw [IntWalk.i64_in _ (by omega)];omega
        obtain ⟨p1,P1,hrd⟩:=Hat.out i1 hlt
        obtain ⟨p2,P2,hrd'⟩:=Hat.out i (by omega)
        obtain ⟨V1,hV1⟩ : ∃ X,X = knQ l i1:=⟨_,rfl⟩
        obtain ⟨V2,hV2⟩ : ∃ X,X = knQ l i:=⟨_,rfl⟩
        have hrd2 : ∀ W,A4 w W → Cz W bb (ob + i1 * 4) p1 V1 ∧ Cz W bb (ob + i * 4) p2 V2:=fun W hg=>by rw [hV1,hV2];exact ⟨(hrd W hg).1.1,(hrd' W hg).1.1⟩
        have z1:=Hs.out i1 hlt
        have z2:=Hs.out i (by omega)
        rw [← hV1] at z1
        rw [← hV2] at z2
        have hcm:=fun W (hg : A4 w W)=>A42 p2.1 p2.2 p1.1 p1.2 V2 V1 W (by rw [hV2];exact (hrd' W hg).2.1.a) (by rw [hV2];exact (hrd' W hg).2.1.b) (by rw [hV1];exact (hrd W hg).2.1.a) (by rw [hV1];exact (hrd W hg).2.1.b) (by omega)
        have hc0 : G6 V2 V1 ≤ 0 ↔ ¬ V1 < V2:=by
         unfold G6
         by_cases h1 : V2 < V1
         ·rw [if_pos h1]
          have : ¬ V1 < V2:=by grind
          simp [this]
         ·rw [if_neg h1]
          by_cases h2 : V1 < V2
          ·rw [if_pos h2];simp [h2]
          ·rw [if_neg h2];simp [h2]
        obtain ⟨T,hT⟩ : ∃ S,S = G6 V2 V1:=⟨_,rfl⟩
        rw [← hT] at hc0
        simp only [← hT] at hcm
        have Hrd:=Lib.hid hrd2
        have Hcm:=Lib.hid hcm
        have HX:=Lib.hid (And.intro hV1 hV2)
        have Hi1:=Lib.hid hi1
        clear hrd hrd' hrd2 hcm hT hV1 hV2 z1 z2 hi1
        by_cases hXY : V1 < V2
        ·have hS0 : ¬ T ≤ 0:=fun e1=>hc0.1 e1 hXY
         have f8 : decide (T ≤ 0) = false:=by simp;omega
         have hnx:=Lib.hid (show ∀ j,1 ≤ j → j < i1 + 1 → knQ l j < knQ l (j - 1) from fun j h1 h2=>by
          by_cases e1 : j = i1
          ·have h3:=HX.out
           have h4:=Hi1.out
           rw [e1,show i1 - 1 = i by omega,← h3.1,← h3.2]
           exact hXY
          ·exact Hall.out j h1 (by have := Hi1.out;omega))
         clear hXY hc0 hS0
         refine wp_seq ?_
         refine r0T ?_
         refine wp_cond_true (rfl) ?_
         refine wp_skip ?_
         refine A6 ?_
         refine wp_seq ?_
         refine wp_block ?_
         refine wp_seq (rdC A8 [] [(0,0),(0,1),(0,2),(0,3),(0,4),(0,5),(0,6),(0,7),(0,8),(0,9),(0,10),(1,11)] hB hG fun K L hN hL=>?_)
         repeat first | refine gya ?_ | refine gyr ?_ | refine gna ?_ | refine gyb (by (rintro v ⟨hgu,hB,hG,-⟩ N hN;have r:=hB.r;simp only [BxR] at r;obtain ⟨⟨q1,q2,q3⟩,r1,r2,r3⟩:=Hrd.out v hG;go_simp;exact hN)) ?_
         refine gmd (C:=fun v ⟨hgu,hB,hG,_⟩=>Hcm.out _ hG) ?_
         refine geC hL ?_
         clear hB hG hL L
         rintro u ⟨-,hB,hG,-⟩
         refine gtT ?_
         clear hN K
         refine wp_cond_false (rfl) ?_
         refine wp_skip ?_
         refine D4 ?_
         refine A6 ?_
         refine r0E ?_
         refine A6 ?_
         go_roundw
         case rel=>exact ⟨i1,by omega,by go_num,hnx.out,hG⟩
         case measure=>simp [intOf];omega
        ·have f8 : decide (T ≤ 0) = true:=by simp;exact hc0.2 hXY
         have hE : e = 1:=He.out.one hsh.out fun hO=>hXY (by
          have h3:=HX.out
          have h4:=Hi1.out
          have h5:=hO.falls i1 (by omega) (by rw [Hkl.out];exact hlt)
          rw [show i1 - 1 = i by omega] at h5
          rw [h3.1,h3.2]
          exact h5)
         clear hXY hc0
         refine wp_seq ?_
         refine r0T ?_
         refine wp_cond_true (rfl) ?_
         refine wp_skip ?_
         refine A6 ?_
         refine wp_seq ?_
         refine wp_block ?_
         refine wp_seq (rdC A8 [] [(0,0),(0,1),(0,2),(0,3),(0,4),(0,5),(0,6),(0,7),(0,8),(0,9),(0,10),(1,11)] hB hG fun K L hN hL=>?_)
         repeat first | refine gya ?_ | refine gyr ?_ | refine gna ?_ | refine gyb (by (rintro v ⟨hgu,hB,hG,-⟩ N hN;have r:=hB.r;simp only [BxR] at r;obtain ⟨⟨q1,q2,q3⟩,r1,r2,r3⟩:=Hrd.out v hG;go_simp;exact hN)) ?_
         refine gmd (C:=fun v ⟨hgu,hB,hG,_⟩=>Hcm.out _ hG) ?_
         refine geC hL ?_
         clear hB hG hL L
         rintro u ⟨-,hB,hG,-⟩
         refine gtT ?_
         clear hN K
         refine wp_cond_true (rfl) ?_
         refine r0T ?_
         refine rt Tryz.results44 ?_
         exact ⟨by rw [hE],hG⟩
       ·obtain rfl : n = i1:=by omega
        have hdec : decide ((n : Int) < (n : Int)) = false:=by simp
        have hE : e = 0:=He.out.fine hsh.out ⟨fun j hj=>HZr.out j (by rw [Hm.out];exact hj),fun j h1 h2=>Hall.out j h1 (by rw [Hkl.out] at h2;omega),by rw [HlJ.out,← HXJ.out];exact HX0.out⟩
        clear hi1
        refine wp_seq ?_
        refine r0T ?_
        refine wp_cond_false (rfl) ?_
        refine wp_exit ?_
        refine B6 ?_
        refine B6 ?_
        refine E6 ?_
        refine A6 ?_
        refine r0T ?_
        refine rt Tryz.results44 ?_
        exact ⟨by rw [hE],hG⟩
     ·have hS0 : S ≠ 0:=fun e1=>hX0 (hz0.1 e1)
      have f7 : (S != 0) = true:=by simp [hS0]
      have f7d : decide (S = 0) = false:=by simp [hS0]
      have hE : e = 1:=He.out.one hsh.out fun hO=>hX0 (hlast hO)
      clear hX0 hz0 hS0 hlast
      refine wp_seq (rsE A8 [0,0,0,0,1,0,0,0,0,0,0,0,0,0,1,0,0] hB hG fun L hL=>?_)
      repeat first | refine gya ?_ | refine gyr ?_ | refine gna ?_ | refine gyb (by (rintro v ⟨hgu,hB,hG,-⟩ N hN;have r:=hB.r;simp only [BxR] at r;have q0:=Hr0.out v hG;obtain ⟨q1,q2,q3⟩:=HrdJ.out v hG;go_simp;exact hN)) ?_
      refine gmd (C:=fun v ⟨hgu,hB,hG,_⟩=>Hng2.out _ hG) ?_
      repeat first | refine gya ?_ | refine gyr ?_ | refine gna ?_ | refine gyb (by (rintro v ⟨hgu,hB,hG,-⟩ N hN;have r:=hB.r;simp only [BxR] at r;have q0:=Hr0.out v hG;obtain ⟨q1,q2,q3⟩:=HrdJ.out v hG;go_simp;exact hN)) ?_
      first | refine gmw (C:=fun v=>Hsg.out _) ?_ | refine H3 ?_
      refine gs ?_
      refine geT hL ?_
      clear hB hG hL L
      rintro u ⟨-,hB,hG,-⟩
      refine wp_cond_true (rfl) ?_
      refine r0T ?_
      refine rt Tryz.results44 ?_
      exact ⟨by rw [hE],hG⟩
end Go.Proofs.YtgpglgbcobeogaaGreatDoor
