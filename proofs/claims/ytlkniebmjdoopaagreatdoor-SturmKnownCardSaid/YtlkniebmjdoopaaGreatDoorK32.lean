/- Contracts and laws. -/
import Derived.Test.YtlkniebmjdoopaaGreatDoorK31
set_option linter.unusedSimpArgs false
set_option linter.unusedVariables false
set_option maxHeartbeats 4000000
set_option maxRecDepth 100000
namespace Go.Proofs.YtlkniebmjdoopaaGreatDoor
open Go Go.RowKit
def scL (l : List Rat) (k : Rat) : List Rat:=(List.range l.length).map fun i=>H9 (gq l i) k
theorem A88 (l : List Rat) (k : Rat) : (scL l k).length = l.length:=by unfold scL;simp
theorem P8 {l : List Rat} {s : Nat} (h : ∀ x ∈ l,qs x ≤ s) {i : Nat} (hi : i < l.length) : qs (gq l i) ≤ s:=h _ (A39 hi)
theorem A7D {l : List Rat} {k : Rat} {s t : Nat} (h : ∀ x ∈ l,qs x ≤ s) (hk : qs k ≤ t) : ∀ x ∈ scL l k,qs x ≤ s + t:=fun x hx=>by
 unfold scL at hx
 obtain ⟨i,hi,rfl⟩:=List.mem_map.1 hx
 have h1:=P8 h (List.mem_range.1 hi)
 have h2:=A2s (gq l i) k
 unfold H9
 omega
theorem A8b (A : Option Addr) (l : List Rat) (k : Rat) (n c : Nat) (hl : l.length = n) (hm : n ≤ 1048576) (s : Nat) (hs : ∀ x ∈ l,qs x ≤ s) (hk : qs k ≤ s) (hB : 2 * s ≤ BIG) (w : World) (h : Lq w A l) (HT : Tab w) :
  Calls Tryz.prog 171 #[.slice A n c,qV k] w (I1 (fun x : Nat=>.slice (some ⟨x,0,none⟩) (trN (scL l k)) (trN (scL l k))) (fun x W=>PQ w.heap.size x (trL (scL l k)) W) w):=by
 have hrd : ∀ i,i < n → ∃ b o,A = some ⟨b,o,none⟩ ∧ (∀ W,A3 w W → Cq W b (o + i * 5) (gq l i)) ∧ ∀ W,Tab W → Calls Tryz.prog 16 #[qV (gq l i),qV k] W fun e w'=>e = .returned (qV (H9 (gq l i) k)) ∧ A3 W w':=fun i hi=>by
  obtain ⟨b,o,e⟩:=h.addr (by omega)
  subst e
  exact ⟨b,o,rfl,fun W hg=>(h.grow hg).read (by omega),fun W hT=>A2I _ _ W (by have := P8 hs (i:=i) (by omega);omega) hT⟩
 obtain ⟨f,hf⟩ : ∃ f : Nat → Rat,f = fun i=>H9 (gq l i) k:=⟨_,rfl⟩
 have hfi : ∀ i,H9 (gq l i) k = f i:=by rw [hf];exact fun _=>rfl
 have hsc : scL l k = (List.range n).map f:=by unfold scL;rw [hl,hf]
 have htr:=fun (W : World) (g : Nat) (hL : Lq W (some ⟨g,0,none⟩) (scL l k))=>A1B (some ⟨g,0,none⟩) (scL l k) n n (by rw [A88,hl]) (Nat.le_refl _) hm (fun x hx=>Nat.le_trans (A7D hs hk x hx) (by omega)) W hL
 simp only [hfi] at hrd
 rw [hsc] at htr ⊢
 have hmk:=A1V n hm (n : Int) rfl
 obtain ⟨R,hR⟩ : ∃ R,R = trN ((List.range n).map f):=⟨_,rfl⟩
 obtain ⟨TL,hTL⟩ : ∃ R,R = trL ((List.range n).map f):=⟨_,rfl⟩
 rw [← hR,← hTL]
 simp only [← hR,← hTL] at htr
 have Hrd:=Lib.hid hrd
 have Htr:=Lib.hid htr
 have Hmk:=Lib.hid hmk
 clear hrd htr hmk hsc hf hfi hR hTL hs hk hB h hl
 go_enter Tryz.func171,Tryz.ntmps171
 refine en1 ?_
 intro u hG b3 hB hF
 refine wp_seq ?_
 have hmk:=Hmk.out
 have r:=hB.r
 simp only [BxR] at r
 refine M9 ?_
 intro K hN
 go_wp2_with fail
 clear r
 generalize hv : World.alloc u _ = v
 have hrow:=A2q (B:=w.heap.size) hG.sz hm hv
 have hgv : A3 u v:=hv ▸ A3.alloc u _
 have hG2:=hG.trans hgv
 have hB2:=hB.grow hgv
 have hg3 : u.heap.size ≠ b3:=Nat.ne_of_gt hB.head.lt
 have h3w:=hF.1 b3 (by simp)
 clear hv hG hB hmk hgv
 rw [← A91 f n] at hrow
 generalize u.heap.size = g at hrow hg3 ⊢
 have Ho:=Lib.hid hrow
 have hG:=hG2
 have hB:=hB2
 clear hrow hG2 hB2
 obtain ⟨u,rfl⟩ : ∃ x,x = v:=⟨_,rfl⟩
 refine NoK.norm (hN _ _ ?_)
 clear hN K
 refine A4 ?_
 refine wp_seq ?_
 refine r0T ?_
 refine wp_block ?_
 clear hF
 go_loopw [13] (fun s0 wr=>∃ i : Nat,i ≤ n ∧ s0 = .int .i64 i ∧ wr.ownsRow w.heap.size 39 5 (.slice (some ⟨g,0,none⟩) n n) n ((R3 f n i).flatMap qL) ∧ Bx wr [(b3,39,G5 k)] ∧ A3 w wr) (fun s0 _=>n - (intOf s0).toNat)
 case atStart=>exact ⟨0,Nat.zero_le _,rfl,Ho.out,hB,hG⟩
 case round =>
  clear hG Ho hB
  obtain ⟨i,hi,rfl,ho,hB,hG⟩:=hrel
  obtain ⟨u,rfl⟩ : ∃ x,x = wr:=⟨_,rfl⟩
  have Ho:=Lib.hid ho
  have hF : Fr w [b3]:=⟨fun b hb=>by
   simp only [List.mem_cons,List.not_mem_nil,or_false] at hb
   subst hb
   exact h3w,by simp⟩
  clear ho
  rcases Nat.lt_or_ge i n with hlt | hge
  ·have hdec : decide ((i : Int) < (n : Int)) = true:=by simp;omega
   have hin : (i : Int) < (n : Int):=by omega
   have hst:=A8S (f:=f) hlt
   obtain ⟨b1,o1,rfl,hrd,hml⟩:=Hrd.out i hlt
   obtain ⟨X,hX⟩ : ∃ X,X = gq l i:=⟨_,rfl⟩
   obtain ⟨Q,hQ⟩ : ∃ q,q = f i:=⟨_,rfl⟩
   rw [← hQ] at hst hml
   rw [← hX] at hml
   simp only [← hX] at hrd
   have Hst:=Lib.hid hst
   have Hrd1:=Lib.hid hrd
   have Hml:=Lib.hid hml
   clear hst hrd hml hQ hX
   refine r0T ?_
   refine wp_seq ?_
   refine wp_cond_true (rfl) ?_
   refine wp_skip ?_
   refine A4 ?_
   refine wp_seq ?_
   refine wp_block ?_
   refine wp_seq (rsC A5 [0,0,0,2,0] hB hG fun K L hN hL=>?_)
   repeat first | refine gya ?_ | refine gyr ?_ | refine gna ?_ | refine gyb (by (rintro v ⟨hgu,hB,hG,-⟩ N hN;have r:=hB.r;simp only [BxR] at r;(first | obtain ⟨x1,x2,x3,x4,x5⟩:=Hrd1.out v hG | skip);go_simp;exact hN)) ?_
   refine gaa (N0 _ _ _ _ _) fun b7 hb7 hn7=>?_
   refine gs ?_
   replace hF:=hF.n1 [] hB hG hb7 hn7
   refine geC hL ?_
   clear hB hG hL L
   rintro u ⟨⟨hgu,hB,hG,-⟩,h7⟩
   replace hB:=hB.cons' h7
   clear h7
   have hg7 : g ≠ b7:=Nat.ne_of_lt (Nat.lt_of_lt_of_le (Ho.out.lt g rfl).2 hb7)
   have Ho2:=Lib.hid (F3 Ho.out hgu)
   clear Ho
   have Ho:=Ho2
   clear Ho2
   clear hb7 hn7
   clear hgu
   refine gtT ?_
   clear hN K
   refine sv hB hF hG 0 0 [_,_,_,_,_] ?_
   intro u hu hBG
   have Ho2:=Lib.hid (A2r Ho.out (fun e=>hg7 (Option.some.inj e)) hu)
   clear hB hG hu Ho
   obtain ⟨hB,hG⟩:=hBG
   have Ho:=Ho2
   clear Ho2
   refine rsC A5 [0,0,0,0,1,0] hB hG fun K L hN hL=>?_
   repeat first | refine gya ?_ | refine gyr ?_ | refine gna ?_ | refine gyb (by (rintro v ⟨hgu,hB,hG,-⟩ N hN;have r:=hB.r;simp only [BxR] at r;(first | obtain ⟨x1,x2,x3,x4,x5⟩:=Hrd1.out v hG | skip);go_simp;exact hN)) ?_
   refine gmd (C:=fun v ⟨hgu,hB,hG,_⟩=>Hml.out _ (HT.grow hG)) ?_
   refine gs ?_
   refine geC hL ?_
   clear hB hG hL L
   rintro u ⟨hgu,hB,hG,-⟩
   have Ho2:=Lib.hid (F3 Ho.out hgu)
   clear Ho
   have Ho:=Ho2
   clear Ho2
   obtain ⟨z0,z1,z2,z3,z4,o0,o1,o2,o3,o4,hfz⟩:=A1X (enc:=qL) (fun _=>rfl) Ho.out (A1O f n i).symm i (by rw [A1O];exact hlt)
   clear hgu
   refine gt ?_
   clear hN K
   clear o0 o1 o2 o3 o4 hfz
   generalize hu0 : World.setCell (World.setCell (World.setCell (World.setCell (World.setCell u _ _) _ _) _ _) _ _) _ _ = u0
   have hu1 : E9 u g (i * 5) (qL Q) = u0:=hu0
   have hP:=A1J (enc:=qL) (size:=5) (ps:=R3 f n i) (fun _=>rfl) Ho.out i Q (by rw [A1O];exact hlt)
   rw [Hst.out,hu1] at hP
   have hG2:=A4Z Ho.out hG hP.2
   have hB2:=hB.tail.grown_ hP.2 (fun e he hxe=>by
    have e2:=Option.some.inj hxe
    simp only [List.mem_cons,List.not_mem_nil,or_false] at he
    subst he
    exact hg3 e2.symm)
   have Ho2:=Lib.hid hP.1
   clear hG hB hF Ho hP hu1 hu0
   have hG:=hG2
   have hB:=hB2
   have Ho:=Ho2
   clear hG2 Ho2 hB2
   obtain ⟨u,rfl⟩ : ∃ x,x = u0:=⟨_,rfl⟩
   refine F0 ?_
   refine A4 ?_
   refine r0E ?_
   refine A4 ?_
   go_roundw
   case rel=>exact ⟨i + 1,by omega,by go_num,Ho.out,hB,hG⟩
   case measure=>simp [intOf];omega
  ·obtain rfl : n = i:=by omega
   have hdec : decide ((n : Int) < (n : Int)) = false:=by simp
   have ho:=Ho.out
   rw [A9O] at ho
   obtain ⟨A9,c9,e9,-,-,hL,-⟩:=Z8 ho
   cases e9
   have HL:=Lib.hid hL
   clear ho Ho hL
   refine r0T ?_
   refine wp_seq ?_
   refine wp_cond_false (rfl) ?_
   refine wp_exit ?_
   refine D7 ?_
   refine D7 ?_
   refine G8 ?_
   refine A4 ?_
   refine wp_seq (rsE A5 [0,1,0] hB hG fun L hL=>?_)
   refine gs ?_
   refine gxd (X:=Nat) (fun x : Nat=>.slice (some ⟨x,0,none⟩) R R) (fun x W=>PQ w.heap.size x TL W) (fun x u u' hg h=>h.grow hg) (fun x26=>?_) (C:=by (rintro v ⟨hgu,hB,hG,-⟩;exact (Htr.out _ g (HL.out.grow hgu)).mono fun e W ⟨x,g1,g2,g3⟩=>⟨x,g1,g2.mono hG.size,g3⟩))
   refine gs ?_
   refine geT hL ?_
   clear hB hG hL L
   rintro u ⟨⟨hgu,hB,hG,-⟩,hx26⟩
   have HP:=Lib.hid hx26
   clear hx26
   clear hgu
   refine rt Tryz.results171 ?_
   exact ⟨x26,rfl,HP.out,hG⟩
theorem B1N (w : World) : Calls Tryz.prog 107 #[.slice none 0 0] w fun e w'=>e = .returned (.slice none 0 0) ∧ A3 w w' :=
 (AnyE.slices_Clone_nil Tryz.cloneQ 0 0 w).mono fun e w' ⟨h1,h2⟩=>⟨h1,h2 ▸ A3.refl w⟩
theorem B1X (A : Option Addr) (c n : Nat) (l : List Rat) (hn : n = l.length) (hn0 : 0 < n) (hm : n ≤ 1099511627776) (w : World) (h : Lq w A l) :
  Calls Tryz.prog 107 #[.slice A n c] w fun e w'=>∃ v,e = .returned v ∧ w'.ownsRow w.heap.size 39 5 v n (l.flatMap qL) ∧ A3 w w':=by
 obtain ⟨b,off,rfl,hb,hc⟩:=h (fun e=>by rw [e] at hn;simp at hn;omega)
 obtain ⟨-,⟨i0,z,hi,hz,h1,h2,h3⟩,-⟩:=A5a
 refine (AnyE.slices_Clone Tryz.cloneQ i0 z 5 56 hi hz h1 h2 h3 (by omega) Tryz.sizeOf39 b off n c (l.flatMap qL) w (by rw [A10];omega) (by unfold maxLen;omega) (by omega) ?_ ?_).mono ?_
 ·intro t u hu
  have htl:=(List.getElem?_eq_some_iff.1 hu).1
  rw [A10] at htl
  have hq : l[t / 5]? = some (l[t / 5]'(by omega)):=List.getElem?_eq_getElem (by omega)
  have h6:=A2a l hq (j:=t % 5) (by omega)
  rw [show t / 5 * 5 + t % 5 = t by omega,hu] at h6
  have h7:=hc _ _ hq _ _ h6.symm
  rwa [show off + t / 5 * 5 + t % 5 = off + t by omega] at h7
 ·intro u hu
  obtain ⟨q,-,hq⟩:=List.mem_flatMap.1 hu
  simp [qL] at hq
  rcases hq with rfl | rfl | rfl | rfl | rfl <;> rfl
 ·rintro e w' ⟨v',rfl,ho,hne,hg⟩
  exact ⟨v',rfl,ho,hg⟩
theorem B6C (A : Option Addr) (l : List Rat) (n c : Nat) (hl : l.length = n) (hn0 : 0 < n) (hm : n ≤ 1048576) (hs : ∀ x ∈ l,qs x ≤ BIG) (w : World) (h : Lq w A l) :
  Calls Tryz.prog 170 #[.slice none 0 0,.slice A n c] w (I1 (fun x : Nat=>.slice (some ⟨x,0,none⟩) (trN l) (trN l)) (fun x W=>PQ w.heap.size x (trL l) W) w):=by
 have hcn : ∀ W,A3 w W → Calls Tryz.prog 107 #[.slice A n c] W (I1 (fun x : Nat × Nat=>.slice (some ⟨x.1,0,none⟩) n x.2) (fun x W=>Lq W (some ⟨x.1,0,none⟩) l ∧ n ≤ x.2) W):=fun W hg =>
  (B1X A c n l hl.symm hn0 (by omega) W (h.grow hg)).mono fun e w' ⟨v,he,ho,hg'⟩=>by
   obtain ⟨g,cap,rfl,-,hc⟩:=A3E ho hn0
   obtain ⟨A9,c9,e9,-,-,hL,-⟩:=Z8 ho
   cases e9
   exact ⟨(g,cap),he,⟨hL,hc⟩,hg'⟩
 have htr:=fun (W : World) (g cap : Nat) (hc : n ≤ cap) (hL : Lq W (some ⟨g,0,none⟩) l)=>A1B (some ⟨g,0,none⟩) l n cap hl hc hm hs W hL
 have f1 : decide ((0 : Int) < (n : Int)) = true:=by simp;omega
 have f1n : decide (0 < n) = true:=by simp;omega
 obtain ⟨R,hR⟩ : ∃ R,R = trN l:=⟨_,rfl⟩
 obtain ⟨TL,hTL⟩ : ∃ R,R = trL l:=⟨_,rfl⟩
 rw [← hR,← hTL]
 simp only [← hR,← hTL] at htr
 have Hcn:=Lib.hid hcn
 have Htr:=Lib.hid htr
 clear hcn htr hR hTL hs h hl
 go_enter Tryz.func170,Tryz.ntmps170
 refine en0 ?_
 intro u hG hB hF
 refine wp_seq ?_
 refine r0T ?_
 refine wp_cond_true (rfl) ?_
 refine r0N ?_
 refine wp_seq (rsE A5 [0,1,0] hB hG fun L hL=>?_)
 refine gs ?_
 refine gxd (X:=(Nat × Nat)) (fun x : Nat × Nat=>.slice (some ⟨x.1,0,none⟩) n x.2) (fun x W=>Lq W (some ⟨x.1,0,none⟩) l ∧ n ≤ x.2) (fun x u u' hg h=>⟨h.1.grow hg,h.2⟩) (fun x16=>?_) (C:=by (rintro v ⟨hgu,hB,hG,-⟩;exact Hcn.out _ hG))
 refine gs ?_
 refine geT hL ?_
 clear hB hG hL L
 rintro u ⟨⟨hgu,hB,hG,-⟩,hx16⟩
 obtain ⟨w3,hw3⟩ : ∃ x,x = u:=⟨_,rfl⟩
 have HC:=Lib.hid (show Lq w3 (some ⟨x16.1,0,none⟩) l ∧ n ≤ x16.2 from hw3 ▸ hx16)
 have hG3 : A3 w3 u:=hw3 ▸ A3.refl u
 clear hx16 hw3
 clear hgu
 refine wp_seq ?_
 refine r0T ?_
 refine wp_block ?_
 clear hB hF
 go_loopw [19] (fun s0 wr=>s0 = .int .i64 0 ∧ A3 w wr ∧ A3 w3 wr) (fun s0 _=>0)
 case atStart=>exact ⟨rfl,hG,hG3⟩
 case round =>
  clear hG hG3
  obtain ⟨rfl,hG,hG3⟩:=hrel
  obtain ⟨u,rfl⟩ : ∃ x,x = wr:=⟨_,rfl⟩
  have hB:=Bx.nil u
  have hF:=Fr.nil w
  refine r0T ?_
  refine wp_seq ?_
  refine wp_cond_false (rfl) ?_
  refine wp_exit ?_
  refine D7 ?_
  refine D7 ?_
  refine G8 ?_
  refine A4 ?_
  refine wp_seq (rsE A5 [0,1,0] hB hG fun L hL=>?_)
  refine gs ?_
  refine gxd (X:=Nat) (fun x : Nat=>.slice (some ⟨x,0,none⟩) R R) (fun x W=>PQ w.heap.size x TL W) (fun x u u' hg h=>h.grow hg) (fun x35=>?_) (C:=by (rintro v ⟨hgu,hB,hG,-⟩;exact (Htr.out _ x16.1 x16.2 HC.out.2 (HC.out.1.grow (hG3.trans hgu))).mono fun e W ⟨x,g1,g2,g3⟩=>⟨x,g1,g2.mono hG.size,g3⟩))
  refine gs ?_
  refine geT hL ?_
  clear hB hG hL L
  rintro u ⟨⟨hgu,hB,hG,-⟩,hx35⟩
  have HP:=Lib.hid hx35
  clear hx35
  clear hgu
  refine rt Tryz.results170 ?_
  exact ⟨x35,rfl,HP.out,hG⟩
theorem B4C (A : Option Addr) (c : Nat) (w : World) :
  Calls Tryz.prog 170 #[.slice none 0 0,.slice A 0 c] w (I1 (fun x : Nat=>.slice (some ⟨x,0,none⟩) 0 0) (fun x W=>PQ w.heap.size x [] W) w):=by
 have htr:=fun (W : World)=>A1B none [] 0 0 rfl (Nat.le_refl _) (by omega) (fun x hx=>by cases hx) W (fun h=>absurd rfl h)
 have Htr:=Lib.hid htr
 clear htr
 go_enter Tryz.func170,Tryz.ntmps170
 refine en0 ?_
 intro u hG hB hF
 refine wp_seq ?_
 refine r0T ?_
 refine wp_cond_false (rfl) ?_
 refine wp_skip ?_
 refine A4 ?_
 refine wp_seq (rsE A5 [0,1,0] hB hG fun L hL=>?_)
 refine gs ?_
 refine gmw (C:=fun v=>B1N _) ?_
 refine gs ?_
 refine geT hL ?_
 clear hB hG hL L
 rintro u ⟨-,hB,hG,-⟩
 refine wp_seq ?_
 refine r0T ?_
 refine wp_block ?_
 clear hB hF
 go_loopw [19] (fun s0 wr=>s0 = .int .i64 0 ∧ A3 w wr) (fun s0 _=>0)
 case atStart=>exact ⟨rfl,hG⟩
 case round =>
  clear hG
  obtain ⟨rfl,hG⟩:=hrel
  obtain ⟨u,rfl⟩ : ∃ x,x = wr:=⟨_,rfl⟩
  have hB:=Bx.nil u
  have hF:=Fr.nil w
  refine r0T ?_
  refine wp_seq ?_
  refine wp_cond_false (rfl) ?_
  refine wp_exit ?_
  refine D7 ?_
  refine D7 ?_
  refine G8 ?_
  refine A4 ?_
  refine wp_seq (rsE A5 [0,1,0] hB hG fun L hL=>?_)
  refine gs ?_
  refine gxd (X:=Nat) (fun x : Nat=>.slice (some ⟨x,0,none⟩) 0 0) (fun x W=>PQ w.heap.size x [] W) (fun x u u' hg h=>h.grow hg) (fun x35=>?_) (C:=by (rintro v ⟨hgu,hB,hG,-⟩;exact (Htr.out _).mono fun e W ⟨x,g1,g2,g3⟩=>⟨x,g1,g2.mono hG.size,g3⟩))
  refine gs ?_
  refine geT hL ?_
  clear hB hG hL L
  rintro u ⟨⟨hgu,hB,hG,-⟩,hx35⟩
  have HP:=Lib.hid hx35
  clear hx35
  clear hgu
  refine rt Tryz.results170 ?_
  exact ⟨x35,rfl,HP.out,hG⟩
def O8 (l : List Rat) : List Rat:=trL (trL (scL l (A8 (-1))))
theorem B6S (A : Option Addr) (l : List Rat) (n c : Nat) (hl : l.length = n) (hm : n ≤ 1048576) (s : Nat) (hs1 : 50 ≤ s) (hs : ∀ x ∈ l,qs x ≤ s) (hB : 2 * s ≤ BIG) (w : World) (h : Lq w A l) (HT : Tab w) :
  Calls Tryz.prog 130 #[.slice none 0 0,.slice A n c] w (I1 (fun x : Nat=>.slice (some ⟨x,0,none⟩) (O8 l).length (O8 l).length) (fun x W=>PQ w.heap.size x (O8 l) W) w):=by
 have q1 : qs (A8 (-1)) ≤ 1:=by decide
 have hsc:=fun W (hg : A3 w W)=>A8b A l (A8 (-1)) n c hl hm s hs (by omega) hB W (h.grow hg) (HT.grow hg)
 have hz : ∀ x ∈ trL (scL l (A8 (-1))),qs x ≤ BIG:=fun x hx=>Nat.le_trans (A7D hs q1 x (List.mem_of_mem_take hx)) (by omega)
 have hlen:=F4 (scL l (A8 (-1)))
 have hle : trN (scL l (A8 (-1))) ≤ n:=by have := G4 (scL l (A8 (-1)));rw [A88,hl] at this;exact this
 unfold O8
 obtain ⟨SL,hSL⟩ : ∃ S,S = trL (scL l (A8 (-1))):=⟨_,rfl⟩
 obtain ⟨R,hR⟩ : ∃ R,R = trN (scL l (A8 (-1))):=⟨_,rfl⟩
 rw [← hSL] at hz hlen ⊢
 rw [← hR] at hlen hle
 simp only [← hSL,← hR] at hsc
 have had : ∀ (W : World) (x : Nat),PQ w.heap.size x SL W → Calls Tryz.prog 170 #[.slice none 0 0,.slice (some ⟨x,0,none⟩) R R] W (I1 (fun x : Nat=>.slice (some ⟨x,0,none⟩) (trL SL).length (trL SL).length) (fun x W'=>PQ W.heap.size x (trL SL) W') W):=fun W x hx=>by
  rw [F4]
  rcases Nat.eq_zero_or_pos R with h0 | h0
  ·have e : SL = []:=List.eq_nil_of_length_eq_zero (by omega)
   rw [h0,e]
   exact B4C _ _ W
  ·exact B6C _ SL R R hlen h0 (by omega) hz W hx.lq
 obtain ⟨TL,hTL⟩ : ∃ T,T = trL SL:=⟨_,rfl⟩
 rw [← hTL]
 simp only [← hTL] at had
 obtain ⟨m,hme⟩ : ∃ m,m = TL.length:=⟨_,rfl⟩
 rw [← hme]
 simp only [← hme] at had
 have Hsc:=Lib.hid hsc
 have Had:=Lib.hid had
 clear hsc had hz hlen hle hSL hR hTL hme hs h hl q1 hB hs1
 go_enter Tryz.func130,Tryz.ntmps130
 refine en0 ?_
 intro u hG hB hF
 refine wp_seq (rsE A5 [0,0,1,1,1,0] hB hG fun L hL=>?_)
 refine gs ?_
 refine gmw (C:=fun v=>O7 (-1) (by omega) (by omega) _) ?_
 refine gxd (X:=Nat) (fun x : Nat=>.slice (some ⟨x,0,none⟩) R R) (fun x W=>PQ w.heap.size x SL W) (fun x u u' hg h=>h.grow hg) (fun x8=>?_) (C:=by (rintro v ⟨hgu,hB,hG,-⟩;exact (Hsc.out _ hG).mono fun e W ⟨x,g1,g2,g3⟩=>⟨x,g1,g2.mono hG.size,g3⟩))
 refine gxd (X:=Nat) (fun x : Nat=>.slice (some ⟨x,0,none⟩) m m) (fun x W=>PQ w.heap.size x TL W) (fun x u u' hg h=>h.grow hg) (fun x9=>?_) (C:=by (rintro v ⟨⟨hgu,hB,hG,-⟩,hx8⟩;exact (Had.out _ x8 hx8).mono fun e W ⟨x,g1,g2,g3⟩=>⟨x,g1,g2.mono hG.size,g3⟩))
 refine gs ?_
 refine geT hL ?_
 clear hB hG hL L
 rintro u ⟨⟨⟨hgu,hB,hG,-⟩,hx8⟩,hx9⟩
 have HP:=Lib.hid hx9
 clear hx8 hx9
 clear hgu
 refine rt Tryz.results130 ?_
 exact ⟨x9,rfl,HP.out,hG⟩
def PR (l : List Rat) (x : Ax) (W : World) : Prop:=Lq W x.1 l ∧ l.length ≤ x.2 ∧ ∀ a,x.1 = some a → ∃ cs fr,W.heap[a.block]? = some (.cells cs 39 fr)
theorem PR.grow {l : List Rat} {x : Ax} {u v : World} (h : PR l x u) (hg : A3 u v) : PR l x v:=⟨h.1.grow hg,h.2.1,fun a ha=>by
 obtain ⟨cs,fr,e⟩:=h.2.2 a ha
 exact ⟨cs,fr,(hg.block _ (Array.getElem?_eq_some_iff.1 e).1).trans e⟩⟩
theorem PR.nil (W : World) : PR [] (none,0) W:=⟨fun h=>absurd rfl h,Nat.le_refl _,fun a h=>by cases h⟩
def E7 (l : List Rat) (w : World) (e : Ending) (w' : World) : Prop:=I1 (fun x : Ax=>.slice x.1 l.length x.2) (fun x W=>PR l x W) w e w'
theorem PQ.pr {B x : Nat} {l : List Rat} {u : World} (h : PQ B x l u) : PR l (some ⟨x,0,none⟩,l.length) u:=⟨h.lq,Nat.le_refl _,fun a ha=>by
 cases ha
 obtain ⟨_,h | ⟨g,cap,cur,e,hb,hh,hn,hc,hs,ht⟩⟩:=h
 ·cases h.1
 ·cases e
  exact ⟨_,_,hh⟩⟩
theorem E7.of {l : List Rat} {w w' : World} {e : Ending} {R B : Nat} (hR : R = l.length) (h : I1 (fun x : Nat=>.slice (some ⟨x,0,none⟩) R R) (fun x W=>PQ B x l W) w e w') : E7 l w e w':=by
 obtain ⟨x,g1,g2,g3⟩:=h
 subst hR
 exact ⟨(some ⟨x,0,none⟩,l.length),g1,g2.pr,g3⟩
def O0 (t : List Rat) : List Rat:=(List.range (t.length - 1)).map fun i=>H9 (gq t (i + 1)) (A8 ((i + 1 : Nat) : Int))
def D2 (l : List Rat) : List Rat:=trL (O0 (trL l))
theorem A9S {l : List Rat} {s : Nat} (h : ∀ x ∈ l,qs x ≤ s) : ∀ x ∈ trL l,qs x ≤ s:=fun x hx=>h x (List.mem_of_mem_take hx)
theorem B5E {l : List Rat} {s : Nat} (h : ∀ x ∈ l,qs x ≤ s) (hm : l.length ≤ 1000) : ∀ x ∈ O0 l,qs x ≤ s + 41:=fun x hx=>by
 unfold O0 at hx
 obtain ⟨i,hi,rfl⟩:=List.mem_map.1 hx
 have hi:=List.mem_range.1 hi
 have h1:=P8 h (i:=i + 1) (by omega)
 have h2:=A9s (i + 1) (by omega)
 have h3:=A2s (gq l (i + 1)) (A8 ((i + 1 : Nat) : Int))
 unfold H9
 omega
theorem B5h (A : Option Addr) (l : List Rat) (n c : Nat) (hl : l.length = n) (hc : n ≤ c) (hm : n ≤ 1000) (s : Nat) (hs : ∀ x ∈ l,qs x ≤ s) (hB : 2 * s + 100 ≤ BIG) (w : World) (h : Lq w A l) (HT : Tab w) :
  Calls Tryz.prog 128 #[.slice A n c] w (E7 (D2 l) w):=by
 have htr:=fun W (hg : A3 w W)=>A2P A l n c hl hc (by omega) (fun x hx=>Nat.le_trans (hs x hx) (by omega)) W (h.grow hg)
 obtain ⟨P,hP⟩ : ∃ P,P = trL l:=⟨_,rfl⟩
 have hPs : ∀ x ∈ P,qs x ≤ s:=by rw [hP];exact A9S hs
 have hPl : P.length = trN l:=by rw [hP];exact F4 l
 have htn : trN l ≤ n:=by have := G4 l;omega
 have hLP:=fun W (hg : A3 w W)=>A3W (h.grow hg) (trN l)
 have hte : l.take (trN l) = P:=hP.symm
 rw [hte] at hLP
 unfold D2
 rw [← hP]
 obtain ⟨t,ht⟩ : ∃ t,t = trN l:=⟨_,rfl⟩
 rw [← ht] at hPl htn
 simp only [← ht] at htr
 have hrd : ∀ j,j + 1 < t → ∃ b o,A = some ⟨b,o,none⟩ ∧ (∀ W,A3 w W → Cq W b (o + (j + 1) * 5) (gq P (j + 1))) ∧ ∀ W,Tab W → Calls Tryz.prog 16 #[qV (gq P (j + 1)),qV (A8 ((j + 1 : Nat) : Int))] W fun e w'=>e = .returned (qV (H9 (gq P (j + 1)) (A8 ((j + 1 : Nat) : Int)))) ∧ A3 W w':=fun j hj=>by
  obtain ⟨b,o,e⟩:=(hLP w (A3.refl w)).addr (by omega)
  refine ⟨b,o,e,fun W hg=>?_,fun W hT=>A2I _ _ W ?_ hT⟩
  ·have h9:=hLP W hg
   rw [e] at h9
   exact h9.read (by omega)
  ·have h1:=P8 hPs (i:=j + 1) (by omega)
   have h2:=A9s (j + 1) (by omega)
   omega
 obtain ⟨f,hf⟩ : ∃ f : Nat → Rat,f = fun i=>H9 (gq P (i + 1)) (A8 ((i + 1 : Nat) : Int)):=⟨_,rfl⟩
 have hfi : ∀ i,H9 (gq P (i + 1)) (A8 ((i + 1 : Nat) : Int)) = f i:=by rw [hf];exact fun _=>rfl
 simp only [hfi] at hrd
 have hdz : ∀ x ∈ O0 P,qs x ≤ BIG:=fun x hx=>Nat.le_trans (B5E hPs (by omega) x hx) (by omega)
 have hdf : O0 P = (List.range (t - 1)).map f:=by unfold O0;rw [hPl,hf]
 have htr2:=fun (W : World) (A : Option Addr) (c : Nat) (hc : t - 1 ≤ c) (hL : Lq W A (O0 P))=>(A1B A (O0 P) (t - 1) c (by unfold O0;simp [hPl]) hc (by omega) hdz W hL).mono fun e w' g=>E7.of (F4 _).symm g
 rw [hdf] at htr2 ⊢
 obtain ⟨DL,hDL⟩ : ∃ D,D = trL ((List.range (t - 1)).map f):=⟨_,rfl⟩
 rw [← hDL]
 simp only [← hDL] at htr2
 obtain ⟨dl,hdl⟩ : ∃ m,m = DL.length:=⟨_,rfl⟩
 unfold E7 at htr2 ⊢
 rw [← hdl]
 simp only [← hdl] at htr2
 have Htr:=Lib.hid htr
 have Hrd:=Lib.hid hrd
 have Htr2:=Lib.hid htr2
 clear htr hrd htr2 hP hPs hPl hLP hte ht hf hfi hdz hdf hDL hdl hs hB h hl
 go_enter Tryz.func128,Tryz.ntmps128
 refine en0 ?_
 intro u hG hB hF
 refine wp_seq (rsE A5 [0,1,0] hB hG fun L hL=>?_)
 refine gs ?_
 refine gmd (C:=fun v ⟨hgu,hB,hG,_⟩=>Htr.out _ hG) ?_
 refine gs ?_
 refine geT hL ?_
 clear hB hG hL L
 rintro u ⟨-,hB,hG,-⟩
 refine r0T ?_
 refine wp_seq ?_
 refine r0T ?_
 refine wp_block ?_
 clear hB hF
 go_loopw [4,3] (fun s0 s1 wr=>∃ (j : Nat) (v : Value),j ≤ t - 1 ∧ s0 = .int .i64 ((j + 1 : Nat) : Int) ∧ v = s1 ∧ wr.ownsRow w.heap.size 39 5 v j (((List.range j).map f).flatMap qL) ∧ A3 w wr) (fun s0 _ _=>t + 1 - (intOf s0).toNat)
 case atStart=>exact ⟨0,_,Nat.zero_le _,rfl,rfl,World.ownsRow_nil _ _ _ _,hG⟩
 case round =>
  clear hG
  obtain ⟨j,v,hj,rfl,rfl,ho,hG⟩:=hrel
  obtain ⟨u,rfl⟩ : ∃ x,x = wr:=⟨_,rfl⟩
  have hB:=Bx.nil u
  have hF:=Fr.nil w
  have Ho:=Lib.hid ho
  clear ho
  obtain ⟨J,hJ⟩ : ∃ J,J = j + 1:=⟨_,rfl⟩
  rw [← hJ]
  rcases Nat.lt_or_ge J t with hlt | hge
  ·have hdec : decide ((J : Int) < (t : Int)) = true:=by simp;omega
   have hJt : (J : Int) < (t : Int):=by omega
   have hsu:=B5V f j
   obtain ⟨b,o,rfl,hrd,hml⟩:=Hrd.out j (by omega)
   rw [← hJ] at hrd hml
   obtain ⟨X,hX⟩ : ∃ X,X = gq P J:=⟨_,rfl⟩
   rw [← hX] at hml
   simp only [← hX] at hrd
   obtain ⟨Q,hQ⟩ : ∃ q,q = f j:=⟨_,rfl⟩
   rw [← hQ] at hsu hml
   have Hsu:=Lib.hid hsu
   have Hrd1:=Lib.hid hrd
   have Hml:=Lib.hid hml
   have HJ:=Lib.hid hJ
   clear hsu hrd hml hX hQ hJ
   refine wp_seq ?_
   refine r0T ?_
   refine wp_cond_true (rfl) ?_
   refine wp_skip ?_
   refine A4 ?_
   refine wp_seq ?_
   refine wp_block ?_
   refine A5d (w:=w) A5 8 [0] [(0,0),(0,1),(0,2),(0,3),(0,4),(0,5),(1,6),(1,7)] (by kernel_rfl) (by kernel_rfl) (by simp only [List.drop_succ_cons,List.drop_zero];exact rfl) (fun _=>True) noG hB hG trivial ?_
   intro K L hN hL
   simp only [E8,List.getElem?_toArray,List.getElem?_cons_zero,List.getElem?_cons_succ]
   repeat first | refine gya ?_ | refine gyr ?_ | refine gna ?_ | refine gyb (by (rintro v ⟨hgu,hB,hG,-⟩ N hN;have r:=hB.r;simp only [BxR] at r;obtain ⟨x1,x2,x3,x4,x5⟩:=Hrd1.out v hG;go_simp;exact hN)) ?_
   refine gmw (C:=fun v=>O7 (J : Nat) (by omega) (by omega) _) ?_
   refine gmd (C:=fun v ⟨hgu,hB,hG,_⟩=>Hml.out _ (HT.grow hG)) ?_
   refine K8 ?_
   rintro v ⟨hgu,hB1,hG1,-⟩
   have ROWn:=Lib.hid (F3 Ho.out hgu)
   clear Ho
   have Ho:=ROWn
   clear ROWn
   clear hB hG
   have hB:=hB1
   have hG:=hG1
   clear hB1 hG1
   refine hL _ _ ?_
   clear hL L hgu
   obtain ⟨u,rfl⟩ : ∃ x,x = v:=⟨_,rfl⟩
   refine A2J A5a w.heap.size _ _ _ _ (qL Q) rfl rfl (A94 Q u) rfl (fun _=>rfl) (fun _=>rfl) (fun _ _=>rfl) Ho.out (by omega) (by omega) hG.sz fun p v' w' g1 g2 g3=>?_
   have hBn:=Bx.nil w'
   have hGn:=A2K Ho.out hG g2
   clear Ho hB hG
   have Ho:=Lib.hid g1
   have hB:=hBn
   have hG:=hGn
   clear g1 g2 g3 hBn hGn
   obtain ⟨u,rfl⟩ : ∃ x,x = w':=⟨_,rfl⟩
   simp only [Act.put,List.setIfInBounds_toArray,List.set_cons_succ,List.set_cons_zero]
   refine NoK.norm (hN _ _ ?_)
   clear hN K
   refine F0 ?_
   refine A4 ?_
   refine r0E ?_
   refine A4 ?_
   go_roundw
   case rel=>exact ⟨J,_,by omega,by go_num,rfl,by have h9:=Ho.out;rw [HJ.out,Hsu.out,List.flatMap_append];simpa using h9,hG⟩
   case measure=>simp [intOf];omega
  ·have hdec : decide (J < t) = false:=by simp;omega
   have hjt : t - 1 = j:=by omega
   have ho:=Ho.out
   rw [← hjt] at ho
   obtain ⟨A',cc,rfl,hcc,-,hL,-⟩:=Z8 ho
   have HL:=Lib.hid (And.intro hL hcc)
   clear ho Ho hL hcc
   obtain ⟨m,hm⟩ : ∃ m,m = t - 1:=⟨_,rfl⟩
   rw [← hm] at HL ⊢
   rw [← hm] at Htr2
   clear hjt hm hJ
   refine wp_seq ?_
   refine r0T ?_
   refine wp_cond_false (rfl) ?_
   refine wp_exit ?_
   refine D7 ?_
   refine D7 ?_
   refine G8 ?_
   refine A4 ?_
   refine wp_seq (rsE A5 [0,1,0] hB hG fun L hL=>?_)
   refine gs ?_
   refine gxd (X:=Ax) (fun x : Ax=>.slice x.1 dl x.2) (fun x W=>PR DL x W) (fun x u u' hg h=>h.grow hg) (fun x24=>?_) (C:=by (rintro v ⟨hgu,hB,hG,-⟩;exact Htr2.out _ A' cc (HL.out.2) (HL.out.1.grow hgu)))
   refine gs ?_
   refine geT hL ?_
   clear hB hG hL L
   rintro u ⟨⟨hgu,hB,hG,-⟩,hx24⟩
   have HP:=Lib.hid hx24
   clear hx24
   clear hgu
   refine rt Tryz.results128 ?_
   exact ⟨x24,rfl,HP.out,hG⟩
def C1 (l : List Rat) : Rat:=gq l (trN l - 1)
def E1 (l : List Rat) : List Rat:=if trN l = 0 then [] else trL (scL (trL l) (J5 (A8 1) (C1 l)))
theorem B5r (A : Option Addr) (n c : Nat) (w : World) (htr : ∀ W,A3 w W → Calls Tryz.prog 49 #[.slice A n c] W fun e w'=>e = .returned (.slice A 0 0) ∧ A3 W w') :
  Calls Tryz.prog 148 #[.slice A n c] w (E7 [] w):=by
 have Htr:=Lib.hid htr
 clear htr
 go_enter Tryz.func148,Tryz.ntmps148
 refine en0 ?_
 intro u hG hB hF
 refine wp_seq (rsE A5 [0,1,0] hB hG fun L hL=>?_)
 refine gs ?_
 refine gmd (C:=fun v ⟨hgu,hB,hG,_⟩=>Htr.out _ hG) ?_
 refine gs ?_
 refine geT hL ?_
 clear hB hG hL L
 rintro u ⟨-,hB,hG,-⟩
 refine wp_seq ?_
 refine r0T ?_
 refine wp_cond_true (rfl) ?_
 refine r0T ?_
 refine rt Tryz.results148 ?_
 exact ⟨(none,0),rfl,PR.nil _,hG⟩
theorem B1q (A : Option Addr) (M : List Rat) (n c T : Nat) (t D : Rat) (ok : Bool) (hT0 : 0 < T) (hTb : T ≤ 1000) (w : World) (htr : ∀ W,A3 w W → Calls Tryz.prog 49 #[.slice A n c] W fun e w'=>e = .returned (.slice A T T) ∧ A3 W w')
  (hrd : ∃ b o,A = some ⟨b,o,none⟩ ∧ ∀ W,A3 w W → Cq W b (o + (T - 1) * 5) t) (hdv : ∀ W,Tab W → Calls Tryz.prog 51 #[qV (A8 1),qV t] W fun e w'=>e = .returned (.tuple #[qV D,.bool ok]) ∧ A3 W w')
  (hsc : ∀ W,A3 w W → Calls Tryz.prog 171 #[.slice A T T,qV D] W (E7 M W)) (HT : Tab w) :
  Calls Tryz.prog 148 #[.slice A n c] w (E7 M w):=by
 obtain ⟨b,o,rfl,hrd⟩:=hrd
 obtain ⟨T1,hT1⟩ : ∃ T1,T1 = T - 1:=⟨_,rfl⟩
 rw [← hT1] at hrd
 have fw : IntKind.i64.wrap ((T : Int) - 1) = (T1 : Int):=by rw [IntWalk.i64_in _ (by omega)];omega
 have hT1T : (T1 : Int) < (T : Int):=by omega
 have f9 : ((T : Int) == 0) = false:=by simp;omega
 have f9n : decide (T = 0) = false:=by simp;omega
 obtain ⟨m,hm⟩ : ∃ m,m = M.length:=⟨_,rfl⟩
 unfold E7 at hsc ⊢
 rw [← hm]
 simp only [← hm] at hsc
 have Htr:=Lib.hid htr
 have Hrd:=Lib.hid hrd
 have Hdv:=Lib.hid hdv
 have Hsc:=Lib.hid hsc
 clear htr hrd hdv hsc hT1 hm
 go_enter Tryz.func148,Tryz.ntmps148
 refine en0 ?_
 intro u hG hB hF
 refine wp_seq (rsE A5 [0,1,0] hB hG fun L hL=>?_)
 refine gs ?_
 refine gmd (C:=fun v ⟨hgu,hB,hG,_⟩=>Htr.out _ hG) ?_
 refine gs ?_
 refine geT hL ?_
 clear hB hG hL L
 rintro u ⟨-,hB,hG,-⟩
 refine wp_seq ?_
 refine r0T ?_
 refine wp_cond_false (rfl) ?_
 refine wp_skip ?_
 refine A4 ?_
 refine wp_seq (rdC A5 [10] [(0,1),(0,2),(0,3),(0,4),(0,5),(0,6),(1,0),(1,7),(0,8),(0,9),(0,10),(2,11)] hB hG fun K L hN hL=>?_)
 repeat first | refine gya ?_ | refine gyr ?_ | refine gna ?_ | refine gyb (by (rintro v ⟨hgu,hB,hG,-⟩ N hN;have r:=hB.r;simp only [BxR] at r;(first | obtain ⟨x1,x2,x3,x4,x5⟩:=Hrd.out v hG | skip);go_simp;exact hN)) ?_
 refine gmw (C:=fun v=>O7 1 (by omega) (by omega) _) ?_
 refine gmd (C:=fun v ⟨hgu,hB,hG,_⟩=>Hdv.out _ (HT.grow hG)) ?_
 refine gs ?_
 refine gaa (N0 _ _ _ _ _) fun b3 hb3 hn3=>?_
 replace hF:=hF.n1 [] hB hG hb3 hn3
 refine geC hL ?_
 clear hB hG hL L
 rintro u ⟨⟨-,hB,hG,-⟩,h3⟩
 replace hB:=hB.cons' h3
 clear h3
 clear hb3 hn3
 refine gtT ?_
 clear hN K
 refine st hB hF hG 0 0 [_,_,_,_,_] ?_
 clear hB hG
 intro u hB hG
 refine wp_seq (rsE A5 [0,0,1,0] hB hG fun L hL=>?_)
 repeat first | refine gya ?_ | refine gyr ?_ | refine gna ?_ | refine gyb (by (rintro v ⟨hgu,hB,hG,-⟩ N hN;have r:=hB.r;simp only [BxR] at r;(first | obtain ⟨x1,x2,x3,x4,x5⟩:=Hrd.out v hG | skip);go_simp;exact hN)) ?_
 refine gxd (X:=Ax) (fun x : Ax=>.slice x.1 m x.2) (fun x W=>PR M x W) (fun x u u' hg h=>h.grow hg) (fun x23=>?_) (C:=by (rintro v ⟨hgu,hB,hG,-⟩;exact Hsc.out _ hG))
 refine gs ?_
 refine geT hL ?_
 clear hB hG hL L
 rintro u ⟨⟨hgu,hB,hG,-⟩,hx23⟩
 have HP:=Lib.hid hx23
 clear hx23
 clear hgu
 refine rt Tryz.results148 ?_
 exact ⟨x23,rfl,HP.out,hG⟩
theorem B2n (A : Option Addr) (l : List Rat) (n c : Nat) (hl : l.length = n) (hc : n ≤ c) (hm : n ≤ 1000) (s : Nat) (hs1 : 50 ≤ s) (hs : ∀ x ∈ l,qs x ≤ s) (hB : 4 * s + 100 ≤ BIG) (w : World) (h : Lq w A l) (HT : Tab w) :
  Calls Tryz.prog 148 #[.slice A n c] w (E7 (E1 l) w):=by
 have htr:=fun W (hg : A3 w W)=>A2P A l n c hl hc (by omega) (fun x hx=>Nat.le_trans (hs x hx) (by omega)) W (h.grow hg)
 have htn:=G4 l
 rw [hl] at htn
 obtain ⟨P,hP⟩ : ∃ P,P = trL l:=⟨_,rfl⟩
 have hPs : ∀ x ∈ P,qs x ≤ s:=by rw [hP];exact A9S hs
 have hPl : P.length = trN l:=by rw [hP];exact F4 l
 have hLP:=fun W (hg : A3 w W)=>A3W (h.grow hg) (trN l)
 have hte : l.take (trN l) = P:=hP.symm
 rw [hte] at hLP
 unfold E1
 rw [← hP]
 by_cases h0 : trN l = 0
 ·rw [if_pos h0]
  simp only [h0] at htr
  exact B5r A n c w htr
 ·rw [if_neg h0]
  have q1 : qs (A8 1) ≤ 1:=by decide
  have zt : qs (C1 l) ≤ s:=P8 hs (by omega)
  have hdv:=fun W (hT : Tab W)=>A2v (a:=A8 1) (b:=C1 l) (w:=W) (by omega) hT
  have zd:=A4T (A8 1) (C1 l)
  have hsc:=fun W (hg : A3 w W)=>(A8b A P (J5 (A8 1) (C1 l)) (trN l) (trN l) hPl (by omega) (2 * s) (fun x hx=>Nat.le_trans (hPs x hx) (by omega)) (by unfold J5;omega) (by omega) W (hLP W hg) (HT.grow hg)).mono fun e w' g=>E7.of (F4 _).symm g
  refine B1q A _ n c (trN l) (C1 l) _ _ (Nat.pos_of_ne_zero h0) (by omega) w htr ?_ hdv hsc HT
  obtain ⟨b,o,e⟩:=h.addr (by omega)
  subst e
  exact ⟨b,o,rfl,fun W hg=>(h.grow hg).read (by omega)⟩
end Go.Proofs.YtlkniebmjdoopaaGreatDoor
