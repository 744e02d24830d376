/- Contracts and laws. -/
import Derived.Test.YtgpglgbcobeogaaGreatDoorU37
set_option linter.unusedSimpArgs false
set_option linter.unusedVariables false
set_option maxHeartbeats 16000000
set_option maxRecDepth 100000
namespace Go.Proofs.YtgpglgbcobeogaaGreatDoor
open Go Go.RowKit
theorem A52 {n L : Nat} {s : Gs} (h : ∀ x ∈ s.2,x < 0) : ∀ c,(∀ x ∈ (C7 n L s c).2,x < c) ∧ ((C7 n L s c).2.Pairwise (· < ·) ∨ ¬ s.2.Pairwise (· < ·))
 | 0=>⟨h,by
  by_cases hp : s.2.Pairwise (· < ·)
  ·exact .inl hp
  ·exact .inr hp⟩
 | c + 1=>by
  obtain ⟨h1,h2⟩:=A52 h c
  show (∀ x ∈ (K8 n L (C7 n L s c) c).2,x < c + 1) ∧ ((K8 n L (C7 n L s c) c).2.Pairwise (· < ·) ∨ _)
  unfold K8
  split
  ·refine ⟨fun x hx=>?_,?_⟩
   ·rcases List.mem_append.1 hx with hx | hx
    ·exact Nat.lt_succ_of_lt (h1 x hx)
    ·have : x = c:=by simpa using hx
     omega
   ·rcases h2 with h2 | h2
    ·left
     rw [List.pairwise_append]
     refine ⟨h2,by simp,fun a ha b hb=>?_⟩
     have : b = c:=by simpa using hb
     rw [this]
     exact h1 a ha
    ·exact .inr h2
  ·exact ⟨fun x hx=>Nat.lt_succ_of_lt (h1 x hx),h2⟩
theorem A5C (n L : Nat) (M : Mx) (c : Nat) : (C7 n L (M,[]) c).2.Pairwise (· < ·) ∧ ∀ x ∈ (C7 n L (M,[]) c).2,x < c:=by
 obtain ⟨h1,h2⟩:=A52 (n:=n) (L:=L) (s:=(M,[])) (fun x hx=>(by cases hx)) c
 exact ⟨h2.resolve_right (fun h=>h List.Pairwise.nil),h1⟩
def nx (l : List Nat) (i : Nat) : Nat:=(l[i]?).getD 0
theorem M7 {l : List Nat} {i : Nat} (h : i < l.length) : nx l i ∈ l:=by
 unfold nx
 rw [List.getElem?_eq_getElem h]
 exact List.getElem_mem h
theorem A3j {W : World} {A : Option Addr} {le : List Nat} (h : Li W A (J6 le)) {i : Nat} (hi : i < le.length) : ∃ b o,A = some ⟨b,o,none⟩ ∧ ∀ W',A4 W W' → W'.cell? ⟨b,o + i,none⟩ = some (.int .i64 (nx le i : Nat)):=by
 have hil : i < (J6 le).length:=by rw [A2N];exact hi
 obtain ⟨b,o,e,-⟩:=h.cell hil
 refine ⟨b,o,e,fun W' hg=>?_⟩
 obtain ⟨b',o',e',hc⟩:=(h.grow hg).cell hil
 rw [e] at e'
 cases e'
 rw [hc]
 have : gi (J6 le) i = ((nx le i : Nat) : Int):=by
  unfold gi nx J6
  rw [List.getElem?_map,List.getElem?_eq_getElem hi]
  rfl
 rw [this]
theorem B42 (b0 m : Nat) (ld : Ax) (hm : m ≤ 300) (w : World) (hl : Li w ld.1 (J6 (List.range m))) :
  Calls Tryz.prog 163 #[.agg #[.slice (some ⟨b0,0,none⟩) m m,.slice ld.1 m ld.2],.int .i64 (m : Nat)] w fun e w'=>e = .returned (.slice none 0 0) ∧ A4 w w':=by
 have hli : ∀ i,i < m → ∃ b o,ld.1 = some ⟨b,o,none⟩ ∧ ∀ W',A4 w W' → W'.cell? ⟨b,o + i,none⟩ = some (.int .i64 (i : Nat)):=fun i hi=>by
  obtain ⟨b,o,e,h⟩:=A3j hl (i:=i) (by simpa using hi)
  have e2 : nx (List.range m) i = i:=by unfold nx;simp [hi]
  rw [e2] at h
  exact ⟨b,o,e,h⟩
 obtain ⟨LA,LC⟩:=ld
 have Hli:=Lib.hid hli
 clear hli hl
 go_enter Tryz.func163,Tryz.ntmps163
 refine en1 ?_
 intro u hG b2 hB hF
 refine r0T ?_
 refine r0T ?_
 refine wp_seq ?_
 refine r0T ?_
 refine wp_block ?_
 clear hF
 go_loopw [12,5,6] (fun s0 s2 s1 wr=>∃ k : Nat,k ≤ m ∧ s0 = .int .i64 k ∧ s2 = .slice none 0 0 ∧ s1 = .int .i64 k ∧ Bx wr [(b2,216,#[.slice (some ⟨b0,0,none⟩) m m,.slice LA m LC])] ∧ A4 w wr) (fun s0 _ _ _=>m - (intOf s0).toNat)
 case atStart=>exact ⟨0,Nat.zero_le _,rfl,rfl,rfl,hB,hG⟩
 case round =>
  clear hB hG
  obtain ⟨k,hk,rfl,rfl,rfl,hB,hG⟩:=hrel
  obtain ⟨u,rfl⟩ : ∃ x,x = wr:=⟨_,rfl⟩
  rcases Nat.lt_or_ge k m with hlt | hge
  ·have hdec : decide ((k : Int) < (m : Int)) = true:=by simp;omega
   have hkm : (k : Int) < (m : Int):=by omega
   have fk : IntKind.i64.wrap ((k : Int) + 1) = ((k + 1 : Nat) : Int):=by rw [IntWalk.i64_in _ (by omega)];omega
   obtain ⟨bl0,ol,el,hlc⟩:=Hli.out k hlt
   simp only at el
   subst el
   have fx : ((k : Int) == (k : Int)) = true:=by simp
   have Hlc:=Lib.hid hlc
   clear hlc
   refine r0T ?_
   refine wp_seq ?_
   refine wp_cond_true (rfl) ?_
   refine wp_skip ?_
   refine A6 ?_
   refine wp_seq ?_
   refine wp_block ?_
   refine r0T ?_
   refine wp_seq ?_
   refine wp_seq ?_
   have q0:=Hlc.out u hG
   refine r0N ?_
   refine wp_cond_true (rfl) ?_
   refine r0T ?_
   refine wp_exit ?_
   refine B9 ?_
   refine E9 ?_
   refine A6 ?_
   refine r0E ?_
   refine A6 ?_
   go_roundw
   case rel=>exact ⟨k + 1,by omega,by go_num,rfl,by go_num,hB,hG⟩
   case measure=>simp [intOf];omega
  ·obtain rfl : m = k:=by omega
   have hdec : decide ((m : Int) < (m : Int)) = false:=by simp
   refine r0T ?_
   refine wp_seq ?_
   refine wp_cond_false (rfl) ?_
   refine wp_exit ?_
   refine B9 ?_
   refine B9 ?_
   refine E9 ?_
   refine A6 ?_
   refine r0T ?_
   refine rt Tryz.results163 ?_
   exact ⟨rfl,hG⟩
def aug (X : List (List Rat)) (y : List Rat) (m : Nat) : List (List Rat):=(List.range m).map fun i=>B6 X i ++ [gq y i]
theorem A2D {m i : Nat} {f : Nat → List Rat} (h : i < m) : B6 ((List.range m).map f) i = f i:=by
 unfold B6
 rw [List.getElem?_map,List.getElem?_range h]
 rfl
theorem B2z (A : Option Addr) (bb ob : Nat) (rs : List Rq) (y : List Rat) (m c d : Nat) (hn : rs.length = m) (hm1 : 1 ≤ m) (hm2 : m ≤ 19) (hrl : ∀ r ∈ rs,r.2.2.length = m) (hrc : ∀ r ∈ rs,m ≤ r.2.1) (hy : y.length = m) (hd : m ≤ d) (s : Nat) (hs1 : 1 ≤ s) (hs : ∀ i,i < m → ∀ j,j < m → qs (gq (B6 (rs.map (·.2.2)) i) j) ≤ s) (hys : ∀ i,i < m → qs (gq y i) ≤ s) (hBz : 30 * (s * 10 ^ (m + 1)) ≤ BIG)
  (hfull : (C7 m (m + 1) (E8 (aug (rs.map (·.2.2)) y m),[]) (m + 1)).2 = List.range m) (w : World) (h : Lrq w A rs) (h2 : Lq w (some ⟨bb,ob,none⟩) y) (HT : Tab w) :
  Calls Tryz.prog 128 #[.slice A m c,.slice (some ⟨bb,ob,none⟩) m d] w (G5 (fun x : Ax=>.tuple #[.slice x.1 m x.2,.slice none 0 0,.int .i64 0]) (fun x W=>Lq W x.1 ((List.range m).map fun i=>(C7 m (m + 1) (E8 (aug (rs.map (·.2.2)) y m),[]) (m + 1)).1 i m) ∧ ∃ b,x.1 = some ⟨b,0,none⟩ ∧ w.heap.size ≤ b) w):=by
 have hri:=fun W (hg : A4 w W)=>A8A A rs m m c hn hm1 (by omega) hm1 hrl W (h.grow hg)
 have hcl:=fun W (hg : A4 w W)=>B11 bb ob m d y hy (by omega) hd W (h2.grow hg)
 obtain ⟨b9,o9,P0,eA,hP0⟩:=T6 hn hrl h (i:=0) (by omega)
 have hr0:=fun W hg=>(hP0 W hg).1
 simp only [Nat.add_zero] at hr0
 obtain ⟨rc,hrcd⟩ : ∃ rc : List Rq,rc = (List.range m).map fun i=>((some ⟨bb,ob + i * 5,none⟩,1,[gq y i]) : Rq):=⟨_,rfl⟩
 rw [← hrcd] at hcl
 have hrc1 : rc.length = m:=by rw [hrcd];simp
 have hrc2 : ∀ r ∈ rc,r.2.2.length = 1:=fun r hr=>by
  rw [hrcd] at hr
  obtain ⟨i,-,rfl⟩:=List.mem_map.1 hr
  rfl
 obtain ⟨BM,hBM⟩ : ∃ M,M = A2A (rs.map (·.2.2)) (rc.map (·.2.2)):=⟨_,rfl⟩
 have hbs:=fun W (x : Nat) (hg : A4 w W) (hx : Lrq W (some ⟨x,0,none⟩) rc)=>B0v A (some ⟨x,0,none⟩) rs rc m m 1 c m hn hrc1 (by omega) hm1 (by omega) (by omega) (by omega) hrl hrc hrc2 W (h.grow hg) hx
 rw [← hBM] at hbs
 have hrow : ∀ i,i < m → F0 BM (m + 1) i = B6 (rs.map (·.2.2)) i ++ [gq y i]:=fun i hi=>by
  have e1 : B6 (rc.map (·.2.2)) i = [gq y i]:=by
   rw [hrcd,List.map_map]
   exact A2D hi
  obtain ⟨b7,o7,P7,e7,hP⟩:=T6 hn hrl h hi
  rw [hBM,A7v (by rw [e1,List.length_append,(hP w (A4.refl w)).2.2];rfl),e1]
 have hrd:=fun W (x : Nat × (Nat → Nat) × (Nat → Nat)) (hg : A4 w W) (hx : MatW w.heap.size m (m + 1) x.1 m x.2.1 x.2.2 BM W)=>by
  have e2 : ((List.range m).map fun i=>((some ⟨x.2.1 i,0,none⟩,x.2.2 i,F0 BM (m + 1) i) : Rq)).map (·.2.2) = aug (rs.map (·.2.2)) y m:=by
   rw [List.map_map]
   refine List.map_congr_left fun i hi=>?_
   exact hrow i (List.mem_range.1 hi)
  have h5:=A6o (some ⟨x.1,0,none⟩) ((List.range m).map fun i=>((some ⟨x.2.1 i,0,none⟩,x.2.2 i,F0 BM (m + 1) i) : Rq)) m (m + 1) m (by simp) hm1 (by omega) (by omega) (by omega) (fun r hr=>by
   obtain ⟨i,-,rfl⟩:=List.mem_map.1 hr
   exact A1f _ _ _) s hs1 (fun i hi j hj=>by
   rw [e2]
   unfold aug
   rw [A2D hi]
   obtain ⟨b7,o7,P7,e7,hP⟩:=T6 hn hrl h hi
   have hl:=(hP w (A4.refl w)).2.2
   unfold gq
   rcases Nat.lt_or_ge j m with h6 | h6
   ·rw [List.getElem?_append_left (by omega)]
    exact hs i hi j h6
   ·rw [List.getElem?_append_right (by omega),show j - (B6 (rs.map (·.2.2)) i).length = 0 by omega]
    exact hys i hi) hBz W hx.lrq (HT.grow hg)
  rw [e2] at h5
  exact h5
 simp only [hfull,List.length_range] at hrd
 obtain ⟨GM,hGM⟩ : ∃ G,G = (C7 m (m + 1) (E8 (aug (rs.map (·.2.2)) y m),[]) (m + 1)).1:=⟨_,rfl⟩
 simp only [← hGM] at hrd ⊢
 obtain ⟨f,hf⟩ : ∃ f : Nat → Rat,f = fun i=>GM i m:=⟨_,rfl⟩
 have hfi : ∀ i,GM i m = f i:=by rw [hf];exact fun _=>rfl
 rw [← hf]
 have hmk:=A1H m (by omega) (m : Int) rfl
 have hni : (0 : Int) < (m : Int):=by omega
 have hnp : 0 < m:=by omega
 have fn : decide ((0 : Int) < (m : Int)) = true:=by simp;omega
 have fnn : decide (0 < m) = true:=by simp;omega
 have fmm : ((m : Int) != (m : Int)) = false:=by simp
 obtain ⟨m1,hm1e⟩ : ∃ x,x = m - 1:=⟨_,rfl⟩
 have fm1 : IntKind.i64.wrap ((m : Int) - 1) = (m1 : Int):=by rw [IntWalk.i64_in _ (by omega)];omega
 have hm1i : (m1 : Int) < (m : Int):=by omega
 have fm2 : ((m1 : Int) == (m : Int)) = false:=by simp;omega
 have fm3 : decide (m1 = m) = false:=by simp;omega
 have Hri:=Lib.hid hri
 have Hcl:=Lib.hid hcl
 have Hr0:=Lib.hid hr0
 have Hbs:=Lib.hid hbs
 have Hrd:=Lib.hid hrd
 have Hmk:=Lib.hid hmk
 have Hfi:=Lib.hid hfi
 subst eA
 clear hri hcl hr0 hbs hrd hmk hfi hf hGM hBM hrcd hrow hrc1 hrc2 hP0 hs hs1 hys hBz hfull h h2 hrl hrc hn hy hd hm1e
 go_enter Tryz.func128,Tryz.ntmps128
 refine en0 ?_
 intro u hG hB hF
 refine wp_seq ?_
 refine wp_seq (rsE T9 [0,1,0,0,0,0,0,0,0,0] hB hG fun L hL=>?_)
 refine gs ?_
 refine gmd (C:=fun v ⟨hgu,hB,hG,_⟩=>Hri.out _ hG) ?_
 refine gs ?_
 refine geT hL ?_
 clear hB hG hL L
 rintro u ⟨-,hB,hG,-⟩
 refine wp_cond_false (rfl) ?_
 refine wp_skip ?_
 refine A6 ?_
 refine wp_seq ?_
 (first | have q0:=Hr0.out u hG | skip)
 refine r0N ?_
 refine wp_seq (rsC T9 [0,0,1,1,1,0,0,0,2] hB hG fun K L hN hL=>?_)
 refine gs ?_
 refine gxd (X:=Nat) (fun x : Nat=>.slice (some ⟨x,0,none⟩) m m) (fun x W=>Lrq W (some ⟨x,0,none⟩) rc) (fun x u u' hg h=>Lrq.grow h hg) (fun x30=>?_) (C:=by (rintro v ⟨hgu,hB,hG,-⟩;exact Hcl.out _ hG))
 refine gxd (X:=(Nat × (Nat → Nat) × (Nat → Nat))) (fun x : Nat × (Nat → Nat) × (Nat → Nat)=>.slice (some ⟨x.1,0,none⟩) m m) (fun x W=>MatW w.heap.size m (m + 1) x.1 m x.2.1 x.2.2 BM W) (fun x u u' hg h=>MatW.grow h hg) (fun x31=>?_) (C:=by (rintro v ⟨⟨hgu,hB,hG,-⟩,hx30⟩;exact (Hbs.out _ x30 hG hx30).mono fun e w' ⟨x,g1,g2,g3⟩=>⟨x,g1,g2.mono hG.sz,g3⟩))
 refine gxd (X:=((Nat × (Nat → Nat) × (Nat → Nat)) × Ax)) (fun x : (Nat × (Nat → Nat) × (Nat → Nat)) × Ax=>.tuple #[.agg #[.slice (some ⟨x.1.1,0,none⟩) m m,.slice x.2.1 m x.2.2],.int .i64 0]) (fun x W=>MatW w.heap.size m (m + 1) x.1.1 m x.1.2.1 x.1.2.2 GM W ∧ W.ownsRow w.heap.size 3 1 (.slice x.2.1 m x.2.2) m (Y4 (J6 (List.range m)))) (fun x u u' hg h=>⟨h.1.grow hg,D3 h.2 hg⟩) (fun x32=>?_) (C:=by (rintro v ⟨⟨⟨hgu,hB,hG,-⟩,hx30⟩,hx31⟩;exact (Hrd.out _ x31 hG hx31).mono fun e w' ⟨x,g1,g2,g3⟩=>⟨x,g1,⟨g2.1.mono hG.sz,g2.2.mono hG.sz⟩,g3⟩))
 refine gs ?_
 refine gaa (A5G _ _ _ _ _) fun b8 hb8 hn8=>?_
 replace hF:=hF.n1 [] hB hG hb8 hn8
 refine geC hL ?_
 clear hB hG hL L
 rintro u ⟨⟨⟨⟨⟨hgu,hB,hG,-⟩,hx30⟩,hx31⟩,hx32⟩,h8⟩
 replace hB:=hB.cons' h8
 clear h8
 obtain ⟨⟨b0,g,cp⟩,LA,LC⟩:=x32
 have hm32 : MatW w.heap.size m (m + 1) b0 m g cp GM u:=hx32.1
 have ho32 : u.ownsRow w.heap.size 3 1 (.slice LA m LC) m (Y4 (J6 (List.range m))):=hx32.2
 clear hx30 hx31 hx32
 clear hb8 hn8
 clear hgu
 refine gtT ?_
 clear hN K
 refine sv hB hF hG 0 0 [_,_] ?_
 intro u hu hBG
 have hm2:=hm32.over ⟨fun e=>I6 hm32.hd hB.head (by decide) (by rw [e];rfl),fun i hi e=>I6 (hm32.row i hi) hB.head (by decide) (by rw [e];rfl)⟩ hu
 have ho2:=L6 ho32 (I6 ho32 hB.head (by decide)) hu
 clear hB hG hu hm32 ho32
 obtain ⟨hB,hG⟩:=hBG
 obtain ⟨w1,hw1⟩ : ∃ x,x = u:=⟨_,rfl⟩
 have hwle : w.heap.size ≤ w1.heap.size:=hw1 ▸ hG.sz
 have Hm:=Lib.hid (show MatW w.heap.size m (m + 1) b0 m g cp GM w1 from hw1 ▸ hm2)
 obtain ⟨A5,c5,e5,-,hLi⟩:=A3B (l:=J6 (List.range m)) ho2 (by rw [A2N,List.length_range])
 cases e5
 have hwle : w.heap.size ≤ w1.heap.size:=hw1 ▸ hG.sz
 have Hlw:=Lib.hid (show Li w1 LA (J6 (List.range m)) from hw1 ▸ hLi)
 have hG1 : A4 w1 u:=hw1 ▸ A4.refl u
 clear hm2 ho2 hLi hw1
 have hli : ∀ i,i < m → ∃ b o,LA = some ⟨b,o,none⟩ ∧ ∀ W',A4 w1 W' → W'.cell? ⟨b,o + i,none⟩ = some (.int .i64 (i : Nat)):=fun i hi=>by
  obtain ⟨b,o,e,h⟩:=A3j Hlw.out (i:=i) (by simpa using hi)
  have e2 : nx (List.range m) i = i:=by unfold nx;simp [hi]
  rw [e2] at h
  exact ⟨b,o,e,h⟩
 obtain ⟨bl0,ol,eL,-⟩:=hli 0 hnp
 subst eL
 have hli2 : ∀ i,i < m → ∀ W',A4 w1 W' → W'.cell? ⟨bl0,ol + i,none⟩ = some (.int .i64 (i : Nat)):=fun i hi W' hg=>by
  obtain ⟨b,o,e,h⟩:=hli i hi
  cases e
  exact h W' hg
 have Hli:=Lib.hid hli2
 clear hli hli2
 refine wp_seq ?_
 refine wp_seq ?_
 (first | have q0:=Hr0.out u hG | skip)
 refine r0N ?_
 refine wp_seq ?_
 have q1:=Hli.out m1 (by omega) u hG1
 (first | have q0:=Hr0.out u hG | skip)
 refine r0N ?_
 clear q1
 refine wp_cond_false (rfl) ?_
 refine wp_skip ?_
 refine A6 ?_
 refine wp_seq ?_
 have hmk:=Hmk.out
 refine L7 ?_
 intro K hN
 go_wp2_with fail
 generalize hv : World.alloc u _ = v
 have hrow:=A0p hG1.size (by omega) hv
 have hgv : A4 u v:=hv ▸ A4.alloc u _
 have hG2:=hG.trans hgv
 have hG12:=hG1.trans hgv
 have hB2:=hB.grow hgv
 have hg8 : u.heap.size ≠ b8:=Nat.ne_of_gt hB.head.lt
 clear hv hG hB hmk hgv hG1
 rw [← A18 f m] at hrow
 generalize u.heap.size = gx at hrow hg8 ⊢
 have Ho:=Lib.hid hrow
 have hG:=hG2
 have hG1:=hG12
 have hB:=hB2
 clear hrow hG2 hG12 hB2
 obtain ⟨u,rfl⟩ : ∃ x,x = v:=⟨_,rfl⟩
 refine NoK.norm (hN _ _ ?_)
 clear hN K
 refine A6 ?_
 refine wp_seq ?_
 refine wp_seq ?_
 (first | have q0:=Hr0.out u hG | skip)
 refine r0N ?_
 refine wp_block ?_
 clear hF
 go_loopw [55] (fun s0 wr=>∃ i : Nat,i ≤ m ∧ s0 = .int .i64 i ∧ wr.ownsRow w1.heap.size 48 5 (.slice (some ⟨gx,0,none⟩) m m) m ((I8 f m i).flatMap qL) ∧ Bx wr [(b8,216,#[.slice (some ⟨b0,0,none⟩) m m,.slice (some ⟨bl0,ol,none⟩) m LC])] ∧ A4 w wr ∧ A4 w1 wr) (fun s0 _=>m - (intOf s0).toNat)
 case atStart=>exact ⟨0,Nat.zero_le _,rfl,Ho.out,hB,hG,hG1⟩
 case round =>
  clear hG Ho hB hG1
  obtain ⟨i,hi,rfl,ho,hB,hG,hG1⟩:=hrel
  obtain ⟨u,rfl⟩ : ∃ x,x = wr:=⟨_,rfl⟩
  have Ho:=Lib.hid ho
  clear ho
  rcases Nat.lt_or_ge i m with hlt | hge
  ·have hdec : decide ((i : Int) < (m : Int)) = true:=by simp;omega
   have hin : (i : Int) < (m : Int):=by omega
   have hmL : (m : Int) < ((m + 1 : Nat) : Int):=by omega
   have hmL2 : (m : Int) < (m : Int) + 1:=by omega
   have hst:=A1s (f:=f) hlt
   have hmx : ∀ W,A4 w1 W → W.cell? ⟨b0,i,none⟩ = some (.slice (some ⟨g i,0,none⟩) (m + 1) (cp i)) ∧ Cq W (g i) (m * 5) (f i):=fun W hg=>⟨(Hm.out.grow hg).read hlt,by rw [← Hfi.out];exact (Hm.out.grow hg).cq hlt (by omega)⟩
   have hlx:=Hli.out i hlt
   obtain ⟨Q,hQ⟩ : ∃ q,q = f i:=⟨_,rfl⟩
   rw [← hQ] at hst
   simp only [← hQ] at hmx
   have Hst:=Lib.hid hst
   have Hmx:=Lib.hid hmx
   have Hlx:=Lib.hid hlx
   clear hst hmx hlx hQ
   refine r0T ?_
   refine wp_seq ?_
   refine wp_cond_true (rfl) ?_
   refine wp_skip ?_
   refine A6 ?_
   refine wp_seq ?_
   refine wp_block ?_
   refine wp_seq ?_
   have q1:=Hlx.out u hG1
   refine r0N ?_
   obtain ⟨q2,y1,y2,y3,y4,y5⟩:=Hmx.out u hG1
   obtain ⟨z0,z1,z2,z3,z4,o0,o1,o2,o3,o4,hfz⟩:=A0e (enc:=qL) (fun _=>rfl) Ho.out (N3 f m i).symm i (by rw [N3];exact hlt)
   have q1:=Hlx.out u hG1
   refine r0E ?_
   clear q2 y1 y2 y3 y4 y5 o0 o1 o2 o3 o4 hfz
   generalize hu0 : World.setCell (World.setCell (World.setCell (World.setCell (World.setCell u _ _) _ _) _ _) _ _) _ _ = u0
   have hu1 : D1 u gx (i * 5) (qL Q) = u0:=hu0
   have hP:=R6 (enc:=qL) (size:=5) (ps:=I8 f m i) (fun _=>rfl) Ho.out i Q (by rw [N3];exact hlt)
   rw [Hst.out,hu1] at hP
   have hgx:=(Ho.out.lt gx rfl).1
   have hG12:=S8 Ho.out hG1 hP.2
   have hG2 : A4 w u0:=hG.grown hP.2 (fun k hk=>by
    have e : gx = k:=Option.some.inj hk.symm |>.symm
    have := hwle
    omega)
   have hB2:=hB.grown_ hP.2 (fun e he hxe=>by
    have e1 : e = _:=List.mem_singleton.1 he
    subst e1
    exact hg8 (Option.some.inj hxe).symm)
   have Ho2:=Lib.hid hP.1
   clear hG hB Ho hP hu1 hu0 hG1 hgx
   have hG:=hG2
   have hB:=hB2
   have hG1:=hG12
   have Ho:=Ho2
   clear hG2 Ho2 hB2 hG12
   obtain ⟨u,rfl⟩ : ∃ x,x = u0:=⟨_,rfl⟩
   refine E3 ?_
   refine A6 ?_
   refine r0E ?_
   refine A6 ?_
   go_roundw
   case rel=>exact ⟨i + 1,by omega,by go_num,Ho.out,hB,hG,hG1⟩
   case measure=>simp [intOf];omega
  ·obtain rfl : m = i:=by omega
   have hdec : decide ((m : Int) < (m : Int)) = false:=by simp
   have ho:=Ho.out
   rw [A15] at ho
   obtain ⟨A9,c9,e9,-,-,hL,-⟩:=M8 ho
   cases e9
   obtain ⟨w2,hw2⟩ : ∃ x,x = u:=⟨_,rfl⟩
   have HL:=Lib.hid (show Lq w2 (some ⟨gx,0,none⟩) ((List.range m).map f) from hw2 ▸ hL)
   have hgx0 : w.heap.size ≤ gx:=by have := hwle;have := (Ho.out.lt gx rfl).1;omega
   have hG3 : A4 w2 u:=hw2 ▸ A4.refl u
   clear ho hL Ho hw2
   refine r0T ?_
   refine wp_seq ?_
   refine wp_cond_false (rfl) ?_
   refine wp_exit ?_
   refine B9 ?_
   refine B9 ?_
   refine E9 ?_
   refine A6 ?_
   refine wp_seq (rsE T9 [0,0,0,1,0,0,0] hB hG fun L hL=>?_)
   repeat first | refine gya ?_ | refine gyr ?_ | refine gna ?_ | refine gyb (by (rintro v ⟨hgu,hB,hG,-⟩ N hN;have r:=hB.r;simp only [BxR] at r;(first | have q0:=Hr0.out v hG | skip);go_simp;exact hN)) ?_
   refine gmd (C:=fun v ⟨hgu,hB,hG,_⟩=>B42 b0 m (some ⟨bl0,ol,none⟩,LC) (by omega) _ (Hlw.out.grow (hG1.trans hgu))) ?_
   refine gs ?_
   refine geT hL ?_
   clear hB hG hL L
   rintro u ⟨hgu,hB,hG,-⟩
   replace hG3:=hG3.trans hgu
   clear hgu
   refine rt Tryz.results128 ?_
   exact ⟨(some ⟨gx,0,none⟩,m),rfl,⟨HL.out.grow hG3,gx,rfl,hgx0⟩,hG⟩
end Go.Proofs.YtgpglgbcobeogaaGreatDoor
