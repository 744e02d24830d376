/- Contracts and laws. -/
import Derived.Test.YtgpglgbcobeogaaGreatDoorT45
import Derived.Test.YtgpglgbcobeogaaGreatDoorT48
set_option linter.unusedSimpArgs false
set_option linter.unusedVariables false
set_option maxHeartbeats 4000000
set_option maxRecDepth 100000
namespace Go.Proofs.YtgpglgbcobeogaaGreatDoor
open Go Go.RowKit
def knX : List (List Rat):=[[B9 1],[B9 1]]
def knY : List Rat:=[B9 3,B9 1]
def knG : List (List Rat):=A44 knX 2 1
def knP : List Rat:=A2b knX knY 2 1
def knF (k : Nat) : List Rat:=A3N knG knP (I2 1 k) 1
def knB (k : Nat) : List Rat:=A3M knG (I2 1 k) 1
def knL (k : Nat) : List Lm:=A0t knG knP (knF k) (knB k) (I2 1 k) 1 1
theorem B4h : V4 knX knY 2 1 = G0 4 1:=by decide +kernel
theorem B3W : (F7 2 1 (H6 knX,[]) 1).2.length = 1:=by decide +kernel
theorem B5D : A1o (knF 2) (knB 2) 1 (B9 2) = [G0 1 1]:=by decide +kernel
theorem A38 : Q0 (B9 2) (knL 2) = true ∧ Q0 (B9 2) (knL 0) = false ∧ Q0 (B9 2) (knL 1) = false:=by decide +kernel
theorem B0B : ∀ k,k < 3 → (1 ≤ (F9 (I2 1 k) 1).length → (F7 (F9 (I2 1 k) 1).length ((F9 (I2 1 k) 1).length + 1) (H6 (aug (W9 knG (F9 (I2 1 k) 1)) (A0e knP (F9 (I2 1 k) 1)) (F9 (I2 1 k) 1).length),[]) ((F9 (I2 1 k) 1).length + 1)).2 = List.range (F9 (I2 1 k) 1).length):=by decide +kernel
theorem B1f : ∀ k,k < 3 → (1 ≤ (F9 (I2 1 k) 1).length → (F7 (F9 (I2 1 k) 1).length ((F9 (I2 1 k) 1).length + 1) (H6 (aug (W9 knG (F9 (I2 1 k) 1)) (A0R (I2 1 k) (F9 (I2 1 k) 1)) (F9 (I2 1 k) 1).length),[]) ((F9 (I2 1 k) 1).length + 1)).2 = List.range (F9 (I2 1 k) 1).length):=by decide +kernel
theorem A49 : ∀ k,k < 3 → (knF k).length = 1 ∧ (knB k).length = 1 ∧ (knL k).length ≤ 1000 ∧ qs (gq (knF k) 0) ≤ 50 ∧ qs (gq (knB k) 0) ≤ 50 ∧ (knL k).all (fun x=>decide (qs x.1 ≤ 50) && decide (qs x.2 ≤ 50)) = true ∧ (I2 1 k).length = 1 ∧ -1 ≤ gi (I2 1 k) 0 ∧ gi (I2 1 k) 0 ≤ 1:=by decide +kernel
theorem A5C : knG.length = 1 ∧ (knG.all fun r=>decide (r.length = 1)) = true ∧ knP.length = 1 ∧ qs (gq (B7 knG 0) 0) ≤ 50 ∧ qs (gq knP 0) ≤ 50 ∧ qs (gq (B7 knX 0) 0) ≤ 50 ∧ qs (gq (B7 knX 1) 0) ≤ 50 ∧ qs (gq knY 0) ≤ 50 ∧ qs (gq knY 1) ≤ 50 ∧ qs (B9 2) ≤ 50:=by decide +kernel
theorem B0P (w : World) (rs : List Rq) (h : ∀ r ∈ rs,Lq w r.1 r.2.2) : Lrq (w.alloc (.cells (rs.map fun r=>Value.slice r.1 r.2.2.length r.2.1).toArray 35)) (some ⟨w.heap.size,0,none⟩) rs:=fun _ =>
 ⟨w.heap.size,0,rfl,by rw [H9];omega,fun i r hi=>⟨by
  rw [Nat.zero_add,Blk.cell (Blk.new w 35 _) i]
  simp [hi],(h r (List.mem_of_getElem? hi)).grow (A4.alloc _ _)⟩⟩
theorem A7l (n d : Int) (h0 : 0 ≤ n) (h1 : n ≤ 4) (h2 : d = 1) (hz : qs (G0 n d) ≤ 10) (W : World) : Calls Tryz.prog 52 #[qV (G0 n d),.int .i64 n,.int .i64 d] W fun e w'=>e = .returned (.bool true) ∧ A4 W w' :=
 B0U n d (by omega) (by omega) (by omega) (by omega) (by omega) (Nat.le_trans hz (by unfold LIM;omega)) W
theorem B0t (k : Nat) (hk : k < 3) : A4s 1 knG knP (I2 1 k) (knF k) (knB k) (knL k):=by
 obtain ⟨h1,h2,h3,h4,h5,h6,h7,h8,h9⟩:=A49 k hk
 obtain ⟨g1,g2,g3,g4,g5,-⟩:=A5C
 have e0 : ∀ i,i < 1 → i = 0:=fun i hi=>by omega
 exact B3Y 1 (by omega) (by omega) knG knP (I2 1 k) g1 (fun r hr=>by
  have := List.all_eq_true.1 g2 r hr
  simpa using this) g3 h7 (fun i hi=>by rw [e0 i hi];exact ⟨h8,h9⟩) 50 (by omega) (fun i hi j hj=>by rw [e0 i hi,e0 j hj];exact g4) (fun i hi=>by rw [e0 i hi];exact g5) (by unfold BIG;omega) (B0B k hk) (B1f k hk)
theorem B0Y (A Y : Option Addr) (x y : Ax) (W : World) (h : Lrq W A [(x.1,x.2,[B9 1]),(y.1,y.2,[B9 1])]) (h2 : Lq W Y knY) (HT : Tab W) : Calls Tryz.prog 35 #[.slice A 2 2,.slice Y 2 2] W fun e w'=>e = .returned (.tuple #[qV (G0 4 1),.int .i64 0]) ∧ A4 W w':=by
 obtain ⟨-,-,-,-,-,g6,g7,g8,g9,-⟩:=A5C
 have h3:=A6G A Y [(x.1,x.2,[B9 1]),(y.1,y.2,[B9 1])] knY 2 1 2 2 rfl (by omega) (by omega) (fun r hr=>by
  simp only [List.mem_cons,List.not_mem_nil,or_false] at hr
  rcases hr with rfl | rfl <;> rfl) rfl (by omega) (by omega) 50 (by omega) (by omega) (fun i hi j hj=>by
  obtain rfl : j = 0:=by omega
  have : i = 0 ∨ i = 1:=by omega
  rcases this with rfl | rfl
  ·exact g6
  ·exact g7) (fun i hi=>by
  have : i = 0 ∨ i = 1:=by omega
  rcases this with rfl | rfl
  ·exact g8
  ·exact g9) W h h2 HT
 have e : V4 ([(x.1,x.2,[B9 1]),(y.1,y.2,[B9 1])].map (·.2.2)) knY 2 1 = G0 4 1:=B4h
 rw [e] at h3
 exact h3
theorem B2e (A : Option Addr) (Y : Ax) (x y : Ax) (W : World) (h : Lrq W A [(x.1,x.2,[B9 1]),(y.1,y.2,[B9 1])]) (h2 : Lq W Y.1 knY) (HT : Tab W) : Calls Tryz.prog 14 #[.slice A 2 2,.slice Y.1 2 Y.2,qV (B9 2)] W (F8 (fun x : Ax=>.tuple #[.slice x.1 1 x.2,.int .i64 0]) (fun x W=>Lq W x.1 [G0 1 1]) W):=by
 obtain ⟨-,-,-,-,-,g6,g7,g8,g9,g10⟩:=A5C
 have h3:=B1Z A [(x.1,x.2,[B9 1]),(y.1,y.2,[B9 1])] 2 1 2 Y knY rfl (by omega) (by omega) (by omega) (by omega) (fun r hr=>by
  simp only [List.mem_cons,List.not_mem_nil,or_false] at hr
  rcases hr with rfl | rfl <;> rfl) rfl 50 (by omega) (by omega) (fun i hi j hj=>by
  obtain rfl : j = 0:=by omega
  have : i = 0 ∨ i = 1:=by omega
  rcases this with rfl | rfl
  ·exact g6
  ·exact g7) (fun i hi=>by
  have : i = 0 ∨ i = 1:=by omega
  rcases this with rfl | rfl
  ·exact g8
  ·exact g9) (B9 2) (by decide +kernel) B3W knF knB knL 50 g10 (by unfold BIG;omega) (fun k hk=>by
  obtain ⟨h1,h2,h3,-⟩:=A49 k hk
  exact ⟨h1,h2,h3⟩) (fun k hk=>by
  obtain ⟨h1,h2,h3,h4,h5,h6,-⟩:=A49 k hk
  refine ⟨fun i hi=>?_,fun i hi=>?_,fun x hx=>?_⟩
  ·obtain rfl : i = 0:=by omega
   exact h4
  ·obtain rfl : i = 0:=by omega
   exact h5
  ·have := List.all_eq_true.1 h6 x hx
   simpa using this) (fun k hk=>B0t k hk) 2 (by decide) A38.1 (fun j hj=>by
  have : j = 0 ∨ j = 1:=by omega
  rcases this with rfl | rfl
  ·exact A38.2.1
  ·exact A38.2.2) W h h2 HT
 rw [B5D] at h3
 exact h3
theorem B2U (w : World) (HT : Tab w) : Calls Tryz.prog 19 #[] w fun e w'=>e = .returned (.bool true) ∧ A4 w w':=by
 have z41 : qs (G0 4 1) ≤ 10:=by decide +kernel
 have z11 : qs (G0 1 1) ≤ 10:=by decide +kernel
 go_enter Tryz.func19,Tryz.ntmps19
 refine en0 ?_
 intro u hG hB hF
 refine wp_seq (rsE G4 [1,1,1,1,1,0] hB hG fun L hL=>?_)
 refine gmw (C:=fun v=>Z0 1 (by omega) (by omega) _) ?_
 refine gx Nat (fun b=>.slice (some ⟨b,0,none⟩) 1 1) (fun b W=>Lq W (some ⟨b,0,none⟩) [B9 1]) (fun _ _ _ hg h=>h.grow hg) rfl ?_ (fun x8=>?_)
 ·(rintro v ⟨hgu,hB,hG,-⟩ N hN;go_simp;exact hN v.heap.size _ (A32 v [B9 1]) (A4.alloc _ _))
 refine okf (by simp only [Act.put,List.setIfInBounds_toArray,List.set_cons_succ,List.set_cons_zero];exact rfl) ?_
 refine gmw (C:=fun v=>Z0 1 (by omega) (by omega) _) ?_
 refine gx Nat (fun b=>.slice (some ⟨b,0,none⟩) 1 1) (fun b W=>Lq W (some ⟨b,0,none⟩) [B9 1]) (fun _ _ _ hg h=>h.grow hg) rfl ?_ (fun x10=>?_)
 ·(rintro v ⟨⟨hgu,hB,hG,-⟩,hx8⟩ N hN;go_simp;exact hN v.heap.size _ (A32 v [B9 1]) (A4.alloc _ _))
 refine okf (by simp only [Act.put,List.setIfInBounds_toArray,List.set_cons_succ,List.set_cons_zero];exact rfl) ?_
 refine gx Nat (fun b=>.slice (some ⟨b,0,none⟩) 2 2) (fun b W=>Lrq W (some ⟨b,0,none⟩) [(some ⟨x8,0,none⟩,1,[B9 1]),(some ⟨x10,0,none⟩,1,[B9 1])]) (fun _ _ _ hg h=>h.grow hg) rfl ?_ (fun x11=>?_)
 ·(rintro v ⟨⟨⟨hgu,hB,hG,-⟩,hx8⟩,hx10⟩ N hN;go_simp;exact hN v.heap.size _ (B0P v [(some ⟨x8,0,none⟩,1,[B9 1]),(some ⟨x10,0,none⟩,1,[B9 1])] (fun r hr=>by simp only [List.mem_cons,List.not_mem_nil,or_false] at hr;rcases hr with rfl | rfl <;> first | exact hx8 | exact hx10)) (A4.alloc _ _))
 refine okf (by simp only [Act.put,List.setIfInBounds_toArray,List.set_cons_succ,List.set_cons_zero];exact rfl) ?_
 refine gs ?_
 refine geT hL ?_
 clear hB hG hL L
 rintro u ⟨⟨⟨⟨hgu,hB,hG,-⟩,hx8⟩,hx10⟩,hx11⟩
 obtain ⟨w1,hw1⟩ : ∃ x,x = u:=⟨_,rfl⟩
 have HX:=Lib.hid (show Lrq w1 (some ⟨x11,0,none⟩) [(some ⟨x8,0,none⟩,1,[B9 1]),(some ⟨x10,0,none⟩,1,[B9 1])] from hw1 ▸ hx11)
 have hG1 : A4 w1 u:=hw1 ▸ A4.refl u
 clear hx8 hx10 hx11 hw1
 clear hgu
 refine wp_seq (rsE G4 [1,1,1,0] hB hG fun L hL=>?_)
 refine gmw (C:=fun v=>Z0 3 (by omega) (by omega) _) ?_
 refine gmw (C:=fun v=>Z0 1 (by omega) (by omega) _) ?_
 refine gx Nat (fun b=>.slice (some ⟨b,0,none⟩) 2 2) (fun b W=>Lq W (some ⟨b,0,none⟩) knY) (fun _ _ _ hg h=>Lq.grow h hg) rfl ?_ (fun x14=>?_)
 ·(rintro v ⟨hgu,hB,hG,-⟩ N hN;go_simp;exact hN v.heap.size _ (A32 v knY) (A4.alloc _ _))
 refine okf (by simp only [Act.put,List.setIfInBounds_toArray,List.set_cons_succ,List.set_cons_zero];exact rfl) ?_
 refine gs ?_
 refine geT hL ?_
 clear hB hG hL L
 rintro u ⟨⟨hgu,hB,hG,-⟩,hx14⟩
 replace hG1:=hG1.trans hgu
 obtain ⟨w2,hw2⟩ : ∃ x,x = u:=⟨_,rfl⟩
 have HY:=Lib.hid (show Lq w2 (some ⟨x14,0,none⟩) knY from hw2 ▸ hx14)
 have hG2 : A4 w2 u:=hw2 ▸ A4.refl u
 clear hx14 hw2
 clear hgu
 refine wp_seq (rsC G4 [0,0,1,0,0,0,2] hB hG fun K L hN hL=>?_)
 refine gs ?_
 refine gmd (C:=fun v ⟨hgu,hB,hG,_⟩=>B0Y _ _ (some ⟨x8,0,none⟩,1) (some ⟨x10,0,none⟩,1) _ (HX.out.grow (hG1.trans hgu)) (HY.out.grow (hG2.trans hgu)) (HT.grow hG)) ?_
 refine gs ?_
 refine gaa (H7 _ _ _ _ _) fun b3 hb3 hn3=>?_
 replace hF:=hF.n1 [] hB hG hb3 hn3
 refine geC hL ?_
 clear hB hG hL L
 rintro u ⟨⟨hgu,hB,hG,-⟩,h3⟩
 replace hB:=hB.cons' h3
 clear h3
 have hw31 : w1.heap.size ≤ b3:=Nat.le_trans hG1.size hb3
 have hw32 : w2.heap.size ≤ b3:=Nat.le_trans hG2.size hb3
 replace hG1:=hG1.trans hgu
 replace hG2:=hG2.trans hgu
 clear hb3 hn3
 clear hgu
 refine gtT ?_
 clear hN K
 refine sv hB hF hG 0 0 [_,_,_,_,_] ?_
 intro u hu hBG
 replace hG1:=Q7 hG1 hw31 hu
 replace hG2:=Q7 hG2 hw32 hu
 clear hB hG hu
 obtain ⟨hB,hG⟩:=hBG
 refine wp_seq (rsE G4 [0,0,1,1,0,0,0,0,0] hB hG fun L hL=>?_)
 refine gs ?_
 refine gmw (C:=fun v=>Z0 2 (by omega) (by omega) _) ?_
 refine gxd (X:=Ax) (fun x : Ax=>.tuple #[.slice x.1 1 x.2,.int .i64 0]) (fun x W=>Lq W x.1 [G0 1 1]) (fun x u u' hg h=>Lq.grow h hg) (fun x25=>?_) (C:=by (rintro v ⟨hgu,hB,hG,-⟩;exact B2e _ (some ⟨x14,0,none⟩,2) (some ⟨x8,0,none⟩,1) (some ⟨x10,0,none⟩,1) _ (HX.out.grow (hG1.trans hgu)) (HY.out.grow (hG2.trans hgu)) (HT.grow hG)))
 refine gs ?_
 refine geT hL ?_
 clear hB hG hL L
 rintro u ⟨⟨hgu,hB,hG,-⟩,hx25⟩
 obtain ⟨xa,xc⟩:=x25
 have HL:=Lib.hid (fun W (hg : A4 u W)=>Lq.grow (show Lq u xa [G0 1 1] from hx25) hg)
 obtain ⟨bq,oq,rfl⟩ : ∃ b o,xa = some ⟨b,o,none⟩:=Lq.addr (show Lq u xa [G0 1 1] from hx25) (by simp)
 have hcq : ∀ W,A4 u W → Cq W bq oq (G0 1 1):=fun W hg=>by
  have h:=(HL.out W hg).read (i:=0) (by simp)
  rw [Nat.zero_mul,Nat.add_zero] at h
  exact h
 have HC:=Lib.hid hcq
 clear hx25 HL hcq
 clear hgu
 refine wp_seq (rsE G4 [0,0,0,0,1,0,0,0,0,0,0,0,0,0,0,0,0,0,0,1,0,0] hB hG fun L hL=>?_)
 repeat first | refine gya ?_ | refine gyr ?_ | refine gna ?_ | refine gyb (by (rintro v ⟨hgu,hB,hG,-⟩ N hN;have r:=hB.r;simp only [BxR] at r;obtain ⟨y1,y2,y3,y4,y5⟩:=HC.out v hgu;go_simp;exact hN)) ?_
 first | refine gmw (C:=fun v=>A7l 4 1 (by omega) (by omega) rfl z41 _) ?_ | refine H4 ?_
 repeat first | refine gya ?_ | refine gyr ?_ | refine gna ?_ | refine gyb (by (rintro v ⟨hgu,hB,hG,-⟩ N hN;have r:=hB.r;simp only [BxR] at r;obtain ⟨y1,y2,y3,y4,y5⟩:=HC.out v hgu;go_simp;exact hN)) ?_
 first | refine gmw (C:=fun v=>A7l 1 1 (by omega) (by omega) rfl z11 _) ?_ | refine H4 ?_
 refine gs ?_
 refine geT hL ?_
 clear hB hG hL L
 rintro u ⟨-,hB,hG,-⟩
 refine rt Tryz.results19 ?_
 exact ⟨rfl,hG⟩
theorem A54 (l : List Int) (n : Nat) : ∀ x ∈ L0 l n,qs x ≤ 5:=fun x hx=>by
 unfold L0 at hx
 obtain ⟨i,-,rfl⟩:=List.mem_map.1 hx
 unfold A28
 split
 ·exact A8p _
 ·rw [show B9 0 = 0 from rfl,X9];omega
def A1B (N L : Nat) (rs : List Rq) : Prop:=rs.length = N ∧ ∀ r ∈ rs,r.2.2.length = L ∧ ∀ y ∈ r.2.2,qs y ≤ 5
theorem B0u {N L : Nat} {rs : List Rq} (h : A1B N L rs) : ∀ i,i < N → ∀ j,j < L → qs (gq (B7 (rs.map (·.2.2)) i) j) ≤ 5:=fun i hi j hj=>by
 have hil : i < rs.length:=by rw [h.1];exact hi
 have e : B7 (rs.map (·.2.2)) i = rs[i].2.2:=by unfold B7;rw [List.getElem?_map,List.getElem?_eq_getElem hil];rfl
 obtain ⟨h1,h2⟩:=h.2 _ (List.getElem_mem hil)
 rw [e]
 exact h2 _ (A1S (by omega))
theorem B1h (A : Option Addr) (l : List Int) (c p N L : Nat) (hp : p = l.length) (hc : p ≤ c) (hn : N ≤ 1048576) (hk : L ≤ 1048576) (hpm : p ≤ 9223372036854775807) (hb : ∀ x ∈ l,-9223372036854775808 ≤ x ∧ x ≤ 9223372036854775807) (w : World) (h : Li w A l) :
  Calls Tryz.prog 56 #[.slice A p c,.int .i64 N,.int .i64 L] w (F8 (fun x : Ax × List Rq=>.slice x.1.1 N x.1.2) (fun x W=>A1B N L x.2 ∧ Lrz W x.1.1 x.2) w) :=
 (B3x A l c p N L hp hc hn hk hpm hb w h).mono fun e w' ⟨v,rws,he,e1,e2,e3,hg⟩=>by
  obtain ⟨A2,c2,rfl,-,hz,hkl⟩:=B0S (B2:=w.heap.size) e3 (fun i r hi=>e2.1 r (List.mem_of_getElem? hi))
  refine ⟨((A2,c2),_),he,⟨⟨by rw [List.length_map];exact hkl.symm,fun r hr=>?_⟩,hz⟩,hg⟩
  obtain ⟨x,hx,rfl⟩:=List.mem_map.1 hr
  have h1 : x.2.map (·.2) ∈ A07 l N L:=by rw [← e1];exact List.mem_map.2 ⟨x,hx,rfl⟩
  unfold A07 at h1
  obtain ⟨i,-,h2⟩:=List.mem_map.1 h1
  simp only
  rw [← h2]
  exact ⟨A4z _ _,A54 _ _⟩
theorem A72 (A : Option Addr) (l : List Int) (c p n : Nat) (hp : p = l.length) (hn : n ≤ 1048576) (hpm : p ≤ 9223372036854775807) (hb : ∀ x ∈ l,-9223372036854775808 ≤ x ∧ x ≤ 9223372036854775807) (w : World) (h : Li w A l) :
  Calls Tryz.prog 31 #[.slice A p c,.int .i64 n] w (F8 (fun x : Ax=>.slice x.1 n x.2) (fun x W=>Lz W x.1 (L0 l n)) w) :=
 (B3M A l c p n hp hn hpm hb w h).mono fun e w' ⟨A',c',he,h1,hg⟩=>⟨(A',c'),he,h1.1,hg⟩
theorem B05 (A B : Option Addr) (la lb : List Int) (ca cb pa pb N Lw M : Nat) (n wd odd : Int) (hpa : pa = la.length) (hca : pa ≤ ca) (hpb : pb = lb.length) (hpm : pa ≤ 9223372036854775807) (hpm2 : pb ≤ 9223372036854775807) (hba : ∀ x ∈ la,-9223372036854775808 ≤ x ∧ x ≤ 9223372036854775807) (hbb : ∀ x ∈ lb,-9223372036854775808 ≤ x ∧ x ≤ 9223372036854775807)
  (hN : H8 n 6 = (N : Int)) (hLw : H8 wd 3 + 1 = (Lw : Int)) (hM : M = if H8 odd 10 = 9 then N + 1 else N) (w : World) (h : Li w A la) (h2 : Li w B lb) :
  Calls Tryz.prog 12 #[.slice A pa ca,.slice B pb cb,.int .i64 n,.int .i64 wd,.int .i64 odd] w (F8 (fun x : (Ax × Ax) × List Rq=>.tuple #[.slice x.1.1.1 N x.1.1.2,.slice x.1.2.1 M x.1.2.2]) (fun x W=>(A1B N Lw x.2 ∧ Lrz W x.1.1.1 x.2) ∧ Lz W x.1.2.1 (L0 lb M)) w):=by
 have rN:=A1J n (m:=6) (by omega)
 have rL:=A1J wd (m:=3) (by omega)
 have hp1:=fun W=>A1I n 6 (by omega) (by omega) W
 have hp2:=fun W=>A1I wd 3 (by omega) (by omega) W
 have hp3:=fun W=>A1I odd 10 (by omega) (by omega) W
 have hN5 : N ≤ 5:=by omega
 have hL3 : Lw ≤ 3:=by omega
 obtain ⟨y,hy⟩ : ∃ y,y = H8 wd 3:=⟨_,rfl⟩
 rw [← hy] at hLw rL
 simp only [← hy] at hp2
 have fy : IntKind.i64.wrap (y + 1) = (Lw : Int):=by rw [IntWalk.i64_in _ (by omega)];exact hLw
 simp only [hN] at hp1
 have hrw:=fun W (hg : A4 w W)=>B1h A la ca pa N Lw hpa hca (by omega) (by omega) hpm hba W (h.grow hg)
 have hrz:=fun W (hg : A4 w W)=>A72 B lb cb pb M hpb (by split at hM <;> omega) hpm2 hbb W (h2.grow hg)
 obtain ⟨t,ht⟩ : ∃ t,t = H8 odd 10:=⟨_,rfl⟩
 rw [← ht] at hM
 simp only [← ht] at hp3
 obtain ⟨yl,hyl⟩ : ∃ l,l = L0 lb M:=⟨_,rfl⟩
 rw [← hyl]
 simp only [← hyl] at hrz
 have Hp1:=Lib.hid hp1
 have Hp2:=Lib.hid hp2
 have Hp3:=Lib.hid hp3
 have Hrw:=Lib.hid hrw
 have Hrz:=Lib.hid hrz
 clear hp1 hp2 hp3 hrw hrz h h2 hba hbb hpa hpb hca hpm hpm2 hy ht hyl rN rL hN hLw
 by_cases h9 : t = 9
 ·have f9 : (t == 9) = true:=by simp [h9]
  have f9d : decide (t = 9) = true:=by simp [h9]
  rw [if_pos h9] at hM
  have fM : IntKind.i64.wrap ((N : Int) + 1) = (M : Int):=by rw [IntWalk.i64_in _ (by omega)];omega
  clear h9 hM
  go_enter Tryz.func12,Tryz.ntmps12
  refine en0 ?_
  intro u hG hB hF
  refine wp_seq (rsE A8 [0,1,0] hB hG fun L hL=>?_)
  refine gs ?_
  refine gmw (C:=fun v=>Hp1.out _) ?_
  refine gs ?_
  refine geT hL ?_
  clear hB hG hL L
  rintro u ⟨-,hB,hG,-⟩
  refine wp_seq (rsE A8 [0,0,0,1,0,1,0] hB hG fun L hL=>?_)
  refine gs ?_
  refine gmw (C:=fun v=>Hp2.out _) ?_
  refine gs ?_
  refine gxd (X:=(Ax × List Rq)) (fun x : Ax × List Rq=>.slice x.1.1 N x.1.2) (fun x W=>A1B N Lw x.2 ∧ Lrz W x.1.1 x.2) (fun x u u' hg h=>⟨h.1,h.2.grow hg⟩) (fun x20=>?_) (C:=by (rintro v ⟨hgu,hB,hG,-⟩;exact Hrw.out _ hG))
  refine gs ?_
  refine geT hL ?_
  clear hB hG hL L
  rintro u ⟨⟨hgu,hB,hG,-⟩,hx20⟩
  have HX:=Lib.hid hx20
  have hG2 : A4 u u:=A4.refl u
  obtain ⟨w1,hw1⟩ : ∃ x,x = u:=⟨_,rfl⟩
  rw [← hw1] at HX
  have hG1 : A4 w1 u:=hw1 ▸ A4.refl u
  clear hx20 hw1 hG2
  clear hgu
  refine wp_seq ?_
  refine wp_seq (rsE A8 [0,1,0] hB hG fun L hL=>?_)
  refine gs ?_
  refine gmw (C:=fun v=>Hp3.out _) ?_
  refine gs ?_
  refine geT hL ?_
  clear hB hG hL L
  rintro u ⟨hgu,hB,hG,-⟩
  replace hG1:=hG1.trans hgu
  clear hgu
  refine wp_cond_true (rfl) ?_
  refine r0N ?_
  refine wp_seq (rsE A8 [0,0,0,1,0,0] hB hG fun L hL=>?_)
  refine gs ?_
  refine gxd (X:=Ax) (fun x : Ax=>.slice x.1 M x.2) (fun x W=>Lz W x.1 yl) (fun x u u' hg h=>Lz.grow h hg) (fun x29=>?_) (C:=by (rintro v ⟨hgu,hB,hG,-⟩;exact Hrz.out _ hG))
  refine gs ?_
  refine geT hL ?_
  clear hB hG hL L
  rintro u ⟨⟨hgu,hB,hG,-⟩,hx29⟩
  replace hG1:=hG1.trans hgu
  clear hgu
  refine rt Tryz.results12 ?_
  exact ⟨((x20.1,x29),x20.2),rfl,⟨⟨HX.out.1,HX.out.2.grow hG1⟩,hx29⟩,hG⟩
 ·have f9 : (t == 9) = false:=by simp [h9]
  have f9d : decide (t = 9) = false:=by simp [h9]
  rw [if_neg h9] at hM
  subst hM
  clear h9
  go_enter Tryz.func12,Tryz.ntmps12
  refine en0 ?_
  intro u hG hB hF
  refine wp_seq (rsE A8 [0,1,0] hB hG fun L hL=>?_)
  refine gs ?_
  refine gmw (C:=fun v=>Hp1.out _) ?_
  refine gs ?_
  refine geT hL ?_
  clear hB hG hL L
  rintro u ⟨-,hB,hG,-⟩
  refine wp_seq (rsE A8 [0,0,0,1,0,1,0] hB hG fun L hL=>?_)
  refine gs ?_
  refine gmw (C:=fun v=>Hp2.out _) ?_
  refine gs ?_
  refine gxd (X:=(Ax × List Rq)) (fun x : Ax × List Rq=>.slice x.1.1 M x.1.2) (fun x W=>A1B M Lw x.2 ∧ Lrz W x.1.1 x.2) (fun x u u' hg h=>⟨h.1,h.2.grow hg⟩) (fun x20=>?_) (C:=by (rintro v ⟨hgu,hB,hG,-⟩;exact Hrw.out _ hG))
  refine gs ?_
  refine geT hL ?_
  clear hB hG hL L
  rintro u ⟨⟨hgu,hB,hG,-⟩,hx20⟩
  have HX:=Lib.hid hx20
  obtain ⟨w1,hw1⟩ : ∃ x,x = u:=⟨_,rfl⟩
  rw [← hw1] at HX
  have hG1 : A4 w1 u:=hw1 ▸ A4.refl u
  clear hx20 hw1
  clear hgu
  refine wp_seq ?_
  refine wp_seq (rsE A8 [0,1,0] hB hG fun L hL=>?_)
  refine gs ?_
  refine gmw (C:=fun v=>Hp3.out _) ?_
  refine gs ?_
  refine geT hL ?_
  clear hB hG hL L
  rintro u ⟨hgu,hB,hG,-⟩
  replace hG1:=hG1.trans hgu
  clear hgu
  refine wp_cond_false (rfl) ?_
  refine wp_skip ?_
  refine A6 ?_
  refine wp_seq (rsE A8 [0,0,0,1,0,0] hB hG fun L hL=>?_)
  refine gs ?_
  refine gxd (X:=Ax) (fun x : Ax=>.slice x.1 M x.2) (fun x W=>Lz W x.1 yl) (fun x u u' hg h=>Lz.grow h hg) (fun x29=>?_) (C:=by (rintro v ⟨hgu,hB,hG,-⟩;exact Hrz.out _ hG))
  refine gs ?_
  refine geT hL ?_
  clear hB hG hL L
  rintro u ⟨⟨hgu,hB,hG,-⟩,hx29⟩
  replace hG1:=hG1.trans hgu
  clear hgu
  refine rt Tryz.results12 ?_
  exact ⟨((x20.1,x29),x20.2),rfl,⟨⟨HX.out.1,HX.out.2.grow hG1⟩,hx29⟩,hG⟩
theorem B1A (A Y : Option Addr) (c M d : Nat) (w : World) : Calls Tryz.prog 18 #[.slice A 0 c,.slice Y M d] w fun e w'=>e = .returned (.bool true) ∧ A4 w w':=by
 have hl:=fun W=>B4J A c W
 go_enter Tryz.func18,Tryz.ntmps18
 refine en0 ?_
 intro u hG hB hF
 refine wp_seq (rsE A8 [0,1,0,0,0,0,0,0,0,0,0] hB hG fun L hL=>?_)
 refine gs ?_
 refine gmw (C:=fun v=>hl _) ?_
 refine gs ?_
 refine geT hL ?_
 clear hB hG hL L
 rintro u ⟨-,hB,hG,-⟩
 refine rt Tryz.results18 ?_
 exact ⟨rfl,hG⟩
theorem A78 (A Y : Option Addr) (rs : List Rq) (N L c M d : Nat) (hn : rs.length = N) (hN : 1 ≤ N) (hN2 : N ≤ 300) (hL1 : 1 ≤ L) (hL2 : L ≤ 20) (hrl : ∀ r ∈ rs,r.2.2.length = L) (w : World) (h : Lrz w A rs) : Calls Tryz.prog 18 #[.slice A N c,.slice Y M d] w fun e w'=>e = .returned (.bool (decide (M ≠ N))) ∧ A4 w w':=by
 have hl:=fun W (hg : A4 w W)=>B3o A rs N L c hn hN hN2 hL1 hL2 hrl W (h.grow hg)
 have Hl:=Lib.hid hl
 clear hl h hrl hn
 by_cases e : M = N
 ·subst e
  have f1 : ((M : Int) != (M : Int)) = false:=by simp
  have f2 : decide (M ≠ M) = false:=by simp
  rw [f2]
  clear f2
  go_enter Tryz.func18,Tryz.ntmps18
  refine en0 ?_
  intro u hG hB hF
  refine wp_seq (rsE A8 [0,1,0,0,0,0,0,0,0,0,0] hB hG fun L hL=>?_)
  refine gs ?_
  refine gmd (C:=fun v ⟨hgu,hB,hG,_⟩=>Hl.out _ hG) ?_
  refine gs ?_
  refine geT hL ?_
  clear hB hG hL L
  rintro u ⟨-,hB,hG,-⟩
  refine rt Tryz.results18 ?_
  exact ⟨rfl,hG⟩
 ·have f1 : ((M : Int) != (N : Int)) = true:=by simp;omega
  have f2 : decide (M ≠ N) = true:=by simp [e]
  rw [f2]
  clear f2 e
  go_enter Tryz.func18,Tryz.ntmps18
  refine en0 ?_
  intro u hG hB hF
  refine wp_seq (rsE A8 [0,1,0,0,0,0,0,0,0,0,0] hB hG fun L hL=>?_)
  refine gs ?_
  refine gmd (C:=fun v ⟨hgu,hB,hG,_⟩=>Hl.out _ hG) ?_
  refine gs ?_
  refine geT hL ?_
  clear hB hG hL L
  rintro u ⟨-,hB,hG,-⟩
  refine rt Tryz.results18 ?_
  exact ⟨rfl,hG⟩
theorem A68 (A Y V : Option Addr) (N M K c d k : Nat) (z : Int) (hz : (z != 0) = true) (w : World) (hck : ∀ W,A4 w W → Calls Tryz.prog 91 #[.slice A N c,.slice Y M d,.slice V K k,qV 0] W fun e w'=>e = .returned (.int .i64 z) ∧ A4 W w') :
  Calls Tryz.prog 33 #[.slice A N c,.slice Y M d,.slice V K k] w fun e w'=>e = .returned (.tuple #[.slice none 0 0,.int .i64 z]) ∧ A4 w w':=by
 rw [A8J] at hck
 have Hck:=Lib.hid hck
 clear hck
 go_enter Tryz.func33,Tryz.ntmps33
 refine en0 ?_
 intro u hG hB hF
 refine wp_seq ?_
 refine wp_seq (rsE A8 [0,0,0,0,1,0] hB hG fun L hL=>?_)
 refine gs ?_
 refine gmd (C:=fun v ⟨hgu,hB,hG,_⟩=>Hck.out _ hG) ?_
 refine gs ?_
 refine geT hL ?_
 clear hB hG hL L
 rintro u ⟨-,hB,hG,-⟩
 refine r0T ?_
 refine wp_cond_true (rfl) ?_
 refine r0T ?_
 refine rt Tryz.results33 ?_
 exact ⟨rfl,hG⟩
theorem A4e (A Y V : Option Addr) (N M K c d k : Nat) (a : Rat) (z : Int) (hz : (z != 0) = true) (w : World) (hck : ∀ W,A4 w W → Calls Tryz.prog 91 #[.slice A N c,.slice Y M d,.slice V K k,qV a] W fun e w'=>e = .returned (.int .i64 z) ∧ A4 W w') :
  Calls Tryz.prog 32 #[.slice A N c,.slice Y M d,.slice V K k,qV a] w fun e w'=>e = .returned (.tuple #[qV 0,.int .i64 z]) ∧ A4 w w':=by
 have Hck:=Lib.hid hck
 clear hck
 go_enter Tryz.func32,Tryz.ntmps32
 refine en2 ?_
 intro u hG b8 b7 hB hF
 refine wp_seq ?_
 refine wp_seq (rsE A8 [0,0,0,0,1,0] hB hG fun L hL=>?_)
 refine gs ?_
 refine gmd (C:=fun v ⟨hgu,hB,hG,_⟩=>Hck.out _ hG) ?_
 refine gs ?_
 refine geT hL ?_
 clear hB hG hL L
 rintro u ⟨-,hB,hG,-⟩
 refine r0T ?_
 refine wp_cond_true (rfl) ?_
 refine r0T ?_
 refine st hB hF hG 1 0 [_,_,_,_,_] ?_
 clear hB hG
 intro u hB hG
 refine rt Tryz.results32 ?_
 exact ⟨rfl,hG⟩
theorem A56 (A Y V : Option Addr) (N M K c d k : Nat) (a : Rat) (z : Int) (hz : (z != 0) = true) (w : World) (hck : ∀ W,A4 w W → Calls Tryz.prog 91 #[.slice A N c,.slice Y M d,.slice V K k,qV a] W fun e w'=>e = .returned (.int .i64 z) ∧ A4 W w') :
  Calls Tryz.prog 34 #[.slice A N c,.slice Y M d,.slice V K k,qV a] w fun e w'=>e = .returned (.tuple #[.int .i64 0,.bool false,.int .i64 z]) ∧ A4 w w':=by
 have Hck:=Lib.hid hck
 clear hck
 go_enter Tryz.func34,Tryz.ntmps34
 refine en1 ?_
 intro u hG b7 hB hF
 refine wp_seq ?_
 refine wp_seq (rsE A8 [0,0,0,0,1,0] hB hG fun L hL=>?_)
 refine gs ?_
 refine gmd (C:=fun v ⟨hgu,hB,hG,_⟩=>Hck.out _ hG) ?_
 refine gs ?_
 refine geT hL ?_
 clear hB hG hL L
 rintro u ⟨-,hB,hG,-⟩
 refine r0T ?_
 refine wp_cond_true (rfl) ?_
 refine r0T ?_
 refine rt Tryz.results34 ?_
 exact ⟨rfl,hG⟩
structure TellsC (N M K : Nat) (R : List (List Rat)) (y q : List Rat) (a pv : Rat) (ke : Int) (PL : List Rat) (ls : Nat) (kf fc : Int) (fb : Bool) (kg : Int) (tv : Rat) (kh : Int) : Prop where
 price : ∀ (W : World) (X Y V : Ax) (rs : List Rq),rs.map (·.2.2) = R → Lrq W X.1 rs → Lq W Y.1 y → Lq W V.1 q → Tab W → Calls Tryz.prog 32 #[.slice X.1 N X.2,.slice Y.1 M Y.2,.slice V.1 K V.2,qV a] W fun e w'=>e = .returned (.tuple #[qV pv,.int .i64 ke]) ∧ A4 W w'
 pull : ∀ (W : World) (X Y V : Ax) (rs : List Rq),rs.map (·.2.2) = R → Lrq W X.1 rs → Lq W Y.1 y → Lq W V.1 q → Tab W → Calls Tryz.prog 33 #[.slice X.1 N X.2,.slice Y.1 M Y.2,.slice V.1 K V.2] W (F8 (fun x : Ax=>.tuple #[.slice x.1 ls x.2,.int .i64 kf]) (fun x W'=>Lq W' x.1 PL) W)
 fits : ∀ (W : World) (X Y V : Ax) (rs : List Rq),rs.map (·.2.2) = R → Lrq W X.1 rs → Lq W Y.1 y → Lq W V.1 q → Tab W → Calls Tryz.prog 34 #[.slice X.1 N X.2,.slice Y.1 M Y.2,.slice V.1 K V.2,qV a] W fun e w'=>e = .returned (.tuple #[.int .i64 fc,.bool fb,.int .i64 kg]) ∧ A4 W w'
 top : ∀ (W : World) (X Y : Ax) (rs : List Rq),rs.map (·.2.2) = R → Lrq W X.1 rs → Lq W Y.1 y → Tab W → Calls Tryz.prog 35 #[.slice X.1 N X.2,.slice Y.1 M Y.2] W fun e w'=>e = .returned (.tuple #[qV tv,.int .i64 kh]) ∧ A4 W w'
 zp : qs pv ≤ LIM
 zt : qs tv ≤ LIM
 zl : PL.length = ls ∧ ∀ x ∈ PL,qs x ≤ LIM
section
variable {N M K L s : Nat} {R : List (List Rat)} {y q : List Rat} {a : Rat}
theorem B3L (hN : N ≤ 300) (hw : ¬ (1 ≤ N ∧ M = N)) : TellsC N M K R y q a 0 5 [] 0 5 0 false 5 0 5:=by
 have hLIM : LIM = 1099511627760:=rfl
 have hs : ∀ A c Y d W,Calls Tryz.prog 57 #[.slice A N c,.slice Y M d] W fun e w'=>e = .returned (.bool false) ∧ A4 W w':=fun A c Y d W=>by
  rcases Nat.eq_zero_or_pos N with h | h
  ·subst h;exact B2t A Y c M d W
  ·exact B2r A Y c N M d h hN (fun e=>hw ⟨h,e⟩) W
 have hck : ∀ A c Y d V k a W,Calls Tryz.prog 91 #[.slice A N c,.slice Y M d,.slice V K k,qV a] W fun e w'=>e = .returned (.int .i64 5) ∧ A4 W w':=fun A c Y d V k a W=>B3a A Y V N M K c d k a (fun W=>hs A c Y d W) W
 have h0 : qs 0 ≤ LIM:=by rw [X9];omega
 refine ⟨fun W X Y V rs _ _ _ _ _=>A4e _ _ _ N M K _ _ _ a 5 rfl W fun W' _=>hck _ _ _ _ _ _ _ W',fun W X Y V rs _ _ _ _ _=>(A68 _ _ _ N M K _ _ _ 5 rfl W fun W' _=>hck _ _ _ _ _ _ _ W').mono ?_,fun W X Y V rs _ _ _ _ _=>A56 _ _ _ N M K _ _ _ a 5 rfl W fun W' _=>hck _ _ _ _ _ _ _ W',fun W X Y rs _ _ _ _=>B34 _ _ N M _ _ (fun W=>hs _ _ _ _ W) W,h0,h0,rfl,fun x hx=>by cases hx⟩
 rintro e w' ⟨rfl,hg⟩
 exact ⟨(none,0),rfl,Lq.nil _ _,hg⟩
variable (hRn : R.length = N) (hRl : ∀ r ∈ R,r.length = L) (hN1 : 1 ≤ N) (hN : N ≤ 20) (hL1 : 1 ≤ L) (hL : L ≤ 20) (hX : ∀ i,i < N → ∀ j,j < L → qs (gq (B7 R i) j) ≤ 5) (hyn : y.length = N) (hys : ∀ i,i < N → qs (gq y i) ≤ 5) (ha : qs a ≤ 5)
include hRn hRl hN1 hN hL1 hL hX hyn hys ha
omit hX hyn hys in
theorem A5K : ∀ (rs : List Rq),rs.map (·.2.2) = R → ∀ A c Y d V k W,Lrq W A rs → Calls Tryz.prog 91 #[.slice A N c,.slice Y N d,.slice V K k,qV a] W fun e w'=>e = .returned (.int .i64 (if K ≠ L then 5 else if a < 0 then 1 else 0)) ∧ A4 W w':=fun rs hr A c Y d V k W h=>by
 have e1 : rs.length = N:=by rw [← hRn,← hr];simp
 exact A34 A Y V rs N L K c d k e1 hN1 (by omega) hL1 hL (fun r h'=>hRl _ (by rw [← hr];exact List.mem_map.2 ⟨r,h',rfl⟩)) a (by omega) W h
omit ha in
theorem A5b : (∀ (W : World) (X Y : Ax) (rs : List Rq),rs.map (·.2.2) = R → Lrq W X.1 rs → Lq W Y.1 y → Tab W → Calls Tryz.prog 35 #[.slice X.1 N X.2,.slice Y.1 N Y.2] W fun e w'=>e = .returned (.tuple #[qV (V4 R y N L),.int .i64 0]) ∧ A4 W w') ∧ qs (V4 R y N L) ≤ LIM:=by
 have hLIM : LIM = 1099511627760:=rfl
 refine ⟨fun W X Y rs hr h1 h2 hT=>?_,?_⟩
 ·have e1 : rs.length = N:=by rw [← hRn,← hr];simp
  subst hr
  exact A6G X.1 Y.1 rs y N L X.2 Y.2 e1 hN1 hN (fun r h'=>hRl _ (List.mem_map.2 ⟨r,h',rfl⟩)) hyn hL1 hL 5 (by omega) (by omega) hX hys W h1 h2 hT
 ·have h:=A1n (X:=R) (y:=y) (w:=I4 L) (s:=5) hN hL (by omega) hX hys (fun j _=>by rw [A6N,X9];omega)
  exact Nat.le_trans (A3H (s:=1100000) (by omega) h L (Nat.le_refl _)) (by omega)
theorem B1s (hK : K ≠ L) : TellsC N N K R y q a 0 5 [] 0 5 0 false 5 (V4 R y N L) 0:=by
 have hLIM : LIM = 1099511627760:=rfl
 obtain ⟨t1,t2⟩:=A5b hRn hRl hN1 hN hL1 hL hX hyn hys
 have h0 : qs 0 ≤ LIM:=by rw [X9];omega
 have hz0 : qs (0 : Rat) ≤ 5:=by rw [X9];omega
 have hck:=@A5K N K L R a hRn hRl hN1 hN hL1 hL ha
 have hck0:=@A5K N K L R 0 hRn hRl hN1 hN hL1 hL hz0
 simp only [if_pos hK] at hck hck0
 refine ⟨fun W X Y V rs hr g1 _ _ _=>A4e _ _ _ N N K _ _ _ a 5 rfl W fun W' hg=>hck rs hr _ _ _ _ _ _ W' (g1.grow hg),fun W X Y V rs hr g1 _ _ _=>(A68 _ _ _ N N K _ _ _ 5 rfl W fun W' hg=>hck0 rs hr _ _ _ _ _ _ W' (g1.grow hg)).mono ?_,fun W X Y V rs hr g1 _ _ _=>A56 _ _ _ N N K _ _ _ a 5 rfl W fun W' hg=>hck rs hr _ _ _ _ _ _ W' (g1.grow hg),t1,h0,t2,rfl,fun x hx=>by cases hx⟩
 rintro e w' ⟨rfl,hg⟩
 exact ⟨(none,0),rfl,Lq.nil _ _,hg⟩
variable (hqn : q.length = L) (hqs : ∀ i,i < L → qs (gq q i) ≤ 5)
include hqn hqs
omit ha in
theorem A8u : (∀ (W : World) (X Y V : Ax) (rs : List Rq),rs.map (·.2.2) = R → Lrq W X.1 rs → Lq W Y.1 y → Lq W V.1 q → Tab W → Calls Tryz.prog 33 #[.slice X.1 N X.2,.slice Y.1 N Y.2,.slice V.1 L V.2] W (F8 (fun x : Ax=>.tuple #[.slice x.1 L x.2,.int .i64 0]) (fun x W'=>Lq W' x.1 (J7 R y q N L)) W)) ∧ (J7 R y q N L).length = L ∧ ∀ x ∈ J7 R y q N L,qs x ≤ LIM:=by
 have hLIM : LIM = 1099511627760:=rfl
 refine ⟨fun W X Y V rs hr h1 h2 h3 hT=>?_,A1e _ _ _ _ _,fun x hx=>?_⟩
 ·have e1 : rs.length = N:=by rw [← hRn,← hr];simp
  subst hr
  exact A4l X.1 Y.1 V.1 rs y q N L X.2 Y.2 V.2 e1 hN1 hN (fun r h'=>hRl _ (List.mem_map.2 ⟨r,h',rfl⟩)) hyn hqn hL1 hL 5 (by omega) hX hys hqs W h1 h2 h3 hT
 ·have h:=A1n (X:=R) (y:=y) (w:=q) (s:=5) hN hL (by omega) hX hys hqs
  have := A39 (A1e R y q N L) h x hx
  omega
theorem B4m (h0 : a < 0) : TellsC N N L R y q a 0 1 (J7 R y q N L) L 0 0 false 1 (V4 R y N L) 0:=by
 have hLIM : LIM = 1099511627760:=rfl
 obtain ⟨t1,t2⟩:=A5b hRn hRl hN1 hN hL1 hL hX hyn hys
 obtain ⟨p1,p2,p3⟩:=A8u hRn hRl hN1 hN hL1 hL hX hyn hys hqn hqs
 have hz : qs 0 ≤ LIM:=by rw [X9];omega
 have hck:=@A5K N L L R a hRn hRl hN1 hN hL1 hL ha
 have hLL : ¬ L ≠ L:=fun h=>h rfl
 simp only [if_neg hLL,if_pos h0] at hck
 exact ⟨fun W X Y V rs hr g1 _ _ _=>A4e _ _ _ N N L _ _ _ a 1 rfl W fun W' hg=>hck rs hr _ _ _ _ _ _ W' (g1.grow hg),p1,fun W X Y V rs hr g1 _ _ _=>A56 _ _ _ N N L _ _ _ a 1 rfl W fun W' hg=>hck rs hr _ _ _ _ _ _ W' (g1.grow hg),t1,hz,t2,p2,p3⟩
theorem B1K (h0 : ¬ a < 0) : TellsC N N L R y q a (A1N R y q N L a) 0 (J7 R y q N L) L 0 (if L6 R y q N L a < L then (L6 R y q N L a : Nat) else -1) (decide (L6 R y q N L a = L)) 0 (V4 R y N L) 0:=by
 have hLIM : LIM = 1099511627760:=rfl
 obtain ⟨t1,t2⟩:=A5b hRn hRl hN1 hN hL1 hL hX hyn hys
 obtain ⟨p1,p2,p3⟩:=A8u hRn hRl hN1 hN hL1 hL hX hyn hys hqn hqs
 refine ⟨fun W X Y V rs hr h1 h2 h3 hT=>?_,p1,fun W X Y V rs hr h1 h2 h3 hT=>?_,t1,?_,t2,p2,p3⟩
 ·have e1 : rs.length = N:=by rw [← hRn,← hr];simp
  subst hr
  exact B31 X.1 Y.1 V.1 rs y q N L X.2 Y.2 V.2 a e1 hN1 hN (fun r h'=>hRl _ (List.mem_map.2 ⟨r,h',rfl⟩)) hyn hqn hL1 hL 5 (by omega) hX hys hqs ha h0 W h1 h2 h3 hT
 ·have e1 : rs.length = N:=by rw [← hRn,← hr];simp
  subst hr
  exact A93 X.1 Y.1 V.1 rs y q N L X.2 Y.2 V.2 a e1 hN1 hN (fun r h'=>hRl _ (List.mem_map.2 ⟨r,h',rfl⟩)) hyn hqn hL1 hL 5 (by omega) hX hys hqs ha h0 W h1 h2 h3 hT
 ·have h1:=A18 (X:=R) (y:=y) (w:=q) (s:=5) hN hL (by omega) hX hys hqs
  have h2:=Y7 h1 h1 N (Nat.le_refl _)
  have h3 : N * (50000 + 50000 + 1) ≤ 20 * (50000 + 50000 + 1):=Nat.mul_le_mul_right _ hN
  have h4:=A52 hqs L (Nat.le_refl _)
  have h5 : L * (5 + 1) ≤ 20 * (5 + 1):=Nat.mul_le_mul_right _ hL
  unfold A1N
  have h6:=A2u (E4 (K5 R y q N L) (K5 R y q N L) N) (B9 2)
  have h7:=S8 a (T9 q L)
  have h8:=A2F (K3 (E4 (K5 R y q N L) (K5 R y q N L) N) (B9 2)) (C2 a (T9 q L))
  have h9 : qs (B9 2) ≤ 41:=A4y 2 (by omega)
  unfold E6
  unfold K3 C2 at *
  omega
end
theorem B1r {N M K L : Nat} {R : List (List Rat)} {y q : List Rat} {a : Rat} (hRn : R.length = N) (hRl : ∀ r ∈ R,r.length = L) (hN : N ≤ 20) (hL1 : 1 ≤ L) (hL : L ≤ 20) (hX : ∀ i,i < N → ∀ j,j < L → qs (gq (B7 R i) j) ≤ 5) (hyn : y.length = M) (hys : ∀ i,i < M → qs (gq y i) ≤ 5) (ha : qs a ≤ 5) (hqn : q.length = K) (hqs : ∀ i,i < K → qs (gq q i) ≤ 5) :
  ∃ pv ke PL ls kf fc fb kg tv kh,TellsC N M K R y q a pv ke PL ls kf fc fb kg tv kh ∧ ((¬ (1 ≤ N ∧ M = N) ∧ ke = 5 ∧ kf = 5 ∧ kg = 5 ∧ kh = 5 ∧ pv = 0 ∧ ls = 0 ∧ fb = false ∧ fc = 0 ∧ tv = 0) ∨
   (1 ≤ N ∧ M = N ∧ kh = 0 ∧ tv = V4 R y N L ∧ ((K ≠ L ∧ ke = 5 ∧ kf = 5 ∧ kg = 5) ∨ (K = L ∧ kf = 0 ∧ ls = L ∧ PL = J7 R y q N L ∧ ((a < 0 ∧ ke = 1 ∧ kg = 1 ∧ pv = 0 ∧ fb = false ∧ fc = 0) ∨
    (¬ a < 0 ∧ ke = 0 ∧ kg = 0 ∧ pv = A1N R y q N L a ∧ fc = (if L6 R y q N L a < L then ((L6 R y q N L a : Nat) : Int) else -1) ∧ fb = decide (fc < 0))))))):=by
 by_cases hw : 1 ≤ N ∧ M = N
 ·obtain ⟨hN1,rfl⟩:=hw
  by_cases hK : K = L
  ·subst hK
   by_cases h0 : a < 0
   ·exact ⟨_,_,_,_,_,_,_,_,_,_,B4m hRn hRl hN1 hN hL1 hL hX hyn hys ha hqn hqs h0,.inr ⟨hN1,rfl,rfl,rfl,.inr ⟨rfl,rfl,rfl,rfl,.inl ⟨h0,rfl,rfl,rfl,rfl,rfl⟩⟩⟩⟩
   ·refine ⟨_,_,_,_,_,_,_,_,_,_,B1K hRn hRl hN1 hN hL1 hL hX hyn hys ha hqn hqs h0,.inr ⟨hN1,rfl,rfl,rfl,.inr ⟨rfl,rfl,rfl,rfl,.inr ⟨h0,rfl,rfl,rfl,rfl,?_⟩⟩⟩⟩
    obtain ⟨h1,-,-⟩:=A4Z R y q M K a
    by_cases h2 : L6 R y q M K a < K
    ·rw [if_pos h2,decide_eq_false (by omega),decide_eq_false (by omega)]
    ·rw [if_neg h2,decide_eq_true (by omega)]
     rfl
  ·exact ⟨_,_,_,_,_,_,_,_,_,_,B1s hRn hRl hN1 hN hL1 hL hX hyn hys ha hK,.inr ⟨hN1,rfl,rfl,rfl,.inl ⟨hK,rfl,rfl,rfl⟩⟩⟩
 ·exact ⟨_,_,_,_,_,_,_,_,_,_,B3L (by omega) hw,.inl ⟨hw,rfl,rfl,rfl,rfl,rfl,rfl,rfl,rfl,rfl⟩⟩
end Go.Proofs.YtgpglgbcobeogaaGreatDoor
