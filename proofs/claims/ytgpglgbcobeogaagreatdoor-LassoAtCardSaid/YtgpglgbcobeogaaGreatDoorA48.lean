/- Contracts and laws. -/
import Derived.Test.YtgpglgbcobeogaaGreatDoorA47
set_option linter.unusedSimpArgs false
set_option linter.unusedVariables false
set_option maxHeartbeats 4000000
set_option maxRecDepth 100000
namespace Go.Proofs.YtgpglgbcobeogaaGreatDoor
open Go Go.RowKit
def knX : List (List Rat):=[[C5 1],[C5 1]]
def knY : List Rat:=[C5 3,C5 1]
def knG : List (List Rat):=A4O knX 2 1
def knP : List Rat:=A19 knX knY 2 1
def knF (k : Nat) : List Rat:=A3J knG knP (I7 1 k) 1
def knB (k : Nat) : List Rat:=A3P knG (I7 1 k) 1
def knL (k : Nat) : List Lm:=A0t knG knP (knF k) (knB k) (I7 1 k) 1 1
theorem A8w : A3W knX knY 2 1 = G5 4 1:=by decide +kernel
theorem A8Z : (F9 2 1 (H9 knX,[]) 1).2.length = 1:=by decide +kernel
theorem A9O : A1p (knF 2) (knB 2) 1 (C5 2) = [G5 1 1]:=by decide +kernel
theorem A4a : R0 (C5 2) (knL 2) = true ∧ R0 (C5 2) (knL 0) = false ∧ R0 (C5 2) (knL 1) = false:=by decide +kernel
theorem A8e : ∀ k,k < 3 → (1 ≤ (G4 (I7 1 k) 1).length → (F9 (G4 (I7 1 k) 1).length ((G4 (I7 1 k) 1).length + 1) (H9 (aug (X5 knG (G4 (I7 1 k) 1)) (A0c knP (G4 (I7 1 k) 1)) (G4 (I7 1 k) 1).length),[]) ((G4 (I7 1 k) 1).length + 1)).2 = List.range (G4 (I7 1 k) 1).length):=by decide +kernel
theorem B2B : ∀ k,k < 3 → (1 ≤ (G4 (I7 1 k) 1).length → (F9 (G4 (I7 1 k) 1).length ((G4 (I7 1 k) 1).length + 1) (H9 (aug (X5 knG (G4 (I7 1 k) 1)) (A0e (I7 1 k) (G4 (I7 1 k) 1)) (G4 (I7 1 k) 1).length),[]) ((G4 (I7 1 k) 1).length + 1)).2 = List.range (G4 (I7 1 k) 1).length):=by decide +kernel
theorem A4L : ∀ k,k < 3 → (knF k).length = 1 ∧ (knB k).length = 1 ∧ (knL k).length ≤ 1000 ∧ qs (gq (knF k) 0) ≤ 50 ∧ qs (gq (knB k) 0) ≤ 50 ∧ (knL k).all (fun x=>decide (qs x.1 ≤ 50) && decide (qs x.2 ≤ 50)) = true ∧ (I7 1 k).length = 1 ∧ -1 ≤ gi (I7 1 k) 0 ∧ gi (I7 1 k) 0 ≤ 1:=by decide +kernel
theorem A4A : knG.length = 1 ∧ (knG.all fun r=>decide (r.length = 1)) = true ∧ knP.length = 1 ∧ qs (gq (B8 knG 0) 0) ≤ 50 ∧ qs (gq knP 0) ≤ 50 ∧ qs (gq (B8 knX 0) 0) ≤ 50 ∧ qs (gq (B8 knX 1) 0) ≤ 50 ∧ qs (gq knY 0) ≤ 50 ∧ qs (gq knY 1) ≤ 50 ∧ qs (C5 2) ≤ 50:=by decide +kernel
theorem A8O (w : World) (rs : List Rq) (h : ∀ r ∈ rs,Lq w r.1 r.2.2) : Lrq (w.alloc (.cells (rs.map fun r=>Value.slice r.1 r.2.2.length r.2.1).toArray 35)) (some ⟨w.heap.size,0,none⟩) rs:=fun _ =>
 ⟨w.heap.size,0,rfl,by rw [I2];omega,fun i r hi=>⟨by
  rw [Nat.zero_add,Blk.cell (Blk.new w 35 _) i]
  simp [hi],(h r (List.mem_of_getElem? hi)).grow (A4.alloc _ _)⟩⟩
theorem A8F (n d : Int) (h0 : 0 ≤ n) (h1 : n ≤ 4) (h2 : d = 1) (hz : qs (G5 n d) ≤ 10) (W : World) : Calls Tryz.prog 52 #[qV (G5 n d),.int .i64 n,.int .i64 d] W fun e w'=>e = .returned (.bool true) ∧ A4 W w' :=
 B1x n d (by omega) (by omega) (by omega) (by omega) (by omega) (Nat.le_trans hz (by unfold LIM;omega)) W
theorem B07 (k : Nat) (hk : k < 3) : A5L 1 knG knP (I7 1 k) (knF k) (knB k) (knL k):=by
 obtain ⟨h1,h2,h3,h4,h5,h6,h7,h8,h9⟩:=A4L k hk
 obtain ⟨g1,g2,g3,g4,g5,-⟩:=A4A
 have e0 : ∀ i,i < 1 → i = 0:=fun i hi=>by omega
 exact A9P 1 (by omega) (by omega) knG knP (I7 1 k) g1 (fun r hr=>by
  have := List.all_eq_true.1 g2 r hr
  simpa using this) g3 h7 (fun i hi=>by rw [e0 i hi];exact ⟨h8,h9⟩) 50 (by omega) (fun i hi j hj=>by rw [e0 i hi,e0 j hj];exact g4) (fun i hi=>by rw [e0 i hi];exact g5) (by unfold BIG;omega) (A8e k hk) (B2B k hk)
theorem B1e (A Y : Option Addr) (x y : Ax) (W : World) (h : Lrq W A [(x.1,x.2,[C5 1]),(y.1,y.2,[C5 1])]) (h2 : Lq W Y knY) (HT : Tab W) : Calls Tryz.prog 35 #[.slice A 2 2,.slice Y 2 2] W fun e w'=>e = .returned (.tuple #[qV (G5 4 1),.int .i64 0]) ∧ A4 W w':=by
 obtain ⟨-,-,-,-,-,g6,g7,g8,g9,-⟩:=A4A
 have h3:=B3D A Y [(x.1,x.2,[C5 1]),(y.1,y.2,[C5 1])] knY 2 1 2 2 rfl (by omega) (by omega) (fun r hr=>by
  simp only [List.mem_cons,List.not_mem_nil,or_false] at hr
  rcases hr with rfl | rfl <;> rfl) rfl (by omega) (by omega) 50 (by omega) (by omega) (fun i hi j hj=>by
  obtain rfl : j = 0:=by omega
  have : i = 0 ∨ i = 1:=by omega
  rcases this with rfl | rfl
  ·exact g6
  ·exact g7) (fun i hi=>by
  have : i = 0 ∨ i = 1:=by omega
  rcases this with rfl | rfl
  ·exact g8
  ·exact g9) W h h2 HT
 have e : A3W ([(x.1,x.2,[C5 1]),(y.1,y.2,[C5 1])].map (·.2.2)) knY 2 1 = G5 4 1:=A8w
 rw [e] at h3
 exact h3
theorem A9j (A : Option Addr) (Y : Ax) (x y : Ax) (W : World) (h : Lrq W A [(x.1,x.2,[C5 1]),(y.1,y.2,[C5 1])]) (h2 : Lq W Y.1 knY) (HT : Tab W) : Calls Tryz.prog 14 #[.slice A 2 2,.slice Y.1 2 Y.2,qV (C5 2)] W (G7 (fun x : Ax=>.tuple #[.slice x.1 1 x.2,.int .i64 0]) (fun x W=>Lq W x.1 [G5 1 1]) W):=by
 obtain ⟨-,-,-,-,-,g6,g7,g8,g9,g10⟩:=A4A
 have h3:=A98 A [(x.1,x.2,[C5 1]),(y.1,y.2,[C5 1])] 2 1 2 Y knY rfl (by omega) (by omega) (by omega) (by omega) (fun r hr=>by
  simp only [List.mem_cons,List.not_mem_nil,or_false] at hr
  rcases hr with rfl | rfl <;> rfl) rfl 50 (by omega) (by omega) (fun i hi j hj=>by
  obtain rfl : j = 0:=by omega
  have : i = 0 ∨ i = 1:=by omega
  rcases this with rfl | rfl
  ·exact g6
  ·exact g7) (fun i hi=>by
  have : i = 0 ∨ i = 1:=by omega
  rcases this with rfl | rfl
  ·exact g8
  ·exact g9) (C5 2) (by decide +kernel) A8Z knF knB knL 50 g10 (by unfold BIG;omega) (fun k hk=>by
  obtain ⟨h1,h2,h3,-⟩:=A4L k hk
  exact ⟨h1,h2,h3⟩) (fun k hk=>by
  obtain ⟨h1,h2,h3,h4,h5,h6,-⟩:=A4L k hk
  refine ⟨fun i hi=>?_,fun i hi=>?_,fun x hx=>?_⟩
  ·obtain rfl : i = 0:=by omega
   exact h4
  ·obtain rfl : i = 0:=by omega
   exact h5
  ·have := List.all_eq_true.1 h6 x hx
   simpa using this) (fun k hk=>B07 k hk) 2 (by decide) A4a.1 (fun j hj=>by
  have : j = 0 ∨ j = 1:=by omega
  rcases this with rfl | rfl
  ·exact A4a.2.1
  ·exact A4a.2.2) W h h2 HT
 rw [A9O] at h3
 exact h3
theorem B4A (w : World) (HT : Tab w) : Calls Tryz.prog 19 #[] w fun e w'=>e = .returned (.bool true) ∧ A4 w w':=by
 have z41 : qs (G5 4 1) ≤ 10:=by decide +kernel
 have z11 : qs (G5 1 1) ≤ 10:=by decide +kernel
 go_enter Tryz.func19,Tryz.ntmps19
 refine en0 ?_
 intro u hG hB hF
 refine wp_seq (rsE G8 [1,1,1,1,1,0] hB hG fun L hL=>?_)
 refine gmw (C:=fun v=>A0P 1 (by omega) (by omega) _) ?_
 refine gx Nat (fun b=>.slice (some ⟨b,0,none⟩) 1 1) (fun b W=>Lq W (some ⟨b,0,none⟩) [C5 1]) (fun _ _ _ hg h=>h.grow hg) rfl ?_ (fun x8=>?_)
 ·(rintro v ⟨hgu,hB,hG,-⟩ N hN;go_simp;exact hN v.heap.size _ (A3D v [C5 1]) (A4.alloc _ _))
 refine okf (by simp only [Act.put,List.setIfInBounds_toArray,List.set_cons_succ,List.set_cons_zero];exact rfl) ?_
 refine gmw (C:=fun v=>A0P 1 (by omega) (by omega) _) ?_
 refine gx Nat (fun b=>.slice (some ⟨b,0,none⟩) 1 1) (fun b W=>Lq W (some ⟨b,0,none⟩) [C5 1]) (fun _ _ _ hg h=>h.grow hg) rfl ?_ (fun x10=>?_)
 ·(rintro v ⟨⟨hgu,hB,hG,-⟩,hx8⟩ N hN;go_simp;exact hN v.heap.size _ (A3D v [C5 1]) (A4.alloc _ _))
 refine okf (by simp only [Act.put,List.setIfInBounds_toArray,List.set_cons_succ,List.set_cons_zero];exact rfl) ?_
 refine gx Nat (fun b=>.slice (some ⟨b,0,none⟩) 2 2) (fun b W=>Lrq W (some ⟨b,0,none⟩) [(some ⟨x8,0,none⟩,1,[C5 1]),(some ⟨x10,0,none⟩,1,[C5 1])]) (fun _ _ _ hg h=>h.grow hg) rfl ?_ (fun x11=>?_)
 ·(rintro v ⟨⟨⟨hgu,hB,hG,-⟩,hx8⟩,hx10⟩ N hN;go_simp;exact hN v.heap.size _ (A8O v [(some ⟨x8,0,none⟩,1,[C5 1]),(some ⟨x10,0,none⟩,1,[C5 1])] (fun r hr=>by simp only [List.mem_cons,List.not_mem_nil,or_false] at hr;rcases hr with rfl | rfl <;> first | exact hx8 | exact hx10)) (A4.alloc _ _))
 refine okf (by simp only [Act.put,List.setIfInBounds_toArray,List.set_cons_succ,List.set_cons_zero];exact rfl) ?_
 refine gs ?_
 refine geT hL ?_
 clear hB hG hL L
 rintro u ⟨⟨⟨⟨hgu,hB,hG,-⟩,hx8⟩,hx10⟩,hx11⟩
 obtain ⟨w1,hw1⟩ : ∃ x,x = u:=⟨_,rfl⟩
 have HX:=Lib.hid (show Lrq w1 (some ⟨x11,0,none⟩) [(some ⟨x8,0,none⟩,1,[C5 1]),(some ⟨x10,0,none⟩,1,[C5 1])] from hw1 ▸ hx11)
 have hG1 : A4 w1 u:=hw1 ▸ A4.refl u
 clear hx8 hx10 hx11 hw1
 clear hgu
 refine wp_seq (rsE G8 [1,1,1,0] hB hG fun L hL=>?_)
 refine gmw (C:=fun v=>A0P 3 (by omega) (by omega) _) ?_
 refine gmw (C:=fun v=>A0P 1 (by omega) (by omega) _) ?_
 refine gx Nat (fun b=>.slice (some ⟨b,0,none⟩) 2 2) (fun b W=>Lq W (some ⟨b,0,none⟩) knY) (fun _ _ _ hg h=>Lq.grow h hg) rfl ?_ (fun x14=>?_)
 ·(rintro v ⟨hgu,hB,hG,-⟩ N hN;go_simp;exact hN v.heap.size _ (A3D v knY) (A4.alloc _ _))
 refine okf (by simp only [Act.put,List.setIfInBounds_toArray,List.set_cons_succ,List.set_cons_zero];exact rfl) ?_
 refine gs ?_
 refine geT hL ?_
 clear hB hG hL L
 rintro u ⟨⟨hgu,hB,hG,-⟩,hx14⟩
 replace hG1:=hG1.trans hgu
 obtain ⟨w2,hw2⟩ : ∃ x,x = u:=⟨_,rfl⟩
 have HY:=Lib.hid (show Lq w2 (some ⟨x14,0,none⟩) knY from hw2 ▸ hx14)
 have hG2 : A4 w2 u:=hw2 ▸ A4.refl u
 clear hx14 hw2
 clear hgu
 refine wp_seq (rsC G8 [0,0,1,0,0,0,2] hB hG fun K L hN hL=>?_)
 refine gs ?_
 refine gmd (C:=fun v ⟨hgu,hB,hG,_⟩=>B1e _ _ (some ⟨x8,0,none⟩,1) (some ⟨x10,0,none⟩,1) _ (HX.out.grow (hG1.trans hgu)) (HY.out.grow (hG2.trans hgu)) (HT.grow hG)) ?_
 refine gs ?_
 refine gaa (K7 _ _ _ _ _) fun b3 hb3 hn3=>?_
 replace hF:=hF.n1 [] hB hG hb3 hn3
 refine geC hL ?_
 clear hB hG hL L
 rintro u ⟨⟨hgu,hB,hG,-⟩,h3⟩
 replace hB:=hB.cons' h3
 clear h3
 have hw31 : w1.heap.size ≤ b3:=Nat.le_trans hG1.size hb3
 have hw32 : w2.heap.size ≤ b3:=Nat.le_trans hG2.size hb3
 replace hG1:=hG1.trans hgu
 replace hG2:=hG2.trans hgu
 clear hb3 hn3
 clear hgu
 refine gtT ?_
 clear hN K
 refine sv hB hF hG 0 0 [_,_,_,_,_] ?_
 intro u hu hBG
 replace hG1:=X4 hG1 hw31 hu
 replace hG2:=X4 hG2 hw32 hu
 clear hB hG hu
 obtain ⟨hB,hG⟩:=hBG
 refine wp_seq (rsE G8 [0,0,1,1,0,0,0,0,0] hB hG fun L hL=>?_)
 refine gs ?_
 refine gmw (C:=fun v=>A0P 2 (by omega) (by omega) _) ?_
 refine gxd (X:=Ax) (fun x : Ax=>.tuple #[.slice x.1 1 x.2,.int .i64 0]) (fun x W=>Lq W x.1 [G5 1 1]) (fun x u u' hg h=>Lq.grow h hg) (fun x25=>?_) (C:=by (rintro v ⟨hgu,hB,hG,-⟩;exact A9j _ (some ⟨x14,0,none⟩,2) (some ⟨x8,0,none⟩,1) (some ⟨x10,0,none⟩,1) _ (HX.out.grow (hG1.trans hgu)) (HY.out.grow (hG2.trans hgu)) (HT.grow hG)))
 refine gs ?_
 refine geT hL ?_
 clear hB hG hL L
 rintro u ⟨⟨hgu,hB,hG,-⟩,hx25⟩
 obtain ⟨xa,xc⟩:=x25
 have HL:=Lib.hid (fun W (hg : A4 u W)=>Lq.grow (show Lq u xa [G5 1 1] from hx25) hg)
 obtain ⟨bq,oq,rfl⟩ : ∃ b o,xa = some ⟨b,o,none⟩:=Lq.addr (show Lq u xa [G5 1 1] from hx25) (by simp)
 have hcq : ∀ W,A4 u W → Cq W bq oq (G5 1 1):=fun W hg=>by
  have h:=(HL.out W hg).read (i:=0) (by simp)
  rw [Nat.zero_mul,Nat.add_zero] at h
  exact h
 have HC:=Lib.hid hcq
 clear hx25 HL hcq
 clear hgu
 refine wp_seq (rsE G8 [0,0,0,0,1,0,0,0,0,0,0,0,0,0,0,0,0,0,0,1,0,0] hB hG fun L hL=>?_)
 repeat first | refine gya ?_ | refine gyr ?_ | refine gna ?_ | refine gyb (by (rintro v ⟨hgu,hB,hG,-⟩ N hN;have r:=hB.r;simp only [BxR] at r;obtain ⟨y1,y2,y3,y4,y5⟩:=HC.out v hgu;go_simp;exact hN)) ?_
 first | refine gmw (C:=fun v=>A8F 4 1 (by omega) (by omega) rfl z41 _) ?_ | refine H3 ?_
 repeat first | refine gya ?_ | refine gyr ?_ | refine gna ?_ | refine gyb (by (rintro v ⟨hgu,hB,hG,-⟩ N hN;have r:=hB.r;simp only [BxR] at r;obtain ⟨y1,y2,y3,y4,y5⟩:=HC.out v hgu;go_simp;exact hN)) ?_
 first | refine gmw (C:=fun v=>A8F 1 1 (by omega) (by omega) rfl z11 _) ?_ | refine H3 ?_
 refine gs ?_
 refine geT hL ?_
 clear hB hG hL L
 rintro u ⟨-,hB,hG,-⟩
 refine rt Tryz.results19 ?_
 exact ⟨rfl,hG⟩
end Go.Proofs.YtgpglgbcobeogaaGreatDoor
