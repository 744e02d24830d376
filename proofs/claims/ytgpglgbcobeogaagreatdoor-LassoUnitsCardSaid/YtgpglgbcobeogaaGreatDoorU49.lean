/- Contracts and laws. -/
import Derived.Test.YtgpglgbcobeogaaGreatDoorU48
set_option linter.unusedSimpArgs false
set_option linter.unusedVariables false
set_option maxHeartbeats 4000000
set_option maxRecDepth 100000
namespace Go.Proofs.YtgpglgbcobeogaaGreatDoor
open Go Go.RowKit
def A0Q (l : List Rat) (k : Rat) (n : Nat) : List Rat:=(List.range n).map fun i=>C2 (gq l i) k
theorem A4Y {u : World} {b : Nat} {p : Az} {q : Rat} (h : Blk u b 33 (B2B p q)) : ∀ W,A4 u W → Cz W b 0 p q:=fun W hg=>by
 have h1:=h.grow hg
 exact ⟨by rw [h1.cell 0];rfl,by rw [Nat.zero_add,h1.cell 1];rfl,by rw [Nat.zero_add,h1.cell 2];rfl⟩
theorem B20 (A : Option Addr) (l : List Rat) (n c : Nat) (k : Rat) (pk : Az) (hn : l.length = n) (hm : n ≤ 1048576) (s : Nat) (hs : ∀ i,i < n → qs (gq l i) ≤ s) (hB : s + qs k ≤ BIG) (w : World) (h : Lz w A l) (hk : Rz w pk k) :
  Calls Tryz.prog 27 #[.slice A n c,rqV pk.1 pk.2 k] w (G5 (fun x : Ax=>.slice x.1 n x.2) (fun x W=>Lz W x.1 (A0Q l k n)) w):=by
 have hat : ∀ i,i < n → ∃ (bb ob : Nat) (p : Az) (X : Rat),A = some ⟨bb,ob,none⟩ ∧ (∀ W,A4 w W → Cz W bb (ob + i * 3) p X) ∧ (∀ W,A4 w W → Calls Tryz.prog 28 #[rqV p.1 p.2 X,rqV pk.1 pk.2 k] W (Ret (K5 (C2 X k)) W)) ∧ C2 X k = C2 (gq l i) k:=fun i hi=>by
  obtain ⟨bb,ob,e⟩:=h.addr (by omega)
  rw [e] at h
  obtain ⟨p,hp⟩:=h.read (i:=i) (by omega)
  have z:=hs i hi
  exact ⟨bb,ob,p,gq l i,e,fun W hg=>(hp W hg).2,fun W hg=>A79 p.1 p.2 pk.1 pk.2 _ k W (hp W hg).1.a (hp W hg).1.b (hk.grow hg).a (hk.grow hg).b (by omega),rfl⟩
 unfold A0Q
 obtain ⟨f,hf⟩ : ∃ f : Nat → Rat,f = fun i=>C2 (gq l i) k:=⟨_,rfl⟩
 have hfi : ∀ i,C2 (gq l i) k = f i:=by rw [hf];exact fun _=>rfl
 simp only [hfi] at hat
 rw [← hf]
 have Hat:=Lib.hid hat
 clear hat hf hfi h hk hn hs
 go_enter Tryz.func27,Tryz.ntmps27
 refine en1 ?_
 intro u hG b3 hB hF
 refine wp_seq ?_
 have HBK:=Lib.hid (A4Y hB.head)
 refine r0N ?_
 have HG0:=Lib.hid hG
 clear hB hF hG
 obtain ⟨w0,rfl⟩ : ∃ x,x = w:=⟨_,rfl⟩
 obtain ⟨w,hwu⟩ : ∃ x,x = u:=⟨_,rfl⟩
 rw [← hwu] at HG0 HBK
 have hB:=Bx.nil u
 have hF:=Fr.nil w
 have hG : A4 w u:=hwu ▸ A4.refl u
 clear hwu
 refine wp_seq ?_
 refine r0T ?_
 refine wp_block ?_
 clear hB hF
 go_loopw [6,5] (fun s0 s1 wr=>∃ (i : Nat) (ps : List Zr),i ≤ n ∧ s0 = .int .i64 i ∧ ps.map (·.2) = (List.range i).map f ∧ I4 wr ps ∧ wr.ownsRow w.heap.size 33 3 s1 i (ps.flatMap zrL) ∧ A4 w wr) (fun s0 _ _=>n - (intOf s0).toNat)
 case atStart=>exact ⟨0,[],Nat.zero_le _,rfl,rfl,I4.nil _,World.ownsRow_nil _ _ _ _,hG⟩
 case round =>
  clear hG
  obtain ⟨i,ps,hi,rfl,hps,hA,ho,hG⟩:=hrel
  obtain ⟨u,rfl⟩ : ∃ x,x = wr:=⟨_,rfl⟩
  have hB:=Bx.nil u
  have hF:=Fr.nil w
  have Ho:=Lib.hid ho
  have Hps:=Lib.hid hps
  clear ho hps
  rcases Nat.lt_or_ge i n with hlt | hge
  ·have hdec : decide ((i : Int) < (n : Int)) = true:=by simp;omega
   have hin : (i : Int) < (n : Int):=by omega
   have hsu:=B14 f i
   obtain ⟨bb,ob,p,X,rfl,hrd,hml,e⟩:=Hat.out i hlt
   rw [← e] at hsu
   obtain ⟨Q,hQ⟩ : ∃ q,q = C2 X k:=⟨_,rfl⟩
   rw [← hQ] at hsu
   simp only [← hQ] at hml
   have Hsu:=Lib.hid hsu
   have Hrd:=Lib.hid hrd
   have Hml:=Lib.hid hml
   clear hsu hrd hml hQ e
   refine wp_seq ?_
   refine r0T ?_
   refine wp_cond_true (rfl) ?_
   refine wp_skip ?_
   refine A6 ?_
   refine wp_seq ?_
   refine wp_block ?_
   refine A2n (w:=w) A0T 7 [0] [(0,0),(0,1),(0,2),(0,3),(0,4),(0,5),(1,6)] (by kernel_rfl) (by kernel_rfl) (by simp only [List.drop_succ_cons,List.drop_zero];exact rfl) (fun _=>True) noG hB hG trivial ?_
   intro K L hN hL
   simp only [G0,List.getElem?_toArray,List.getElem?_cons_zero,List.getElem?_cons_succ]
   repeat first | refine gya ?_ | refine gyr ?_ | refine gna ?_ | refine gyb (by (rintro v ⟨hgu,hB,hG,-⟩ N hN;have r:=hB.r;simp only [BxR] at r;obtain ⟨q1,q2,q3⟩:=Hrd.out v (HG0.out.trans hG);obtain ⟨k1,k2,k3⟩:=HBK.out v hG;go_simp;exact hN)) ?_
   refine grd (K5 Q) (fun (x19 : Ax × Ax)=>?_) (C:=by (rintro v ⟨hgu,hB,hG,-⟩;exact Hml.out _ (HG0.out.trans hG)))
   refine H6 ?_
   rintro v ⟨⟨hgu,hB1,hG1,-⟩,hx19⟩
   replace hA:=hA.grow hgu
   obtain ⟨hx19a,hx19b⟩ : Rn v x19.1 _ ∧ Rn v x19.2 _:=hx19
   have ROWn:=Lib.hid (D3 Ho.out hgu)
   clear Ho
   have Ho:=ROWn
   clear ROWn
   clear hB hG
   have hB:=hB1
   have hG:=hG1
   clear hB1 hG1
   refine hL _ _ ?_
   clear hL L hgu
   obtain ⟨u,rfl⟩ : ∃ x,x = v:=⟨_,rfl⟩
   refine T8 A5i w.heap.size _ _ _ _ (zL x19 Q) rfl rfl (A5A x19.1 x19.2 Q u) rfl (fun _=>rfl) (fun _=>rfl) (fun _ _=>rfl) Ho.out (by omega) (by omega) hG.sz fun p v' w' g1 g2 g3=>?_
   have hBn:=Bx.nil w'
   have hGn:=T7 Ho.out hG g2
   replace hA:=hA.own Ho.out (by decide) g2
   replace hx19a:=hx19a.own Ho.out (by decide) g2
   replace hx19b:=hx19b.own Ho.out (by decide) g2
   clear Ho hB hG
   have Ho:=Lib.hid g1
   have hB:=hBn
   have hG:=hGn
   clear g1 g2 g3 hBn hGn
   obtain ⟨u,rfl⟩ : ∃ x,x = w':=⟨_,rfl⟩
   simp only [Act.put,List.setIfInBounds_toArray,List.set_cons_succ,List.set_cons_zero]
   refine NoK.norm (hN _ _ ?_)
   clear hN K
   refine E3 ?_
   refine A6 ?_
   refine r0E ?_
   refine A6 ?_
   go_roundw
   case rel=>exact ⟨i + 1,ps ++ [(x19,Q)],by omega,by go_num,by rw [List.map_append,Hps.out,Hsu.out];rfl,hA.snoc hx19a hx19b,by have := Ho.out;rw [List.flatMap_append];simpa [zrL] using this,hG⟩
   case measure=>simp [intOf];omega
  ·obtain rfl : n = i:=by omega
   have hdec : decide ((n : Int) < (n : Int)) = false:=by simp
   obtain ⟨A',cc,rfl,hcc1,hcc2,hL,hkl⟩:=A31 Ho.out hA
   rw [Hps.out] at hL
   have HL:=Lib.hid hL
   clear hL hkl Ho Hps hA
   refine wp_seq ?_
   refine r0T ?_
   refine wp_cond_false (rfl) ?_
   refine wp_exit ?_
   refine B9 ?_
   refine B9 ?_
   refine E9 ?_
   refine A6 ?_
   refine r0T ?_
   refine rt Tryz.results27 ?_
   exact ⟨(A',cc),rfl,HL.out,HG0.out.trans hG⟩
theorem B5O {u : Rat} (hu : 0 < u) (p : Rat) : F5 (u * p) = u * F5 p:=by
 have h0 : 0 ≤ u:=Rat.le_of_lt hu
 rcases U8 p with ⟨h1,h2⟩ | ⟨h1,h2⟩
 ·have := Rat.mul_nonneg h0 h1
  rw [h2]
  unfold F5
  rw [if_pos this]
 ·have h3:=Rat.mul_nonneg h0 (b:=-p) (by grind)
  rw [h2]
  rcases U8 (u * p) with ⟨h4,h5⟩ | ⟨h4,h5⟩
  ·rw [h5];grind
  ·rw [h5];grind
theorem A9M {u p w a : Rat} (hu : 0 < u) (h : A0z p w a = true) : A0z (u * p) (u * w) (u * a) = true:=by
 apply A7M
 rcases A61 h with ⟨h1,h2⟩ | ⟨h1,h2⟩ | ⟨h1,h2⟩
 ·exact .inl ⟨Rat.mul_pos hu h1,by rw [h2]⟩
 ·refine .inr (.inl ⟨?_,by rw [h2];grind⟩)
  have := Rat.mul_pos hu (b:=-w) (by grind)
  grind
 ·refine .inr (.inr ⟨by rw [h1];grind,?_⟩)
  rw [B5O hu]
  have := Rat.mul_nonneg (Rat.le_of_lt hu) (b:=a - F5 p) (by grind)
  grind
theorem B5n {X : List (List Rat)} {y y' : List Rat} {N L : Nat} {u : Rat} (h : ∀ r,r < N → gq y' r = u * gq y r) {i : Nat} (hi : i < L) : gq (H5 X y' N L) i = u * gq (H5 X y N L) i:=by
 rw [show gq (H5 X y' N L) i = E5 (G7 X i N) y' N from R7 _ hi,show gq (H5 X y N L) i = E5 (G7 X i N) y N from R7 _ hi]
 unfold E5
 rw [← L9]
 refine F6 fun r hr=>?_
 unfold C2
 rw [h r hr]
 grind
theorem A9j {X : List (List Rat)} {y y' : List Rat} {N L : Nat} {u a : Rat} (hF : A3W X N L) (hu : 0 < u) (ha : 0 ≤ a) (h : ∀ r,r < N → gq y' r = u * gq y r) : ∀ i,i < L → gq (Q9 X y' N L (u * a)) i = u * gq (Q9 X y N L a) i:=fun i hi=>by
 have h1:=A7w hF y ha
 have h2 : Kkt (I1 X N) L (gq (H5 X y' N L)) (u * a) (fun i=>u * gq (Q9 X y N L a) i):=fun j hj=>by
  have h3:=A9M hu (h1 j hj)
  have e : C8 (I1 X N j) (fun i=>u * gq (Q9 X y N L a) i) L = u * C8 (I1 X N j) (gq (Q9 X y N L a)) L:=by
   unfold C8
   rw [← L9]
   exact F6 fun k _=>by grind
  rw [e,B5n h hj]
  rw [show u * gq (H5 X y N L) j - u * C8 (I1 X N j) (gq (Q9 X y N L a)) L = u * (gq (H5 X y N L) j - C8 (I1 X N j) (gq (Q9 X y N L a)) L) by grind]
  exact h3
 exact (A9L hF y' (Rat.mul_nonneg (Rat.le_of_lt hu) ha) h2 i hi).symm
def knX : List (List Rat):=[[C1 1],[C1 1]]
def knY : List Rat:=[C1 3,C1 1]
def knG : List (List Rat):=J4 knX 2 1
def knP : List Rat:=H5 knX knY 2 1
def knF (k : Nat) : List Rat:=A0I knG knP (E6 1 k) 1
def knB (k : Nat) : List Rat:=Z4 knG (E6 1 k) 1
def knL (k : Nat) : List Lm:=V9 knG knP (knF k) (knB k) (E6 1 k) 1 1
theorem B3P : A3F knX knY 2 1 = F9 4 1:=by decide +kernel
theorem B0V : (C7 2 1 (E8 knX,[]) 1).2.length = 1:=by decide +kernel
theorem B3S : M5 (knF 2) (knB 2) 1 (C1 2) = [F9 1 1]:=by decide +kernel
theorem A4d : H7 (C1 2) (knL 2) = true ∧ H7 (C1 2) (knL 0) = false ∧ H7 (C1 2) (knL 1) = false:=by decide +kernel
theorem B3d : ∀ k,k < 3 → (1 ≤ (E7 (E6 1 k) 1).length → (C7 (E7 (E6 1 k) 1).length ((E7 (E6 1 k) 1).length + 1) (E8 (aug (T2 knG (E7 (E6 1 k) 1)) (R0 knP (E7 (E6 1 k) 1)) (E7 (E6 1 k) 1).length),[]) ((E7 (E6 1 k) 1).length + 1)).2 = List.range (E7 (E6 1 k) 1).length):=by decide +kernel
theorem B3k : ∀ k,k < 3 → (1 ≤ (E7 (E6 1 k) 1).length → (C7 (E7 (E6 1 k) 1).length ((E7 (E6 1 k) 1).length + 1) (E8 (aug (T2 knG (E7 (E6 1 k) 1)) (S5 (E6 1 k) (E7 (E6 1 k) 1)) (E7 (E6 1 k) 1).length),[]) ((E7 (E6 1 k) 1).length + 1)).2 = List.range (E7 (E6 1 k) 1).length):=by decide +kernel
theorem A4b : ∀ k,k < 3 → (knF k).length = 1 ∧ (knB k).length = 1 ∧ (knL k).length ≤ 1000 ∧ qs (gq (knF k) 0) ≤ 50 ∧ qs (gq (knB k) 0) ≤ 50 ∧ (knL k).all (fun x=>decide (qs x.1 ≤ 50) && decide (qs x.2 ≤ 50)) = true ∧ (E6 1 k).length = 1 ∧ -1 ≤ gi (E6 1 k) 0 ∧ gi (E6 1 k) 0 ≤ 1:=by decide +kernel
theorem A4k : knG.length = 1 ∧ (knG.all fun r=>decide (r.length = 1)) = true ∧ knP.length = 1 ∧ qs (gq (B6 knG 0) 0) ≤ 50 ∧ qs (gq knP 0) ≤ 50 ∧ qs (gq (B6 knX 0) 0) ≤ 50 ∧ qs (gq (B6 knX 1) 0) ≤ 50 ∧ qs (gq knY 0) ≤ 50 ∧ qs (gq knY 1) ≤ 50 ∧ qs (C1 2) ≤ 50:=by decide +kernel
theorem B30 (w : World) (rs : List Rq) (h : ∀ r ∈ rs,Lq w r.1 r.2.2) : Lrq (w.alloc (.cells (rs.map fun r=>Value.slice r.1 r.2.2.length r.2.1).toArray 35)) (some ⟨w.heap.size,0,none⟩) rs:=fun _ =>
 ⟨w.heap.size,0,rfl,by rw [H8];omega,fun i r hi=>⟨by
  rw [Nat.zero_add,Blk.cell (Blk.new w 35 _) i]
  simp [hi],(h r (List.mem_of_getElem? hi)).grow (A4.alloc _ _)⟩⟩
theorem A6E (n d : Int) (h0 : 0 ≤ n) (h1 : n ≤ 4) (h2 : d = 1) (hz : qs (F9 n d) ≤ 10) (W : World) : Calls Tryz.prog 52 #[qV (F9 n d),.int .i64 n,.int .i64 d] W fun e w'=>e = .returned (.bool true) ∧ A4 W w' :=
 A9A n d (by omega) (by omega) (by omega) (by omega) (by omega) (Nat.le_trans hz (by unfold LIM;omega)) W
theorem B5T (k : Nat) (hk : k < 3) : A2P 1 knG knP (E6 1 k) (knF k) (knB k) (knL k):=by
 obtain ⟨h1,h2,h3,h4,h5,h6,h7,h8,h9⟩:=A4b k hk
 obtain ⟨g1,g2,g3,g4,g5,-⟩:=A4k
 have e0 : ∀ i,i < 1 → i = 0:=fun i hi=>by omega
 exact A6g 1 (by omega) (by omega) knG knP (E6 1 k) g1 (fun r hr=>by
  have := List.all_eq_true.1 g2 r hr
  simpa using this) g3 h7 (fun i hi=>by rw [e0 i hi];exact ⟨h8,h9⟩) 50 (by omega) (fun i hi j hj=>by rw [e0 i hi,e0 j hj];exact g4) (fun i hi=>by rw [e0 i hi];exact g5) (by unfold BIG;omega) (B3d k hk) (B3k k hk)
theorem B3s (A Y : Option Addr) (x y : Ax) (W : World) (h : Lrq W A [(x.1,x.2,[C1 1]),(y.1,y.2,[C1 1])]) (h2 : Lq W Y knY) (HT : Tab W) : Calls Tryz.prog 35 #[.slice A 2 2,.slice Y 2 2] W fun e w'=>e = .returned (.tuple #[qV (F9 4 1),.int .i64 0]) ∧ A4 W w':=by
 obtain ⟨-,-,-,-,-,g6,g7,g8,g9,-⟩:=A4k
 have h3:=B04 A Y [(x.1,x.2,[C1 1]),(y.1,y.2,[C1 1])] knY 2 1 2 2 rfl (by omega) (by omega) (fun r hr=>by
  simp only [List.mem_cons,List.not_mem_nil,or_false] at hr
  rcases hr with rfl | rfl <;> rfl) rfl (by omega) (by omega) 50 (by omega) (by omega) (fun i hi j hj=>by
  obtain rfl : j = 0:=by omega
  have : i = 0 ∨ i = 1:=by omega
  rcases this with rfl | rfl
  ·exact g6
  ·exact g7) (fun i hi=>by
  have : i = 0 ∨ i = 1:=by omega
  rcases this with rfl | rfl
  ·exact g8
  ·exact g9) W h h2 HT
 have e : A3F ([(x.1,x.2,[C1 1]),(y.1,y.2,[C1 1])].map (·.2.2)) knY 2 1 = F9 4 1:=B3P
 rw [e] at h3
 exact h3
theorem B0z (A : Option Addr) (Y : Ax) (x y : Ax) (W : World) (h : Lrq W A [(x.1,x.2,[C1 1]),(y.1,y.2,[C1 1])]) (h2 : Lq W Y.1 knY) (HT : Tab W) : Calls Tryz.prog 14 #[.slice A 2 2,.slice Y.1 2 Y.2,qV (C1 2)] W (G5 (fun x : Ax=>.tuple #[.slice x.1 1 x.2,.int .i64 0]) (fun x W=>Lq W x.1 [F9 1 1]) W):=by
 obtain ⟨-,-,-,-,-,g6,g7,g8,g9,g10⟩:=A4k
 have h3:=A8X A [(x.1,x.2,[C1 1]),(y.1,y.2,[C1 1])] 2 1 2 Y knY rfl (by omega) (by omega) (by omega) (by omega) (fun r hr=>by
  simp only [List.mem_cons,List.not_mem_nil,or_false] at hr
  rcases hr with rfl | rfl <;> rfl) rfl 50 (by omega) (by omega) (fun i hi j hj=>by
  obtain rfl : j = 0:=by omega
  have : i = 0 ∨ i = 1:=by omega
  rcases this with rfl | rfl
  ·exact g6
  ·exact g7) (fun i hi=>by
  have : i = 0 ∨ i = 1:=by omega
  rcases this with rfl | rfl
  ·exact g8
  ·exact g9) (C1 2) (by decide +kernel) B0V knF knB knL 50 g10 (by unfold BIG;omega) (fun k hk=>by
  obtain ⟨h1,h2,h3,-⟩:=A4b k hk
  exact ⟨h1,h2,h3⟩) (fun k hk=>by
  obtain ⟨h1,h2,h3,h4,h5,h6,-⟩:=A4b k hk
  refine ⟨fun i hi=>?_,fun i hi=>?_,fun x hx=>?_⟩
  ·obtain rfl : i = 0:=by omega
   exact h4
  ·obtain rfl : i = 0:=by omega
   exact h5
  ·have := List.all_eq_true.1 h6 x hx
   simpa using this) (fun k hk=>B5T k hk) 2 (by decide) A4d.1 (fun j hj=>by
  have : j = 0 ∨ j = 1:=by omega
  rcases this with rfl | rfl
  ·exact A4d.2.1
  ·exact A4d.2.2) W h h2 HT
 rw [B3S] at h3
 exact h3
theorem B2S (w : World) (HT : Tab w) : Calls Tryz.prog 19 #[] w fun e w'=>e = .returned (.bool true) ∧ A4 w w':=by
 have z41 : qs (F9 4 1) ≤ 10:=by decide +kernel
 have z11 : qs (F9 1 1) ≤ 10:=by decide +kernel
 go_enter Tryz.func19,Tryz.ntmps19
 refine en0 ?_
 intro u hG hB hF
 refine wp_seq (rsE F8 [1,1,1,1,1,0] hB hG fun L hL=>?_)
 refine gmw (C:=fun v=>A0P 1 (by omega) (by omega) _) ?_
 refine gx Nat (fun b=>.slice (some ⟨b,0,none⟩) 1 1) (fun b W=>Lq W (some ⟨b,0,none⟩) [C1 1]) (fun _ _ _ hg h=>h.grow hg) rfl ?_ (fun x8=>?_)
 ·(rintro v ⟨hgu,hB,hG,-⟩ N hN;go_simp;exact hN v.heap.size _ (A34 v [C1 1]) (A4.alloc _ _))
 refine okf (by simp only [Act.put,List.setIfInBounds_toArray,List.set_cons_succ,List.set_cons_zero];exact rfl) ?_
 refine gmw (C:=fun v=>A0P 1 (by omega) (by omega) _) ?_
 refine gx Nat (fun b=>.slice (some ⟨b,0,none⟩) 1 1) (fun b W=>Lq W (some ⟨b,0,none⟩) [C1 1]) (fun _ _ _ hg h=>h.grow hg) rfl ?_ (fun x10=>?_)
 ·(rintro v ⟨⟨hgu,hB,hG,-⟩,hx8⟩ N hN;go_simp;exact hN v.heap.size _ (A34 v [C1 1]) (A4.alloc _ _))
 refine okf (by simp only [Act.put,List.setIfInBounds_toArray,List.set_cons_succ,List.set_cons_zero];exact rfl) ?_
 refine gx Nat (fun b=>.slice (some ⟨b,0,none⟩) 2 2) (fun b W=>Lrq W (some ⟨b,0,none⟩) [(some ⟨x8,0,none⟩,1,[C1 1]),(some ⟨x10,0,none⟩,1,[C1 1])]) (fun _ _ _ hg h=>h.grow hg) rfl ?_ (fun x11=>?_)
 ·(rintro v ⟨⟨⟨hgu,hB,hG,-⟩,hx8⟩,hx10⟩ N hN;go_simp;exact hN v.heap.size _ (B30 v [(some ⟨x8,0,none⟩,1,[C1 1]),(some ⟨x10,0,none⟩,1,[C1 1])] (fun r hr=>by simp only [List.mem_cons,List.not_mem_nil,or_false] at hr;rcases hr with rfl | rfl <;> first | exact hx8 | exact hx10)) (A4.alloc _ _))
 refine okf (by simp only [Act.put,List.setIfInBounds_toArray,List.set_cons_succ,List.set_cons_zero];exact rfl) ?_
 refine gs ?_
 refine geT hL ?_
 clear hB hG hL L
 rintro u ⟨⟨⟨⟨hgu,hB,hG,-⟩,hx8⟩,hx10⟩,hx11⟩
 obtain ⟨w1,hw1⟩ : ∃ x,x = u:=⟨_,rfl⟩
 have HX:=Lib.hid (show Lrq w1 (some ⟨x11,0,none⟩) [(some ⟨x8,0,none⟩,1,[C1 1]),(some ⟨x10,0,none⟩,1,[C1 1])] from hw1 ▸ hx11)
 have hG1 : A4 w1 u:=hw1 ▸ A4.refl u
 clear hx8 hx10 hx11 hw1
 clear hgu
 refine wp_seq (rsE F8 [1,1,1,0] hB hG fun L hL=>?_)
 refine gmw (C:=fun v=>A0P 3 (by omega) (by omega) _) ?_
 refine gmw (C:=fun v=>A0P 1 (by omega) (by omega) _) ?_
 refine gx Nat (fun b=>.slice (some ⟨b,0,none⟩) 2 2) (fun b W=>Lq W (some ⟨b,0,none⟩) knY) (fun _ _ _ hg h=>Lq.grow h hg) rfl ?_ (fun x14=>?_)
 ·(rintro v ⟨hgu,hB,hG,-⟩ N hN;go_simp;exact hN v.heap.size _ (A34 v knY) (A4.alloc _ _))
 refine okf (by simp only [Act.put,List.setIfInBounds_toArray,List.set_cons_succ,List.set_cons_zero];exact rfl) ?_
 refine gs ?_
 refine geT hL ?_
 clear hB hG hL L
 rintro u ⟨⟨hgu,hB,hG,-⟩,hx14⟩
 replace hG1:=hG1.trans hgu
 obtain ⟨w2,hw2⟩ : ∃ x,x = u:=⟨_,rfl⟩
 have HY:=Lib.hid (show Lq w2 (some ⟨x14,0,none⟩) knY from hw2 ▸ hx14)
 have hG2 : A4 w2 u:=hw2 ▸ A4.refl u
 clear hx14 hw2
 clear hgu
 refine wp_seq (rsC F8 [0,0,1,0,0,0,2] hB hG fun K L hN hL=>?_)
 refine gs ?_
 refine gmd (C:=fun v ⟨hgu,hB,hG,_⟩=>B3s _ _ (some ⟨x8,0,none⟩,1) (some ⟨x10,0,none⟩,1) _ (HX.out.grow (hG1.trans hgu)) (HY.out.grow (hG2.trans hgu)) (HT.grow hG)) ?_
 refine gs ?_
 refine gaa (N2 _ _ _ _ _) fun b3 hb3 hn3=>?_
 replace hF:=hF.n1 [] hB hG hb3 hn3
 refine geC hL ?_
 clear hB hG hL L
 rintro u ⟨⟨hgu,hB,hG,-⟩,h3⟩
 replace hB:=hB.cons' h3
 clear h3
 have hw31 : w1.heap.size ≤ b3:=Nat.le_trans hG1.size hb3
 have hw32 : w2.heap.size ≤ b3:=Nat.le_trans hG2.size hb3
 replace hG1:=hG1.trans hgu
 replace hG2:=hG2.trans hgu
 clear hb3 hn3
 clear hgu
 refine gtT ?_
 clear hN K
 refine sv hB hF hG 0 0 [_,_,_,_,_] ?_
 intro u hu hBG
 replace hG1:=A1j hG1 hw31 hu
 replace hG2:=A1j hG2 hw32 hu
 clear hB hG hu
 obtain ⟨hB,hG⟩:=hBG
 refine wp_seq (rsE F8 [0,0,1,1,0,0,0,0,0] hB hG fun L hL=>?_)
 refine gs ?_
 refine gmw (C:=fun v=>A0P 2 (by omega) (by omega) _) ?_
 refine gxd (X:=Ax) (fun x : Ax=>.tuple #[.slice x.1 1 x.2,.int .i64 0]) (fun x W=>Lq W x.1 [F9 1 1]) (fun x u u' hg h=>Lq.grow h hg) (fun x25=>?_) (C:=by (rintro v ⟨hgu,hB,hG,-⟩;exact B0z _ (some ⟨x14,0,none⟩,2) (some ⟨x8,0,none⟩,1) (some ⟨x10,0,none⟩,1) _ (HX.out.grow (hG1.trans hgu)) (HY.out.grow (hG2.trans hgu)) (HT.grow hG)))
 refine gs ?_
 refine geT hL ?_
 clear hB hG hL L
 rintro u ⟨⟨hgu,hB,hG,-⟩,hx25⟩
 obtain ⟨xa,xc⟩:=x25
 have HL:=Lib.hid (fun W (hg : A4 u W)=>Lq.grow (show Lq u xa [F9 1 1] from hx25) hg)
 obtain ⟨bq,oq,rfl⟩ : ∃ b o,xa = some ⟨b,o,none⟩:=Lq.addr (show Lq u xa [F9 1 1] from hx25) (by simp)
 have hcq : ∀ W,A4 u W → Cq W bq oq (F9 1 1):=fun W hg=>by
  have h:=(HL.out W hg).read (i:=0) (by simp)
  rw [Nat.zero_mul,Nat.add_zero] at h
  exact h
 have HC:=Lib.hid hcq
 clear hx25 HL hcq
 clear hgu
 refine wp_seq (rsE F8 [0,0,0,0,1,0,0,0,0,0,0,0,0,0,0,0,0,0,0,1,0,0] hB hG fun L hL=>?_)
 repeat first | refine gya ?_ | refine gyr ?_ | refine gna ?_ | refine gyb (by (rintro v ⟨hgu,hB,hG,-⟩ N hN;have r:=hB.r;simp only [BxR] at r;obtain ⟨y1,y2,y3,y4,y5⟩:=HC.out v hgu;go_simp;exact hN)) ?_
 first | refine gmw (C:=fun v=>A6E 4 1 (by omega) (by omega) rfl z41 _) ?_ | refine O1 ?_
 repeat first | refine gya ?_ | refine gyr ?_ | refine gna ?_ | refine gyb (by (rintro v ⟨hgu,hB,hG,-⟩ N hN;have r:=hB.r;simp only [BxR] at r;obtain ⟨y1,y2,y3,y4,y5⟩:=HC.out v hgu;go_simp;exact hN)) ?_
 first | refine gmw (C:=fun v=>A6E 1 1 (by omega) (by omega) rfl z11 _) ?_ | refine O1 ?_
 refine gs ?_
 refine geT hL ?_
 clear hB hG hL L
 rintro u ⟨-,hB,hG,-⟩
 refine rt Tryz.results19 ?_
 exact ⟨rfl,hG⟩
theorem B3V : ∀ {l : List Nat} {m : Nat},l.Pairwise (· < ·) → (∀ x ∈ l,x < m) → l.length ≤ m:=by
 intro l m
 induction m generalizing l with
 | zero =>
  intro _ h
  cases l with
  | nil=>exact Nat.le_refl _
  | cons x l=>exact absurd (h x List.mem_cons_self) (Nat.not_lt_zero _)
 | succ m ih =>
  intro h1 h2
  rcases List.eq_nil_or_concat l with rfl | ⟨l',x,rfl⟩
  ·exact Nat.zero_le _
  ·rw [List.concat_eq_append] at h1 h2 ⊢
   obtain ⟨p1,-,p3⟩:=List.pairwise_append.1 h1
   have := ih p1 fun y hy=>by
    have h3:=p3 y hy x (by simp)
    have h4:=h2 x (by simp)
    omega
   rw [List.length_append,List.length_singleton]
   omega
def rkR (X : List (List Rat)) (N L : Nat) : Nat:=(C7 N L (E8 X,[]) L).2.length
theorem B4K (X : List (List Rat)) (N L : Nat) : rkR X N L ≤ L:=by
 obtain ⟨h1,h2⟩:=A5C N L (E8 X) L
 exact B3V h1 h2
def lsE (X : List (List Rat)) (N L : Nat) : Int:=if rkR X N L = L then 0 else 9
def lsN (X : List (List Rat)) (N L : Nat) : Nat:=if rkR X N L = L then L else 0
def lsV (X : List (List Rat)) (y : List Rat) (N L : Nat) (a : Rat) : List Rat:=if rkR X N L = L then Q9 X y N L a else []
theorem A55 (X : List (List Rat)) (y : List Rat) (N L : Nat) (a : Rat) : (lsV X y N L a).length = lsN X N L:=by
 unfold lsV lsN
 split
 ·exact B0R _ _ _ _ _
 ·rfl
section
variable {N L : Nat} {R : List (List Rat)} {y : List Rat} {a : Rat} (hRn : R.length = N) (hRl : ∀ r ∈ R,r.length = L) (hN1 : 1 ≤ N) (hN : N ≤ 5) (hL1 : 1 ≤ L) (hL : L ≤ 3) (hX : ∀ i,i < N → ∀ j,j < L → qs (gq (B6 R i) j) ≤ 20) (hyn : y.length = N) (hys : ∀ i,i < N → qs (gq y i) ≤ 20) (ha0 : 0 ≤ a) (ha : qs a ≤ 20)
theorem B0W {L : Nat} (hL : L ≤ 3) : 100 * (210 * 10 ^ (L + 1)) ≤ BIG:=by
 have h1 : 10 ^ (L + 1) ≤ 10 ^ 4:=Nat.pow_le_pow_right (by omega) (by omega)
 have h2 : 210 * 10 ^ (L + 1) ≤ 210 * 10 ^ 4:=Nat.mul_le_mul_left _ h1
 unfold BIG
 omega
include hN hL hX hys ha in
theorem A6m (i : Nat) (hi : i < L) : qs (gq (Q9 R y N L a) i) ≤ 10000000:=by
 have hg : N * (20 + 20 + 1) + 1 ≤ 210:=by omega
 obtain ⟨z1,z2,-⟩:=A6a (X:=R) (y:=y) (N:=N) (g:=210) (by omega) (by omega) (fun i hi j hj=>A8S hX hg hi hj) (fun i hi=>A7Z hX hys hg hi) (P9 R y N L a)
 have e : gq (Q9 R y N L a) i = G8 (gq (Q7 R y N L (P9 R y N L a)) i) (C2 (gq (Q0 R N L (P9 R y N L a)) i) a):=R7 _ hi
 rw [e]
 have h1 : 10 ^ (L + 1) ≤ 10 ^ 4:=Nat.pow_le_pow_right (by omega) (by omega)
 have h2 : 210 * 10 ^ (L + 1) ≤ 210 * 10 ^ 4:=Nat.mul_le_mul_left _ h1
 have h3:=z1 i
 have h4:=z2 i
 generalize 210 * 10 ^ (L + 1) = Z at *
 have h5:=T4 (gq (Q0 R N L (P9 R y N L a)) i) a
 have h6:=A2i (gq (Q7 R y N L (P9 R y N L a)) i) (C2 (gq (Q0 R N L (P9 R y N L a)) i) a)
 unfold G8
 unfold C2 at *
 omega
include hRn hRl hN1 hN hL1 hL hX hyn hys ha0 ha
theorem A75 (W : World) (X Y : Ax) (rs : List Rq) (hr : rs.map (·.2.2) = R) (h1 : Lrq W X.1 rs) (h2 : Lq W Y.1 y) (HT : Tab W) :
  Calls Tryz.prog 14 #[.slice X.1 N X.2,.slice Y.1 N Y.2,qV a] W (G5 (fun x : Ax=>.tuple #[.slice x.1 (lsN R N L) x.2,.int .i64 (lsE R N L)]) (fun x W'=>Lq W' x.1 (lsV R y N L a)) W):=by
 have hBB : 100000000 ≤ BIG:=by unfold BIG;omega
 have e1 : rs.length = N:=by rw [← hRn,← hr];simp
 have hrl : ∀ r ∈ rs,r.2.2.length = L:=fun r h'=>hRl _ (by rw [← hr];exact List.mem_map.2 ⟨r,h',rfl⟩)
 have hp:=B0W hL
 subst hr
 unfold lsN lsE lsV
 by_cases hk : rkR (rs.map (·.2.2)) N L = L
 ·rw [if_pos hk,if_pos hk,if_pos hk]
  exact B24 X.1 rs N L X.2 Y y e1 hN1 (by omega) hL1 (by omega) hrl hyn 20 210 (by omega) (by omega) hX hys (by omega) hp a ha0 (by omega) hk W h1 h2 HT
 ·rw [if_neg hk,if_neg hk,if_neg hk]
  have hle:=B4K (rs.map (·.2.2)) N L
  refine (B1v X.1 Y.1 N N X.2 Y.2 a ha0 (by omega) 9 rfl W (fun W' hg=>A3R X.1 Y.1 rs N L X.2 Y.2 e1 hN1 (by omega) hL1 (by omega) hrl W' (h1.grow hg)) fun W' hg=>?_).mono ?_
  ·have h:=A6q X.1 rs N L X.2 e1 hN1 (by omega) hL1 (by omega) hrl 20 (by omega) hX (by
    have h3 : 10 ^ L ≤ 10 ^ 3:=Nat.pow_le_pow_right (by omega) hL
    have h4 : 20 * 10 ^ L ≤ 20 * 10 ^ 3:=Nat.mul_le_mul_left _ h3
    omega) W' (h1.grow hg) (HT.grow hg)
   have hlt : (C7 N L (E8 (rs.map (·.2.2)),[]) L).2.length < L:=Nat.lt_of_le_of_ne hle hk
   rw [if_pos hlt] at h
   exact h
  ·rintro e w' ⟨rfl,hg⟩
   exact ⟨(none,0),rfl,Lq.nil _ _,hg⟩
end
end Go.Proofs.YtgpglgbcobeogaaGreatDoor
