/- Contracts and laws. -/
import Derived.Test.YtgpglgbcobeogaaGreatDoorA33
import Derived.Shelf.SlLaysF0
import Derived.Shelf.SlLaysF
import Derived.Shelf.SlLaysE0
import Derived.Shelf.SlGeneric
import Derived.Ground.SlsfProg
import Derived.Ground.SlgnProg
import Derived.Test.YtgpglgbcobeogaaGreatDoorProg
import Derived.Shelf.SlicesE.Clone
set_option linter.unusedSimpArgs false
set_option linter.unusedVariables false
set_option maxHeartbeats 4000000
set_option maxRecDepth 100000
namespace Go.Proofs
open Go.Shelf
def Tryz.cloneQ_ren : Go.Shelf.Ren:=⟨fun | 41=>110 | n=>n,fun | 22=>35 | 23=>48 | 4=>4 | n=>n,fun | n=>n⟩
theorem Tryz.cloneQ : Go.Proofs.SlLaysE0.n41 Tryz.prog Tryz.cloneQ_ren:={
 mixed:=by kernel_rfl
 f41:=⟨Tryz.f110.name,by decide,Tryz.func110.trans (congrArg some (by kernel_rfl))⟩
 t4:=Tryz.underlying4
 a4:=Tryz.isAgg4
 z4:=Tryz.sizeOf4
 v4:=Tryz.zeroValue4
 t22:=Tryz.underlying35
 a22:=Tryz.isAgg35
 z22:=Tryz.sizeOf35
 v22:=Tryz.zeroValue35 }
end Go.Proofs
namespace Go.Proofs.YtgpglgbcobeogaaGreatDoor
open Go Go.RowKit Go.Shelf
theorem B0y (A : Option Addr) (c n : Nat) (l : List Rat) (hn : n = l.length) (hn0 : 0 < n) (hm : n ≤ 1099511627776) (w : World) (h : Lq w A l) :
  Calls Tryz.prog 110 #[.slice A n c] w fun e w'=>∃ v,e = .returned v ∧ w'.ownsRow w.heap.size 48 5 v n (l.flatMap qL) ∧ A4 w w':=by
 obtain ⟨b,off,rfl,hb,hc⟩:=h (fun e=>by rw [e] at hn;simp at hn;omega)
 obtain ⟨-,⟨i0,z,hi,hz,h1,h2,h3⟩,-⟩:=A2Z
 refine (AnyE.slices_Clone Tryz.cloneQ i0 z 5 56 hi hz h1 h2 h3 (by omega) Tryz.sizeOf48 b off n c (l.flatMap qL) w (by rw [A0s];omega) (by unfold maxLen;omega) (by omega) ?_ ?_).mono ?_
 ·intro t u hu
  have htl:=(List.getElem?_eq_some_iff.1 hu).1
  rw [A0s] at htl
  have hq : l[t / 5]? = some (l[t / 5]'(by omega)):=List.getElem?_eq_getElem (by omega)
  have h6:=A18 l hq (j:=t % 5) (by omega)
  rw [show t / 5 * 5 + t % 5 = t by omega,hu] at h6
  have h7:=hc _ _ hq _ _ h6.symm
  rwa [show off + t / 5 * 5 + t % 5 = off + t by omega] at h7
 ·intro u hu
  obtain ⟨q,-,hq⟩:=List.mem_flatMap.1 hu
  simp [qL] at hq
  rcases hq with rfl | rfl | rfl | rfl | rfl <;> rfl
 ·rintro e w' ⟨v',rfl,ho,hne,hg⟩
  exact ⟨v',rfl,ho,hg⟩
theorem A6E (A : Option Addr) (rs : List Rq) (N L c : Nat) (hn : rs.length = N) (hN : 1 ≤ N) (hN2 : N ≤ 300) (hL1 : 1 ≤ L) (hrl : ∀ r ∈ rs,r.2.2.length = L) (w : World) (h : Lrq w A rs) :
  Calls Tryz.prog 160 #[.slice A N c] w fun e w'=>e = .returned (.bool true) ∧ A4 w w':=by
 obtain ⟨bb,ob,rfl⟩:=h.addr (by omega)
 have hrow : ∀ i,i < N → ∃ (Ar : Option Addr) (cr : Nat),∀ W,A4 w W → W.cell? ⟨bb,ob + i,none⟩ = some (.slice Ar L cr):=fun i hi=>by
  have hil : i < rs.length:=by omega
  refine ⟨rs[i].1,rs[i].2.1,fun W hg=>?_⟩
  have h3:=((h.grow hg).read (List.getElem?_eq_getElem hil)).1
  rw [hrl _ (List.getElem_mem hil)] at h3
  exact h3
 obtain ⟨A0,c0,hrow0⟩:=hrow 0 (by omega)
 rw [Nat.add_zero] at hrow0
 have f1 : ((N : Int) == 0) = false:=by simp;omega
 have f1n : decide (N = 0) = false:=by simp;omega
 have f4 : ((L : Int) == 0) = false:=by simp;omega
 have f4n : decide (L = 0) = false:=by simp;omega
 have f6 : ((L : Int) != (L : Int)) = false:=by simp
 have hni : (0 : Int) < (N : Int):=by omega
 have hnp : 0 < N:=by omega
 have fn : decide ((0 : Int) < (N : Int)) = true:=by simp;omega
 have fnn : decide (0 < N) = true:=by simp;omega
 have Hrow:=Lib.hid hrow
 have Hrow0:=Lib.hid hrow0
 clear hrow hrow0 h hrl hn
 go_enter Tryz.func160,Tryz.ntmps160
 refine en0 ?_
 intro u hG hB hF
 refine wp_seq ?_
 refine wp_seq ?_
 have q0:=Hrow0.out u hG
 refine r0N ?_
 refine wp_cond_false (rfl) ?_
 refine wp_skip ?_
 refine A6 ?_
 refine wp_seq ?_
 refine r0T ?_
 refine wp_block ?_
 clear hB hF
 go_loopw [17] (fun s0 wr=>∃ i : Nat,i ≤ N ∧ s0 = .int .i64 i ∧ A4 w wr) (fun s0 _=>N - (intOf s0).toNat)
 case atStart=>exact ⟨0,Nat.zero_le _,rfl,hG⟩
 case round =>
  clear hG
  obtain ⟨i,hi,rfl,hG⟩:=hrel
  obtain ⟨u,rfl⟩ : ∃ x,x = wr:=⟨_,rfl⟩
  have hB:=Bx.nil u
  have hF:=Fr.nil w
  rcases Nat.lt_or_ge i N with hlt | hge
  ·have hdec : decide ((i : Int) < (N : Int)) = true:=by simp;omega
   have hiN : (i : Int) < (N : Int):=by omega
   obtain ⟨Ar,cr,hrw⟩:=Hrow.out i hlt
   have Hrw:=Lib.hid hrw
   clear hrw
   refine r0T ?_
   refine wp_seq ?_
   refine wp_cond_true (rfl) ?_
   refine wp_skip ?_
   refine A6 ?_
   refine wp_seq ?_
   refine wp_block ?_
   refine wp_seq ?_
   have q0:=Hrow0.out u hG;have q1:=Hrw.out u hG
   refine r0N ?_
   refine wp_seq ?_
   have q0:=Hrow0.out u hG;have q1:=Hrw.out u hG
   refine r0N ?_
   refine wp_cond_false (rfl) ?_
   refine wp_skip ?_
   refine D4 ?_
   refine A6 ?_
   refine r0E ?_
   refine A6 ?_
   go_roundw
   case rel=>exact ⟨i + 1,by omega,by go_num,hG⟩
   case measure=>simp [intOf];omega
  ·obtain rfl : N = i:=by omega
   have hdec : decide ((N : Int) < (N : Int)) = false:=by simp
   refine r0T ?_
   refine wp_seq ?_
   refine wp_cond_false (rfl) ?_
   refine wp_exit ?_
   refine B6 ?_
   refine B6 ?_
   refine E6 ?_
   refine A6 ?_
   refine r0T ?_
   refine rt Tryz.results160 ?_
   exact ⟨rfl,hG⟩
theorem A78 (A : Option Addr) (c L : Nat) (l : List Rat) (hl : l.length = L) (hL1 : 1 ≤ L) (hL : L ≤ 1000) (w : World) (h : Lq w A l) :
  Calls Tryz.prog 110 #[.slice A L c] w (G7 (fun x : Nat × Nat=>.slice (some ⟨x.1,0,none⟩) L x.2) (fun x W=>w.heap.size ≤ x.1 ∧ W.ownsRow w.heap.size 48 5 (.slice (some ⟨x.1,0,none⟩) L x.2) L (l.flatMap qL)) w) :=
 (B0y A c L l hl.symm (by omega) (by omega) w h).mono fun e w' ⟨v,he,ho,hg⟩=>by
  have ho2:=ho
  obtain ⟨_,h1 | ⟨g,cap,cur,rfl,hb,-⟩⟩:=ho
  ·exact absurd h1.2 (by omega)
  ·exact ⟨(g,cap),he,⟨hb,ho2⟩,hg⟩
theorem B30 : (Tryz.prog.info? 35).map (fun i=>(i.zero,i.size,i.bytes)) = some (some (.slice none 0 0),1,24):=by kernel_rfl
theorem B0u (n : Nat) : madeCells (Value.slice none 0 0).cells (n * 1) = (List.replicate n (Value.slice none 0 0)).toArray:=by
 unfold madeCells
 refine Array.ext (by simp) fun i h1 h2=>?_
 simp [Value.cells,Nat.mod_one]
theorem A27 (n : Nat) (hn : n ≤ 1048576) (x : Int) (hx : x = n) (W : World) : (Instr.makeSlice 39 (.int .i64 x) (.int .i64 x)).run Tryz.prog W =
  .ok (.slice (some ⟨W.heap.size,0,none⟩) n n) (W.alloc (.cells (List.replicate n (Value.slice none 0 0)).toArray 35)):=by
 obtain ⟨i0,hi0,hz0,hz1,hz2⟩:=info_parts B30
 have hr:=run_make (P:=Tryz.prog) W 39 35 i0 (.slice none 0 0) Tryz.underlying39 hi0 hz0 .i64 .i64 n n (by omega) (by omega) (by rw [hz2];omega) (by omega)
 rw [hx]
 rw [hr,hz1]
 simp only [Int.toNat_natCast]
 rw [B0u]
def O5 (g cp : Nat → Nat) (L n k : Nat) : List Value:=(List.range n).map fun t=>if t < k then P5 g cp L t else .slice none 0 0
theorem V8 (g cp : Nat → Nat) (L n k : Nat) : (O5 g cp L n k).length = n:=by unfold O5;simp
theorem A9d (g cp : Nat → Nat) (L n : Nat) : O5 g cp L n 0 = List.replicate n (.slice none 0 0):=by
 unfold O5
 apply List.ext_getElem
 ·simp
 ·intro i h1 h2;simp
theorem B1t (g cp : Nat → Nat) (L n : Nat) : O5 g cp L n n = A0G g cp L n:=by
 unfold O5 A0G
 refine List.map_congr_left fun j hj=>?_
 rw [if_pos (List.mem_range.1 hj)]
def upd (f : Nat → Nat) (k x : Nat) : Nat → Nat:=fun i=>if i = k then x else f i
theorem B2k {g cp : Nat → Nat} {L n k : Nat} (h : k < n) (x y : Nat) : (O5 g cp L n k).set k (.slice (some ⟨x,0,none⟩) L y) = O5 (upd g k x) (upd cp k y) L n (k + 1):=by
 unfold O5
 apply List.ext_getElem
 ·simp
 ·intro j h1 h2
  rw [List.getElem_set]
  simp only [List.getElem_map,List.getElem_range]
  unfold P5 upd
  by_cases e : k = j
  ·subst e;simp
  ·rw [if_neg e]
   by_cases hj : j < k
   ·rw [if_pos hj,if_pos (by omega),if_neg (fun e2=>e e2.symm),if_neg (fun e2=>e e2.symm)]
   ·rw [if_neg hj,if_neg (by omega)]
theorem A43 {u v : World} {B n : Nat} (g cp : Nat → Nat) (L : Nat) (hB : B ≤ u.heap.size) (hn : n ≤ 1048576) (hv : u.alloc (.cells (List.replicate n (Value.slice none 0 0)).toArray 35) = v) : v.ownsRow B 35 1 (.slice (some ⟨u.heap.size,0,none⟩) n n) n ((O5 g cp L n 0).flatMap I5):=by
 subst hv
 have h:=World.ownsRow_lit (base:=B) (e:=35) (size:=1) u (List.replicate n (Value.slice none 0 0)).toArray n hB (by unfold maxLen;omega) (by simp)
 rw [A9d,show (List.replicate n (Value.slice none 0 0)).flatMap I5 = List.replicate n (Value.slice none 0 0) from by simp [List.flatMap_singleton']]
 simpa using h
structure MatP (B n L b0 : Nat) (g cp : Nat → Nat) (M : Mx) (k : Nat) (W : World) : Prop where
 hd : W.ownsRow B 35 1 (.slice (some ⟨b0,0,none⟩) n n) n ((O5 g cp L n k).flatMap I5)
 row : ∀ i,i < k → W.ownsRow B 48 5 (.slice (some ⟨g i,0,none⟩) L (cp i)) L ((F7 M L i).flatMap qL)
 inj : ∀ i j,i < k → j < k → g i = g j → i = j
theorem MatP.grow {B n L b0 k : Nat} {g cp : Nat → Nat} {M : Mx} {W W' : World} (h : MatP B n L b0 g cp M k W) (hg : A4 W W') : MatP B n L b0 g cp M k W':=⟨C9 h.hd hg,fun i hi=>C9 (h.row i hi) hg,h.inj⟩
theorem MatP.step {B n L b0 k x y : Nat} {g cp : Nat → Nat} {M : Mx} {u W W' : World} (h0 : MatP B n L b0 g cp M k u) (hG : A4 u W) (hk : k < n) (hx : u.heap.size ≤ x) (hr : W.ownsRow B 48 5 (.slice (some ⟨x,0,none⟩) L y) L ((F7 M L k).flatMap qL)) (hu : D5 W b0 k [.slice (some ⟨x,0,none⟩) L y] = W') : MatP B n L b0 (upd g k x) (upd cp k y) M (k + 1) W' ∧ W.grownBy W' (some b0):=by
 have h:=h0.grow hG
 have q1:=P6 (enc:=I5) (size:=1) (ps:=O5 g cp L n k) (fun _=>rfl) h.hd k (.slice (some ⟨x,0,none⟩) L y) (by rw [V8];exact hk)
 rw [Nat.mul_one,hu,B2k hk] at q1
 have hb0 : b0 < u.heap.size:=(h0.hd.lt b0 rfl).2
 have hne : ∀ i,i < k → g i ≠ b0:=fun i hi e=>N2 h.hd (h.row i hi) (by decide) b0 rfl (by rw [← e];rfl)
 refine ⟨⟨q1.1,fun i hi=>?_,fun i j hi hj e=>?_⟩,q1.2⟩
 ·unfold upd
  by_cases e : i = k
  ·subst e
   simp only [if_true]
   exact hr.kept q1.2 (.inr fun e2=>by have := Option.some.inj e2;simp only at this;omega)
  ·simp only [if_neg e]
   exact (h.row i (by omega)).kept q1.2 (.inr fun e2=>hne i (by omega) (Option.some.inj e2))
 ·have hlt : ∀ i,i < k → g i < u.heap.size:=fun i hi=>((h0.row i hi).lt (g i) rfl).2
  unfold upd at e
  by_cases e1 : i = k
  ·by_cases e2 : j = k
   ·omega
   ·rw [if_pos e1,if_neg e2] at e
    have := hlt j (by omega)
    omega
  ·by_cases e2 : j = k
   ·rw [if_neg e1,if_pos e2] at e
    have := hlt i (by omega)
    omega
   ·rw [if_neg e1,if_neg e2] at e
    exact h.inj i j (by omega) (by omega) e
theorem MatP.done {B n L b0 : Nat} {g cp : Nat → Nat} {M : Mx} {W : World} (h : MatP B n L b0 g cp M n W) : MatW B n L b0 n g cp M W:=⟨by have := h.hd;rw [B1t] at this;exact this,h.row,h.inj⟩
def H9 (X : List (List Rat)) : Mx:=fun i j=>gq (B8 X i) j
theorem B3n {X : List (List Rat)} {L i : Nat} (h : (B8 X i).length = L) : F7 (H9 X) L i = B8 X i:=by
 unfold F7 H9
 apply List.ext_getElem
 ·simp [h]
 ·intro j h1 h2
  simp only [List.getElem_map,List.getElem_range]
  unfold gq
  rw [List.getElem?_eq_getElem h2]
  rfl
theorem B3X (A : Option Addr) (rs : List Rq) (N Lw c : Nat) (hn : rs.length = N) (hN2 : N ≤ 300) (hL1 : 1 ≤ Lw) (hL2 : Lw ≤ 1000) (hrl : ∀ r ∈ rs,r.2.2.length = Lw) (w : World) (h : Lrq w A rs) :
  Calls Tryz.prog 193 #[.slice A N c] w (G7 (fun x : Nat × (Nat → Nat) × (Nat → Nat)=>.slice (some ⟨x.1,0,none⟩) N N) (fun x W=>MatW w.heap.size N Lw x.1 N x.2.1 x.2.2 (H9 (rs.map (·.2.2))) W) w):=by
 have hat : ∀ i,i < N → ∃ (bb ob : Nat) (P : Ax),A = some ⟨bb,ob,none⟩ ∧ ∀ W,A4 w W → W.cell? ⟨bb,ob + i,none⟩ = some (.slice P.1 Lw P.2) ∧ Calls Tryz.prog 110 #[.slice P.1 Lw P.2] W (G7 (fun x : Nat × Nat=>.slice (some ⟨x.1,0,none⟩) Lw x.2) (fun x W'=>W.heap.size ≤ x.1 ∧ W'.ownsRow W.heap.size 48 5 (.slice (some ⟨x.1,0,none⟩) Lw x.2) Lw ((F7 (H9 (rs.map (·.2.2))) Lw i).flatMap qL)) W):=fun i hi=>by
  obtain ⟨bb,ob,P,e,hP⟩:=S8 hn hrl h hi
  refine ⟨bb,ob,P,e,fun W hg=>?_⟩
  obtain ⟨h4,h5,h6⟩:=hP W hg
  refine ⟨h4,?_⟩
  rw [B3n h6]
  exact A78 P.1 P.2 Lw _ h6 hL1 hL2 W h5
 obtain ⟨M,hM⟩ : ∃ M,M = H9 (rs.map (·.2.2)):=⟨_,rfl⟩
 rw [← hM]
 simp only [← hM] at hat
 have hmk:=A27 N (by omega) (N : Int) rfl
 have Hat:=Lib.hid hat
 have Hmk:=Lib.hid hmk
 clear hat hmk hM h hrl hn
 go_enter Tryz.func193,Tryz.ntmps193
 refine en0 ?_
 intro u hG hB hF
 refine wp_seq ?_
 have hmk:=Hmk.out
 refine L9 ?_
 intro K hN
 go_wp2_with fail
 generalize hv : World.alloc u _ = v
 have hrow:=A43 (fun _=>0) (fun _=>0) Lw hG.sz (by omega) hv
 have hgv : A4 u v:=hv ▸ A4.alloc u _
 have hG2:=hG.trans hgv
 clear hv hG hB hmk hgv
 generalize u.heap.size = b0 at hrow ⊢
 have Ho:=Lib.hid (MatP.mk hrow (fun i hi=>absurd hi (Nat.not_lt_zero _)) (fun i j hi=>absurd hi (Nat.not_lt_zero _)) : MatP w.heap.size N Lw b0 (fun _=>0) (fun _=>0) M 0 v)
 have hG:=hG2
 have hB:=Bx.nil v
 have hF:=Fr.nil w
 clear hrow hG2
 obtain ⟨u,rfl⟩ : ∃ x,x = v:=⟨_,rfl⟩
 refine NoK.norm (hN _ _ ?_)
 clear hN K
 refine A6 ?_
 refine wp_seq ?_
 refine r0T ?_
 refine wp_block ?_
 clear hB hF
 go_loopw [11] (fun s0 wr=>∃ (i : Nat) (g cp : Nat → Nat),i ≤ N ∧ s0 = .int .i64 i ∧ MatP w.heap.size N Lw b0 g cp M i wr ∧ A4 w wr) (fun s0 _=>N - (intOf s0).toNat)
 case atStart=>exact ⟨0,_,_,Nat.zero_le _,rfl,Ho.out,hG⟩
 case round =>
  clear hG Ho
  obtain ⟨i,g,cp,hi,rfl,ho,hG⟩:=hrel
  obtain ⟨u,rfl⟩ : ∃ x,x = wr:=⟨_,rfl⟩
  have Ho:=Lib.hid ho
  have hB:=Bx.nil u
  have hF:=Fr.nil w
  clear ho
  rcases Nat.lt_or_ge i N with hlt | hge
  ·have hdec : decide ((i : Int) < (N : Int)) = true:=by simp;omega
   have hin : (i : Int) < (N : Int):=by omega
   obtain ⟨bb,ob,P,rfl,hrd⟩:=Hat.out i hlt
   have Hrd:=Lib.hid hrd
   clear hrd
   refine r0T ?_
   refine wp_seq ?_
   refine wp_cond_true (rfl) ?_
   refine wp_skip ?_
   refine A6 ?_
   refine wp_seq ?_
   refine wp_block ?_
   refine wp_seq ?_
   have q0:=(Hrd.out u hG).1
   refine r0N ?_
   obtain ⟨u5,hu5⟩ : ∃ x,x = u:=⟨_,rfl⟩
   have Hcl:=Lib.hid (fun W (hg : A4 u W)=>((Hrd.out W (hG.trans hg)).2).mono fun e w' ⟨x,g1,g2,g3⟩=>(⟨x,g1,⟨Nat.le_trans hg.size g2.1,g2.2.mono (hG.trans hg).sz⟩,g3⟩ : G7 (fun x : Nat × Nat=>.slice (some ⟨x.1,0,none⟩) Lw x.2) (fun x W'=>u.heap.size ≤ x.1 ∧ W'.ownsRow w.heap.size 48 5 (.slice (some ⟨x.1,0,none⟩) Lw x.2) Lw ((F7 M Lw i).flatMap qL)) W e w'))
   rw [← hu5] at Ho
   refine rsC A8 [0,0,0,1,0] hB hG fun K L hN hL=>?_
   refine gs ?_
   refine gxd (X:=(Nat × Nat)) (fun x : Nat × Nat=>.slice (some ⟨x.1,0,none⟩) Lw x.2) (fun x W'=>u5.heap.size ≤ x.1 ∧ W'.ownsRow w.heap.size 48 5 (.slice (some ⟨x.1,0,none⟩) Lw x.2) Lw ((F7 M Lw i).flatMap qL)) (fun x u u' hg h=>⟨h.1,C9 h.2 hg⟩) (fun x19=>?_) (C:=by (rintro v ⟨hgu,hB,hG,-⟩;exact (hu5 ▸ Hcl.out _ hgu)))
   refine gs ?_
   refine geC hL ?_
   clear hB hG hL L
   rintro u ⟨⟨hgu,hB,hG,-⟩,hx19⟩
   have hG5 : A4 u5 u:=hu5 ▸ hgu
   have Hx:=Lib.hid hx19
   have hsp:=Y9 (enc:=I5) (size:=1) (fun _=>rfl) (Ho.out.grow hG5).hd (V8 g cp Lw N i).symm i 0 (by rw [V8];exact hlt) (by omega)
   have hfz:=(Ho.out.grow hG5).hd.frozenAt
   rw [Nat.mul_one,Nat.add_zero,show (I5 ((O5 g cp Lw N i)[i]'(by rw [V8];exact hlt)))[0]? = some ((O5 g cp Lw N i)[i]'(by rw [V8];exact hlt)) from rfl] at hsp
   clear hx19 Hcl
   clear hgu
   refine gt ?_
   clear hN K
   clear hsp hfz
   generalize hu0 : World.setCell u _ _ = u0
   have hu1 : D5 u b0 i [.slice (some ⟨x19.1,0,none⟩) Lw x19.2] = u0:=hu0
   have hP:=MatP.step Ho.out hG5 hlt Hx.out.1 Hx.out.2 hu1
   have hG2:=O9 (Ho.out.grow hG5).hd hG hP.2
   have Ho2:=Lib.hid hP.1
   clear hG hB Ho hP hu1 hu0 hG5 Hx hu5
   have hG:=hG2
   have hB:=Bx.nil u0
   have hF:=Fr.nil w
   have Ho:=Ho2
   clear hG2 Ho2 u5
   obtain ⟨u,rfl⟩ : ∃ x,x = u0:=⟨_,rfl⟩
   refine D4 ?_
   refine A6 ?_
   refine r0E ?_
   refine A6 ?_
   go_roundw
   case rel=>exact ⟨i + 1,_,_,by omega,by go_num,Ho.out,hG⟩
   case measure=>simp [intOf];omega
  ·obtain rfl : N = i:=by omega
   have hdec : decide ((N : Int) < (N : Int)) = false:=by simp
   have HL:=Lib.hid Ho.out.done
   clear Ho
   refine r0T ?_
   refine wp_seq ?_
   refine wp_cond_false (rfl) ?_
   refine wp_exit ?_
   refine B6 ?_
   refine B6 ?_
   refine E6 ?_
   refine A6 ?_
   refine r0T ?_
   refine rt Tryz.results193 ?_
   exact ⟨(b0,g,cp),rfl,HL.out,hG⟩
end Go.Proofs.YtgpglgbcobeogaaGreatDoor
namespace Go.Proofs.YtgpglgbcobeogaaGreatDoor
open Go Go.RowKit
theorem B11 {P : Program} {fn : Func} {R : Ending → World → Prop} {a : Act} {w : World} (hd : a.defers = []) (hr : (results fn a.tmps).run P w = .ok (.tuple #[]) w) (h : R (.returned (.tuple #[])) w) : bodyPost P fn R .normal a w:=bodyPost_end hr hd h
theorem A1F {a b c : World} {r : Option Nat} (h : a.grownBy b r) (hg : A4 b c) : a.grownBy c r:=A2U h ⟨hg.os,hg.tape,hg.output,hg.size,fun k hk _=>hg.block k hk⟩
theorem A68 (a : World) (r : Option Nat) : a.grownBy a r:=⟨rfl,rfl,rfl,Nat.le_refl _,fun _ _ _=>rfl⟩
theorem A6c {a u u' : World} {r : Option Nat} {b i : Nat} {vs : List Value} (h : a.grownBy u r) (hb : a.heap.size ≤ b) (hu : D5 u b i vs = u') : a.grownBy u' r:=by
 subst hu
 have h2:=A0g b vs i u
 exact ⟨h2.os.trans h.os,h2.tape.trans h.tape,h2.output.trans h.output,Nat.le_trans h.size h2.size,fun k hk hne=>(h2.block k (Nat.lt_of_lt_of_le hk h.size) (fun e=>by have := Option.some.inj e;omega)).trans (h.block k hk hne)⟩
theorem B1y {a u u' : World} {g : Nat} (h : a.grownBy u (some g)) (h2 : u.grownBy u' (some g)) : a.grownBy u' (some g):=A2U h h2
theorem A58 {q : Rat} : (q.num.sign != 0) = !decide (q = 0):=by
 by_cases h : q = 0
 ·subst h;rfl
 ·have h1 : q.num ≠ 0:=fun e=>h (Rat.num_eq_zero.1 e)
  have h2 : q.num.sign ≠ 0:=fun e=>h1 (Int.sign_eq_zero_iff_zero.1 e)
  simp [h,h2]
theorem B2b {q : Rat} : (q.num.sign == 0) = decide (q = 0):=by
 by_cases h : q = 0
 ·subst h;rfl
 ·have h1 : q.num ≠ 0:=fun e=>h (Rat.num_eq_zero.1 e)
  have h2 : q.num.sign ≠ 0:=fun e=>h1 (Int.sign_eq_zero_iff_zero.1 e)
  simp [h,h2]
theorem A9J {B n L b0 c0 : Nat} {g cp : Nat → Nat} {M : Mx} (hn : n ≤ 300) (top col : Nat) (ht : top ≤ n) (hc : col < L) (hL : L ≤ 1000) (hs : ∀ i,i < n → qs (M i col) ≤ BIG) (w : World) (h : MatW B n L b0 c0 g cp M w) :
  Calls Tryz.prog 194 #[.slice (some ⟨b0,0,none⟩) n c0,.int .i64 (top : Nat),.int .i64 (col : Nat)] w fun e w'=>e = .returned (.int .i64 (if N7 M n top col < n then (N7 M n top col : Nat) else -1)) ∧ A4 w w':=by
 have hBm:=I1
 obtain ⟨q1,q2,q3,q4⟩:=A2r (fun i=>decide (M i col = 0)) (n - top) top
 have hPle : N7 M n top col ≤ n:=by unfold N7;omega
 have hPge : top ≤ N7 M n top col:=q1
 have hzero:=(A2j M n top col).2
 have hnz:=(A2j M n top col).1
 have hat : ∀ i,i < n → ∀ W,A4 w W → W.cell? ⟨b0,i,none⟩ = some (.slice (some ⟨g i,0,none⟩) L (cp i)) ∧ Cq W (g i) (col * 5) (M i col):=fun i hi W hg=>⟨(h.grow hg).read hi,(h.grow hg).cq hi hc⟩
 obtain ⟨P,hP⟩ : ∃ P,P = N7 M n top col:=⟨_,rfl⟩
 rw [← hP] at hPle hPge hzero hnz ⊢
 obtain ⟨R,hR⟩ : ∃ r : Int,r = (if P < n then (P : Int) else -1):=⟨_,rfl⟩
 rw [← hR]
 have hcL : (col : Int) < (L : Int):=by omega
 have Hat:=Lib.hid hat
 have Hz:=Lib.hid hzero
 have Hnz:=Lib.hid hnz
 have HR:=Lib.hid hR
 have Hs:=Lib.hid hs
 clear hat hzero hnz hR hs q1 q2 q3 q4 hP h
 go_enter Tryz.func194,Tryz.ntmps194
 refine en0 ?_
 intro u hG hB hF
 refine wp_seq ?_
 refine r0T ?_
 refine wp_block ?_
 clear hB hF
 go_loopw [7] (fun s0 wr=>∃ i : Nat,top ≤ i ∧ i ≤ P ∧ s0 = .int .i64 i ∧ A4 w wr) (fun s0 _=>n - (intOf s0).toNat)
 case atStart=>exact ⟨top,Nat.le_refl _,hPge,rfl,hG⟩
 case round =>
  clear hG
  obtain ⟨i,hti,hi,rfl,hG⟩:=hrel
  obtain ⟨u,rfl⟩ : ∃ x,x = wr:=⟨_,rfl⟩
  have hB:=Bx.nil u
  have hF:=Fr.nil w
  rcases Nat.lt_or_ge i n with hlt | hge
  ·have hdec : decide ((i : Int) < (n : Int)) = true:=by simp;omega
   have hin : (i : Int) < (n : Int):=by omega
   have hrd:=Hat.out i hlt
   have zs:=Hs.out i hlt
   have hsn:=@A58 (M i col)
   have hsg:=fun W=>N6 (M i col) (by have := F0 (M i col);omega) W
   have hz:=fun h=>Hz.out i hti h
   have hnz : i = P → M i col ≠ 0:=fun e=>by
    subst e
    exact (Hnz.out hlt).2
   obtain ⟨X,hX⟩ : ∃ X,X = M i col:=⟨_,rfl⟩
   rw [← hX] at hsn hsg hz hnz
   simp only [← hX] at hrd
   obtain ⟨S,hS⟩ : ∃ S,S = X.num.sign:=⟨_,rfl⟩
   rw [← hS] at hsn
   simp only [← hS] at hsg
   have Hrd:=Lib.hid hrd
   have Hsg:=Lib.hid hsg
   clear hrd hsg hX zs hS
   by_cases hiP : i < P
   ·have fS : (S != 0) = false:=by rw [hsn,decide_eq_true (hz hiP)];rfl
    clear hsn hz hnz
    refine wp_seq ?_
    refine r0T ?_
    refine wp_cond_true (rfl) ?_
    refine wp_skip ?_
    refine A6 ?_
    refine wp_seq ?_
    refine wp_block ?_
    refine wp_seq (rsE A8 [0,0,0,0,0,0,0,1,0] hB hG fun L hL=>?_)
    repeat first | refine gya ?_ | refine gyr ?_ | refine gna ?_ | refine gyb (by (rintro v ⟨hgu,hB,hG,-⟩ N hN;have r:=hB.r;simp only [BxR] at r;obtain ⟨q0,y1,y2,y3,y4,y5⟩:=Hrd.out v hG;go_simp;exact hN)) ?_
    refine gmw (C:=fun v=>Hsg.out _) ?_
    refine gs ?_
    refine geT hL ?_
    clear hB hG hL L
    rintro u ⟨-,hB,hG,-⟩
    refine wp_cond_false (rfl) ?_
    refine wp_skip ?_
    refine D4 ?_
    refine A6 ?_
    refine r0E ?_
    refine A6 ?_
    go_roundw
    case rel=>exact ⟨i + 1,by omega,by omega,by go_num,hG⟩
    case measure=>simp [intOf];omega
   ·have eP : P = i:=by omega
    have fS : (S != 0) = true:=by rw [hsn,decide_eq_false (hnz eP.symm)];rfl
    have HR2:=Lib.hid (show R = (i : Int) by rw [HR.out,eP,if_pos hlt])
    clear hsn hz hnz hiP eP
    refine wp_seq ?_
    refine r0T ?_
    refine wp_cond_true (rfl) ?_
    refine wp_skip ?_
    refine A6 ?_
    refine wp_seq ?_
    refine wp_block ?_
    refine wp_seq (rsE A8 [0,0,0,0,0,0,0,1,0] hB hG fun L hL=>?_)
    repeat first | refine gya ?_ | refine gyr ?_ | refine gna ?_ | refine gyb (by (rintro v ⟨hgu,hB,hG,-⟩ N hN;have r:=hB.r;simp only [BxR] at r;obtain ⟨q0,y1,y2,y3,y4,y5⟩:=Hrd.out v hG;go_simp;exact hN)) ?_
    refine gmw (C:=fun v=>Hsg.out _) ?_
    refine gs ?_
    refine geT hL ?_
    clear hB hG hL L
    rintro u ⟨-,hB,hG,-⟩
    refine wp_cond_true (rfl) ?_
    refine r0T ?_
    refine rt Tryz.results194 ?_
    exact ⟨by rw [HR2.out],hG⟩
  ·have eP : ¬ P < n:=by omega
   obtain rfl : n = i:=by omega
   have hdec : decide ((n : Int) < (n : Int)) = false:=by simp
   have HR2:=Lib.hid (show R = -1 by rw [HR.out,if_neg eP])
   clear eP
   refine wp_seq ?_
   refine r0T ?_
   refine wp_cond_false (rfl) ?_
   refine wp_exit ?_
   refine B6 ?_
   refine B6 ?_
   refine E6 ?_
   refine A6 ?_
   refine r0T ?_
   refine rt Tryz.results194 ?_
   exact ⟨by rw [HR2.out],hG⟩
theorem B3s {M : Mx} {i t L : Nat} : K9 M i t 0 L = M:=by
 funext i' j
 unfold K9
 split
 ·unfold C4 E7
  grind
 ·rfl
theorem B2r {M : Mx} {i t : Nat} {k : Rat} : K9 M i t k 0 = M:=by
 funext i' j
 unfold K9
 rw [if_neg (by omega)]
theorem B0e {M : Mx} {i t j i' j' : Nat} {k : Rat} (h : i' ≠ i) : K9 M i t k j i' j' = M i' j':=by
 unfold K9
 rw [if_neg (fun e=>h e.1)]
theorem B2q {M : Mx} {i t j i' j' : Nat} {k : Rat} (h : j ≤ j') : K9 M i t k j i' j' = M i' j':=by
 unfold K9
 rw [if_neg (by omega)]
theorem B3c {M : Mx} {i t j : Nat} {k : Rat} (ht : t ≠ i) : T7 (K9 M i t k j) i j (C4 (M i j) (E7 k (M t j))) = K9 M i t k (j + 1):=by
 funext i' j'
 unfold T7 K9
 by_cases e1 : i' = i
 ·subst e1
  by_cases e2 : j' = j
  ·subst e2;simp
  ·rw [if_neg (fun e=>e2 e.2)]
   by_cases e3 : j' < j
   ·rw [if_pos ⟨rfl,e3⟩,if_pos ⟨rfl,by omega⟩]
   ·rw [if_neg (by omega),if_neg (by omega)]
 ·rw [if_neg (fun e=>e1 e.1),if_neg (fun e=>e1 e.1),if_neg (fun e=>e1 e.1)]
theorem B3U {M : Mx} {i t j : Nat} {k : Rat} (h : M t j = 0) : K9 M i t k j = K9 M i t k (j + 1):=by
 funext i' j'
 unfold K9
 by_cases e1 : i' = i
 ·subst e1
  by_cases e2 : j' = j
  ·subst e2
   rw [if_neg (by omega),if_pos ⟨rfl,by omega⟩,h]
   unfold C4 E7
   grind
  ·by_cases e3 : j' < j
   ·rw [if_pos ⟨rfl,e3⟩,if_pos ⟨rfl,by omega⟩]
   ·rw [if_neg (by omega),if_neg (by omega)]
 ·rw [if_neg (fun e=>e1 e.1),if_neg (fun e=>e1 e.1)]
theorem A8q {B n Lw b0 c0 : Nat} {g cp : Nat → Nat} {M : Mx} (hLw : Lw ≤ 1000) (i t : Nat) (hi : i < n) (ht : t < n) (hit : t ≠ i) (k : Rat) (s : Nat) (hk : qs k ≤ s) (hs1 : ∀ j,j < Lw → qs (M i j) ≤ s) (hs2 : ∀ j,j < Lw → qs (M t j) ≤ s) (hBz : 4 * s + 10 ≤ BIG) (w0 w : World) (hG0 : A4 w0 w) (hB0 : w0.heap.size ≤ B) (h : MatW B n Lw b0 c0 g cp M w) (HT : Tab w0) :
  Calls Tryz.prog 195 #[P5 g cp Lw i,P5 g cp Lw t,qV k] w fun e w'=>e = .returned (.tuple #[]) ∧ MatW B n Lw b0 c0 g cp (K9 M i t k Lw) w' ∧ w.grownBy w' (some (g i)):=by
 have hBm:=I1
 have hsk:=@B2b k
 have hsg:=fun W=>N6 k (by have := F0 k;omega) W
 obtain ⟨S,hS⟩ : ∃ S,S = k.num.sign:=⟨_,rfl⟩
 rw [← hS] at hsk
 simp only [← hS] at hsg
 have Hm:=Lib.hid h
 have Hsg:=Lib.hid hsg
 have HG0:=Lib.hid hG0
 have Hs1:=Lib.hid hs1
 have Hs2:=Lib.hid hs2
 by_cases hk0 : k = 0
 ·have e0 : K9 M i t k Lw = M:=by rw [hk0];exact B3s
  rw [e0]
  have fS : (S == 0) = true:=by rw [hsk];exact decide_eq_true hk0
  clear hsk hS hsg h hG0 hs1 hs2 hk0 e0
  go_enter Tryz.func195,Tryz.ntmps195
  refine en1 ?_
  intro u hG b5 hB hF
  refine wp_seq ?_
  refine wp_seq (rsE A8 [0,1,0] hB hG fun L hL=>?_)
  refine gs ?_
  refine gmw (C:=fun v=>Hsg.out _) ?_
  refine gs ?_
  refine geT hL ?_
  clear hB hG hL L
  rintro u ⟨-,hB,hG,-⟩
  refine wp_cond_true (rfl) ?_
  refine rt Tryz.results195 ?_
  exact ⟨rfl,Hm.out.grow hG,A1F (A68 _ _) hG⟩
 ·have fS : (S == 0) = false:=by rw [hsk];exact decide_eq_false hk0
  clear hsk hS hsg h hG0 hs1 hs2
  go_enter Tryz.func195,Tryz.ntmps195
  refine en1 ?_
  intro u hG b5 hB hF
  refine wp_seq ?_
  refine wp_seq (rsE A8 [0,1,0] hB hG fun L hL=>?_)
  refine gs ?_
  refine gmw (C:=fun v=>Hsg.out _) ?_
  refine gs ?_
  refine geT hL ?_
  clear hB hG hL L
  rintro u ⟨-,hB,hG,-⟩
  refine wp_cond_false (rfl) ?_
  refine wp_skip ?_
  refine A6 ?_
  refine r0T ?_
  have hG2:=HG0.out.trans hG
  have h5w:=hF.1 b5 (by simp)
  have hgb:=A1F (A68 w (some (g i))) hG
  have hm:=Hm.out.grow hG
  have hgi:=(Hm.out.glt hi).2
  have h05 : w0.heap.size ≤ b5:=Nat.le_trans HG0.out.size h5w
  clear hG hF HG0 Hm
  obtain ⟨w1,rfl⟩ : ∃ x,x = w:=⟨_,rfl⟩
  obtain ⟨w,rfl⟩ : ∃ x,x = w0:=⟨_,rfl⟩
  have hG:=hG2
  have hF : Fr w [b5]:=⟨fun b hb=>by
   have e : b = b5:=by simpa using hb
   rw [e]
   exact h05,by simp⟩
  clear hG2
  refine wp_block ?_
  clear hF
  go_loopw [13] (fun s0 wr=>∃ j : Nat,j ≤ Lw ∧ s0 = .int .i64 j ∧ MatW B n Lw b0 c0 g cp (K9 M i t k j) wr ∧ Bx wr [(b5,48,Q6 k)] ∧ A4 w wr ∧ w1.grownBy wr (some (g i))) (fun s0 _=>Lw - (intOf s0).toNat)
  case atStart=>exact ⟨0,Nat.zero_le _,rfl,by rw [B2r];exact hm,hB,hG,hgb⟩
  case round =>
   clear hB hG hm hgb
   obtain ⟨j,hj,rfl,hm,hB,hG,hgb⟩:=hrel
   obtain ⟨u,rfl⟩ : ∃ x,x = wr:=⟨_,rfl⟩
   have hF : Fr w [b5]:=⟨fun b hb=>by
    have e : b = b5:=by simpa using hb
    rw [e]
    exact h05,by simp⟩
   rcases Nat.lt_or_ge j Lw with hlt | hge
   ·have hdec : decide ((j : Int) < (Lw : Int)) = true:=by simp;omega
    have hjn : (j : Int) < (Lw : Int):=by omega
    obtain ⟨M',hM'⟩ : ∃ M',M' = K9 M i t k j:=⟨_,rfl⟩
    have et : M' t j = M t j:=by rw [hM'];exact B0e hit
    have ei : M' i j = M i j:=by rw [hM'];exact B2q (Nat.le_refl _)
    rw [← hM'] at hm
    have hrt:=fun W (hg : A4 u W)=>(hm.grow hg).cq ht hlt
    rw [et] at hrt
    have z1:=Hs1.out j hlt
    have z2:=Hs2.out j hlt
    have hst:=B3c (M:=M) (j:=j) (k:=k) hit
    have hsp:=fun h=>B3U (M:=M) (i:=i) (t:=t) (j:=j) (k:=k) h
    rw [← hM'] at hst hsp
    obtain ⟨X,hX⟩ : ∃ X,X = M t j:=⟨_,rfl⟩
    obtain ⟨Y,hY⟩ : ∃ X,X = M i j:=⟨_,rfl⟩
    rw [← hX] at hst hsp z2
    simp only [← hX] at hrt
    rw [← hY] at hst z1 ei
    have hsx:=@A58 X
    have hsg:=fun W=>N6 X (by have := F0 X;omega) W
    obtain ⟨S2,hS2⟩ : ∃ S,S = X.num.sign:=⟨_,rfl⟩
    rw [← hS2] at hsx
    simp only [← hS2] at hsg
    have z3:=Z7 k X
    have hml:=fun W hT=>A0T k X W (by omega) hT
    obtain ⟨D,hD⟩ : ∃ D,D = E7 k X:=⟨_,rfl⟩
    rw [← hD] at hst
    simp only [← hD] at hml
    have z4 : qs D ≤ s + s:=by rw [hD];unfold E7;omega
    have hsb:=fun W hT=>A1S Y D W (by omega) hT
    obtain ⟨E,hE⟩ : ∃ D',D' = C4 Y D:=⟨_,rfl⟩
    rw [← hE] at hst
    simp only [← hE] at hsb
    have Hrt:=Lib.hid hrt
    have Hei:=Lib.hid ei
    have Hst:=Lib.hid hst
    have Hsg2:=Lib.hid hsg
    have Hml:=Lib.hid hml
    have Hsb:=Lib.hid hsb
    have Hm:=Lib.hid hm
    have Hgb:=Lib.hid hgb
    clear hrt ei hst hsg hml hsb hm hgb hX hY hD hE hS2 et hM' z1 z2 z3 z4
    by_cases hx0 : X = 0
    ·have fX : (S2 != 0) = false:=by rw [hsx,decide_eq_true hx0];rfl
     have Hsp:=Lib.hid (hsp hx0)
     clear hsx hsp hx0
     refine r0T ?_
     refine wp_seq ?_
     refine wp_cond_true (rfl) ?_
     refine wp_skip ?_
     refine A6 ?_
     refine wp_seq ?_
     refine wp_block ?_
     refine wp_seq (rsC A8 [0,0,0,2,0] hB hG fun K L hN hL=>?_)
     repeat first | refine gya ?_ | refine gyr ?_ | refine gna ?_ | refine gyb (by (rintro v ⟨hgu,hB,hG,-⟩ N hN;have r:=hB.r;simp only [BxR] at r;(first | obtain ⟨y1,y2,y3,y4,y5⟩:=Hrt.out v hgu | skip);go_simp;exact hN)) ?_
     refine gaa (K7 _ _ _ _ _) fun b7 hb7 hn7=>?_
     refine gs ?_
     replace hF:=hF.n1 [] hB hG hb7 hn7
     refine geC hL ?_
     clear hB hG hL L
     rintro u ⟨⟨hgu,hB,hG,-⟩,h7⟩
     replace hB:=hB.cons' h7
     clear h7
     clear Hrt
     obtain ⟨hfr1,hfr2⟩:=Hm.out.fresh hb7
     have hw17 : w1.heap.size ≤ b7:=Nat.le_trans Hgb.out.size hb7
     have Hm2:=Lib.hid (Hm.out.grow hgu)
     have Hgb2:=Lib.hid (A1F Hgb.out hgu)
     clear Hm Hgb
     have Hm:=Hm2
     have Hgb:=Hgb2
     clear Hm2 Hgb2
     clear hb7 hn7
     clear hgu
     refine gtT ?_
     clear hN K
     refine sv hB hF hG 0 0 [_,_,_,_,_] ?_
     intro u hu hBG
     have Hm2:=Lib.hid (Hm.out.over ⟨hfr1,hfr2⟩ hu)
     have Hgb2:=Lib.hid (A6c Hgb.out hw17 hu)
     clear hB hG Hm Hgb hu hfr1 hfr2 hw17
     have Hm:=Hm2
     have Hgb:=Hgb2
     clear Hm2 Hgb2
     obtain ⟨hB,hG⟩:=hBG
     refine wp_seq (rsE A8 [0,1,0] hB hG fun L hL=>?_)
     repeat first | refine gya ?_ | refine gyr ?_ | refine gna ?_ | refine gyb (by (rintro v ⟨hgu,hB,hG,-⟩ N hN;have r:=hB.r;simp only [BxR] at r;(first | obtain ⟨y1,y2,y3,y4,y5⟩:=Hrt.out v hgu | skip);go_simp;exact hN)) ?_
     refine gmw (C:=fun v=>Hsg2.out _) ?_
     refine gs ?_
     refine geT hL ?_
     clear hB hG hL L
     rintro u ⟨hgu,hB,hG,-⟩
     have Hm2:=Lib.hid (Hm.out.grow hgu)
     have Hgb2:=Lib.hid (A1F Hgb.out hgu)
     clear Hm Hgb
     have Hm:=Hm2
     have Hgb:=Hgb2
     clear Hm2 Hgb2
     clear hgu
     refine wp_cond_false (rfl) ?_
     refine wp_skip ?_
     refine D4 ?_
     refine A6 ?_
     refine r0E ?_
     refine A6 ?_
     go_roundw
     case rel=>exact ⟨j + 1,by omega,by go_num,Hsp.out ▸ Hm.out,hB.tail,hG,Hgb.out⟩
     case measure=>simp [intOf];omega
    ·have fX : (S2 != 0) = true:=by rw [hsx,decide_eq_false hx0];rfl
     clear hsx hsp hx0
     refine r0T ?_
     refine wp_seq ?_
     refine wp_cond_true (rfl) ?_
     refine wp_skip ?_
     refine A6 ?_
     refine wp_seq ?_
     refine wp_block ?_
     refine wp_seq (rsC A8 [0,0,0,2,0] hB hG fun K L hN hL=>?_)
     repeat first | refine gya ?_ | refine gyr ?_ | refine gna ?_ | refine gyb (by (rintro v ⟨hgu,hB,hG,-⟩ N hN;have r:=hB.r;simp only [BxR] at r;(first | obtain ⟨y1,y2,y3,y4,y5⟩:=Hrt.out v hgu | obtain ⟨y1,y2,y3,y4,y5⟩:=Hri.out v hgu | skip);go_simp;exact hN)) ?_
     refine gaa (K7 _ _ _ _ _) fun b7 hb7 hn7=>?_
     refine gs ?_
     replace hF:=hF.n1 [] hB hG hb7 hn7
     refine geC hL ?_
     clear hB hG hL L
     rintro u ⟨⟨hgu,hB,hG,-⟩,h7⟩
     replace hB:=hB.cons' h7
     clear h7
     clear Hrt
     obtain ⟨hfr1,hfr2⟩:=Hm.out.fresh hb7
     have hw17 : w1.heap.size ≤ b7:=Nat.le_trans Hgb.out.size hb7
     have Hm2:=Lib.hid (Hm.out.grow hgu)
     have Hgb2:=Lib.hid (A1F Hgb.out hgu)
     clear Hm Hgb
     have Hm:=Hm2
     have Hgb:=Hgb2
     clear Hm2 Hgb2
     clear hb7 hn7
     clear hgu
     refine gtT ?_
     clear hN K
     refine sv hB hF hG 0 0 [_,_,_,_,_] ?_
     intro u hu hBG
     have Hm2:=Lib.hid (Hm.out.over ⟨hfr1,hfr2⟩ hu)
     have Hgb2:=Lib.hid (A6c Hgb.out hw17 hu)
     clear hB hG Hm Hgb hu hfr1 hfr2 hw17
     have Hm:=Hm2
     have Hgb:=Hgb2
     clear Hm2 Hgb2
     obtain ⟨hB,hG⟩:=hBG
     refine wp_seq (rsE A8 [0,1,0] hB hG fun L hL=>?_)
     repeat first | refine gya ?_ | refine gyr ?_ | refine gna ?_ | refine gyb (by (rintro v ⟨hgu,hB,hG,-⟩ N hN;have r:=hB.r;simp only [BxR] at r;(first | obtain ⟨y1,y2,y3,y4,y5⟩:=Hrt.out v hgu | obtain ⟨y1,y2,y3,y4,y5⟩:=Hri.out v hgu | skip);go_simp;exact hN)) ?_
     refine gmw (C:=fun v=>Hsg2.out _) ?_
     refine gs ?_
     refine geT hL ?_
     clear hB hG hL L
     rintro u ⟨hgu,hB,hG,-⟩
     have Hm2:=Lib.hid (Hm.out.grow hgu)
     have Hgb2:=Lib.hid (A1F Hgb.out hgu)
     clear Hm Hgb
     have Hm:=Hm2
     have Hgb:=Hgb2
     clear Hm2 Hgb2
     clear hgu
     refine wp_cond_true (rfl) ?_
     have Hri:=Lib.hid (fun W (hg : A4 u W)=>Hei.out ▸ (Hm.out.grow hg).cq hi hlt)
     refine rdC A8 [] [(0,0),(0,1),(0,2),(0,3),(0,4),(0,5),(0,6),(0,7),(1,8),(1,9),(0,10)] hB hG fun K L hN hL=>?_
     repeat first | refine gya ?_ | refine gyr ?_ | refine gna ?_ | refine gyb (by (rintro v ⟨hgu,hB,hG,-⟩ N hN;have r:=hB.r;simp only [BxR] at r;(first | obtain ⟨y1,y2,y3,y4,y5⟩:=Hrt.out v hgu | obtain ⟨y1,y2,y3,y4,y5⟩:=Hri.out v hgu | skip);go_simp;exact hN)) ?_
     refine gmd (C:=fun v ⟨hgu,hB,hG,_⟩=>Hml.out _ (HT.grow hG)) ?_
     refine gmd (C:=fun v ⟨hgu,hB,hG,_⟩=>Hsb.out _ (HT.grow hG)) ?_
     refine gs ?_
     refine geC hL ?_
     clear hB hG hL L
     rintro u ⟨hgu,hB,hG,-⟩
     clear Hri
     have Hm2:=Lib.hid (Hm.out.grow hgu)
     have Hgb2:=Lib.hid (A1F Hgb.out hgu)
     clear Hm Hgb
     have Hm:=Hm2
     have Hgb:=Hgb2
     clear Hm2 Hgb2
     obtain ⟨o0,o1,o2,o3,o4⟩:=Hm.out.cq hi hlt
     have hfz:=(Hm.out.row i hi).frozenAt
     clear hgu
     refine gt ?_
     clear hN K
     clear o0 o1 o2 o3 o4 hfz
     generalize hu0 : World.setCell (World.setCell (World.setCell (World.setCell (World.setCell u _ _) _ _) _ _) _ _) _ _ = u0
     have hu1 : D5 u (g i) (j * 5) (qL E) = u0:=hu0
     have hP:=Hm.out.put hi hlt E rfl hu1
     rw [Hst.out] at hP
     have hG2 : A4 w u0:=hG.grown hP.2 (fun k hk=>by
      have e:=Option.some.inj hk
      have := (Hm.out.glt hi).1
      omega)
     have hB2:=hB.tail.grown_ hP.2 (fun e he hxe=>by
      have e1 : e = _:=List.mem_singleton.1 he
      subst e1
      have := Option.some.inj hxe
      simp only at this
      omega)
     have Hgb2:=Lib.hid (B1y Hgb.out hP.2)
     have Hm2:=Lib.hid hP.1
     clear hG hB Hm Hgb hP hu1 hu0
     have hG:=hG2
     have hB:=hB2
     have Hm:=Hm2
     have Hgb:=Hgb2
     clear hG2 hB2 Hm2 Hgb2
     obtain ⟨u,rfl⟩ : ∃ x,x = u0:=⟨_,rfl⟩
     refine D4 ?_
     refine A6 ?_
     refine r0E ?_
     refine A6 ?_
     go_roundw
     case rel=>exact ⟨j + 1,by omega,by go_num,Hm.out,hB,hG,Hgb.out⟩
     case measure=>simp [intOf];omega
   ·obtain rfl : Lw = j:=by omega
    have hdec : decide ((Lw : Int) < (Lw : Int)) = false:=by simp
    have Hm:=Lib.hid hm
    have Hgb:=Lib.hid hgb
    clear hm hgb
    refine r0T ?_
    refine wp_seq ?_
    refine wp_cond_false (rfl) ?_
    refine wp_exit ?_
    refine B6 ?_
    refine B6 ?_
    refine E6 ?_
    refine B11 rfl (results_none rfl _ _ _) ⟨rfl,Hm.out,Hgb.out⟩
end Go.Proofs.YtgpglgbcobeogaaGreatDoor
