/- Contracts and laws. -/
import Derived.Test.YtgpglgbcobeogaaGreatDoorU43
set_option linter.unusedSimpArgs false
set_option linter.unusedVariables false
namespace Go.Proofs.YtgpglgbcobeogaaGreatDoor
open Go Go.RowKit
def E7 (sg : List Int) (i : Nat) : List Nat:=(List.range i).filter fun t=>decide (gi sg t ≠ 0)
theorem B1Z {sg : List Int} {i : Nat} (h : gi sg i ≠ 0) : E7 sg (i + 1) = E7 sg i ++ [i]:=by
 unfold E7
 rw [List.range_succ,List.filter_append]
 simp [h]
theorem B2d {sg : List Int} {i : Nat} (h : gi sg i = 0) : E7 sg (i + 1) = E7 sg i:=by
 unfold E7
 rw [List.range_succ,List.filter_append]
 simp [h]
theorem A1C {sg : List Int} {i : Nat} : ∀ x ∈ E7 sg i,x < i:=fun x hx=>List.mem_range.1 (List.mem_filter.1 hx).1
theorem A3d (sg : List Int) (i : Nat) : (E7 sg i).length ≤ i:=by
 have := List.length_filter_le (fun t=>decide (gi sg t ≠ 0)) (List.range i)
 simpa [E7] using this
theorem A4S {α : Type} (f : Nat → α) (U : List Nat) {k : Nat} (h : k < U.length) : (U.take (k + 1)).map f = (U.take k).map f ++ [f (nx U k)]:=by
 rw [List.take_add_one,List.map_append]
 unfold nx
 rw [List.getElem?_eq_getElem h]
 rfl
def K3 (U : List Nat) (v : Nat → Rat) (n : Nat) : Nat → List Rat
 | 0=>List.replicate n 0
 | k + 1=>(K3 U v n k).set (nx U k) (v k)
theorem W7 (U : List Nat) (v : Nat → Rat) (n : Nat) : ∀ k,(K3 U v n k).length = n
 | 0=>by simp [K3]
 | k + 1=>by
  show ((K3 U v n k).set _ _).length = n
  rw [List.length_set,W7 U v n k]
theorem A54 {l : List Rat} {x i : Nat} {q : Rat} : gq (l.set x q) i = if i = x ∧ x < l.length then q else gq l i:=by
 unfold gq
 rw [List.getElem?_set]
 by_cases e : x = i
 ·subst e
  by_cases hx : x < l.length
  ·simp [hx]
  ·simp [hx]
 ·rw [if_neg e,if_neg (fun h=>e h.1.symm)]
theorem A2a {U : List Nat} {v : Nat → Rat} {n Z : Nat} (h : ∀ k,k < U.length → qs (v k) ≤ Z) (hZ : 1 ≤ Z) : ∀ k,k ≤ U.length → ∀ i,qs (gq (K3 U v n k) i) ≤ Z
 | 0,_,i=>by
  have : gq (K3 U v n 0) i = 0:=by
   unfold gq K3
   by_cases hi : i < n
   ·rw [List.getElem?_replicate,if_pos hi];rfl
   ·rw [List.getElem?_replicate,if_neg hi];rfl
  rw [this,A12]
  exact hZ
 | k + 1,hk,i=>by
  show qs (gq ((K3 U v n k).set _ _) i) ≤ Z
  rw [A54]
  split
  ·exact h k (by omega)
  ·exact A2a h hZ k (by omega) i
def T2 (GR : List (List Rat)) (U : List Nat) : List (List Rat):=U.map fun i=>U.map fun j=>gq (B6 GR i) j
def R0 (PL : List Rat) (U : List Nat) : List Rat:=U.map (gq PL)
def S5 (sg : List Int) (U : List Nat) : List Rat:=U.map fun i=>C1 (-(gi sg i))
def V3 (GR : List (List Rat)) (U : List Nat) (y : List Rat) (k : Nat) : Rat:=(C7 U.length (U.length + 1) (E8 (aug (T2 GR U) y U.length),[]) (U.length + 1)).1 k U.length
def A1w (GR : List (List Rat)) (U : List Nat) (y : List Rat) : Prop:=1 ≤ U.length → (C7 U.length (U.length + 1) (E8 (aug (T2 GR U) y U.length),[]) (U.length + 1)).2 = List.range U.length
def A0I (GR : List (List Rat)) (PL : List Rat) (sg : List Int) (n : Nat) : List Rat:=K3 (E7 sg n) (V3 GR (E7 sg n) (R0 PL (E7 sg n))) n (E7 sg n).length
def Z4 (GR : List (List Rat)) (sg : List Int) (n : Nat) : List Rat:=K3 (E7 sg n) (V3 GR (E7 sg n) (S5 sg (E7 sg n))) n (E7 sg n).length
def U6 (GR : List (List Rat)) (PL F B : List Rat) (sg : List Int) (n i : Nat) : List Lm :=
 if gi sg i ≠ 0 then [(C2 (gq B i) (C1 (gi sg i)),C2 (gq F i) (C1 (gi sg i)))]
 else [(G9 (C1 1) (E5 (B6 GR i) B n),G9 (gq PL i) (E5 (B6 GR i) F n)),(G8 (C1 1) (E5 (B6 GR i) B n),Y5 (G9 (gq PL i) (E5 (B6 GR i) F n)))]
def V9 (GR : List (List Rat)) (PL F B : List Rat) (sg : List Int) (n i : Nat) : List Lm:=(List.range i).flatMap (U6 GR PL F B sg n)
theorem A4I {GR : List (List Rat)} {PL F B : List Rat} {sg : List Int} {n i : Nat} : V9 GR PL F B sg n (i + 1) = V9 GR PL F B sg n i ++ U6 GR PL F B sg n i:=by
 unfold V9
 rw [List.range_succ,List.flatMap_append]
 simp
theorem B0Y {GR : List (List Rat)} {PL F B : List Rat} {sg : List Int} {n i : Nat} : (U6 GR PL F B sg n i).length ≤ 2:=by
 unfold U6
 split <;> simp
theorem A4l {GR : List (List Rat)} {PL F B : List Rat} {sg : List Int} {n : Nat} : ∀ i,(V9 GR PL F B sg n i).length ≤ 2 * i
 | 0=>by simp [V9]
 | i + 1=>by
  rw [A4I,List.length_append]
  have := A4l (GR:=GR) (PL:=PL) (F:=F) (B:=B) (sg:=sg) (n:=n) i
  have := B0Y (GR:=GR) (PL:=PL) (F:=F) (B:=B) (sg:=sg) (n:=n) (i:=i)
  omega
theorem A0R {u w' : World} {B0 : Nat} {e0 : TypeId} {size0 n0 : Nat} {v v0 : Value} {xs0 : List Value} {o : Obj} (h0 : u.ownsRow B0 e0 size0 v0 n0 xs0) (ha : O5 v v0) (hg : (u.alloc o).grownBy w' v.ownBlock) : w'.ownsRow B0 e0 size0 v0 n0 xs0:=by
 refine (h0.alloc o).kept hg ?_
 cases hb : v0.ownBlock with
 | none=>exact .inl rfl
 | some g=>exact .inr fun e=>ha g e.symm hb
theorem A36 {u : World} {B0 : Nat} {e0 : TypeId} {size0 n0 k : Nat} {v v' v0 : Value} {xs0 : List Value} (h0 : u.ownsRow B0 e0 size0 v0 n0 xs0) (ha : O5 v v0) (hv : v'.ownBlock = v.ownBlock ∨ v'.ownBlock = some k) (hk : u.heap.size ≤ k) : O5 v' v0:=fun g h1 h2=>by
 rcases hv with hv | hv
 ·exact ha g (hv.symm.trans h1) h2
 ·have e1 : k = g:=Option.some.inj (hv.symm.trans h1)
  have := (h0.lt g h2).2
  omega
structure SolP (B m : Nat) (R : Nat → List Rat) (pf tf : Nat → Rat) (U : List Nat) (va vp vt : Ax) (k kp kt : Nat) (P : Nat → Ax) (W : World) : Prop where
 hd : W.ownsRow B 35 1 (.slice va.1 k va.2) k (((List.range k).map fun i=>Value.slice (P i).1 m (P i).2).flatMap I3)
 row : ∀ i,i < k → W.ownsRow B 48 5 (.slice (P i).1 m (P i).2) m ((R i).flatMap qL)
 pl : W.ownsRow B 48 5 (.slice vp.1 kp vp.2) kp (((U.take kp).map pf).flatMap qL)
 tn : W.ownsRow B 48 5 (.slice vt.1 kt vt.2) kt (((U.take kt).map tf).flatMap qL)
 rp : ∀ i,i < k → O5 (.slice vp.1 kp vp.2) (.slice (P i).1 m (P i).2)
 rt : ∀ i,i < k → O5 (.slice vt.1 kt vt.2) (.slice (P i).1 m (P i).2)
 pt : O5 (.slice vp.1 kp vp.2) (.slice vt.1 kt vt.2)
section
variable {B m k kp kt : Nat} {R : Nat → List Rat} {pf tf : Nat → Rat} {U : List Nat} {va vp vt v' : Ax} {P : Nat → Ax} {W u w' : World} {o : Obj}
theorem SolP.grow (h : SolP B m R pf tf U va vp vt k kp kt P u) (hg : A4 u W) : SolP B m R pf tf U va vp vt k kp kt P W:=⟨D3 h.hd hg,fun i hi=>D3 (h.row i hi) hg,D3 h.pl hg,D3 h.tn hg,h.rp,h.rt,h.pt⟩
theorem SolP.start (B m : Nat) (R : Nat → List Rat) (pf tf : Nat → Rat) (U : List Nat) (P : Nat → Ax) (u : World) : SolP B m R pf tf U (none,0) (none,0) (none,0) 0 0 0 P u :=
 ⟨World.ownsRow_nil _ _ _ _,fun i hi=>absurd hi (Nat.not_lt_zero _),World.ownsRow_nil _ _ _ _,World.ownsRow_nil _ _ _ _,fun i hi=>absurd hi (Nat.not_lt_zero _),fun i hi=>absurd hi (Nat.not_lt_zero _),fun g h1=>by cases h1⟩
def A07 (P : Nat → Ax) (k : Nat) (x : Ax) : Nat → Ax:=fun i=>if i = k then x else P i
theorem B1K (P : Nat → Ax) (k m : Nat) (x : Ax) : ((List.range (k + 1)).map fun i=>Value.slice (A07 P k x i).1 m (A07 P k x i).2).flatMap I3 = ((List.range k).map fun i=>Value.slice (P i).1 m (P i).2).flatMap I3 ++ [Value.slice x.1 m x.2]:=by
 rw [List.range_succ,List.map_append,List.flatMap_append]
 congr 1
 ·congr 1
  refine List.map_congr_left fun i hi=>?_
  have := List.mem_range.1 hi
  unfold A07
  rw [if_neg (by omega)]
 ·simp [A07]
theorem SolP.addRow {x : Ax} (h : SolP B m R pf tf U va vp vt k kp kt P u) (hx : u.ownsRow B 48 5 (.slice x.1 m x.2) m ((R k).flatMap qL)) (hxp : O5 (.slice vp.1 kp vp.2) (.slice x.1 m x.2)) (hxt : O5 (.slice vt.1 kt vt.2) (.slice x.1 m x.2))
  (h1 : w'.ownsRow B 35 1 (.slice v'.1 (k + 1) v'.2) (k + 1) (((List.range k).map fun i=>Value.slice (P i).1 m (P i).2).flatMap I3 ++ [Value.slice x.1 m x.2])) (hg : (u.alloc o).grownBy w' (Value.slice va.1 k va.2).ownBlock) :
  SolP B m R pf tf U v' vp vt (k + 1) kp kt (A07 P k x) w':=by
 have ap : ∀ {B0 e0 s0 n0 v0 xs0},u.ownsRow B0 e0 s0 v0 n0 xs0 → 35 ≠ e0 → w'.ownsRow B0 e0 s0 v0 n0 xs0:=fun h0 hne=>A0R h0 (N5 h.hd h0 hne) hg
 refine ⟨by rw [B1K];exact h1,fun i hi=>?_,ap h.pl (by decide),ap h.tn (by decide),fun i hi=>?_,fun i hi=>?_,h.pt⟩
 ·unfold A07
  by_cases e : i = k
  ·subst e;simp only [if_true];exact ap hx (by decide)
  ·simp only [if_neg e];exact ap (h.row i (by omega)) (by decide)
 ·unfold A07
  by_cases e : i = k
  ·simp only [if_pos e];exact hxp
  ·simp only [if_neg e];exact h.rp i (by omega)
 ·unfold A07
  by_cases e : i = k
  ·simp only [if_pos e];exact hxt
  ·simp only [if_neg e];exact h.rt i (by omega)
theorem SolP.addP (h : SolP B m R pf tf U va vp vt k kp kt P u) (hk : kp < U.length) (h1 : w'.ownsRow B 48 5 (.slice v'.1 (kp + 1) v'.2) (kp + 1) (((U.take kp).map pf).flatMap qL ++ qL (pf (nx U kp)))) (hg : (u.alloc o).grownBy w' (Value.slice vp.1 kp vp.2).ownBlock)
  (h3 : (Value.slice v'.1 (kp + 1) v'.2).ownBlock = (Value.slice vp.1 kp vp.2).ownBlock ∨ (Value.slice v'.1 (kp + 1) v'.2).ownBlock = some (u.heap.size + 1)) : SolP B m R pf tf U va v' vt k (kp + 1) kt P w':=by
 refine ⟨A0R h.hd (N5 h.pl h.hd (by decide)) hg,fun i hi=>A0R (h.row i hi) (h.rp i hi) hg,?_,A0R h.tn h.pt hg,fun i hi=>A36 (h.row i hi) (h.rp i hi) h3 (by omega),h.rt,A36 h.tn h.pt h3 (by omega)⟩
 rw [A4S pf U hk,List.flatMap_append]
 simpa using h1
theorem SolP.addT (h : SolP B m R pf tf U va vp vt k kp kt P u) (hk : kt < U.length) (h1 : w'.ownsRow B 48 5 (.slice v'.1 (kt + 1) v'.2) (kt + 1) (((U.take kt).map tf).flatMap qL ++ qL (tf (nx U kt)))) (hg : (u.alloc o).grownBy w' (Value.slice vt.1 kt vt.2).ownBlock)
  (h3 : (Value.slice v'.1 (kt + 1) v'.2).ownBlock = (Value.slice vt.1 kt vt.2).ownBlock ∨ (Value.slice v'.1 (kt + 1) v'.2).ownBlock = some (u.heap.size + 1)) : SolP B m R pf tf U va vp v' k kp (kt + 1) P w':=by
 refine ⟨A0R h.hd (N5 h.tn h.hd (by decide)) hg,fun i hi=>A0R (h.row i hi) (h.rt i hi) hg,A0R h.pl h.pt.symm hg,?_,h.rp,fun i hi=>A36 (h.row i hi) (h.rt i hi) h3 (by omega),(A36 h.pl h.pt.symm h3 (by omega)).symm⟩
 rw [A4S tf U hk,List.flatMap_append]
 simpa using h1
end
theorem B08 {u : World} {B b0 n c m : Nat} {P : Nat → Ax} {R : Nat → List Rat} (h : u.ownsRow B 35 1 (.slice (some ⟨b0,0,none⟩) n c) n (((List.range n).map fun i=>Value.slice (P i).1 m (P i).2).flatMap I3)) (hl : ∀ i,i < n → (R i).length = m) (hr : ∀ i,i < n → Lq u (P i).1 (R i)) : Lrq u (some ⟨b0,0,none⟩) ((List.range n).map fun i=>(((P i).1,(P i).2,R i) : Rq)):=fun hne=>by
 refine ⟨b0,0,rfl,(h.lt b0 rfl).2,fun i r hi=>?_⟩
 rw [List.getElem?_map] at hi
 obtain ⟨k,hk,rfl⟩:=Option.map_eq_some_iff.1 hi
 have hin : i < n:=by
  have := (List.getElem?_eq_some_iff.1 hk).1
  simpa using this
 have hki : k = i:=by
  rw [List.getElem?_range hin] at hk
  exact (Option.some.inj hk).symm
 subst hki
 have h1:=Z7 (enc:=I3) (size:=1) (fun _=>rfl) h (by simp) k 0 (by simpa using hin) (by omega)
 rw [Nat.mul_one,Nat.add_zero] at h1
 simp only [List.getElem_map,List.getElem_range] at h1
 rw [Nat.zero_add,h1]
 exact ⟨by rw [hl k hin];rfl,hr _ hin⟩
structure LmW (B n bf bo : Nat) (F G : List Rat) (vl : Ax) (ls : List Lm) (W : World) : Prop where
 f : W.ownsRow B 48 5 (.slice (some ⟨bf,0,none⟩) n n) n (F.flatMap qL)
 g : W.ownsRow B 48 5 (.slice (some ⟨bo,0,none⟩) n n) n (G.flatMap qL)
 l : W.ownsRow B 183 10 (.slice vl.1 ls.length vl.2) ls.length (ls.flatMap lmL)
 ne : bf ≠ bo
section
variable {B n bf bo b i : Nat} {F G : List Rat} {vl : Ax} {ls : List Lm} {W W' : World} {vs : List Value}
theorem LmW.grow (h : LmW B n bf bo F G vl ls W) (hg : A4 W W') : LmW B n bf bo F G vl ls W':=⟨D3 h.f hg,D3 h.g hg,D3 h.l hg,h.ne⟩
theorem LmW.over {t : TypeId} {cs : Array Value} (h : LmW B n bf bo F G vl ls W) (hb : Blk W b t cs) (ht : t ≠ 48 ∧ t ≠ 183) (hu : D1 W b i vs = W') : LmW B n bf bo F G vl ls W' :=
 ⟨L6 h.f (I6 h.f hb (fun e=>ht.1 e.symm)) hu,L6 h.g (I6 h.g hb (fun e=>ht.1 e.symm)) hu,L6 h.l (I6 h.l hb (fun e=>ht.2 e.symm)) hu,h.ne⟩
theorem LmW.news {W0 : World} (h0 : LmW B n bf bo F G vl ls W0) (hb : W0.heap.size ≤ b) (h : LmW B n bf bo F G vl ls W) (hu : D1 W b i vs = W') : LmW B n bf bo F G vl ls W' :=
 ⟨L6 h.f (A2b h0.f hb) hu,L6 h.g (A2b h0.g hb) hu,L6 h.l (A2b h0.l hb) hu,h.ne⟩
theorem LmW.fq (h : LmW B n bf bo F G vl ls W) : Lq W (some ⟨bf,0,none⟩) F:=by
 obtain ⟨A,c,e,-,-,hL,-⟩:=M8 h.f
 cases e
 exact hL
theorem LmW.gq (h : LmW B n bf bo F G vl ls W) : Lq W (some ⟨bo,0,none⟩) G:=by
 obtain ⟨A,c,e,-,-,hL,-⟩:=M8 h.g
 cases e
 exact hL
theorem LmW.putF (h : LmW B n bf bo F G vl ls W) (hF : F.length = n) {j : Nat} (hj : j < n) (q : Rat) (hu : D1 W bf (j * 5) (qL q) = W') : LmW B n bf bo (F.set j q) G vl ls W' ∧ W.grownBy W' (some bf):=by
 obtain ⟨h1,h2⟩:=R6 (enc:=qL) (size:=5) (ps:=F) (fun _=>rfl) h.f j q (by omega)
 rw [hu] at h1 h2
 exact ⟨⟨h1,h.g.kept h2 (.inr fun e=>h.ne (Option.some.inj e).symm),h.l.kept h2 (.inr fun e=>N5 h.f h.l (by decide) bf rfl e),h.ne⟩,h2⟩
theorem LmW.putG (h : LmW B n bf bo F G vl ls W) (hG : G.length = n) {j : Nat} (hj : j < n) (q : Rat) (hu : D1 W bo (j * 5) (qL q) = W') : LmW B n bf bo F (G.set j q) vl ls W' ∧ W.grownBy W' (some bo):=by
 obtain ⟨h1,h2⟩:=R6 (enc:=qL) (size:=5) (ps:=G) (fun _=>rfl) h.g j q (by omega)
 rw [hu] at h1 h2
 exact ⟨⟨h.f.kept h2 (.inr fun e=>h.ne (Option.some.inj e)),h1,h.l.kept h2 (.inr fun e=>N5 h.g h.l (by decide) bo rfl e),h.ne⟩,h2⟩
theorem LmW.beside {B0 size n0 : Nat} {e : TypeId} {v : Value} {xs : List Value} {o : Obj} (h : LmW B n bf bo F G vl ls W) (h0 : W.ownsRow B0 e size v n0 xs) (ht : e ≠ 48 ∧ e ≠ 183) (hg : (W.alloc o).grownBy W' v.ownBlock) : LmW B n bf bo F G vl ls W' :=
 ⟨A0R h.f (N5 h0 h.f ht.1) hg,A0R h.g (N5 h0 h.g ht.1) hg,A0R h.l (N5 h0 h.l ht.2) hg,h.ne⟩
theorem LmW.app {v' : Ax} {ls' : List Lm} (h : LmW B n bf bo F G vl ls W) (h1 : W'.ownsRow B 183 10 (.slice v'.1 ls'.length v'.2) ls'.length (ls'.flatMap lmL)) (hg : W.grownBy W' (Value.slice vl.1 ls.length vl.2).ownBlock) : LmW B n bf bo F G v' ls' W' :=
 ⟨A1g h.f h.l (by decide) hg,A1g h.g h.l (by decide) hg,h1,h.ne⟩
end
theorem A99 : EI 39 35 1 24:=A1G (by kernel_rfl) (by kernel_rfl) (by omega)
theorem B47 (A : Option Addr) (n c : Nat) (w : World) : (Instr.buildSlice 39 1 #[(0,.slice A n c)]).run Tryz.prog w = .ok (.slice (some ⟨w.heap.size,0,none⟩) 1 1) (w.alloc (.cells #[.slice A n c] 35)):=by
 go_simp
theorem A77 : EI 113 183 10 112:=A1G (by kernel_rfl) (by kernel_rfl) (by omega)
theorem B4X {ops : Array Oper} {a : Act} {u : World} {K : Act → World → Prop} {d2 : Option Nat} {s z : Operand} {t2 : TypeId} {p2 : String} {f2 : Array Edge} {rest : List Oper} {T e : TypeId} {size bytes : Nat} (hE : EI T e size bytes)
  (B : Nat) (v : Value) (n : Nat) (xs : List Value) (b m : Nat) (ys : List Value) (hy : ys.length = m * size) (h1 : (ys.all fun y=>y.oneCell') = true) (hblk : Blk u b e ys.toArray)
  (hs : a.eval s = v) (hz : a.eval z = .slice (some ⟨b,0,none⟩) m m)
  (hown : u.ownsRow B e size v n xs) (hl : n + m ≤ 1099511627776) (hl2 : (n + m) * bytes ≤ 140737488355328) (hB : B ≤ u.heap.size)
  (h : ∀ v' w',w'.ownsRow B e size v' (n + m) (xs ++ ys) → u.grownBy w' v.ownBlock → (v'.ownBlock = v.ownBlock ∨ v'.ownBlock = some u.heap.size) → wpList Tryz.prog ops (NoK K) rest (a.put d2 v') w') :
  wpList Tryz.prog ops (NoK K) (⟨d2,.call { callee:=.builtin .append,args:=#[s,z],argTypes:=#[T,T] },t2,p2,f2,none⟩ :: rest) a u:=by
 obtain ⟨hund,⟨i0,z0,hi0,hz0,hz1,hz2,hz3⟩,hpos⟩:=hE
 refine wpList_append_own_at u (a:=a) (Q:=NoK K) rfl s z T rfl B e i0 z0 size bytes hund hi0 hz0 hz1 hz2 hz3 hpos v n xs hs hown ⟨b,0,none⟩ m m ys hz (by rw [hy]) ?_ (fun y hy=>List.all_eq_true.1 h1 y hy) (by unfold maxLen;omega) hl2 hB fun v' w' g1 g2 _ g4=>h v' w' g1 g2 g4
 intro j y hj
 rw [Go.WideShapes.add_plain,Nat.zero_add,Blk.cell hblk j,List.getElem?_toArray]
 exact hj
end Go.Proofs.YtgpglgbcobeogaaGreatDoor
