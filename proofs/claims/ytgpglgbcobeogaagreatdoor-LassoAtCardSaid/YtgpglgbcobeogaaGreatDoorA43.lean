/- Contracts and laws. -/
import Derived.Test.YtgpglgbcobeogaaGreatDoorA42
set_option linter.unusedSimpArgs false
set_option linter.unusedVariables false
namespace Go.Proofs.YtgpglgbcobeogaaGreatDoor
open Go Go.RowKit
section
variable {G : Mx} {n : Nat}
def B0O (s : Nat → Int) : Nat → Nat
 | 0=>0
 | n + 1=>B0O s n + if s n ≠ 0 then 1 else 0
end
def G4 (sg : List Int) (i : Nat) : List Nat:=(List.range i).filter fun t=>decide (gi sg t ≠ 0)
theorem B22 {sg : List Int} {i : Nat} (h : gi sg i ≠ 0) : G4 sg (i + 1) = G4 sg i ++ [i]:=by
 unfold G4
 rw [List.range_succ,List.filter_append]
 simp [h]
theorem B4I {sg : List Int} {i : Nat} (h : gi sg i = 0) : G4 sg (i + 1) = G4 sg i:=by
 unfold G4
 rw [List.range_succ,List.filter_append]
 simp [h]
theorem B0K {sg : List Int} {i : Nat} : ∀ x ∈ G4 sg i,x < i:=fun x hx=>List.mem_range.1 (List.mem_filter.1 hx).1
theorem A69 (sg : List Int) (i : Nat) : (G4 sg i).length ≤ i:=by
 have := List.length_filter_le (fun t=>decide (gi sg t ≠ 0)) (List.range i)
 simpa [G4] using this
theorem A4T {α : Type} (f : Nat → α) (U : List Nat) {k : Nat} (h : k < U.length) : (U.take (k + 1)).map f = (U.take k).map f ++ [f (nx U k)]:=by
 rw [List.take_add_one,List.map_append]
 unfold nx
 rw [List.getElem?_eq_getElem h]
 rfl
def O3 (U : List Nat) (v : Nat → Rat) (n : Nat) : Nat → List Rat
 | 0=>List.replicate n 0
 | k + 1=>(O3 U v n k).set (nx U k) (v k)
theorem A0d (U : List Nat) (v : Nat → Rat) (n : Nat) : ∀ k,(O3 U v n k).length = n
 | 0=>by simp [O3]
 | k + 1=>by
  show ((O3 U v n k).set _ _).length = n
  rw [List.length_set,A0d U v n k]
theorem B1s {l : List Rat} {x i : Nat} {q : Rat} : gq (l.set x q) i = if i = x ∧ x < l.length then q else gq l i:=by
 unfold gq
 rw [List.getElem?_set]
 by_cases e : x = i
 ·subst e
  by_cases hx : x < l.length
  ·simp [hx]
  ·simp [hx]
 ·rw [if_neg e,if_neg (fun h=>e h.1.symm)]
theorem A4K {U : List Nat} {v : Nat → Rat} {n Z : Nat} (h : ∀ k,k < U.length → qs (v k) ≤ Z) (hZ : 1 ≤ Z) : ∀ k,k ≤ U.length → ∀ i,qs (gq (O3 U v n k) i) ≤ Z
 | 0,_,i=>by
  have : gq (O3 U v n 0) i = 0:=by
   unfold gq O3
   by_cases hi : i < n
   ·rw [List.getElem?_replicate,if_pos hi];rfl
   ·rw [List.getElem?_replicate,if_neg hi];rfl
  rw [this,A1Y]
  exact hZ
 | k + 1,hk,i=>by
  show qs (gq ((O3 U v n k).set _ _) i) ≤ Z
  rw [B1s]
  split
  ·exact h k (by omega)
  ·exact A4K h hZ k (by omega) i
def X5 (GR : List (List Rat)) (U : List Nat) : List (List Rat):=U.map fun i=>U.map fun j=>gq (B8 GR i) j
def A0c (PL : List Rat) (U : List Nat) : List Rat:=U.map (gq PL)
def A0e (sg : List Int) (U : List Nat) : List Rat:=U.map fun i=>C5 (-(gi sg i))
def A0q (GR : List (List Rat)) (U : List Nat) (y : List Rat) (k : Nat) : Rat:=(F9 U.length (U.length + 1) (H9 (aug (X5 GR U) y U.length),[]) (U.length + 1)).1 k U.length
def A2M (GR : List (List Rat)) (U : List Nat) (y : List Rat) : Prop:=1 ≤ U.length → (F9 U.length (U.length + 1) (H9 (aug (X5 GR U) y U.length),[]) (U.length + 1)).2 = List.range U.length
def A3J (GR : List (List Rat)) (PL : List Rat) (sg : List Int) (n : Nat) : List Rat:=O3 (G4 sg n) (A0q GR (G4 sg n) (A0c PL (G4 sg n))) n (G4 sg n).length
def A3P (GR : List (List Rat)) (sg : List Int) (n : Nat) : List Rat:=O3 (G4 sg n) (A0q GR (G4 sg n) (A0e sg (G4 sg n))) n (G4 sg n).length
def A0r (GR : List (List Rat)) (PL F B : List Rat) (sg : List Int) (n i : Nat) : List Lm :=
 if gi sg i ≠ 0 then [(E7 (gq B i) (C5 (gi sg i)),E7 (gq F i) (C5 (gi sg i)))]
 else [(C4 (C5 1) (H4 (B8 GR i) B n),C4 (gq PL i) (H4 (B8 GR i) F n)),(G9 (C5 1) (H4 (B8 GR i) B n),R5 (C4 (gq PL i) (H4 (B8 GR i) F n)))]
def A0t (GR : List (List Rat)) (PL F B : List Rat) (sg : List Int) (n i : Nat) : List Lm:=(List.range i).flatMap (A0r GR PL F B sg n)
theorem A4S {GR : List (List Rat)} {PL F B : List Rat} {sg : List Int} {n i : Nat} : A0t GR PL F B sg n (i + 1) = A0t GR PL F B sg n i ++ A0r GR PL F B sg n i:=by
 unfold A0t
 rw [List.range_succ,List.flatMap_append]
 simp
theorem B0l {GR : List (List Rat)} {PL F B : List Rat} {sg : List Int} {n i : Nat} : (A0r GR PL F B sg n i).length ≤ 2:=by
 unfold A0r
 split <;> simp
theorem A7t {GR : List (List Rat)} {PL F B : List Rat} {sg : List Int} {n : Nat} : ∀ i,(A0t GR PL F B sg n i).length ≤ 2 * i
 | 0=>by simp [A0t]
 | i + 1=>by
  rw [A4S,List.length_append]
  have := A7t (GR:=GR) (PL:=PL) (F:=F) (B:=B) (sg:=sg) (n:=n) i
  have := B0l (GR:=GR) (PL:=PL) (F:=F) (B:=B) (sg:=sg) (n:=n) (i:=i)
  omega
theorem X7 {u w' : World} {B0 : Nat} {e0 : TypeId} {size0 n0 : Nat} {v v0 : Value} {xs0 : List Value} {o : Obj} (h0 : u.ownsRow B0 e0 size0 v0 n0 xs0) (ha : P8 v v0) (hg : (u.alloc o).grownBy w' v.ownBlock) : w'.ownsRow B0 e0 size0 v0 n0 xs0:=by
 refine (h0.alloc o).kept hg ?_
 cases hb : v0.ownBlock with
 | none=>exact .inl rfl
 | some g=>exact .inr fun e=>ha g e.symm hb
theorem A3S {u : World} {B0 : Nat} {e0 : TypeId} {size0 n0 k : Nat} {v v' v0 : Value} {xs0 : List Value} (h0 : u.ownsRow B0 e0 size0 v0 n0 xs0) (ha : P8 v v0) (hv : v'.ownBlock = v.ownBlock ∨ v'.ownBlock = some k) (hk : u.heap.size ≤ k) : P8 v' v0:=fun g h1 h2=>by
 rcases hv with hv | hv
 ·exact ha g (hv.symm.trans h1) h2
 ·have e1 : k = g:=Option.some.inj (hv.symm.trans h1)
  have := (h0.lt g h2).2
  omega
structure SolP (B m : Nat) (R : Nat → List Rat) (pf tf : Nat → Rat) (U : List Nat) (va vp vt : Ax) (k kp kt : Nat) (P : Nat → Ax) (W : World) : Prop where
 hd : W.ownsRow B 35 1 (.slice va.1 k va.2) k (((List.range k).map fun i=>Value.slice (P i).1 m (P i).2).flatMap I5)
 row : ∀ i,i < k → W.ownsRow B 48 5 (.slice (P i).1 m (P i).2) m ((R i).flatMap qL)
 pl : W.ownsRow B 48 5 (.slice vp.1 kp vp.2) kp (((U.take kp).map pf).flatMap qL)
 tn : W.ownsRow B 48 5 (.slice vt.1 kt vt.2) kt (((U.take kt).map tf).flatMap qL)
 rp : ∀ i,i < k → P8 (.slice vp.1 kp vp.2) (.slice (P i).1 m (P i).2)
 rt : ∀ i,i < k → P8 (.slice vt.1 kt vt.2) (.slice (P i).1 m (P i).2)
 pt : P8 (.slice vp.1 kp vp.2) (.slice vt.1 kt vt.2)
section
variable {B m k kp kt : Nat} {R : Nat → List Rat} {pf tf : Nat → Rat} {U : List Nat} {va vp vt v' : Ax} {P : Nat → Ax} {W u w' : World} {o : Obj}
theorem SolP.grow (h : SolP B m R pf tf U va vp vt k kp kt P u) (hg : A4 u W) : SolP B m R pf tf U va vp vt k kp kt P W:=⟨C9 h.hd hg,fun i hi=>C9 (h.row i hi) hg,C9 h.pl hg,C9 h.tn hg,h.rp,h.rt,h.pt⟩
theorem SolP.start (B m : Nat) (R : Nat → List Rat) (pf tf : Nat → Rat) (U : List Nat) (P : Nat → Ax) (u : World) : SolP B m R pf tf U (none,0) (none,0) (none,0) 0 0 0 P u :=
 ⟨World.ownsRow_nil _ _ _ _,fun i hi=>absurd hi (Nat.not_lt_zero _),World.ownsRow_nil _ _ _ _,World.ownsRow_nil _ _ _ _,fun i hi=>absurd hi (Nat.not_lt_zero _),fun i hi=>absurd hi (Nat.not_lt_zero _),fun g h1=>by cases h1⟩
def A0z (P : Nat → Ax) (k : Nat) (x : Ax) : Nat → Ax:=fun i=>if i = k then x else P i
theorem A8h (P : Nat → Ax) (k m : Nat) (x : Ax) : ((List.range (k + 1)).map fun i=>Value.slice (A0z P k x i).1 m (A0z P k x i).2).flatMap I5 = ((List.range k).map fun i=>Value.slice (P i).1 m (P i).2).flatMap I5 ++ [Value.slice x.1 m x.2]:=by
 rw [List.range_succ,List.map_append,List.flatMap_append]
 congr 1
 ·congr 1
  refine List.map_congr_left fun i hi=>?_
  have := List.mem_range.1 hi
  unfold A0z
  rw [if_neg (by omega)]
 ·simp [A0z]
theorem SolP.addRow {x : Ax} (h : SolP B m R pf tf U va vp vt k kp kt P u) (hx : u.ownsRow B 48 5 (.slice x.1 m x.2) m ((R k).flatMap qL)) (hxp : P8 (.slice vp.1 kp vp.2) (.slice x.1 m x.2)) (hxt : P8 (.slice vt.1 kt vt.2) (.slice x.1 m x.2))
  (h1 : w'.ownsRow B 35 1 (.slice v'.1 (k + 1) v'.2) (k + 1) (((List.range k).map fun i=>Value.slice (P i).1 m (P i).2).flatMap I5 ++ [Value.slice x.1 m x.2])) (hg : (u.alloc o).grownBy w' (Value.slice va.1 k va.2).ownBlock) :
  SolP B m R pf tf U v' vp vt (k + 1) kp kt (A0z P k x) w':=by
 have ap : ∀ {B0 e0 s0 n0 v0 xs0},u.ownsRow B0 e0 s0 v0 n0 xs0 → 35 ≠ e0 → w'.ownsRow B0 e0 s0 v0 n0 xs0:=fun h0 hne=>X7 h0 (N2 h.hd h0 hne) hg
 refine ⟨by rw [A8h];exact h1,fun i hi=>?_,ap h.pl (by decide),ap h.tn (by decide),fun i hi=>?_,fun i hi=>?_,h.pt⟩
 ·unfold A0z
  by_cases e : i = k
  ·subst e;simp only [if_true];exact ap hx (by decide)
  ·simp only [if_neg e];exact ap (h.row i (by omega)) (by decide)
 ·unfold A0z
  by_cases e : i = k
  ·simp only [if_pos e];exact hxp
  ·simp only [if_neg e];exact h.rp i (by omega)
 ·unfold A0z
  by_cases e : i = k
  ·simp only [if_pos e];exact hxt
  ·simp only [if_neg e];exact h.rt i (by omega)
theorem SolP.addP (h : SolP B m R pf tf U va vp vt k kp kt P u) (hk : kp < U.length) (h1 : w'.ownsRow B 48 5 (.slice v'.1 (kp + 1) v'.2) (kp + 1) (((U.take kp).map pf).flatMap qL ++ qL (pf (nx U kp)))) (hg : (u.alloc o).grownBy w' (Value.slice vp.1 kp vp.2).ownBlock)
  (h3 : (Value.slice v'.1 (kp + 1) v'.2).ownBlock = (Value.slice vp.1 kp vp.2).ownBlock ∨ (Value.slice v'.1 (kp + 1) v'.2).ownBlock = some (u.heap.size + 1)) : SolP B m R pf tf U va v' vt k (kp + 1) kt P w':=by
 refine ⟨X7 h.hd (N2 h.pl h.hd (by decide)) hg,fun i hi=>X7 (h.row i hi) (h.rp i hi) hg,?_,X7 h.tn h.pt hg,fun i hi=>A3S (h.row i hi) (h.rp i hi) h3 (by omega),h.rt,A3S h.tn h.pt h3 (by omega)⟩
 rw [A4T pf U hk,List.flatMap_append]
 simpa using h1
theorem SolP.addT (h : SolP B m R pf tf U va vp vt k kp kt P u) (hk : kt < U.length) (h1 : w'.ownsRow B 48 5 (.slice v'.1 (kt + 1) v'.2) (kt + 1) (((U.take kt).map tf).flatMap qL ++ qL (tf (nx U kt)))) (hg : (u.alloc o).grownBy w' (Value.slice vt.1 kt vt.2).ownBlock)
  (h3 : (Value.slice v'.1 (kt + 1) v'.2).ownBlock = (Value.slice vt.1 kt vt.2).ownBlock ∨ (Value.slice v'.1 (kt + 1) v'.2).ownBlock = some (u.heap.size + 1)) : SolP B m R pf tf U va vp v' k kp (kt + 1) P w':=by
 refine ⟨X7 h.hd (N2 h.tn h.hd (by decide)) hg,fun i hi=>X7 (h.row i hi) (h.rt i hi) hg,X7 h.pl h.pt.symm hg,?_,h.rp,fun i hi=>A3S (h.row i hi) (h.rt i hi) h3 (by omega),(A3S h.pl h.pt.symm h3 (by omega)).symm⟩
 rw [A4T tf U hk,List.flatMap_append]
 simpa using h1
end
theorem B0c {u : World} {B b0 n c m : Nat} {P : Nat → Ax} {R : Nat → List Rat} (h : u.ownsRow B 35 1 (.slice (some ⟨b0,0,none⟩) n c) n (((List.range n).map fun i=>Value.slice (P i).1 m (P i).2).flatMap I5)) (hl : ∀ i,i < n → (R i).length = m) (hr : ∀ i,i < n → Lq u (P i).1 (R i)) : Lrq u (some ⟨b0,0,none⟩) ((List.range n).map fun i=>(((P i).1,(P i).2,R i) : Rq)):=fun hne=>by
 refine ⟨b0,0,rfl,(h.lt b0 rfl).2,fun i r hi=>?_⟩
 rw [List.getElem?_map] at hi
 obtain ⟨k,hk,rfl⟩:=Option.map_eq_some_iff.1 hi
 have hin : i < n:=by
  have := (List.getElem?_eq_some_iff.1 hk).1
  simpa using this
 have hki : k = i:=by
  rw [List.getElem?_range hin] at hk
  exact (Option.some.inj hk).symm
 subst hki
 have h1:=Y9 (enc:=I5) (size:=1) (fun _=>rfl) h (by simp) k 0 (by simpa using hin) (by omega)
 rw [Nat.mul_one,Nat.add_zero] at h1
 simp only [List.getElem_map,List.getElem_range] at h1
 rw [Nat.zero_add,h1]
 exact ⟨by rw [hl k hin];rfl,hr _ hin⟩
structure LmW (B n bf bo : Nat) (F G : List Rat) (vl : Ax) (ls : List Lm) (W : World) : Prop where
 f : W.ownsRow B 48 5 (.slice (some ⟨bf,0,none⟩) n n) n (F.flatMap qL)
 g : W.ownsRow B 48 5 (.slice (some ⟨bo,0,none⟩) n n) n (G.flatMap qL)
 l : W.ownsRow B 183 10 (.slice vl.1 ls.length vl.2) ls.length (ls.flatMap lmL)
 ne : bf ≠ bo
section
variable {B n bf bo b i : Nat} {F G : List Rat} {vl : Ax} {ls : List Lm} {W W' : World} {vs : List Value}
theorem LmW.grow (h : LmW B n bf bo F G vl ls W) (hg : A4 W W') : LmW B n bf bo F G vl ls W':=⟨C9 h.f hg,C9 h.g hg,C9 h.l hg,h.ne⟩
theorem LmW.over {t : TypeId} {cs : Array Value} (h : LmW B n bf bo F G vl ls W) (hb : Blk W b t cs) (ht : t ≠ 48 ∧ t ≠ 183) (hu : D5 W b i vs = W') : LmW B n bf bo F G vl ls W' :=
 ⟨M5 h.f (J7 h.f hb (fun e=>ht.1 e.symm)) hu,M5 h.g (J7 h.g hb (fun e=>ht.1 e.symm)) hu,M5 h.l (J7 h.l hb (fun e=>ht.2 e.symm)) hu,h.ne⟩
theorem LmW.news {W0 : World} (h0 : LmW B n bf bo F G vl ls W0) (hb : W0.heap.size ≤ b) (h : LmW B n bf bo F G vl ls W) (hu : D5 W b i vs = W') : LmW B n bf bo F G vl ls W' :=
 ⟨M5 h.f (A1g h0.f hb) hu,M5 h.g (A1g h0.g hb) hu,M5 h.l (A1g h0.l hb) hu,h.ne⟩
theorem LmW.fq (h : LmW B n bf bo F G vl ls W) : Lq W (some ⟨bf,0,none⟩) F:=by
 obtain ⟨A,c,e,-,-,hL,-⟩:=M3 h.f
 cases e
 exact hL
theorem LmW.gq (h : LmW B n bf bo F G vl ls W) : Lq W (some ⟨bo,0,none⟩) G:=by
 obtain ⟨A,c,e,-,-,hL,-⟩:=M3 h.g
 cases e
 exact hL
theorem LmW.putF (h : LmW B n bf bo F G vl ls W) (hF : F.length = n) {j : Nat} (hj : j < n) (q : Rat) (hu : D5 W bf (j * 5) (qL q) = W') : LmW B n bf bo (F.set j q) G vl ls W' ∧ W.grownBy W' (some bf):=by
 obtain ⟨h1,h2⟩:=P6 (enc:=qL) (size:=5) (ps:=F) (fun _=>rfl) h.f j q (by omega)
 rw [hu] at h1 h2
 exact ⟨⟨h1,h.g.kept h2 (.inr fun e=>h.ne (Option.some.inj e).symm),h.l.kept h2 (.inr fun e=>N2 h.f h.l (by decide) bf rfl e),h.ne⟩,h2⟩
theorem LmW.putG (h : LmW B n bf bo F G vl ls W) (hG : G.length = n) {j : Nat} (hj : j < n) (q : Rat) (hu : D5 W bo (j * 5) (qL q) = W') : LmW B n bf bo F (G.set j q) vl ls W' ∧ W.grownBy W' (some bo):=by
 obtain ⟨h1,h2⟩:=P6 (enc:=qL) (size:=5) (ps:=G) (fun _=>rfl) h.g j q (by omega)
 rw [hu] at h1 h2
 exact ⟨⟨h.f.kept h2 (.inr fun e=>h.ne (Option.some.inj e)),h1,h.l.kept h2 (.inr fun e=>N2 h.g h.l (by decide) bo rfl e),h.ne⟩,h2⟩
theorem LmW.beside {B0 size n0 : Nat} {e : TypeId} {v : Value} {xs : List Value} {o : Obj} (h : LmW B n bf bo F G vl ls W) (h0 : W.ownsRow B0 e size v n0 xs) (ht : e ≠ 48 ∧ e ≠ 183) (hg : (W.alloc o).grownBy W' v.ownBlock) : LmW B n bf bo F G vl ls W' :=
 ⟨X7 h.f (N2 h0 h.f ht.1) hg,X7 h.g (N2 h0 h.g ht.1) hg,X7 h.l (N2 h0 h.l ht.2) hg,h.ne⟩
theorem LmW.app {v' : Ax} {ls' : List Lm} (h : LmW B n bf bo F G vl ls W) (h1 : W'.ownsRow B 183 10 (.slice v'.1 ls'.length v'.2) ls'.length (ls'.flatMap lmL)) (hg : W.grownBy W' (Value.slice vl.1 ls.length vl.2).ownBlock) : LmW B n bf bo F G v' ls' W' :=
 ⟨A1X h.f h.l (by decide) hg,A1X h.g h.l (by decide) hg,h1,h.ne⟩
end
theorem B1H : EI 39 35 1 24:=A0l (by kernel_rfl) (by kernel_rfl) (by omega)
theorem B1Q (A : Option Addr) (n c : Nat) (w : World) : (Instr.buildSlice 39 1 #[(0,.slice A n c)]).run Tryz.prog w = .ok (.slice (some ⟨w.heap.size,0,none⟩) 1 1) (w.alloc (.cells #[.slice A n c] 35)):=by
 go_simp
theorem A5f : EI 113 183 10 112:=A0l (by kernel_rfl) (by kernel_rfl) (by omega)
theorem A95 {ops : Array Oper} {a : Act} {u : World} {K : Act → World → Prop} {d2 : Option Nat} {s z : Operand} {t2 : TypeId} {p2 : String} {f2 : Array Edge} {rest : List Oper} {T e : TypeId} {size bytes : Nat} (hE : EI T e size bytes)
  (B : Nat) (v : Value) (n : Nat) (xs : List Value) (b m : Nat) (ys : List Value) (hy : ys.length = m * size) (h1 : (ys.all fun y=>y.oneCell') = true) (hblk : Blk u b e ys.toArray)
  (hs : a.eval s = v) (hz : a.eval z = .slice (some ⟨b,0,none⟩) m m)
  (hown : u.ownsRow B e size v n xs) (hl : n + m ≤ 1099511627776) (hl2 : (n + m) * bytes ≤ 140737488355328) (hB : B ≤ u.heap.size)
  (h : ∀ v' w',w'.ownsRow B e size v' (n + m) (xs ++ ys) → u.grownBy w' v.ownBlock → (v'.ownBlock = v.ownBlock ∨ v'.ownBlock = some u.heap.size) → wpList Tryz.prog ops (NoK K) rest (a.put d2 v') w') :
  wpList Tryz.prog ops (NoK K) (⟨d2,.call { callee:=.builtin .append,args:=#[s,z],argTypes:=#[T,T] },t2,p2,f2,none⟩ :: rest) a u:=by
 obtain ⟨hund,⟨i0,z0,hi0,hz0,hz1,hz2,hz3⟩,hpos⟩:=hE
 refine wpList_append_own_at u (a:=a) (Q:=NoK K) rfl s z T rfl B e i0 z0 size bytes hund hi0 hz0 hz1 hz2 hz3 hpos v n xs hs hown ⟨b,0,none⟩ m m ys hz (by rw [hy]) ?_ (fun y hy=>List.all_eq_true.1 h1 y hy) (by unfold maxLen;omega) hl2 hB fun v' w' g1 g2 _ g4=>h v' w' g1 g2 g4
 intro j y hj
 rw [Go.WideShapes.add_plain,Nat.zero_add,Blk.cell hblk j,List.getElem?_toArray]
 exact hj
theorem B0X (GR : List (List Rat)) (U : List Nat) (P : Nat → Ax) : ((List.range U.length).map fun i=>(((P i).1,(P i).2,U.map fun j=>gq (B8 GR (nx U i)) j) : Rq)).map (·.2.2) = X5 GR U:=by
 unfold X5
 apply List.ext_getElem
 ·simp
 ·intro i h1 h2
  have hi : i < U.length:=by simpa using h2
  simp only [List.getElem_map,List.getElem_range]
  unfold nx
  rw [List.getElem?_eq_getElem hi]
  rfl
theorem A8N {GR : List (List Rat)} {U : List Nat} {i j : Nat} (hi : i < U.length) (hj : j < U.length) : gq (B8 (X5 GR U) i) j = gq (B8 GR (nx U i)) (nx U j):=by
 have h1 : B8 (X5 GR U) i = U.map fun j=>gq (B8 GR (nx U i)) j:=by
  unfold B8 X5 nx
  rw [List.getElem?_map,List.getElem?_eq_getElem hi]
  rfl
 rw [h1]
 unfold gq
 rw [List.getElem?_map,List.getElem?_eq_getElem hj]
 unfold nx
 rw [List.getElem?_eq_getElem hj]
 rfl
theorem A5a {f : Nat → Rat} {U : List Nat} {k : Nat} (h : k < U.length) : gq (U.map f) k = f (nx U k):=by
 unfold gq nx
 rw [List.getElem?_map,List.getElem?_eq_getElem h]
 rfl
theorem A7p {GR : List (List Rat)} {U : List Nat} {y : List Rat} {f : Nat → Rat} {n s m : Nat} {B : Nat} {va vy : Ax} {P : Nat → Ax} {W : World} (hm : m = U.length) (hm1 : 1 ≤ m) (hmn : m ≤ n) (hn : n ≤ 6) (hU : ∀ x ∈ U,x < n)
  (hG : ∀ i,i < n → ∀ j,j < n → qs (gq (B8 GR i) j) ≤ s) (hs1 : 1 ≤ s) (hBz : 100 * (s * 10 ^ (n + 1)) ≤ BIG) (hy : y = U.map f) (hyz : ∀ k,k < U.length → qs (f (nx U k)) ≤ s) (hok : A2M GR U y)
  (hd : W.ownsRow B 35 1 (.slice va.1 m va.2) m (((List.range m).map fun i=>Value.slice (P i).1 m (P i).2).flatMap I5)) (hr : ∀ i,i < m → W.ownsRow B 48 5 (.slice (P i).1 m (P i).2) m ((U.map fun j=>gq (B8 GR (nx U i)) j).flatMap qL)) (hyo : W.ownsRow B 48 5 (.slice vy.1 m vy.2) m (((U.take m).map f).flatMap qL)) :
  ∀ V,A4 W V → Tab V → Calls Tryz.prog 128 #[.slice va.1 m va.2,.slice vy.1 m vy.2] V (G7 (fun x : Ax=>.tuple #[.slice x.1 m x.2,.slice none 0 0,.int .i64 0]) (fun x V'=>Lq V' x.1 ((List.range m).map (A0q GR U y)) ∧ ∃ b,x.1 = some ⟨b,0,none⟩ ∧ V.heap.size ≤ b) V):=fun V hg hT=>by
 subst hm
 rw [List.take_length,← hy] at hyo
 obtain ⟨ba,ca,ea,-,-⟩:=A0L hd (by omega)
 obtain ⟨bv,cv,ev,-,hcv⟩:=A0L hyo (by omega)
 obtain ⟨va1,va2⟩:=va
 obtain ⟨vy1,vy2⟩:=vy
 simp only [Value.slice.injEq] at ea ev
 obtain ⟨rfl,-,rfl⟩:=ea
 obtain ⟨rfl,-,rfl⟩:=ev
 have hL:=B0c hd (R:=fun i=>U.map fun j=>gq (B8 GR (nx U i)) j) (fun i hi=>by simp) (fun i hi=>by
  obtain ⟨A,c,e,-,-,hL,-⟩:=M3 (hr i hi)
  have e1:=congrArg (fun v=>match v with | Value.slice a _ _=>a | _=>none) e
  simp only at e1
  rw [e1]
  exact hL)
 have hY : Lq W (some ⟨bv,0,none⟩) y:=by
  obtain ⟨A,c,e,-,-,hL,-⟩:=M3 hyo
  cases e
  exact hL
 have hmp:=B0X GR U P
 have hyl : y.length = U.length:=by rw [hy];simp
 have hpw : s * 10 ^ (U.length + 1) ≤ s * 10 ^ (n + 1):=Nat.mul_le_mul_left _ (Nat.pow_le_pow_right (by omega) (by omega))
 have nxl : ∀ k,k < U.length → nx U k < n:=fun k hk=>hU _ (A00 hk)
 have hl1 : ((List.range U.length).map fun i=>(((P i).1,(P i).2,U.map fun j=>gq (B8 GR (nx U i)) j) : Rq)).length = U.length:=by simp
 have hl2 : ∀ r ∈ ((List.range U.length).map fun i=>(((P i).1,(P i).2,U.map fun j=>gq (B8 GR (nx U i)) j) : Rq)),r.2.2.length = U.length:=fun r hr=>by
  obtain ⟨i,hi,rfl⟩:=List.mem_map.1 hr
  simp
 have hl3 : ∀ r ∈ ((List.range U.length).map fun i=>(((P i).1,(P i).2,U.map fun j=>gq (B8 GR (nx U i)) j) : Rq)),U.length ≤ r.2.1:=fun r hr2=>by
  obtain ⟨i,hi,rfl⟩:=List.mem_map.1 hr2
  obtain ⟨A,c,e,hc,-,-,-⟩:=M3 (hr i (List.mem_range.1 hi))
  have e1:=congrArg (fun v=>match v with | Value.slice _ _ c=>c | _=>0) e
  simp only at e1
  simp only
  omega
 generalize ((List.range U.length).map fun i=>(((P i).1,(P i).2,U.map fun j=>gq (B8 GR (nx U i)) j) : Rq)) = rs0 at hL hmp hl1 hl2 hl3
 have h:=B4T (some ⟨ba,0,none⟩) bv 0 rs0 y U.length va2 vy2 hl1 hm1 (by omega) hl2 hl3 hyl hcv s hs1 (fun i hi j hj=>by rw [hmp,A8N hi hj];exact hG _ (nxl i hi) _ (nxl j hj)) (fun i hi=>by rw [hy,A5a hi];exact hyz i hi) (by omega) (by rw [hmp];exact hok hm1) V (hL.grow hg) (hY.grow hg) hT
 rw [hmp] at h
 exact h
theorem B36 {X : List (List Rat)} {y : List Rat} {m s : Nat} (hX : ∀ i,i < m → ∀ j,j < m → qs (gq (B8 X i) j) ≤ s) (hl : ∀ i,i < m → (B8 X i).length = m) (hy : ∀ i,i < m → qs (gq y i) ≤ s) : szM (H9 (aug X y m)) m (m + 1) s:=fun i hi j hj=>by
 have e1 : B8 (aug X y m) i = B8 X i ++ [gq y i]:=A4c hi
 show qs (gq (B8 (aug X y m) i) j) ≤ s
 rw [e1]
 have hl2:=hl i hi
 rcases Nat.lt_or_ge j m with h1 | h1
 ·have : gq (B8 X i ++ [gq y i]) j = gq (B8 X i) j:=by
   show ((B8 X i ++ [gq y i])[j]?).getD 0 = _
   rw [List.getElem?_append_left (by omega)]
   rfl
  rw [this]
  exact hX i hi j h1
 ·have h2 : j = (B8 X i).length:=by omega
  have : gq (B8 X i ++ [gq y i]) j = gq y i:=by
   show ((B8 X i ++ [gq y i])[j]?).getD 0 = _
   rw [h2,List.getElem?_append_right (Nat.le_refl _)]
   simp
  rw [this]
  exact hy i hi
theorem A6z {GR : List (List Rat)} {U : List Nat} {y : List Rat} {n s : Nat} (hU : ∀ x ∈ U,x < n) (hmn : U.length ≤ n) (hG : ∀ i,i < n → ∀ j,j < n → qs (gq (B8 GR i) j) ≤ s) (hs1 : 1 ≤ s) (hy : ∀ k,k < U.length → qs (gq y k) ≤ s) : ∀ k,k < U.length → qs (A0q GR U y k) ≤ s * 10 ^ (n + 1):=fun k hk=>by
 have h1:=A48 (s:=(H9 (aug (X5 GR U) y U.length),[])) (B36 (X:=X5 GR U) (y:=y) (m:=U.length) (s:=s) (fun i hi j hj=>by rw [A8N hi hj];exact hG _ (hU _ (A00 hi)) _ (hU _ (A00 hj))) (fun i hi=>by
  unfold B8 X5
  rw [List.getElem?_map,List.getElem?_eq_getElem hi]
  simp) hy) hs1 (U.length + 1) (Nat.le_refl _)
 exact Nat.le_trans (h1 k hk U.length (Nat.lt_succ_self _)) (Nat.mul_le_mul_left _ (Nat.pow_le_pow_right (by omega) (by omega)))
theorem B4E {l m : List Rat} {n : Nat} (h1 : l.length = n) (h2 : m.length = n) (h : ∀ i,i < n → gq l i = gq m i) : l = m:=by
 apply List.ext_getElem (by omega)
 intro i hi hj
 have := h i (by omega)
 unfold gq at this
 rw [List.getElem?_eq_getElem hi,List.getElem?_eq_getElem hj] at this
 exact this
end Go.Proofs.YtgpglgbcobeogaaGreatDoor
