/- Contracts and laws. -/
import Derived.Test.YtlkniebmjdoopaaGreatDoorK22
set_option linter.unusedSimpArgs false
set_option linter.unusedVariables false
set_option maxHeartbeats 1000000
set_option maxRecDepth 100000
namespace Go.Proofs.YtlkniebmjdoopaaGreatDoor
open Go.RowKit
def W32 : Nat:=4294967296
theorem D9 : 2 ≤ W32:=by unfold W32;omega
theorem E0 : 0 < W32:=by unfold W32;omega
def ln (a : Nat) : Nat:=(A7 W32 a).length
theorem A5W : ln 0 = 0:=rfl
theorem A5n {a : Nat} : ln a = 0 ↔ a = 0:=by
 constructor
 ·intro h
  have h1:=D5 D9 a
  rw [List.eq_nil_of_length_eq_zero h] at h1
  exact h1.symm
 ·rintro rfl;rfl
theorem A0s {a : Nat} : 0 < ln a ↔ a ≠ 0:=by have := @A5n a;omega
def Lim (u : World) (A : Option Addr) (l : List Nat) : Prop :=
 l ≠ [] → ∃ b off cs fr,A = some ⟨b,off,none⟩ ∧ u.heap[b]? = some (.cells cs 176 fr) ∧ ∀ i x,l[i]? = some x → cs[off + i]? = some (.int .u32 (x : Nat))
theorem Lim.nil (u : World) (A : Option Addr) : Lim u A []:=fun h=>absurd rfl h
theorem Lim.grow {u u' : World} {A : Option Addr} {l : List Nat} (h : Lim u A l) (hg : A3 u u') : Lim u' A l:=fun hn=>by
 obtain ⟨b,off,cs,fr,e,hb,hc⟩:=h hn
 exact ⟨b,off,cs,fr,e,(hg.block b (Q8 hb)).trans hb,hc⟩
theorem Lim.take {u : World} {A : Option Addr} {l : List Nat} (h : Lim u A l) (n : Nat) : Lim u A (l.take n):=fun hn=>by
 obtain ⟨b,off,cs,fr,e,hb,hc⟩:=h (fun h0=>hn (by rw [h0];simp))
 refine ⟨b,off,cs,fr,e,hb,fun i x hi=>hc i x ?_⟩
 rw [List.getElem?_take] at hi
 split at hi
 ·exact hi
 ·cases hi
theorem Lim.cell {u : World} {A : Option Addr} {l : List Nat} (h : Lim u A l) {i : Nat} (hi : i < l.length) : ∃ b off,A = some ⟨b,off,none⟩ ∧ u.cell? ⟨b,off + i,none⟩ = some (.int .u32 (dg l i : Nat)):=by
 obtain ⟨b,off,cs,fr,e,hb,hc⟩:=h (fun h0=>by rw [h0] at hi;cases hi)
 refine ⟨b,off,e,?_⟩
 rw [D3 hi,← hc i _ (List.getElem?_eq_getElem hi)]
 exact cell_of_row u b (off + i) cs 176 fr hb
theorem Lim.put {u u' : World} {A : Option Addr} {l : List Nat} (h : Lim u A l) {bl : List (Nat × TypeId × Array Value)} (hB : Bx u bl) (k : Nat) {b : Nat} {t : TypeId} {cs : Array Value} (hk : bl[k]? = some (b,t,cs)) (ht : t ≠ 176) (i : Nat) (vs : List Value) (hu : E9 u b i vs = u') : Lim u' A l:=fun hn=>by
 obtain ⟨b',off,cs',fr,e,hb,hc⟩:=h hn
 refine ⟨b',off,cs',fr,e,?_,hc⟩
 have hbk : Blk u b t cs:=hB (b,t,cs) (List.mem_of_getElem? hk)
 have hne : b' ≠ b:=fun e=>by
  subst e
  have := hbk.symm.trans hb
  injection this with this
  injection this with _ h2 _
  exact ht h2
 clear hbk hB hk hc h
 subst hu
 induction vs generalizing u i with
 | nil=>exact hb
 | cons v vs ih=>exact ih _ ((Below.heap_setCell u ⟨b,i,none⟩ v b' hne).trans hb)
theorem A1I (A : Option Addr) (l : List Nat) (c : Nat) (w : World) (h : Lim w A l) (hc : l.length ≤ c) (hm : c ≤ 9223372036854775807) :
  Calls Tryz.prog 142 #[.slice A l.length c] w fun e w'=>e = .returned (.slice A (C6 l).length c) ∧ A3 w w':=by
 have H:=Lib.hid h
 clear h
 obtain ⟨n,hn⟩ : ∃ n,n = l.length:=⟨_,rfl⟩
 rw [← hn]
 rw [← hn] at hc
 have Hn:=Lib.hid hn
 clear hn
 go_enter Tryz.func142,Tryz.ntmps142
 go_wp2
 go_loop [3] (fun s=>∃ k : Nat,k ≤ n ∧ s = .int .i64 k ∧ C6 (l.take k) = C6 l) (fun s=>(intOf s).toNat)
 case atStart=>exact ⟨n,Nat.le_refl _,rfl,by rw [List.take_of_length_le (by rw [Hn.out];exact Nat.le_refl _)]⟩
 case round =>
  obtain ⟨k,hk,rfl,ht⟩:=hrel
  have Ht:=Lib.hid ht
  clear ht
  rcases Nat.eq_zero_or_pos k with rfl | hpos
  ·go_wp2
   go_ret
   refine ⟨?_,A3.refl _⟩
   have : C6 l = []:=by rw [← Ht.out];rfl
   rw [this]
   rfl
  ·have hkl : k - 1 < l.length:=by rw [← Hn.out];omega
   obtain ⟨b,off,rfl,hcell⟩:=H.out.cell hkl
   have hsn : l.take k = l.take (k - 1) ++ [dg l (k - 1)]:=by
    have := List.take_succ_eq_append_getElem hkl
    rw [show k - 1 + 1 = k by omega] at this
    rw [D3 hkl]
    exact this
   have Hsn:=Lib.hid hsn
   clear hsn
   obtain ⟨x,hx⟩ : ∃ x,x = dg l (k - 1):=⟨_,rfl⟩
   rw [← hx] at hcell
   have Hx:=Lib.hid hx
   clear hx
   have hidx : (0 : Int) ≤ (k : Int) - 1:=by omega
   by_cases h0 : x = 0
   ·subst h0
    go_wp2
    go_round
    case rel=>exact ⟨k - 1,by omega,by go_num,by rw [← Ht.out,Hsn.out,← Hx.out,A6b]⟩
    case measure=>simp [intOf];omega
   ·have hb : ((x : Int) == 0) = false:=by simpa using h0
    go_wp2
    go_ret
    refine ⟨?_,A3.refl _⟩
    have : C6 l = l.take k:=by rw [← Ht.out,Hsn.out,A4j _ (by rw [← Hx.out];exact h0)]
    rw [this,List.length_take,Nat.min_eq_left (by omega)]
    rfl
abbrev Ax:=Option Addr × Nat
def Rn (u : World) (x : Ax) (a : Nat) : Prop:=Lim u x.1 (A7 W32 a) ∧ ln a ≤ x.2 ∧ x.2 ≤ 9223372036854775807 ∧ ln a ≤ 1099511627776
theorem Rn.grow {u u' : World} {x : Ax} {a : Nat} (h : Rn u x a) (hg : A3 u u') : Rn u' x a:=⟨h.1.grow hg,h.2⟩
theorem Rn.put {u u' : World} {x : Ax} {a : Nat} (h : Rn u x a) {bl : List (Nat × TypeId × Array Value)} (hB : Bx u bl) (k : Nat) {b : Nat} {t : TypeId} {cs : Array Value} (hk : bl[k]? = some (b,t,cs)) (ht : t ≠ 176) (i : Nat) (vs : List Value) (hu : E9 u b i vs = u') : Rn u' x a:=⟨h.1.put hB k hk ht i vs hu,h.2⟩
abbrev nvV (x : Ax) (a : Nat) : Value:=.slice x.1 (ln a) x.2
abbrev riV (x : Ax) (z : Int) : Value:=.agg #[.bool (D1 z),.slice x.1 (ln z.natAbs) x.2]
abbrev rqV (x y : Ax) (q : Rat) : Value:=.agg #[.bool (D1 q.num),.slice x.1 (ln q.num.natAbs) x.2,.slice y.1 (ln q.den) y.2]
structure Rp where
 X : Type
 f : X → Value
 T : X → World → Prop
 mono : ∀ x w w',A3 w w' → T x w → T x w'
def P4 (a : Nat) : Rp:=⟨Ax,fun x=>nvV x a,fun x v=>Rn v x a,fun _ _ _ hg h=>h.grow hg⟩
def Y5 (z : Int) : Rp:=⟨Ax,fun x=>riV x z,fun x v=>Rn v x z.natAbs,fun _ _ _ hg h=>h.grow hg⟩
def L6 (q : Rat) : Rp:=⟨Ax × Ax,fun x=>rqV x.1 x.2 q,fun x v=>Rn v x.1 q.num.natAbs ∧ Rn v x.2 q.den,fun _ _ _ hg h=>⟨h.1.grow hg,h.2.grow hg⟩⟩
def nnR (a b : Nat) : Rp:=⟨Ax × Ax,fun x=>.tuple #[nvV x.1 a,nvV x.2 b],fun x v=>Rn v x.1 a ∧ Rn v x.2 b,fun _ _ _ hg h=>⟨h.1.grow hg,h.2.grow hg⟩⟩
def Ret (R : Rp) (w : World) (e : Ending) (w' : World) : Prop:=∃ x,e = .returned (R.f x) ∧ R.T x w' ∧ A3 w w'
theorem gr {P : Program} {ops : Array Oper} {L : Act → World → Prop} {o : Oper} {r : List (Nat × Oper)} {B : Nat} {tk : List Nat} {a : Act} {F : World → Prop} (R : Rp) (hw : Region.wanted o (yielded ops a.tmps) = true)
  (h : ∀ w,F w → ∀ N : Value → World → Prop,(∀ x w',R.T x w' → A3 w w' → N (R.f x) w') → Move P o a w N) (hr : ∀ x,OKs P ops L B r tk (a.put o.dst (R.f x)) (fun w=>F w ∧ R.T x w)) : OKs P ops L B ((1,o) :: r) tk a F :=
 gx R.X R.f R.T R.mono hw h hr
theorem grd {P : Program} {ops : Array Oper} {L : Act → World → Prop} {o : Oper} {r : List (Nat × Oper)} {B : Nat} {tk : List Nat} {a : Act} {F : World → Prop} (R : Rp) {a' : R.X → Act} {g : FuncId} {args : Array Value} (hr : ∀ x,OKs P ops L B r tk (a' x) (fun w=>F w ∧ R.T x w))
  (hw : Region.wanted o (yielded ops a.tmps) = true:=by exact rfl) (hs : ∀ w (N : Value → World → Prop),(Calls P g args w fun e w''=>∃ u,e = .returned u ∧ N u w'') → Move P o a w N:=by (intro w N h;go_simp <;> with_reducible exact h))
  (hp : ∀ x,a.put o.dst (R.f x) = a' x:=by (intro x;simp only [P4,Y5,L6,nnR,Act.put,List.setIfInBounds_toArray,List.set_cons_succ,List.set_cons_zero];exact rfl)) (C : ∀ w,F w → Calls P g args w (Ret R w)) : OKs P ops L B ((1,o) :: r) tk a F :=
 gxd R.f R.T R.mono hr hw hs hp C
theorem B1m (w : World) (o : Obj) : (w.alloc o).heap[w.heap.size]? = some o:=by
 show (w.heap.push _)[w.heap.size]? = _
 simp
theorem B6p (w : World) (l : List Nat) : Lim (w.alloc (.cells (l.map fun x=>Value.int .u32 (x : Nat)).toArray 176)) (some ⟨w.heap.size,0,none⟩) l:=fun _ =>
 ⟨w.heap.size,0,(l.map fun x=>Value.int .u32 (x : Nat)).toArray,(0,0),rfl,B1m w _,fun i x hi=>by simp [hi]⟩
theorem A4U {u : World} {A : Option Addr} {l : List Nat} {c : Nat} {a : Nat} (h : Lim u A l) (hd : Dig W32 l) (hv : val W32 l = a) (hc : l.length ≤ c) (hm : c ≤ 9223372036854775807) (hl : l.length ≤ 1099511627776) : Rn u (A,c) a ∧ (C6 l).length = ln a:=by
 have e : C6 l = A7 W32 a:=by rw [← hv];exact A6A D9 hd
 have h1 : ln a ≤ l.length:=by
  unfold ln
  rw [← e]
  exact A1w l
 refine ⟨⟨?_,Nat.le_trans h1 hc,hm,Nat.le_trans h1 hl⟩,by rw [e];rfl⟩
 rw [← e,A1g];exact h.take _
theorem A2B {u : World} {A : Option Addr} {l : List Nat} {c : Nat} {a : Nat} (h : Lim u A l) (hd : Dig W32 l) (hv : val W32 l = a) (hc : l.length ≤ c) (hm : c ≤ 1099511627776) : Rn u (A,c) a ∧ (C6 l).length = ln a :=
 A4U h hd hv hc (by omega) (by omega)
theorem A3i (n : Nat) (hn : n < W64) (w : World) : Calls Tryz.prog 92 #[.int .u64 n] w (Ret (P4 n) w):=by
 have h1 : n % 4294967296 < 4294967296:=Nat.mod_lt _ (by omega)
 have h2 : n / 4294967296 < 4294967296:=by unfold W64 at hn;omega
 have htr : Calls Tryz.prog 142 #[.slice (some ⟨w.heap.size,0,none⟩) 2 2] (w.alloc (.cells #[.int .u32 ((n : Int) % 4294967296),.int .u32 ((n : Int) / 4294967296)] 176)) fun e w'=>e = .returned (.slice (some ⟨w.heap.size,0,none⟩) (ln n) 2) ∧ Rn w' (some ⟨w.heap.size,0,none⟩,2) n ∧ A3 w w':=by
  have hl:=B6p w [n % 4294967296,n / 4294967296]
  have e1 : ((n % 4294967296 : Nat) : Int) = (n : Int) % 4294967296:=by omega
  have e2 : ((n / 4294967296 : Nat) : Int) = (n : Int) / 4294967296:=by omega
  simp only [List.map_cons,List.map_nil,e1,e2] at hl
  refine (A1I _ _ 2 _ hl (Nat.le_refl _) (by omega)).mono fun e w' ⟨he,hg⟩=>?_
  obtain ⟨hr,hlen⟩:=A2B (a:=n) (c:=2) (hl.grow hg) (fun x hx=>by
   simp only [List.mem_cons,List.not_mem_nil,or_false] at hx
   unfold W32
   omega) (by simp [val,W32];omega) (Nat.le_refl _) (by omega)
  rw [hlen] at he
  exact ⟨he,hr,(A3.alloc _ _).trans hg⟩
 have Htr:=Lib.hid htr
 clear htr
 go_enter Tryz.func92,Tryz.ntmps92
 go_wp2_with (go_at_call 142;((with_reducible refine (Htr.out).mono ?_);rintro e w1 ⟨rfl,hr,hg⟩))
 go_ret
 exact ⟨(some ⟨w.heap.size,0,none⟩,2),rfl,hr,hg⟩
theorem A52 {a b : Nat} (h : ln a < ln b) : a < b:=by
 have := A3r D9 (F2 D9 a) (A1A D9 b) (F2 D9 b) h
 rwa [D5 D9,D5 D9] at this
theorem A7C {a b : Nat} (h : a ≤ b) : ln a ≤ ln b:=by
 rcases Nat.lt_or_ge (ln b) (ln a) with h' | h'
 ·have := A52 h';omega
 ·exact h'
theorem B44 (x y : Ax) (a b : Nat) (w : World) (hx : Rn w x a) (hy : Rn w y b) (hl : ln a = ln b) :
  Calls Tryz.prog 87 #[nvV x a,nvV y b] w fun e w'=>e = .returned (.int .i64 (E6 a b)) ∧ A3 w w':=by
 obtain ⟨A1,c1⟩:=x
 obtain ⟨A2,c2⟩:=y
 have Hx:=Lib.hid hx.1
 have Hy:=Lib.hid hy.1
 have hm:=hx.2
 simp only at hm
 obtain ⟨n,hn⟩ : ∃ n,n = ln a:=⟨_,rfl⟩
 rw [← hn] at hm
 show Calls Tryz.prog 87 #[.slice A1 (ln a) c1,.slice A2 (ln b) c2] w _
 rw [← hl,← hn]
 have Hn1:=Lib.hid hn
 have Hn2:=Lib.hid (hn.trans hl)
 clear hx hy hl hn
 go_enter Tryz.func87,Tryz.ntmps87
 go_wp2_with fail
 go_loopw [5] (fun s wr=>∃ k : Nat,k ≤ n ∧ s = .int .i64 ((k : Int) - 1) ∧ (A7 W32 a).drop k = (A7 W32 b).drop k ∧ A3 w wr) (fun s _=>(intOf s + 1).toNat)
 case atStart=>exact ⟨n,Nat.le_refl _,rfl,by rw [List.drop_of_length_le (Nat.le_of_eq Hn1.out.symm),List.drop_of_length_le (Nat.le_of_eq Hn2.out.symm)],A3.refl _⟩
 case round =>
  obtain ⟨k,hk,rfl,hd,hG⟩:=hrel
  have Hd:=Lib.hid hd
  clear hd
  rcases Nat.eq_zero_or_pos k with rfl | hpos
  ·have hc : decide ((0 : Int) ≤ ((0 : Nat) : Int) - 1) = false:=by decide
   go_wp2_with fail
   go_ret
   refine ⟨I5 ?_,hG⟩
   have := Hd.out
   simp only [List.drop_zero] at this
   rw [A0v (B6Y D9 this)]
  ·obtain ⟨j,rfl⟩ : ∃ j,k = j + 1:=⟨k - 1,by omega⟩
   have e1 : ((j + 1 : Nat) : Int) - 1 = (j : Nat):=by omega
   rw [e1]
   have hj1 : j < (A7 W32 a).length:=by have := Hn1.out;unfold ln at this;omega
   have hj2 : j < (A7 W32 b).length:=by have := Hn2.out;unfold ln at this;omega
   obtain ⟨b1,o1,rfl,hc1⟩:=(Hx.out.grow hG).cell hj1
   obtain ⟨b2,o2,rfl,hc2⟩:=(Hy.out.grow hG).cell hj2
   obtain ⟨p,hp⟩ : ∃ p,p = dg (A7 W32 a) j:=⟨_,rfl⟩
   obtain ⟨q,hq⟩ : ∃ q,q = dg (A7 W32 b) j:=⟨_,rfl⟩
   rw [← hp] at hc1
   rw [← hq] at hc2
   have Hp:=Lib.hid hp
   have Hq:=Lib.hid hq
   clear hp hq e1
   have hc0 : decide ((0 : Int) ≤ (j : Int)) = true:=by simp
   rcases Nat.lt_trichotomy p q with hlt | heq | hgt
   ·have hb1 : ((p : Int) != (q : Int)) = true:=by simp;omega
    have hb2 : decide ((p : Int) < (q : Int)) = true:=by simp;omega
    go_wp2_with fail
    go_quiet (fail)
    go_wp2_with fail
    go_quiet (fail)
    go_wp2_with fail
    go_ret
    refine ⟨I5 ?_,hG.trans ((O1 _ _).trans (O1 _ _))⟩
    have h1:=A1n (F2 D9 a) (Hn1.out.symm.trans Hn2.out) hj1 Hd.out (by rw [← Hp.out,← Hq.out];exact hlt)
    rw [D5 D9,D5 D9] at h1
    rw [O6 h1]
   ·subst heq
    go_wp2_with fail
    go_quiet (fail)
    go_wp2_with fail
    exact ⟨⟨j,by omega,rfl,by rw [A0Y hj1,A0Y hj2,Hd.out,← Hp.out,← Hq.out],hG.trans (O1 _ _)⟩,by simp [intOf]⟩
   ·have hb1 : ((p : Int) != (q : Int)) = true:=by simp;omega
    have hb2 : decide ((p : Int) < (q : Int)) = false:=by simp;omega
    go_wp2_with fail
    go_quiet (fail)
    go_wp2_with fail
    go_quiet (fail)
    go_wp2_with fail
    go_ret
    refine ⟨I5 ?_,hG.trans ((O1 _ _).trans (O1 _ _))⟩
    have h1:=A1n (F2 D9 b) (Hn2.out.symm.trans Hn1.out) hj2 Hd.out.symm (by rw [← Hp.out,← Hq.out];exact hgt)
    rw [D5 D9,D5 D9] at h1
    rw [W6 h1]
theorem B5S (x y : Ax) (a b : Nat) (w : World) (hl : ln a ≠ ln b) :
  Calls Tryz.prog 87 #[nvV x a,nvV y b] w fun e w'=>e = .returned (.int .i64 (E6 a b)) ∧ A3 w w':=by
 rcases Nat.lt_or_gt_of_ne hl with h | h
 ·rw [O6 (A52 h)]
  go_enter Tryz.func87,Tryz.ntmps87
  go_wp2_with fail
  go_ret
  exact ⟨rfl,A3.refl _⟩
 ·rw [W6 (A52 h)]
  have h' : ¬ ln a < ln b:=by omega
  go_enter Tryz.func87,Tryz.ntmps87
  go_wp2_with fail
  go_ret
  exact ⟨rfl,A3.refl _⟩
theorem A4X (x y : Ax) (a b : Nat) (w : World) (hx : Rn w x a) (hy : Rn w y b) :
  Calls Tryz.prog 87 #[nvV x a,nvV y b] w fun e w'=>e = .returned (.int .i64 (E6 a b)) ∧ A3 w w':=by
 by_cases hl : ln a = ln b
 ·exact B44 x y a b w hx hy hl
 ·exact B5S x y a b w hl
def D8 (l : List Nat) : Array Value:=(l.map fun x=>Value.int .u32 (x : Nat)).toArray
theorem A3s (l : List Nat) (i : Nat) : (D8 l)[i]? = (l[i]?).map fun x=>Value.int .u32 (x : Nat):=by
 unfold D8;simp
theorem A5y (l : List Nat) (i y : Nat) : (D8 l).setIfInBounds i (.int .u32 (y : Nat)) = D8 (l.set i y):=by
 unfold D8
 rw [List.setIfInBounds_toArray,List.map_set]
def O5 (u : World) (b : Nat) (l : List Nat) : Prop:=Blk u b 176 (D8 l)
theorem O5.grow {u u' : World} {b : Nat} {l : List Nat} (hg : A3 u u') (h : O5 u b l) : O5 u' b l:=Blk.grow hg h
theorem O5.cell {u : World} {b : Nat} {l : List Nat} (h : O5 u b l) {i : Nat} (hi : i < l.length) : u.cell? ⟨b,i,none⟩ = some (.int .u32 (dg l i : Nat)):=by
 rw [Blk.cell h,A3s,List.getElem?_eq_getElem hi,D3 hi]
 rfl
theorem O5.frozen {u : World} {b : Nat} {l : List Nat} (h : O5 u b l) (i : Nat) : u.frozen? ⟨b,i,none⟩ = false:=Blk.frozen h i
theorem O5.set {u : World} {b : Nat} {l : List Nat} (h : O5 u b l) (i y : Nat) : O5 (u.setCell ⟨b,i,none⟩ (.int .u32 (y : Nat))) b (l.set i y):=by
 have := Blk.set_ h i (.int .u32 (y : Nat))
 rw [A5y] at this
 exact this
theorem O5.lim {u : World} {b : Nat} {l : List Nat} (h : O5 u b l) : Lim u (some ⟨b,0,none⟩) l:=fun _ =>
 ⟨b,0,D8 l,(0,0),rfl,h,fun i x hi=>by rw [Nat.zero_add,A3s,hi];rfl⟩
theorem B5b : (Tryz.prog.info? 176).map (fun i=>(i.zero,i.size,i.bytes)) = some (some (.int .u32 0),1,4):=by kernel_rfl
theorem B6V (n : Nat) : madeCells (Value.int .u32 0).cells (n * 1) = D8 (List.replicate n 0):=by
 unfold D8 madeCells
 refine Array.ext (by simp) fun i h1 h2=>?_
 simp [Value.cells,Nat.mod_one]
theorem A31 (n : Nat) (hn : n ≤ 1099511627776) (x : Int) (hx : x = n) (W : World) : (Instr.makeSlice 62 (.int .i64 x) (.int .i64 x)).run Tryz.prog W =
  .ok (.slice (some ⟨W.heap.size,0,none⟩) n n) (W.alloc (.cells (D8 (List.replicate n 0)) 176)):=by
 obtain ⟨i0,hi0,hz0,hz1,hz2⟩:=info_parts B5b
 have hr:=run_make (P:=Tryz.prog) W 62 176 i0 (.int .u32 0) Tryz.underlying62 hi0 hz0 .i64 .i64 n n (by omega) (by omega) (by rw [hz2];omega) (by omega)
 rw [hx]
 rw [hr,hz1]
 simp only [Int.toNat_natCast]
 rw [B6V]
def A3N (W d : Nat) (l : List Nat) (k r : Nat) (zs : List Nat) : Prop :=
 zs.length = l.length ∧ Dig W zs ∧ r < d ∧ val W (zs.drop k) * d + r = val W (l.drop k)
theorem A3N.next {W d : Nat} {l : List Nat} {k r : Nat} {zs : List Nat} (h : A3N W d l (k + 1) r zs) (hk : k < l.length) (hd : Dig W l) (hW : 0 < W) :
  A3N W d l k ((r * W + dg l k) % d) (zs.set k ((r * W + dg l k) / d)):=by
 obtain ⟨h1,h2,h4,h5⟩:=h
 have hk' : k < zs.length:=by rw [h1];exact hk
 have hx:=B9 hW hd k
 refine ⟨by rw [List.length_set,h1],M3 h2 _ (A2z h4 hx),Nat.mod_lt _ (by omega),?_⟩
 rw [A0Y (l:=zs.set k _) (by rw [List.length_set];exact hk'),A8B hk',A0Y hk,K3,K3,List.drop_set_of_lt (by omega),← h5]
 have e:=Nat.div_add_mod (r * W + dg l k) d
 generalize (r * W + dg l k) / d = q at *
 generalize (r * W + dg l k) % d = m at *
 generalize val W (zs.drop (k + 1)) = V at *
 grind
theorem B6f (x : Ax) (a d : Nat) (w : World) (hx : Rn w x a) (hd0 : 0 < d) (hdW : d < W32) :
  Calls Tryz.prog 177 #[nvV x a,.int .u32 d] w fun e w'=>∃ y : Ax,e = .returned (.tuple #[nvV y (a / d),.int .u32 (a % d : Nat)]) ∧ Rn w' y (a / d) ∧ A3 w w':=by
 obtain ⟨A,c⟩:=x
 obtain ⟨n,hn⟩ : ∃ n,n = ln a:=⟨_,rfl⟩
 have hm : n ≤ 1099511627776:=by rw [hn];exact hx.2.2.2
 show Calls Tryz.prog 177 #[.slice A (ln a) c,.int .u32 d] w _
 rw [← hn]
 have Hx:=Lib.hid hx.1
 have Hn:=Lib.hid hn
 have hmk:=A31 n hm (n : Int) rfl
 clear hx hn
 unfold W32 at hdW
 go_enter Tryz.func177,Tryz.ntmps177
 go_wp2_with fail
 clear hmk
 go_loopw [7,8] (fun r i wr=>∃ (k r' : Nat) (zs : List Nat),k ≤ n ∧ i = .int .i64 ((k : Int) - 1) ∧ r = .int .u64 r' ∧ A3N W32 d (A7 W32 a) k r' zs ∧ O5 wr w.heap.size zs ∧ A3 w wr) (fun _ i _=>(intOf i + 1).toNat)
 case atStart=>exact ⟨n,0,List.replicate n 0,Nat.le_refl _,rfl,rfl,⟨by rw [List.length_replicate];exact Hn.out,fun z hz=>(by rw [(List.mem_replicate.1 hz).2];exact E0),hd0,by rw [List.drop_of_length_le (by simp),List.drop_of_length_le (Nat.le_of_eq Hn.out.symm)];simp [val]⟩,Blk.new w 176 _,A3.alloc _ _⟩
 case round =>
  obtain ⟨k,r',zs,hk,rfl,rfl,hI,hR,hG⟩:=hrel
  have HI:=Lib.hid hI
  have HG:=Lib.hid hG
  have HR:=Lib.hid hR
  clear hI hG hR
  rcases Nat.eq_zero_or_pos k with rfl | hpos
  ·have hval : val W32 zs * d + r' = a:=by have := HI.out.2.2.2;rw [List.drop_zero,List.drop_zero,D5 D9] at this;exact this
   have hr:=HI.out.2.2.1
   have hres : a % d = r' ∧ a / d = val W32 zs:=by
    rw [← hval,Nat.mul_comm,Nat.mul_add_mod,Nat.mod_eq_of_lt hr,Nat.mul_add_div hd0,Nat.div_eq_of_lt hr]
    simp
   have hzl : zs.length = n:=by rw [HI.out.1];exact Hn.out.symm
   have htr : Calls Tryz.prog 142 #[.slice (some ⟨w.heap.size,0,none⟩) n n] wr fun e w'=>e = .returned (.slice (some ⟨w.heap.size,0,none⟩) (ln (a / d)) n) ∧ Rn w' (some ⟨w.heap.size,0,none⟩,n) (a / d) ∧ A3 w w':=by
    have h1:=A1I (some ⟨w.heap.size,0,none⟩) zs n wr HR.out.lim (Nat.le_of_eq hzl) (by omega)
    rw [hzl] at h1
    refine h1.mono fun e w' ⟨he,hg⟩=>?_
    obtain ⟨hr1,hlen⟩:=A2B (a:=a / d) (c:=n) (HR.out.lim.grow hg) HI.out.2.1 hres.2.symm (Nat.le_of_eq hzl) hm
    rw [hlen] at he
    exact ⟨he,hr1,HG.out.trans hg⟩
   have Htr:=Lib.hid htr
   have Hres:=Lib.hid hres
   clear hval hres hzl htr
   have hc : decide ((0 : Int) ≤ ((0 : Nat) : Int) - 1) = false:=by decide
   have hwr : ((r' : Int)) % 4294967296 = (r' : Int):=by omega
   go_wp2_with (go_at_call 142;((with_reducible refine (Htr.out).mono ?_);rintro e w1 ⟨rfl,hr1,hg⟩))
   go_ret2
   exact ⟨(some ⟨w.heap.size,0,none⟩,n),congrArg (fun z : Nat=>Ending.returned (.tuple #[.slice (some ⟨w.heap.size,0,none⟩) (ln (a / d)) n,.int .u32 (z : Nat)])) Hres.out.1.symm,hr1,hg⟩
  ·obtain ⟨j,rfl⟩ : ∃ j,k = j + 1:=⟨k - 1,by omega⟩
   have e1 : ((j + 1 : Nat) : Int) - 1 = (j : Nat):=by omega
   rw [e1]
   have hjl : j < (A7 W32 a).length:=by have := Hn.out;unfold ln at this;omega
   have hnx:=HI.out.next hjl (F2 D9 a) E0
   obtain ⟨b1,o1,rfl,hc1⟩:=(Hx.out.grow HG.out).cell hjl
   have hjz : j < zs.length:=by rw [HI.out.1];exact hjl
   have hc2:=HR.out.cell hjz
   have hf2:=HR.out.frozen j
   have hxl:=B9 E0 (F2 D9 a) j
   obtain ⟨p,hp⟩ : ∃ p,p = dg (A7 W32 a) j:=⟨_,rfl⟩
   rw [← hp] at hc1 hnx hxl
   have hr:=HI.out.2.2.1
   have Hp:=Lib.hid hp
   have Hnx:=Lib.hid hnx
   clear hp hnx e1
   have hc0 : decide ((0 : Int) ≤ (j : Int)) = true:=by simp
   unfold W32 at hxl
   obtain ⟨X,hX⟩ : ∃ X,X = r' * W32 + p:=⟨_,rfl⟩
   have hXl : X < 18446744073709551616:=by rw [hX];unfold W32;omega
   have hqW : X / d < 4294967296:=by rw [hX];exact A2z hr (by unfold W32;exact hxl)
   have hmW : X % d < d:=Nat.mod_lt _ hd0
   have hor : bits BinOp.or IntKind.u64 ((r' : Int) * 4294967296) (p : Int) = (X : Nat):=by
    have e2 : ((r' : Int) * 4294967296) = ((r' * 4294967296 : Nat) : Int):=by omega
    rw [e2,bits_or_u64_nat _ _ (by omega) (by omega),hX]
    unfold W32
    rw [A1z (s:=32) (by omega) (by omega)]
   have htm : ((X : Nat) : Int).tmod (d : Int) = ((X % d : Nat) : Int):=rfl
   have htd : ((X : Nat) : Int).tdiv (d : Int) = ((X / d : Nat) : Int):=rfl
   rw [← hX] at Hnx
   have HX:=Lib.hid hX
   obtain ⟨q,hq⟩ : ∃ q,q = X / d:=⟨_,rfl⟩
   obtain ⟨m,hm'⟩ : ∃ q,q = X % d:=⟨_,rfl⟩
   rw [← hq] at Hnx htd hqW
   rw [← hm'] at Hnx htm hmW
   clear hX hq hm'
   have hwq : ((q : Int)) % 4294967296 = (q : Int):=by omega
   go_wp2_with fail
   exact ⟨⟨j,m,zs.set j q,by omega,rfl,rfl,Hnx.out,HR.out.set j q,HG.out.setCell (p:=⟨w.heap.size,j,none⟩) (Nat.le_refl _) _⟩,by simp [intOf]⟩
theorem B5M {b : Nat} (h0 : b ≠ 0) (h : b < W32) : ln b = 1 ∧ A7 W32 b = [b]:=by
 have e : A7 W32 b = [b]:=by
  rw [A0H D9 h0,Nat.mod_eq_of_lt h,Nat.div_eq_of_lt h];rfl
 exact ⟨by unfold ln;rw [e];rfl,e⟩
theorem Rn.nil (u : World) : Rn u (none,0) 0:=⟨Lim.nil _ _,Nat.le_refl _,by omega,by decide⟩
theorem Ret.nn {a b : Nat} {w : World} {P : Program} {f : FuncId} {args : Array Value} {W : World} (h : Calls P f args W (Ret (nnR a b) w)) : Calls P f args W fun e w'=>∃ x y : Ax,e = .returned (.tuple #[.slice x.1 (ln a) x.2,.slice y.1 (ln b) y.2]) ∧ Rn w' x a ∧ Rn w' y b ∧ A3 w w' :=
 h.mono fun _ _ ⟨x,he,ht,hg⟩=>⟨x.1,x.2,he,ht.1,ht.2,hg⟩
theorem A6o (x y : Ax) (a b : Nat) (w : World) (hx : Rn w x a) (hy : Rn w y b) (hlt : a < b) : Calls Tryz.prog 141 #[nvV x a,nvV y b] w (Ret (nnR (a / b) (a % b)) w):=by
 have hcmp:=A4X x y a b w hx hy
 rw [O6 hlt] at hcmp
 have Hcmp:=Lib.hid hcmp
 have Hx:=Lib.hid hx
 clear hcmp hx hy
 rw [Nat.div_eq_of_lt hlt,Nat.mod_eq_of_lt hlt]
 go_enter Tryz.func141,Tryz.ntmps141
 go_wp2_with (go_at_call 87;((with_reducible refine (Hcmp.out).mono ?_);rintro e w1 ⟨rfl,hg⟩))
 go_ret2
 exact ⟨((none,0),x),rfl,⟨Rn.nil _,Hx.out.grow hg⟩,hg⟩
theorem B2d (x y : Ax) (a b : Nat) (w : World) (hx : Rn w x a) (hy : Rn w y b) (h0 : b ≠ 0) (hs : b < W32) : Calls Tryz.prog 141 #[nvV x a,nvV y b] w (Ret (nnR (a / b) (a % b)) w):=by
 by_cases hlt : a < b
 ·exact A6o x y a b w hx hy hlt
 ·have hcmp:=A4X x y a b w hx hy
  have hcz : decide (E6 a b < 0) = false:=by unfold E6;rw [if_neg hlt];split <;> rfl
  obtain ⟨hl1,hdg⟩:=B5M h0 hs
  obtain ⟨A2,c2⟩:=y
  have hcell:=hy.1.cell (i:=0) (by rw [hdg];simp)
  rw [hdg] at hcell
  obtain ⟨b2,o2,rfl,hc2⟩:=hcell
  have hc2' : ∀ W,A3 w W → W.cell? ⟨b2,o2,none⟩ = some (.int .u32 (b : Nat)):=fun W hg=>by
   have h1:=(hy.1.grow hg).cell (i:=0) (by rw [hdg];simp)
   rw [hdg] at h1
   obtain ⟨b3,o3,e3,h3⟩:=h1
   injection e3 with e3
   injection e3 with e4 e5
   subst e4;subst e5
   exact h3
  have hone : ∀ W,A3 w W → Calls Tryz.prog 177 #[nvV x a,.int .u32 b] W fun e w'=>∃ y : Ax,e = .returned (.tuple #[nvV y (a / b),.int .u32 (a % b : Nat)]) ∧ Rn w' y (a / b) ∧ A3 W w':=fun W hg=>B6f x a b W (hx.grow hg) (Nat.pos_of_ne_zero h0) hs
  have hmod : a % b < W64:=Nat.lt_of_lt_of_le (Nat.mod_lt _ (Nat.pos_of_ne_zero h0)) (Nat.le_of_lt (Nat.lt_of_lt_of_le hs (by unfold W32 W64;omega)))
  have hof:=A3i (a % b) hmod
  obtain ⟨m,hme⟩ : ∃ m,m = a % b:=⟨_,rfl⟩
  rw [← hme] at hone hof hmod ⊢
  unfold W64 at hmod
  show Calls Tryz.prog 141 #[nvV x a,.slice (some ⟨b2,o2,none⟩) (ln b) c2] w _
  rw [hl1]
  have hcmp' : Calls Tryz.prog 87 #[nvV x a,.slice (some ⟨b2,o2,none⟩) 1 c2] w fun e w'=>e = .returned (.int .i64 (E6 a b)) ∧ A3 w w':=by
   rw [← hl1];exact hcmp
  have Hcmp:=Lib.hid hcmp'
  have Hone:=Lib.hid hone
  have Hof:=Lib.hid hof
  have Hc2:=Lib.hid hc2'
  clear hcmp hcmp' hone hof hc2' hc2 hy hx hdg hl1 hs hme
  go_enter Tryz.func141,Tryz.ntmps141
  go_wp2_with (first
   | (go_at_call 87;((with_reducible refine (Hcmp.out).mono ?_);rintro e w1 ⟨rfl,hg1⟩;have hcc:=Hc2.out w1 hg1))
   | (go_at_call 177;((with_reducible refine (Hone.out w1 hg1).mono ?_);rintro e w2 ⟨y2,rfl,hy2,hg2⟩))
   | (go_at_call 92;((with_reducible refine (Hof.out _).mono ?_);rintro e w3 ⟨y3,rfl,hy3,hg3⟩)))
  go_ret2
  exact ⟨(y2,y3),rfl,⟨hy2.grow hg3,hy3⟩,hg1.trans (hg2.trans hg3)⟩
theorem A2N (a : Nat) : ln a ≤ bl a / 32 + 1:=by
 refine A3A D9 (Nat.lt_of_lt_of_le (V7 a) ?_)
 rw [show W32 = 2 ^ 32 from rfl,← Nat.pow_mul]
 exact Nat.pow_le_pow_right (by omega) (by omega)
theorem dgl (a k : Nat) : dg (A7 W32 a) k < 4294967296:=B9 E0 (F2 D9 a) k
theorem A7b (x : Ax) (a i : Nat) (w : World) (hx : Rn w x a) : Calls Tryz.prog 199 #[nvV x a,.int .i64 i] w fun e w'=>e = .returned (.int .u64 (dg (A7 W32 a) i : Nat)) ∧ A3 w w':=by
 obtain ⟨A,c⟩:=x
 obtain ⟨n,hn⟩ : ∃ n,n = ln a:=⟨_,rfl⟩
 show Calls Tryz.prog 199 #[.slice A (ln a) c,.int .i64 i] w _
 rw [← hn]
 rcases Nat.lt_or_ge i n with h | h
 ·obtain ⟨b,off,rfl,hc⟩:=hx.1.cell (i:=i) (by rw [hn] at h;exact h)
  have hl:=dgl a i
  generalize dg (A7 W32 a) i = p at *
  have hp : ((p : Int)) % 18446744073709551616 = (p : Int):=by omega
  clear hx hn
  go_enter Tryz.func199,Tryz.ntmps199
  go_wp2_with fail
  go_ret
  exact ⟨rfl,A3.refl _⟩
 ·rw [X1 (l:=A7 W32 a) (by rw [hn] at h;exact h)]
  have h' : ¬ i < n:=by omega
  clear hx hn
  go_enter Tryz.func199,Tryz.ntmps199
  go_wp2_with fail
  go_ret
  exact ⟨rfl,A3.refl _⟩
def AdI (W N : Nat) (la lb : List Nat) (k c : Nat) (zs : List Nat) : Prop:=zs.length = N ∧ Dig W zs ∧ c ≤ 1 ∧ val W (zs.take k) + c * W ^ k = val W (la.take k) + val W (lb.take k)
theorem AdI.start {W : Nat} (N : Nat) (la lb : List Nat) (hW : 0 < W) : AdI W N la lb 0 0 (List.replicate N 0) :=
 ⟨by simp,fun z hz=>by rw [(List.mem_replicate.1 hz).2];exact hW,by omega,by simp [val]⟩
theorem AdI.next {W N : Nat} {la lb zs : List Nat} {k c : Nat} (h : AdI W N la lb k c zs) (hW : 2 ≤ W) (ha : Dig W la) (hb : Dig W lb) (hk : k < N) :
  AdI W N la lb (k + 1) ((dg la k + dg lb k + c) / W) (zs.set k ((dg la k + dg lb k + c) % W)):=by
 obtain ⟨h1,h2,h3,h4⟩:=h
 have e1:=B9 (by omega) ha k
 have e2:=B9 (by omega) hb k
 refine ⟨by rw [List.length_set];exact h1,M3 h2 _ (Nat.mod_lt _ (by omega)),?_,?_⟩
 ·have : (dg la k + dg lb k + c) / W < 2:=Nat.div_lt_of_lt_mul (by omega)
  omega
 ·rw [A5Q (by omega)]
  exact A9w (by rw [List.length_take];omega) h4
theorem AdI.done {W N : Nat} {la lb zs : List Nat} {c : Nat} (h : AdI W N la lb N c zs) (hW : 2 ≤ W) (ha : Dig W la) (hb : Dig W lb) (hla : la.length < N) (hlb : lb.length < N) : val W zs = val W la + val W lb:=by
 obtain ⟨h1,h2,h3,h4⟩:=h
 rw [List.take_of_length_le (by omega),List.take_of_length_le (by omega),List.take_of_length_le (by omega)] at h4
 have e1:=Nat.lt_of_lt_of_le (H5 ha) (Nat.pow_le_pow_right (by omega) (show la.length ≤ N - 1 by omega))
 have e2:=Nat.lt_of_lt_of_le (H5 hb) (Nat.pow_le_pow_right (by omega) (show lb.length ≤ N - 1 by omega))
 have e3 : 2 * W ^ (N - 1) ≤ W ^ N:=by
  obtain ⟨m,rfl⟩ : ∃ m,N = m + 1:=⟨N - 1,by omega⟩
  rw [Nat.add_sub_cancel,Nat.pow_succ,Nat.mul_comm]
  exact Nat.mul_le_mul_left _ hW
 rcases Nat.eq_zero_or_pos c with rfl | hc
 ·omega
 ·obtain rfl : c = 1:=by omega
  omega
theorem B2j {w u : World} {b N a : Nat} {zs : List Nat} (hG : A3 w u) (hR : Blk u b 176 (D8 zs)) (hl : zs.length = N) (hd : Dig W32 zs) (hv : val W32 zs = a) (hN : N ≤ 1099511627776) :
  ∀ W,A3 u W → Calls Tryz.prog 142 #[.slice (some ⟨b,0,none⟩) N N] W fun e w'=>e = .returned (.slice (some ⟨b,0,none⟩) (ln a) N) ∧ A3 W w':=fun W hg=>by
 have hL : Lim W (some ⟨b,0,none⟩) zs:=(O5.lim hR).grow hg
 have h1:=A1I (some ⟨b,0,none⟩) zs N W hL (Nat.le_of_eq hl) (by omega)
 obtain ⟨-,hlen⟩:=A2B (a:=a) (c:=N) hL hd hv (Nat.le_of_eq hl) hN
 rw [hl,hlen] at h1
 exact h1
theorem B3x {u : World} {b N a : Nat} {zs : List Nat} (hR : Blk u b 176 (D8 zs)) (hl : zs.length = N) (hd : Dig W32 zs) (hv : val W32 zs = a) (hN : N ≤ 1099511627776) : Rn u (some ⟨b,0,none⟩,N) a :=
 (A2B (a:=a) (c:=N) (O5.lim hR) hd hv (Nat.le_of_eq hl) hN).1
def SdI (W N : Nat) (la lb : List Nat) (k br : Nat) (zs : List Nat) : Prop:=zs.length = N ∧ Dig W zs ∧ br ≤ 1 ∧ val W (zs.take k) + val W (lb.take k) = val W (la.take k) + br * W ^ k
theorem SdI.start {W : Nat} (N : Nat) (la lb : List Nat) (hW : 0 < W) : SdI W N la lb 0 0 (List.replicate N 0) :=
 ⟨by simp,fun z hz=>by rw [(List.mem_replicate.1 hz).2];exact hW,by omega,by simp [val]⟩
theorem SdI.next {W N : Nat} {la lb zs : List Nat} {k br : Nat} (h : SdI W N la lb k br zs) (hW : 0 < W) (ha : Dig W la) (hb : Dig W lb) (hk : k < N) :
  SdI W N la lb (k + 1) (if dg la k < dg lb k + br then 1 else 0) (zs.set k ((dg la k + W - dg lb k - br) % W)):=by
 obtain ⟨h1,h2,h3,h4⟩:=h
 refine ⟨by rw [List.length_set];exact h1,M3 h2 _ (Nat.mod_lt _ hW),by split <;> omega,?_⟩
 rw [A5Q (by omega)]
 exact A53 h3 (B9 hW ha k) (B9 hW hb k) (by rw [List.length_take];omega) h4
theorem SdI.done {W N : Nat} {la lb zs : List Nat} {br : Nat} (h : SdI W N la lb N br zs) (hla : la.length = N) (hlb : lb.length ≤ N) (hle : val W lb ≤ val W la) : val W zs = val W la - val W lb:=by
 obtain ⟨h1,h2,h3,h4⟩:=h
 rw [List.take_of_length_le (by omega),List.take_of_length_le (by omega),List.take_of_length_le (by omega)] at h4
 have h6:=H5 h2
 rw [h1] at h6
 rcases Nat.eq_zero_or_pos br with rfl | hc
 ·omega
 ·obtain rfl : br = 1:=by omega
  omega
def MlI (W N : Nat) (l1 l2 : List Nat) (i : Nat) (zs : List Nat) : Prop :=
 zs.length = N ∧ Dig W zs ∧ val W zs = val W (l1.take i) * val W l2 ∧ ∀ t,i + l2.length ≤ t → dg zs t = 0
def MlJ (W N : Nat) (l1 l2 : List Nat) (i j c : Nat) (zs : List Nat) : Prop :=
 zs.length = N ∧ Dig W zs ∧ c < W ∧ val W zs + c * W ^ (i + j) = val W (l1.take i) * val W l2 + W ^ i * (dg l1 i * val W (l2.take j)) ∧ ∀ t,i + l2.length ≤ t → dg zs t = 0
theorem MlI.start {W : Nat} (N : Nat) (l1 l2 : List Nat) (hW : 0 < W) : MlI W N l1 l2 0 (List.replicate N 0) :=
 ⟨by simp,fun z hz=>by rw [(List.mem_replicate.1 hz).2];exact hW,by simp [A0c,val],fun t _=>by unfold dg;rw [List.getElem?_replicate];split <;> rfl⟩
theorem MlI.inner {W N : Nat} {l1 l2 : List Nat} {i : Nat} {zs : List Nat} (h : MlI W N l1 l2 i zs) (hW : 0 < W) : MlJ W N l1 l2 i 0 0 zs :=
 ⟨h.1,h.2.1,hW,by rw [h.2.2.1];simp [val],h.2.2.2⟩
theorem MlJ.next {W N : Nat} {l1 l2 : List Nat} {i j c : Nat} {zs : List Nat} (h : MlJ W N l1 l2 i j c zs) (hN : N = l1.length + l2.length) (h1 : Dig W l1) (h2 : Dig W l2) (hW : 0 < W) (hi : i < l1.length) (hj : j < l2.length) :
  MlJ W N l1 l2 i (j + 1) ((dg l1 i * dg l2 j + dg zs (i + j) + c) / W) (zs.set (i + j) ((dg l1 i * dg l2 j + dg zs (i + j) + c) % W)):=by
 obtain ⟨hl,hd,hc,hv,hz⟩:=h
 refine ⟨by rw [List.length_set,hl],M3 hd _ (Nat.mod_lt _ hW),(A50 (B9 hW h1 i) (B9 hW h2 j) (B9 hW hd _) hc).2.2,?_,fun t ht=>?_⟩
 ·rw [← Nat.add_assoc]
  exact A8a (by rw [hl];omega) hv
 ·rw [L9 _ _ (by omega)]
  exact hz t ht
theorem MlJ.outer {W N : Nat} {l1 l2 : List Nat} {i c : Nat} {zs : List Nat} (h : MlJ W N l1 l2 i l2.length c zs) (hN : N = l1.length + l2.length) (hi : i < l1.length) : MlI W N l1 l2 (i + 1) (zs.set (i + l2.length) c):=by
 obtain ⟨hl,hd,hc,hv,hz⟩:=h
 have hlt : i + l2.length < zs.length:=by rw [hl];omega
 refine ⟨by rw [List.length_set,hl],M3 hd _ hc,?_,fun t ht=>?_⟩
 ·have h1:=S3 W zs (i + l2.length) c hlt
  rw [hz _ (Nat.le_refl _),Nat.mul_zero,Nat.add_zero] at h1
  rw [U6 W l2 _ (Nat.le_refl _)] at hv
  rw [h1,I7,Nat.add_mul,Nat.mul_comm (W ^ (i + l2.length)) c,hv]
  grind
 ·rw [L9 _ _ (by omega)]
  exact hz t (by omega)
end Go.Proofs.YtlkniebmjdoopaaGreatDoor
