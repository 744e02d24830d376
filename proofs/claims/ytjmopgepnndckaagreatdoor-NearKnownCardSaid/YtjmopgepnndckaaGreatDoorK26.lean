/- Contracts and laws. -/
import Derived.Test.YtjmopgepnndckaaGreatDoorK25
set_option linter.unusedSimpArgs false
set_option linter.unusedVariables false
set_option maxHeartbeats 1000000
set_option maxRecDepth 100000
namespace Go.Proofs.YtjmopgepnndckaaGreatDoor
open Go.RowKit
def W32 : Nat:=4294967296
theorem C8 : 2 ≤ W32:=by unfold W32;omega
theorem C7 : 0 < W32:=by unfold W32;omega
def ln (a : Nat) : Nat:=(A7 W32 a).length
theorem A3U : ln 0 = 0:=rfl
theorem A4I {a : Nat} : ln a = 0 ↔ a = 0:=by
 constructor
 ·intro h
  have h1:=C5 C8 a
  rw [List.eq_nil_of_length_eq_zero h] at h1
  exact h1.symm
 ·rintro rfl;rfl
theorem A0M {a : Nat} : 0 < ln a ↔ a ≠ 0:=by have := @A4I a;omega
def Lim (u : World) (A : Option Addr) (l : List Nat) : Prop :=
 l ≠ [] → ∃ b off cs fr,A = some ⟨b,off,none⟩ ∧ u.heap[b]? = some (.cells cs 162 fr) ∧ ∀ i x,l[i]? = some x → cs[off + i]? = some (.int .u32 (x : Nat))
theorem Lim.nil (u : World) (A : Option Addr) : Lim u A []:=fun h=>absurd rfl h
theorem Lim.grow {u u' : World} {A : Option Addr} {l : List Nat} (h : Lim u A l) (hg : A3 u u') : Lim u' A l:=fun hn=>by
 obtain ⟨b,off,cs,fr,e,hb,hc⟩:=h hn
 exact ⟨b,off,cs,fr,e,(hg.block b (M9 hb)).trans hb,hc⟩
theorem Lim.take {u : World} {A : Option Addr} {l : List Nat} (h : Lim u A l) (n : Nat) : Lim u A (l.take n):=fun hn=>by
 obtain ⟨b,off,cs,fr,e,hb,hc⟩:=h (fun h0=>hn (by rw [h0];simp))
 refine ⟨b,off,cs,fr,e,hb,fun i x hi=>hc i x ?_⟩
 rw [List.getElem?_take] at hi
 split at hi
 ·exact hi
 ·cases hi
theorem Lim.cell {u : World} {A : Option Addr} {l : List Nat} (h : Lim u A l) {i : Nat} (hi : i < l.length) : ∃ b off,A = some ⟨b,off,none⟩ ∧ u.cell? ⟨b,off + i,none⟩ = some (.int .u32 (dg l i : Nat)):=by
 obtain ⟨b,off,cs,fr,e,hb,hc⟩:=h (fun h0=>by rw [h0] at hi;cases hi)
 refine ⟨b,off,e,?_⟩
 rw [C2 hi,← hc i _ (List.getElem?_eq_getElem hi)]
 exact cell_of_row u b (off + i) cs 162 fr hb
theorem Lim.put {u u' : World} {A : Option Addr} {l : List Nat} (h : Lim u A l) {bl : List (Nat × TypeId × Array Value)} (hB : Bx u bl) (k : Nat) {b : Nat} {t : TypeId} {cs : Array Value} (hk : bl[k]? = some (b,t,cs)) (ht : t ≠ 162) (i : Nat) (vs : List Value) (hu : E1 u b i vs = u') : Lim u' A l:=fun hn=>by
 obtain ⟨b',off,cs',fr,e,hb,hc⟩:=h hn
 refine ⟨b',off,cs',fr,e,?_,hc⟩
 have hbk : Blk u b t cs:=hB (b,t,cs) (List.mem_of_getElem? hk)
 have hne : b' ≠ b:=fun e=>by
  subst e
  have := hbk.symm.trans hb
  injection this with this
  injection this with _ h2 _
  exact ht h2
 clear hbk hB hk hc h
 subst hu
 induction vs generalizing u i with
 | nil=>exact hb
 | cons v vs ih=>exact ih _ ((Below.heap_setCell u ⟨b,i,none⟩ v b' hne).trans hb)
theorem A0Q (A : Option Addr) (l : List Nat) (c : Nat) (w : World) (h : Lim w A l) (hc : l.length ≤ c) (hm : c ≤ 9223372036854775807) :
  Calls Tryz.prog 126 #[.slice A l.length c] w fun e w'=>e = .returned (.slice A (B8 l).length c) ∧ A3 w w':=by
 have H:=Lib.hid h
 clear h
 obtain ⟨n,hn⟩ : ∃ n,n = l.length:=⟨_,rfl⟩
 rw [← hn]
 rw [← hn] at hc
 have Hn:=Lib.hid hn
 clear hn
 go_enter Tryz.func126,Tryz.ntmps126
 go_wp2
 go_loop [3] (fun s=>∃ k : Nat,k ≤ n ∧ s = .int .i64 k ∧ B8 (l.take k) = B8 l) (fun s=>(intOf s).toNat)
 case atStart=>exact ⟨n,Nat.le_refl _,rfl,by rw [List.take_of_length_le (by rw [Hn.out];exact Nat.le_refl _)]⟩
 case round =>
  obtain ⟨k,hk,rfl,ht⟩:=hrel
  have Ht:=Lib.hid ht
  clear ht
  rcases Nat.eq_zero_or_pos k with rfl | hpos
  ·go_wp2
   go_ret
   refine ⟨?_,A3.refl _⟩
   have : B8 l = []:=by rw [← Ht.out];rfl
   rw [this]
   rfl
  ·have hkl : k - 1 < l.length:=by rw [← Hn.out];omega
   obtain ⟨b,off,rfl,hcell⟩:=H.out.cell hkl
   have hsn : l.take k = l.take (k - 1) ++ [dg l (k - 1)]:=by
    have := List.take_succ_eq_append_getElem hkl
    rw [show k - 1 + 1 = k by omega] at this
    rw [C2 hkl]
    exact this
   have Hsn:=Lib.hid hsn
   clear hsn
   obtain ⟨x,hx⟩ : ∃ x,x = dg l (k - 1):=⟨_,rfl⟩
   rw [← hx] at hcell
   have Hx:=Lib.hid hx
   clear hx
   have hidx : (0 : Int) ≤ (k : Int) - 1:=by omega
   by_cases h0 : x = 0
   ·subst h0
    go_wp2
    go_round
    case rel=>exact ⟨k - 1,by omega,by go_num,by rw [← Ht.out,Hsn.out,← Hx.out,A4j]⟩
    case measure=>simp [intOf];omega
   ·have hb : ((x : Int) == 0) = false:=by simpa using h0
    go_wp2
    go_ret
    refine ⟨?_,A3.refl _⟩
    have : B8 l = l.take k:=by rw [← Ht.out,Hsn.out,A4D _ (by rw [← Hx.out];exact h0)]
    rw [this,List.length_take,Nat.min_eq_left (by omega)]
    rfl
abbrev Ax:=Option Addr × Nat
def Rn (u : World) (x : Ax) (a : Nat) : Prop:=Lim u x.1 (A7 W32 a) ∧ ln a ≤ x.2 ∧ x.2 ≤ 9223372036854775807 ∧ ln a ≤ 1099511627776
theorem Rn.grow {u u' : World} {x : Ax} {a : Nat} (h : Rn u x a) (hg : A3 u u') : Rn u' x a:=⟨h.1.grow hg,h.2⟩
theorem Rn.put {u u' : World} {x : Ax} {a : Nat} (h : Rn u x a) {bl : List (Nat × TypeId × Array Value)} (hB : Bx u bl) (k : Nat) {b : Nat} {t : TypeId} {cs : Array Value} (hk : bl[k]? = some (b,t,cs)) (ht : t ≠ 162) (i : Nat) (vs : List Value) (hu : E1 u b i vs = u') : Rn u' x a:=⟨h.1.put hB k hk ht i vs hu,h.2⟩
abbrev nvV (x : Ax) (a : Nat) : Value:=.slice x.1 (ln a) x.2
abbrev riV (x : Ax) (z : Int) : Value:=.agg #[.bool (C1 z),.slice x.1 (ln z.natAbs) x.2]
abbrev rqV (x y : Ax) (q : Rat) : Value:=.agg #[.bool (C1 q.num),.slice x.1 (ln q.num.natAbs) x.2,.slice y.1 (ln q.den) y.2]
structure Rp where
 X : Type
 f : X → Value
 T : X → World → Prop
 mono : ∀ x w w',A3 w w' → T x w → T x w'
def O5 (a : Nat) : Rp:=⟨Ax,fun x=>nvV x a,fun x v=>Rn v x a,fun _ _ _ hg h=>h.grow hg⟩
def Z2 (z : Int) : Rp:=⟨Ax,fun x=>riV x z,fun x v=>Rn v x z.natAbs,fun _ _ _ hg h=>h.grow hg⟩
def A0D (q : Rat) : Rp:=⟨Ax × Ax,fun x=>rqV x.1 x.2 q,fun x v=>Rn v x.1 q.num.natAbs ∧ Rn v x.2 q.den,fun _ _ _ hg h=>⟨h.1.grow hg,h.2.grow hg⟩⟩
def nnR (a b : Nat) : Rp:=⟨Ax × Ax,fun x=>.tuple #[nvV x.1 a,nvV x.2 b],fun x v=>Rn v x.1 a ∧ Rn v x.2 b,fun _ _ _ hg h=>⟨h.1.grow hg,h.2.grow hg⟩⟩
def Ret (R : Rp) (w : World) (e : Ending) (w' : World) : Prop:=∃ x,e = .returned (R.f x) ∧ R.T x w' ∧ A3 w w'
theorem gr {P : Program} {ops : Array Oper} {L : Act → World → Prop} {o : Oper} {r : List (Nat × Oper)} {B : Nat} {tk : List Nat} {a : Act} {F : World → Prop} (R : Rp) (hw : Region.wanted o (yielded ops a.tmps) = true)
  (h : ∀ w,F w → ∀ N : Value → World → Prop,(∀ x w',R.T x w' → A3 w w' → N (R.f x) w') → Move P o a w N) (hr : ∀ x,OKs P ops L B r tk (a.put o.dst (R.f x)) (fun w=>F w ∧ R.T x w)) : OKs P ops L B ((1,o) :: r) tk a F :=
 gx R.X R.f R.T R.mono hw h hr
theorem grd {P : Program} {ops : Array Oper} {L : Act → World → Prop} {o : Oper} {r : List (Nat × Oper)} {B : Nat} {tk : List Nat} {a : Act} {F : World → Prop} (R : Rp) {a' : R.X → Act} {g : FuncId} {args : Array Value} (hr : ∀ x,OKs P ops L B r tk (a' x) (fun w=>F w ∧ R.T x w))
  (hw : Region.wanted o (yielded ops a.tmps) = true:=by exact rfl) (hs : ∀ w (N : Value → World → Prop),(Calls P g args w fun e w''=>∃ u,e = .returned u ∧ N u w'') → Move P o a w N:=by (intro w N h;go_simp <;> with_reducible exact h))
  (hp : ∀ x,a.put o.dst (R.f x) = a' x:=by (intro x;simp only [O5,Z2,A0D,nnR,Act.put,List.setIfInBounds_toArray,List.set_cons_succ,List.set_cons_zero];exact rfl)) (C : ∀ w,F w → Calls P g args w (Ret R w)) : OKs P ops L B ((1,o) :: r) tk a F :=
 gxd R.f R.T R.mono hr hw hs hp C
theorem B37 (w : World) (o : Obj) : (w.alloc o).heap[w.heap.size]? = some o:=by
 show (w.heap.push _)[w.heap.size]? = _
 simp
theorem B0H (w : World) (l : List Nat) : Lim (w.alloc (.cells (l.map fun x=>Value.int .u32 (x : Nat)).toArray 162)) (some ⟨w.heap.size,0,none⟩) l:=fun _ =>
 ⟨w.heap.size,0,(l.map fun x=>Value.int .u32 (x : Nat)).toArray,(0,0),rfl,B37 w _,fun i x hi=>by simp [hi]⟩
theorem A1t {u : World} {A : Option Addr} {l : List Nat} {c : Nat} {a : Nat} (h : Lim u A l) (hd : Dig W32 l) (hv : val W32 l = a) (hc : l.length ≤ c) (hm : c ≤ 9223372036854775807) (hl : l.length ≤ 1099511627776) : Rn u (A,c) a ∧ (B8 l).length = ln a:=by
 have e : B8 l = A7 W32 a:=by rw [← hv];exact A3J C8 hd
 have h1 : ln a ≤ l.length:=by
  unfold ln
  rw [← e]
  exact A0f l
 refine ⟨⟨?_,Nat.le_trans h1 hc,hm,Nat.le_trans h1 hl⟩,by rw [e];rfl⟩
 rw [← e,A0k];exact h.take _
theorem A1Q {u : World} {A : Option Addr} {l : List Nat} {c : Nat} {a : Nat} (h : Lim u A l) (hd : Dig W32 l) (hv : val W32 l = a) (hc : l.length ≤ c) (hm : c ≤ 1099511627776) : Rn u (A,c) a ∧ (B8 l).length = ln a :=
 A1t h hd hv hc (by omega) (by omega)
theorem A4M (n : Nat) (hn : n < W64) (w : World) : Calls Tryz.prog 88 #[.int .u64 n] w (Ret (O5 n) w):=by
 have h1 : n % 4294967296 < 4294967296:=Nat.mod_lt _ (by omega)
 have h2 : n / 4294967296 < 4294967296:=by unfold W64 at hn;omega
 have htr : Calls Tryz.prog 126 #[.slice (some ⟨w.heap.size,0,none⟩) 2 2] (w.alloc (.cells #[.int .u32 ((n : Int) % 4294967296),.int .u32 ((n : Int) / 4294967296)] 162)) fun e w'=>e = .returned (.slice (some ⟨w.heap.size,0,none⟩) (ln n) 2) ∧ Rn w' (some ⟨w.heap.size,0,none⟩,2) n ∧ A3 w w':=by
  have hl:=B0H w [n % 4294967296,n / 4294967296]
  have e1 : ((n % 4294967296 : Nat) : Int) = (n : Int) % 4294967296:=by omega
  have e2 : ((n / 4294967296 : Nat) : Int) = (n : Int) / 4294967296:=by omega
  simp only [List.map_cons,List.map_nil,e1,e2] at hl
  refine (A0Q _ _ 2 _ hl (Nat.le_refl _) (by omega)).mono fun e w' ⟨he,hg⟩=>?_
  obtain ⟨hr,hlen⟩:=A1Q (a:=n) (c:=2) (hl.grow hg) (fun x hx=>by
   simp only [List.mem_cons,List.not_mem_nil,or_false] at hx
   unfold W32
   omega) (by simp [val,W32];omega) (Nat.le_refl _) (by omega)
  rw [hlen] at he
  exact ⟨he,hr,(A3.alloc _ _).trans hg⟩
 have Htr:=Lib.hid htr
 clear htr
 go_enter Tryz.func88,Tryz.ntmps88
 go_wp2_with (go_at_call 126;((with_reducible refine (Htr.out).mono ?_);rintro e w1 ⟨rfl,hr,hg⟩))
 go_ret
 exact ⟨(some ⟨w.heap.size,0,none⟩,2),rfl,hr,hg⟩
theorem A3m {a b : Nat} (h : ln a < ln b) : a < b:=by
 have := A2p C8 (E0 C8 a) (A0J C8 b) (E0 C8 b) h
 rwa [C5 C8,C5 C8] at this
theorem A5t {a b : Nat} (h : a ≤ b) : ln a ≤ ln b:=by
 rcases Nat.lt_or_ge (ln b) (ln a) with h' | h'
 ·have := A3m h';omega
 ·exact h'
theorem B0m (x y : Ax) (a b : Nat) (w : World) (hx : Rn w x a) (hy : Rn w y b) (hl : ln a = ln b) :
  Calls Tryz.prog 59 #[nvV x a,nvV y b] w fun e w'=>e = .returned (.int .i64 (D5 a b)) ∧ A3 w w':=by
 obtain ⟨A1,c1⟩:=x
 obtain ⟨A2,c2⟩:=y
 have Hx:=Lib.hid hx.1
 have Hy:=Lib.hid hy.1
 have hm:=hx.2
 simp only at hm
 obtain ⟨n,hn⟩ : ∃ n,n = ln a:=⟨_,rfl⟩
 rw [← hn] at hm
 show Calls Tryz.prog 59 #[.slice A1 (ln a) c1,.slice A2 (ln b) c2] w _
 rw [← hl,← hn]
 have Hn1:=Lib.hid hn
 have Hn2:=Lib.hid (hn.trans hl)
 clear hx hy hl hn
 go_enter Tryz.func59,Tryz.ntmps59
 go_wp2_with fail
 go_loopw [5] (fun s wr=>∃ k : Nat,k ≤ n ∧ s = .int .i64 ((k : Int) - 1) ∧ (A7 W32 a).drop k = (A7 W32 b).drop k ∧ A3 w wr) (fun s _=>(intOf s + 1).toNat)
 case atStart=>exact ⟨n,Nat.le_refl _,rfl,by rw [List.drop_of_length_le (Nat.le_of_eq Hn1.out.symm),List.drop_of_length_le (Nat.le_of_eq Hn2.out.symm)],A3.refl _⟩
 case round =>
  obtain ⟨k,hk,rfl,hd,hG⟩:=hrel
  have Hd:=Lib.hid hd
  clear hd
  rcases Nat.eq_zero_or_pos k with rfl | hpos
  ·have hc : decide ((0 : Int) ≤ ((0 : Nat) : Int) - 1) = false:=by decide
   go_wp2_with fail
   go_ret
   refine ⟨G9 ?_,hG⟩
   have := Hd.out
   simp only [List.drop_zero] at this
   rw [Z9 (A7s C8 this)]
  ·obtain ⟨j,rfl⟩ : ∃ j,k = j + 1:=⟨k - 1,by omega⟩
   have e1 : ((j + 1 : Nat) : Int) - 1 = (j : Nat):=by omega
   rw [e1]
   have hj1 : j < (A7 W32 a).length:=by have := Hn1.out;unfold ln at this;omega
   have hj2 : j < (A7 W32 b).length:=by have := Hn2.out;unfold ln at this;omega
   obtain ⟨b1,o1,rfl,hc1⟩:=(Hx.out.grow hG).cell hj1
   obtain ⟨b2,o2,rfl,hc2⟩:=(Hy.out.grow hG).cell hj2
   obtain ⟨p,hp⟩ : ∃ p,p = dg (A7 W32 a) j:=⟨_,rfl⟩
   obtain ⟨q,hq⟩ : ∃ q,q = dg (A7 W32 b) j:=⟨_,rfl⟩
   rw [← hp] at hc1
   rw [← hq] at hc2
   have Hp:=Lib.hid hp
   have Hq:=Lib.hid hq
   clear hp hq e1
   have hc0 : decide ((0 : Int) ≤ (j : Int)) = true:=by simp
   rcases Nat.lt_trichotomy p q with hlt | heq | hgt
   ·have hb1 : ((p : Int) != (q : Int)) = true:=by simp;omega
    have hb2 : decide ((p : Int) < (q : Int)) = true:=by simp;omega
    go_wp2_with fail
    go_quiet (fail)
    go_wp2_with fail
    go_quiet (fail)
    go_wp2_with fail
    go_ret
    refine ⟨G9 ?_,hG.trans ((K7 _ _).trans (K7 _ _))⟩
    have h1:=A0s (E0 C8 a) (Hn1.out.symm.trans Hn2.out) hj1 Hd.out (by rw [← Hp.out,← Hq.out];exact hlt)
    rw [C5 C8,C5 C8] at h1
    rw [M3 h1]
   ·subst heq
    go_wp2_with fail
    go_quiet (fail)
    go_wp2_with fail
    exact ⟨⟨j,by omega,rfl,by rw [Y8 hj1,Y8 hj2,Hd.out,← Hp.out,← Hq.out],hG.trans (K7 _ _)⟩,by simp [intOf]⟩
   ·have hb1 : ((p : Int) != (q : Int)) = true:=by simp;omega
    have hb2 : decide ((p : Int) < (q : Int)) = false:=by simp;omega
    go_wp2_with fail
    go_quiet (fail)
    go_wp2_with fail
    go_quiet (fail)
    go_wp2_with fail
    go_ret
    refine ⟨G9 ?_,hG.trans ((K7 _ _).trans (K7 _ _))⟩
    have h1:=A0s (E0 C8 b) (Hn2.out.symm.trans Hn1.out) hj2 Hd.out.symm (by rw [← Hp.out,← Hq.out];exact hgt)
    rw [C5 C8,C5 C8] at h1
    rw [S5 h1]
theorem B0c (x y : Ax) (a b : Nat) (w : World) (hl : ln a ≠ ln b) :
  Calls Tryz.prog 59 #[nvV x a,nvV y b] w fun e w'=>e = .returned (.int .i64 (D5 a b)) ∧ A3 w w':=by
 rcases Nat.lt_or_gt_of_ne hl with h | h
 ·rw [M3 (A3m h)]
  go_enter Tryz.func59,Tryz.ntmps59
  go_wp2_with fail
  go_ret
  exact ⟨rfl,A3.refl _⟩
 ·rw [S5 (A3m h)]
  have h' : ¬ ln a < ln b:=by omega
  go_enter Tryz.func59,Tryz.ntmps59
  go_wp2_with fail
  go_ret
  exact ⟨rfl,A3.refl _⟩
theorem A2d (x y : Ax) (a b : Nat) (w : World) (hx : Rn w x a) (hy : Rn w y b) :
  Calls Tryz.prog 59 #[nvV x a,nvV y b] w fun e w'=>e = .returned (.int .i64 (D5 a b)) ∧ A3 w w':=by
 by_cases hl : ln a = ln b
 ·exact B0m x y a b w hx hy hl
 ·exact B0c x y a b w hl
def C6 (l : List Nat) : Array Value:=(l.map fun x=>Value.int .u32 (x : Nat)).toArray
theorem A2n (l : List Nat) (i : Nat) : (C6 l)[i]? = (l[i]?).map fun x=>Value.int .u32 (x : Nat):=by
 unfold C6;simp
theorem A33 (l : List Nat) (i y : Nat) : (C6 l).setIfInBounds i (.int .u32 (y : Nat)) = C6 (l.set i y):=by
 unfold C6
 rw [List.setIfInBounds_toArray,List.map_set]
def L7 (u : World) (b : Nat) (l : List Nat) : Prop:=Blk u b 162 (C6 l)
theorem L7.grow {u u' : World} {b : Nat} {l : List Nat} (hg : A3 u u') (h : L7 u b l) : L7 u' b l:=Blk.grow hg h
theorem L7.cell {u : World} {b : Nat} {l : List Nat} (h : L7 u b l) {i : Nat} (hi : i < l.length) : u.cell? ⟨b,i,none⟩ = some (.int .u32 (dg l i : Nat)):=by
 rw [Blk.cell h,A2n,List.getElem?_eq_getElem hi,C2 hi]
 rfl
theorem L7.frozen {u : World} {b : Nat} {l : List Nat} (h : L7 u b l) (i : Nat) : u.frozen? ⟨b,i,none⟩ = false:=Blk.frozen h i
theorem L7.set {u : World} {b : Nat} {l : List Nat} (h : L7 u b l) (i y : Nat) : L7 (u.setCell ⟨b,i,none⟩ (.int .u32 (y : Nat))) b (l.set i y):=by
 have := Blk.set_ h i (.int .u32 (y : Nat))
 rw [A33] at this
 exact this
theorem L7.lim {u : World} {b : Nat} {l : List Nat} (h : L7 u b l) : Lim u (some ⟨b,0,none⟩) l:=fun _ =>
 ⟨b,0,C6 l,(0,0),rfl,h,fun i x hi=>by rw [Nat.zero_add,A2n,hi];rfl⟩
theorem B1Z : (Tryz.prog.info? 162).map (fun i=>(i.zero,i.size,i.bytes)) = some (some (.int .u32 0),1,4):=by kernel_rfl
theorem B2n (n : Nat) : madeCells (Value.int .u32 0).cells (n * 1) = C6 (List.replicate n 0):=by
 unfold C6 madeCells
 refine Array.ext (by simp) fun i h1 h2=>?_
 simp [Value.cells,Nat.mod_one]
theorem A2s (n : Nat) (hn : n ≤ 1099511627776) (x : Int) (hx : x = n) (W : World) : (Instr.makeSlice 53 (.int .i64 x) (.int .i64 x)).run Tryz.prog W =
  .ok (.slice (some ⟨W.heap.size,0,none⟩) n n) (W.alloc (.cells (C6 (List.replicate n 0)) 162)):=by
 obtain ⟨i0,hi0,hz0,hz1,hz2⟩:=info_parts B1Z
 have hr:=run_make (P:=Tryz.prog) W 53 162 i0 (.int .u32 0) Tryz.underlying53 hi0 hz0 .i64 .i64 n n (by omega) (by omega) (by rw [hz2];omega) (by omega)
 rw [hx]
 rw [hr,hz1]
 simp only [Int.toNat_natCast]
 rw [B2n]
def A2r (W d : Nat) (l : List Nat) (k r : Nat) (zs : List Nat) : Prop :=
 zs.length = l.length ∧ Dig W zs ∧ r < d ∧ val W (zs.drop k) * d + r = val W (l.drop k)
theorem A2r.next {W d : Nat} {l : List Nat} {k r : Nat} {zs : List Nat} (h : A2r W d l (k + 1) r zs) (hk : k < l.length) (hd : Dig W l) (hW : 0 < W) :
  A2r W d l k ((r * W + dg l k) % d) (zs.set k ((r * W + dg l k) / d)):=by
 obtain ⟨h1,h2,h4,h5⟩:=h
 have hk' : k < zs.length:=by rw [h1];exact hk
 have hx:=B4 hW hd k
 refine ⟨by rw [List.length_set,h1],J9 h2 _ (A03 h4 hx),Nat.mod_lt _ (by omega),?_⟩
 rw [Y8 (l:=zs.set k _) (by rw [List.length_set];exact hk'),A4y hk',Y8 hk,I5,I5,List.drop_set_of_lt (by omega),← h5]
 have e:=Nat.div_add_mod (r * W + dg l k) d
 generalize (r * W + dg l k) / d = q at *
 generalize (r * W + dg l k) % d = m at *
 generalize val W (zs.drop (k + 1)) = V at *
 grind
theorem B1n (x : Ax) (a d : Nat) (w : World) (hx : Rn w x a) (hd0 : 0 < d) (hdW : d < W32) :
  Calls Tryz.prog 182 #[nvV x a,.int .u32 d] w fun e w'=>∃ y : Ax,e = .returned (.tuple #[nvV y (a / d),.int .u32 (a % d : Nat)]) ∧ Rn w' y (a / d) ∧ A3 w w':=by
 obtain ⟨A,c⟩:=x
 obtain ⟨n,hn⟩ : ∃ n,n = ln a:=⟨_,rfl⟩
 have hm : n ≤ 1099511627776:=by rw [hn];exact hx.2.2.2
 show Calls Tryz.prog 182 #[.slice A (ln a) c,.int .u32 d] w _
 rw [← hn]
 have Hx:=Lib.hid hx.1
 have Hn:=Lib.hid hn
 have hmk:=A2s n hm (n : Int) rfl
 clear hx hn
 unfold W32 at hdW
 go_enter Tryz.func182,Tryz.ntmps182
 go_wp2_with fail
 clear hmk
 go_loopw [7,8] (fun r i wr=>∃ (k r' : Nat) (zs : List Nat),k ≤ n ∧ i = .int .i64 ((k : Int) - 1) ∧ r = .int .u64 r' ∧ A2r W32 d (A7 W32 a) k r' zs ∧ L7 wr w.heap.size zs ∧ A3 w wr) (fun _ i _=>(intOf i + 1).toNat)
 case atStart=>exact ⟨n,0,List.replicate n 0,Nat.le_refl _,rfl,rfl,⟨by rw [List.length_replicate];exact Hn.out,fun z hz=>(by rw [(List.mem_replicate.1 hz).2];exact C7),hd0,by rw [List.drop_of_length_le (by simp),List.drop_of_length_le (Nat.le_of_eq Hn.out.symm)];simp [val]⟩,Blk.new w 162 _,A3.alloc _ _⟩
 case round =>
  obtain ⟨k,r',zs,hk,rfl,rfl,hI,hR,hG⟩:=hrel
  have HI:=Lib.hid hI
  have HG:=Lib.hid hG
  have HR:=Lib.hid hR
  clear hI hG hR
  rcases Nat.eq_zero_or_pos k with rfl | hpos
  ·have hval : val W32 zs * d + r' = a:=by have := HI.out.2.2.2;rw [List.drop_zero,List.drop_zero,C5 C8] at this;exact this
   have hr:=HI.out.2.2.1
   have hres : a % d = r' ∧ a / d = val W32 zs:=by
    rw [← hval,Nat.mul_comm,Nat.mul_add_mod,Nat.mod_eq_of_lt hr,Nat.mul_add_div hd0,Nat.div_eq_of_lt hr]
    simp
   have hzl : zs.length = n:=by rw [HI.out.1];exact Hn.out.symm
   have htr : Calls Tryz.prog 126 #[.slice (some ⟨w.heap.size,0,none⟩) n n] wr fun e w'=>e = .returned (.slice (some ⟨w.heap.size,0,none⟩) (ln (a / d)) n) ∧ Rn w' (some ⟨w.heap.size,0,none⟩,n) (a / d) ∧ A3 w w':=by
    have h1:=A0Q (some ⟨w.heap.size,0,none⟩) zs n wr HR.out.lim (Nat.le_of_eq hzl) (by omega)
    rw [hzl] at h1
    refine h1.mono fun e w' ⟨he,hg⟩=>?_
    obtain ⟨hr1,hlen⟩:=A1Q (a:=a / d) (c:=n) (HR.out.lim.grow hg) HI.out.2.1 hres.2.symm (Nat.le_of_eq hzl) hm
    rw [hlen] at he
    exact ⟨he,hr1,HG.out.trans hg⟩
   have Htr:=Lib.hid htr
   have Hres:=Lib.hid hres
   clear hval hres hzl htr
   have hc : decide ((0 : Int) ≤ ((0 : Nat) : Int) - 1) = false:=by decide
   have hwr : ((r' : Int)) % 4294967296 = (r' : Int):=by omega
   go_wp2_with (go_at_call 126;((with_reducible refine (Htr.out).mono ?_);rintro e w1 ⟨rfl,hr1,hg⟩))
   go_ret2
   exact ⟨(some ⟨w.heap.size,0,none⟩,n),congrArg (fun z : Nat=>Ending.returned (.tuple #[.slice (some ⟨w.heap.size,0,none⟩) (ln (a / d)) n,.int .u32 (z : Nat)])) Hres.out.1.symm,hr1,hg⟩
  ·obtain ⟨j,rfl⟩ : ∃ j,k = j + 1:=⟨k - 1,by omega⟩
   have e1 : ((j + 1 : Nat) : Int) - 1 = (j : Nat):=by omega
   rw [e1]
   have hjl : j < (A7 W32 a).length:=by have := Hn.out;unfold ln at this;omega
   have hnx:=HI.out.next hjl (E0 C8 a) C7
   obtain ⟨b1,o1,rfl,hc1⟩:=(Hx.out.grow HG.out).cell hjl
   have hjz : j < zs.length:=by rw [HI.out.1];exact hjl
   have hc2:=HR.out.cell hjz
   have hf2:=HR.out.frozen j
   have hxl:=B4 C7 (E0 C8 a) j
   obtain ⟨p,hp⟩ : ∃ p,p = dg (A7 W32 a) j:=⟨_,rfl⟩
   rw [← hp] at hc1 hnx hxl
   have hr:=HI.out.2.2.1
   have Hp:=Lib.hid hp
   have Hnx:=Lib.hid hnx
   clear hp hnx e1
   have hc0 : decide ((0 : Int) ≤ (j : Int)) = true:=by simp
   unfold W32 at hxl
   obtain ⟨X,hX⟩ : ∃ X,X = r' * W32 + p:=⟨_,rfl⟩
   have hXl : X < 18446744073709551616:=by rw [hX];unfold W32;omega
   have hqW : X / d < 4294967296:=by rw [hX];exact A03 hr (by unfold W32;exact hxl)
   have hmW : X % d < d:=Nat.mod_lt _ hd0
   have hor : bits BinOp.or IntKind.u64 ((r' : Int) * 4294967296) (p : Int) = (X : Nat):=by
    have e2 : ((r' : Int) * 4294967296) = ((r' * 4294967296 : Nat) : Int):=by omega
    rw [e2,bits_or_u64_nat _ _ (by omega) (by omega),hX]
    unfold W32
    rw [A0v (s:=32) (by omega) (by omega)]
   have htm : ((X : Nat) : Int).tmod (d : Int) = ((X % d : Nat) : Int):=rfl
   have htd : ((X : Nat) : Int).tdiv (d : Int) = ((X / d : Nat) : Int):=rfl
   rw [← hX] at Hnx
   have HX:=Lib.hid hX
   obtain ⟨q,hq⟩ : ∃ q,q = X / d:=⟨_,rfl⟩
   obtain ⟨m,hm'⟩ : ∃ q,q = X % d:=⟨_,rfl⟩
   rw [← hq] at Hnx htd hqW
   rw [← hm'] at Hnx htm hmW
   clear hX hq hm'
   have hwq : ((q : Int)) % 4294967296 = (q : Int):=by omega
   go_wp2_with fail
   exact ⟨⟨j,m,zs.set j q,by omega,rfl,rfl,Hnx.out,HR.out.set j q,HG.out.setCell (p:=⟨w.heap.size,j,none⟩) (Nat.le_refl _) _⟩,by simp [intOf]⟩
end Go.Proofs.YtjmopgepnndckaaGreatDoor
