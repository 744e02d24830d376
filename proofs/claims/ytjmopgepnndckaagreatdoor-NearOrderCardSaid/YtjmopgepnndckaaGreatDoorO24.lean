/-
  Contracts and laws: RefA RefB.
-/
import Derived.Test.YtjmopgepnndckaaGreatDoorO23
set_option linter.unusedSimpArgs false
set_option linter.unusedVariables false
namespace Go.Proofs.YtjmopgepnndckaaGreatDoor
open Go.RowKit
def W32 : Nat := 4294967296
theorem W32_ge : 2 ≤ W32 := by unfold W32; omega
theorem W32_pos : 0 < W32 := by unfold W32; omega
/-- how many limbs -/
def ln (a : Nat) : Nat := (digs W32 a).length
theorem ln_zero : ln 0 = 0 := rfl
theorem ln_eq_zero {a : Nat} : ln a = 0 ↔ a = 0 := by
 constructor
 ·intro h
  have h1 := val_digs W32_ge a
  rw [List.eq_nil_of_length_eq_zero h] at h1
  exact h1.symm
 ·rintro rfl; rfl
theorem ln_pos {a : Nat} : 0 < ln a ↔ a ≠ 0 := by have := @ln_eq_zero a; omega
/-- these limbs lie from the address on; nothing is asked of none -/
def Lim (u : World) (A : Option Addr) (l : List Nat) : Prop :=
 l ≠ [] → ∃ b off cs fr, A = some ⟨b, off, none⟩ ∧ u.heap[b]? = some (.cells cs 162 fr) ∧ ∀ i x, l[i]? = some x → cs[off + i]? = some (.int .u32 (x : Nat))
theorem Lim.nil (u : World) (A : Option Addr) : Lim u A [] := fun h => absurd rfl h
theorem Lim.grow {u u' : World} {A : Option Addr} {l : List Nat} (h : Lim u A l) (hg : Grow u u') : Lim u' A l := fun hn => by
 obtain ⟨b, off, cs, fr, e, hb, hc⟩ := h hn
 exact ⟨b, off, cs, fr, e, (hg.block b (heap_lt hb)).trans hb, hc⟩
theorem Lim.take {u : World} {A : Option Addr} {l : List Nat} (h : Lim u A l) (n : Nat) : Lim u A (l.take n) := fun hn => by
 obtain ⟨b, off, cs, fr, e, hb, hc⟩ := h (fun h0 => hn (by rw [h0]; simp))
 refine ⟨b, off, cs, fr, e, hb, fun i x hi => hc i x ?_⟩
 rw [List.getElem?_take] at hi
 split at hi
 ·exact hi
 ·cases hi
theorem Lim.cell {u : World} {A : Option Addr} {l : List Nat} (h : Lim u A l) {i : Nat} (hi : i < l.length) : ∃ b off, A = some ⟨b, off, none⟩ ∧ u.cell? ⟨b, off + i, none⟩ = some (.int .u32 (dg l i : Nat)) := by
 obtain ⟨b, off, cs, fr, e, hb, hc⟩ := h (fun h0 => by rw [h0] at hi; cases hi)
 refine ⟨b, off, e, ?_⟩
 rw [dg_eq hi, ← hc i _ (List.getElem?_eq_getElem hi)]
 exact cell_of_row u b (off + i) cs 162 fr hb
/-- a store into a box, which is of another type -/
theorem Lim.put {u u' : World} {A : Option Addr} {l : List Nat} (h : Lim u A l) {bl : List (Nat × TypeId × Array Value)} (hB : Bx u bl) (k : Nat) {b : Nat} {t : TypeId} {cs : Array Value} (hk : bl[k]? = some (b, t, cs)) (ht : t ≠ 162) (i : Nat) (vs : List Value) (hu : putAll u b i vs = u') : Lim u' A l := fun hn => by
 obtain ⟨b', off, cs', fr, e, hb, hc⟩ := h hn
 refine ⟨b', off, cs', fr, e, ?_, hc⟩
 have hbk : Blk u b t cs := hB (b, t, cs) (List.mem_of_getElem? hk)
 have hne : b' ≠ b := fun e => by
  subst e
  have := hbk.symm.trans hb
  injection this with this
  injection this with _ h2 _
  exact ht h2
 clear hbk hB hk hc h
 subst hu
 induction vs generalizing u i with
 | nil => exact hb
 | cons v vs ih => exact ih _ ((Below.heap_setCell u ⟨b, i, none⟩ v b' hne).trans hb)
set_option maxHeartbeats 1000000 in
theorem ref1_trim (A : Option Addr) (l : List Nat) (c : Nat) (w : World) (h : Lim w A l) (hc : l.length ≤ c) (hm : c ≤ 9223372036854775807) :
  Calls Tryz.prog 126 #[.slice A l.length c] w fun e w' => e = .returned (.slice A (trimL l).length c) ∧ Grow w w' := by
 have H := Lib.hid h
 clear h
 obtain ⟨n, hn⟩ : ∃ n, n = l.length := ⟨_, rfl⟩
 rw [← hn]
 rw [← hn] at hc
 have Hn := Lib.hid hn
 clear hn
 go_enter Tryz.func126, Tryz.ntmps126
 go_wp2
 go_loop [3] (fun s => ∃ k : Nat, k ≤ n ∧ s = .int .i64 k ∧ trimL (l.take k) = trimL l) (fun s => (intOf s).toNat)
 case atStart => exact ⟨n, Nat.le_refl _, rfl, by rw [List.take_of_length_le (by rw [Hn.out]; exact Nat.le_refl _)]⟩
 case round =>
  obtain ⟨k, hk, rfl, ht⟩ := hrel
  have Ht := Lib.hid ht
  clear ht
  rcases Nat.eq_zero_or_pos k with rfl | hpos
  ·go_wp2
   go_ret
   refine ⟨?_, Grow.refl _⟩
   have : trimL l = [] := by rw [← Ht.out]; rfl
   rw [this]
   rfl
  ·have hkl : k - 1 < l.length := by rw [← Hn.out]; omega
   obtain ⟨b, off, rfl, hcell⟩ := H.out.cell hkl
   have hsn : l.take k = l.take (k - 1) ++ [dg l (k - 1)] := by
    have := List.take_succ_eq_append_getElem hkl
    rw [show k - 1 + 1 = k by omega] at this
    rw [dg_eq hkl]
    exact this
   have Hsn := Lib.hid hsn
   clear hsn
   obtain ⟨x, hx⟩ : ∃ x, x = dg l (k - 1) := ⟨_, rfl⟩
   rw [← hx] at hcell
   have Hx := Lib.hid hx
   clear hx
   have hidx : (0 : Int) ≤ (k : Int) - 1 := by omega
   by_cases h0 : x = 0
   ·subst h0
    go_wp2
    go_round
    case rel => exact ⟨k - 1, by omega, by go_num, by rw [← Ht.out, Hsn.out, ← Hx.out, trimL_snoc_zero]⟩
    case measure => simp [intOf]; omega
   ·have hb : ((x : Int) == 0) = false := by simpa using h0
    go_wp2
    go_ret
    refine ⟨?_, Grow.refl _⟩
    have : trimL l = l.take k := by rw [← Ht.out, Hsn.out, trimL_snoc _ (by rw [← Hx.out]; exact h0)]
    rw [this, List.length_take, Nat.min_eq_left (by omega)]
    rfl
end Go.Proofs.YtjmopgepnndckaaGreatDoor
namespace Go.Proofs.YtjmopgepnndckaaGreatDoor
open Go.RowKit
abbrev Ax := Option Addr × Nat
/-- the limbs of a, with room for them -/
def Rn (u : World) (x : Ax) (a : Nat) : Prop := Lim u x.1 (digs W32 a) ∧ ln a ≤ x.2 ∧ x.2 ≤ 9223372036854775807 ∧ ln a ≤ 1099511627776
theorem Rn.grow {u u' : World} {x : Ax} {a : Nat} (h : Rn u x a) (hg : Grow u u') : Rn u' x a := ⟨h.1.grow hg, h.2⟩
theorem Rn.put {u u' : World} {x : Ax} {a : Nat} (h : Rn u x a) {bl : List (Nat × TypeId × Array Value)} (hB : Bx u bl) (k : Nat) {b : Nat} {t : TypeId} {cs : Array Value} (hk : bl[k]? = some (b, t, cs)) (ht : t ≠ 162) (i : Nat) (vs : List Value) (hu : putAll u b i vs = u') : Rn u' x a := ⟨h.1.put hB k hk ht i vs hu, h.2⟩
abbrev nvV (x : Ax) (a : Nat) : Value := .slice x.1 (ln a) x.2
abbrev riV (x : Ax) (z : Int) : Value := .agg #[.bool (intNeg z), .slice x.1 (ln z.natAbs) x.2]
abbrev rqV (x y : Ax) (q : Rat) : Value := .agg #[.bool (intNeg q.num), .slice x.1 (ln q.num.natAbs) x.2, .slice y.1 (ln q.den) y.2]
/-- what a call hands back: a value with facts that stay -/
structure Rp where
 X : Type
 f : X → Value
 T : X → World → Prop
 mono : ∀ x w w', Grow w w' → T x w → T x w'
def natR (a : Nat) : Rp := ⟨Ax, fun x => nvV x a, fun x v => Rn v x a, fun _ _ _ hg h => h.grow hg⟩
def intR (z : Int) : Rp := ⟨Ax, fun x => riV x z, fun x v => Rn v x z.natAbs, fun _ _ _ hg h => h.grow hg⟩
def ratR (q : Rat) : Rp := ⟨Ax × Ax, fun x => rqV x.1 x.2 q, fun x v => Rn v x.1 q.num.natAbs ∧ Rn v x.2 q.den, fun _ _ _ hg h => ⟨h.1.grow hg, h.2.grow hg⟩⟩
def nnR (a b : Nat) : Rp := ⟨Ax × Ax, fun x => .tuple #[nvV x.1 a, nvV x.2 b], fun x v => Rn v x.1 a ∧ Rn v x.2 b, fun _ _ _ hg h => ⟨h.1.grow hg, h.2.grow hg⟩⟩
def Ret (R : Rp) (w : World) (e : Ending) (w' : World) : Prop := ∃ x, e = .returned (R.f x) ∧ R.T x w' ∧ Grow w w'
theorem gr {P : Program} {ops : Array Oper} {L : Act → World → Prop} {o : Oper} {r : List (Nat × Oper)} {B : Nat} {tk : List Nat} {a : Act} {F : World → Prop} (R : Rp) (hw : Region.wanted o (yielded ops a.tmps) = true)
  (h : ∀ w, F w → ∀ N : Value → World → Prop, (∀ x w', R.T x w' → Grow w w' → N (R.f x) w') → Move P o a w N) (hr : ∀ x, OKs P ops L B r tk (a.put o.dst (R.f x)) (fun w => F w ∧ R.T x w)) : OKs P ops L B ((1, o) :: r) tk a F :=
 gx R.X R.f R.T R.mono hw h hr
theorem grd {P : Program} {ops : Array Oper} {L : Act → World → Prop} {o : Oper} {r : List (Nat × Oper)} {B : Nat} {tk : List Nat} {a : Act} {F : World → Prop} (R : Rp) {a' : R.X → Act} {g : FuncId} {args : Array Value} (hr : ∀ x, OKs P ops L B r tk (a' x) (fun w => F w ∧ R.T x w))
  (hw : Region.wanted o (yielded ops a.tmps) = true := by exact rfl) (hs : ∀ w (N : Value → World → Prop), (Calls P g args w fun e w'' => ∃ u, e = .returned u ∧ N u w'') → Move P o a w N := by (intro w N h; go_simp <;> with_reducible exact h))
  (hp : ∀ x, a.put o.dst (R.f x) = a' x := by (intro x; simp only [natR, intR, ratR, nnR, Act.put, List.setIfInBounds_toArray, List.set_cons_succ, List.set_cons_zero]; exact rfl)) (C : ∀ w, F w → Calls P g args w (Ret R w)) : OKs P ops L B ((1, o) :: r) tk a F :=
 gxd R.f R.T R.mono hr hw hs hp C
theorem heap_new (w : World) (o : Obj) : (w.alloc o).heap[w.heap.size]? = some o := by
 show (w.heap.push _)[w.heap.size]? = _
 simp
theorem lim_new (w : World) (l : List Nat) : Lim (w.alloc (.cells (l.map fun x => Value.int .u32 (x : Nat)).toArray 162)) (some ⟨w.heap.size, 0, none⟩) l := fun _ =>
 ⟨w.heap.size, 0, (l.map fun x => Value.int .u32 (x : Nat)).toArray, (0, 0), rfl, heap_new w _, fun i x hi => by simp [hi]⟩
theorem rn_of_trim {u : World} {A : Option Addr} {l : List Nat} {c : Nat} {a : Nat} (h : Lim u A l) (hd : Dig W32 l) (hv : val W32 l = a) (hc : l.length ≤ c) (hm : c ≤ 9223372036854775807) (hl : l.length ≤ 1099511627776) : Rn u (A, c) a ∧ (trimL l).length = ln a := by
 have e : trimL l = digs W32 a := by rw [← hv]; exact trimL_digs W32_ge hd
 have h1 : ln a ≤ l.length := by
  unfold ln
  rw [← e]
  exact trimL_le l
 refine ⟨⟨?_, Nat.le_trans h1 hc, hm, Nat.le_trans h1 hl⟩, by rw [e]; rfl⟩
 rw [← e, trimL_eq_take]; exact h.take _
theorem rn_trim {u : World} {A : Option Addr} {l : List Nat} {c : Nat} {a : Nat} (h : Lim u A l) (hd : Dig W32 l) (hv : val W32 l = a) (hc : l.length ≤ c) (hm : c ≤ 1099511627776) : Rn u (A, c) a ∧ (trimL l).length = ln a :=
 rn_of_trim h hd hv hc (by omega) (by omega)
set_option maxHeartbeats 400000 in
theorem ref1_NatOf (n : Nat) (hn : n < W64) (w : World) : Calls Tryz.prog 88 #[.int .u64 n] w (Ret (natR n) w) := by
 have h1 : n % 4294967296 < 4294967296 := Nat.mod_lt _ (by omega)
 have h2 : n / 4294967296 < 4294967296 := by unfold W64 at hn; omega
 have htr : Calls Tryz.prog 126 #[.slice (some ⟨w.heap.size, 0, none⟩) 2 2] (w.alloc (.cells #[.int .u32 ((n : Int) % 4294967296), .int .u32 ((n : Int) / 4294967296)] 162)) fun e w' => e = .returned (.slice (some ⟨w.heap.size, 0, none⟩) (ln n) 2) ∧ Rn w' (some ⟨w.heap.size, 0, none⟩, 2) n ∧ Grow w w' := by
  have hl := lim_new w [n % 4294967296, n / 4294967296]
  have e1 : ((n % 4294967296 : Nat) : Int) = (n : Int) % 4294967296 := by omega
  have e2 : ((n / 4294967296 : Nat) : Int) = (n : Int) / 4294967296 := by omega
  simp only [List.map_cons, List.map_nil, e1, e2] at hl
  refine (ref1_trim _ _ 2 _ hl (Nat.le_refl _) (by omega)).mono fun e w' ⟨he, hg⟩ => ?_
  obtain ⟨hr, hlen⟩ := rn_trim (a := n) (c := 2) (hl.grow hg) (fun x hx => by
   simp only [List.mem_cons, List.not_mem_nil, or_false] at hx
   unfold W32
   omega) (by simp [val, W32]; omega) (Nat.le_refl _) (by omega)
  rw [hlen] at he
  exact ⟨he, hr, (Grow.alloc _ _).trans hg⟩
 have Htr := Lib.hid htr
 clear htr
 go_enter Tryz.func88, Tryz.ntmps88
 go_wp2_with (go_at_call 126; ((with_reducible refine (Htr.out).mono ?_); rintro e w1 ⟨rfl, hr, hg⟩))
 go_ret
 exact ⟨(some ⟨w.heap.size, 0, none⟩, 2), rfl, hr, hg⟩
theorem ln_lt {a b : Nat} (h : ln a < ln b) : a < b := by
 have := val_lt_len W32_ge (dig_digs W32_ge a) (tight_digs W32_ge b) (dig_digs W32_ge b) h
 rwa [val_digs W32_ge, val_digs W32_ge] at this
theorem ln_mono {a b : Nat} (h : a ≤ b) : ln a ≤ ln b := by
 rcases Nat.lt_or_ge (ln b) (ln a) with h' | h'
 ·have := ln_lt h'; omega
 ·exact h'
set_option maxHeartbeats 1000000 in
set_option maxRecDepth 100000 in
theorem ref1_NatCmp_same (x y : Ax) (a b : Nat) (w : World) (hx : Rn w x a) (hy : Rn w y b) (hl : ln a = ln b) :
  Calls Tryz.prog 59 #[nvV x a, nvV y b] w fun e w' => e = .returned (.int .i64 (cmpN a b)) ∧ Grow w w' := by
 obtain ⟨A1, c1⟩ := x
 obtain ⟨A2, c2⟩ := y
 have Hx := Lib.hid hx.1
 have Hy := Lib.hid hy.1
 have hm := hx.2
 simp only at hm
 obtain ⟨n, hn⟩ : ∃ n, n = ln a := ⟨_, rfl⟩
 rw [← hn] at hm
 show Calls Tryz.prog 59 #[.slice A1 (ln a) c1, .slice A2 (ln b) c2] w _
 rw [← hl, ← hn]
 have Hn1 := Lib.hid hn
 have Hn2 := Lib.hid (hn.trans hl)
 clear hx hy hl hn
 go_enter Tryz.func59, Tryz.ntmps59
 go_wp2_with fail
 go_loopw [5] (fun s wr => ∃ k : Nat, k ≤ n ∧ s = .int .i64 ((k : Int) - 1) ∧ (digs W32 a).drop k = (digs W32 b).drop k ∧ Grow w wr) (fun s _ => (intOf s + 1).toNat)
 case atStart => exact ⟨n, Nat.le_refl _, rfl, by rw [List.drop_of_length_le (Nat.le_of_eq Hn1.out.symm), List.drop_of_length_le (Nat.le_of_eq Hn2.out.symm)], Grow.refl _⟩
 case round =>
  obtain ⟨k, hk, rfl, hd, hG⟩ := hrel
  have Hd := Lib.hid hd
  clear hd
  rcases Nat.eq_zero_or_pos k with rfl | hpos
  ·have hc : decide ((0 : Int) ≤ ((0 : Nat) : Int) - 1) = false := by decide
   go_wp2_with fail
   go_ret
   refine ⟨ret_i64 ?_, hG⟩
   have := Hd.out
   simp only [List.drop_zero] at this
   rw [cmpN_eq (digs_inj W32_ge this)]
  ·obtain ⟨j, rfl⟩ : ∃ j, k = j + 1 := ⟨k - 1, by omega⟩
   have e1 : ((j + 1 : Nat) : Int) - 1 = (j : Nat) := by omega
   rw [e1]
   have hj1 : j < (digs W32 a).length := by have := Hn1.out; unfold ln at this; omega
   have hj2 : j < (digs W32 b).length := by have := Hn2.out; unfold ln at this; omega
   obtain ⟨b1, o1, rfl, hc1⟩ := (Hx.out.grow hG).cell hj1
   obtain ⟨b2, o2, rfl, hc2⟩ := (Hy.out.grow hG).cell hj2
   obtain ⟨p, hp⟩ : ∃ p, p = dg (digs W32 a) j := ⟨_, rfl⟩
   obtain ⟨q, hq⟩ : ∃ q, q = dg (digs W32 b) j := ⟨_, rfl⟩
   rw [← hp] at hc1
   rw [← hq] at hc2
   have Hp := Lib.hid hp
   have Hq := Lib.hid hq
   clear hp hq e1
   have hc0 : decide ((0 : Int) ≤ (j : Int)) = true := by simp
   rcases Nat.lt_trichotomy p q with hlt | heq | hgt
   ·have hb1 : ((p : Int) != (q : Int)) = true := by simp; omega
    have hb2 : decide ((p : Int) < (q : Int)) = true := by simp; omega
    go_wp2_with fail
    go_quiet (fail)
    go_wp2_with fail
    go_quiet (fail)
    go_wp2_with fail
    go_ret
    refine ⟨ret_i64 ?_, hG.trans ((grow_drewN _ _).trans (grow_drewN _ _))⟩
    have h1 := val_lt_of_digit (dig_digs W32_ge a) (Hn1.out.symm.trans Hn2.out) hj1 Hd.out (by rw [← Hp.out, ← Hq.out]; exact hlt)
    rw [val_digs W32_ge, val_digs W32_ge] at h1
    rw [cmpN_lt h1]
   ·subst heq
    go_wp2_with fail
    go_quiet (fail)
    go_wp2_with fail
    exact ⟨⟨j, by omega, rfl, by rw [drop_dg hj1, drop_dg hj2, Hd.out, ← Hp.out, ← Hq.out], hG.trans (grow_drewN _ _)⟩, by simp [intOf]⟩
   ·have hb1 : ((p : Int) != (q : Int)) = true := by simp; omega
    have hb2 : decide ((p : Int) < (q : Int)) = false := by simp; omega
    go_wp2_with fail
    go_quiet (fail)
    go_wp2_with fail
    go_quiet (fail)
    go_wp2_with fail
    go_ret
    refine ⟨ret_i64 ?_, hG.trans ((grow_drewN _ _).trans (grow_drewN _ _))⟩
    have h1 := val_lt_of_digit (dig_digs W32_ge b) (Hn2.out.symm.trans Hn1.out) hj2 Hd.out.symm (by rw [← Hp.out, ← Hq.out]; exact hgt)
    rw [val_digs W32_ge, val_digs W32_ge] at h1
    rw [cmpN_gt h1]
set_option maxHeartbeats 1000000 in
set_option maxRecDepth 100000 in
theorem ref1_NatCmp_ne (x y : Ax) (a b : Nat) (w : World) (hl : ln a ≠ ln b) :
  Calls Tryz.prog 59 #[nvV x a, nvV y b] w fun e w' => e = .returned (.int .i64 (cmpN a b)) ∧ Grow w w' := by
 rcases Nat.lt_or_gt_of_ne hl with h | h
 ·rw [cmpN_lt (ln_lt h)]
  go_enter Tryz.func59, Tryz.ntmps59
  go_wp2_with fail
  go_ret
  exact ⟨rfl, Grow.refl _⟩
 ·rw [cmpN_gt (ln_lt h)]
  have h' : ¬ ln a < ln b := by omega
  go_enter Tryz.func59, Tryz.ntmps59
  go_wp2_with fail
  go_ret
  exact ⟨rfl, Grow.refl _⟩
theorem ref1_NatCmp (x y : Ax) (a b : Nat) (w : World) (hx : Rn w x a) (hy : Rn w y b) :
  Calls Tryz.prog 59 #[nvV x a, nvV y b] w fun e w' => e = .returned (.int .i64 (cmpN a b)) ∧ Grow w w' := by
 by_cases hl : ln a = ln b
 ·exact ref1_NatCmp_same x y a b w hx hy hl
 ·exact ref1_NatCmp_ne x y a b w hl
end Go.Proofs.YtjmopgepnndckaaGreatDoor
