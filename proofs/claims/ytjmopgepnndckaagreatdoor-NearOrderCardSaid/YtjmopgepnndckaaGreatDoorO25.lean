/-
  Contracts and laws: RefC RefD RefF RefG.
-/
import Derived.Test.YtjmopgepnndckaaGreatDoorO24
set_option linter.unusedSimpArgs false
set_option linter.unusedVariables false
namespace Go.Proofs.YtjmopgepnndckaaGreatDoor
open Go.RowKit
def cells32 (l : List Nat) : Array Value := (l.map fun x => Value.int .u32 (x : Nat)).toArray
theorem cells32_get (l : List Nat) (i : Nat) : (cells32 l)[i]? = (l[i]?).map fun x => Value.int .u32 (x : Nat) := by
 unfold cells32; simp
theorem cells32_set (l : List Nat) (i y : Nat) : (cells32 l).setIfInBounds i (.int .u32 (y : Nat)) = cells32 (l.set i y) := by
 unfold cells32
 rw [List.setIfInBounds_toArray, List.map_set]
/-- a row of the call's own -/
def Row32 (u : World) (b : Nat) (l : List Nat) : Prop := Blk u b 162 (cells32 l)
theorem Row32.grow {u u' : World} {b : Nat} {l : List Nat} (hg : Grow u u') (h : Row32 u b l) : Row32 u' b l := Blk.grow hg h
theorem Row32.cell {u : World} {b : Nat} {l : List Nat} (h : Row32 u b l) {i : Nat} (hi : i < l.length) : u.cell? ⟨b, i, none⟩ = some (.int .u32 (dg l i : Nat)) := by
 rw [Blk.cell h, cells32_get, List.getElem?_eq_getElem hi, dg_eq hi]
 rfl
theorem Row32.frozen {u : World} {b : Nat} {l : List Nat} (h : Row32 u b l) (i : Nat) : u.frozen? ⟨b, i, none⟩ = false := Blk.frozen h i
theorem Row32.set {u : World} {b : Nat} {l : List Nat} (h : Row32 u b l) (i y : Nat) : Row32 (u.setCell ⟨b, i, none⟩ (.int .u32 (y : Nat))) b (l.set i y) := by
 have := Blk.set_ h i (.int .u32 (y : Nat))
 rw [cells32_set] at this
 exact this
theorem Row32.lim {u : World} {b : Nat} {l : List Nat} (h : Row32 u b l) : Lim u (some ⟨b, 0, none⟩) l := fun _ =>
 ⟨b, 0, cells32 l, (0, 0), rfl, h, fun i x hi => by rw [Nat.zero_add, cells32_get, hi]; rfl⟩
theorem info_u32 : (Tryz.prog.info? 162).map (fun i => (i.zero, i.size, i.bytes)) = some (some (.int .u32 0), 1, 4) := by kernel_rfl
theorem cells_made32 (n : Nat) : madeCells (Value.int .u32 0).cells (n * 1) = cells32 (List.replicate n 0) := by
 unfold cells32 madeCells
 refine Array.ext (by simp) fun i h1 h2 => ?_
 simp [Value.cells, Nat.mod_one]
theorem make_u32 (n : Nat) (hn : n ≤ 1099511627776) (x : Int) (hx : x = n) (W : World) : (Instr.makeSlice 53 (.int .i64 x) (.int .i64 x)).run Tryz.prog W =
  .ok (.slice (some ⟨W.heap.size, 0, none⟩) n n) (W.alloc (.cells (cells32 (List.replicate n 0)) 162)) := by
 obtain ⟨i0, hi0, hz0, hz1, hz2⟩ := info_parts info_u32
 have hr := run_make (P := Tryz.prog) W 53 162 i0 (.int .u32 0) Tryz.underlying53 hi0 hz0 .i64 .i64 n n (by omega) (by omega) (by rw [hz2]; omega) (by omega)
 rw [hx]
 rw [hr, hz1]
 simp only [Int.toNat_natCast]
 rw [cells_made32]
/-- where a division by one limb stands: the limbs from k on are done -/
def OneI (W d : Nat) (l : List Nat) (k r : Nat) (zs : List Nat) : Prop :=
 zs.length = l.length ∧ Dig W zs ∧ r < d ∧ val W (zs.drop k) * d + r = val W (l.drop k)
theorem OneI.next {W d : Nat} {l : List Nat} {k r : Nat} {zs : List Nat} (h : OneI W d l (k + 1) r zs) (hk : k < l.length) (hd : Dig W l) (hW : 0 < W) :
  OneI W d l k ((r * W + dg l k) % d) (zs.set k ((r * W + dg l k) / d)) := by
 obtain ⟨h1, h2, h4, h5⟩ := h
 have hk' : k < zs.length := by rw [h1]; exact hk
 have hx := dg_lt hW hd k
 refine ⟨by rw [List.length_set, h1], dig_set h2 _ (digit_lt h4 hx), Nat.mod_lt _ (by omega), ?_⟩
 rw [drop_dg (l := zs.set k _) (by rw [List.length_set]; exact hk'), dg_set_self hk', drop_dg hk, val_cons, val_cons, List.drop_set_of_lt (by omega), ← h5]
 have e := Nat.div_add_mod (r * W + dg l k) d
 generalize (r * W + dg l k) / d = q at *
 generalize (r * W + dg l k) % d = m at *
 generalize val W (zs.drop (k + 1)) = V at *
 grind
set_option maxHeartbeats 1000000 in
set_option maxRecDepth 100000 in
theorem ref1_one (x : Ax) (a d : Nat) (w : World) (hx : Rn w x a) (hd0 : 0 < d) (hdW : d < W32) :
  Calls Tryz.prog 182 #[nvV x a, .int .u32 d] w fun e w' => ∃ y : Ax, e = .returned (.tuple #[nvV y (a / d), .int .u32 (a % d : Nat)]) ∧ Rn w' y (a / d) ∧ Grow w w' := by
 obtain ⟨A, c⟩ := x
 obtain ⟨n, hn⟩ : ∃ n, n = ln a := ⟨_, rfl⟩
 have hm : n ≤ 1099511627776 := by rw [hn]; exact hx.2.2.2
 show Calls Tryz.prog 182 #[.slice A (ln a) c, .int .u32 d] w _
 rw [← hn]
 have Hx := Lib.hid hx.1
 have Hn := Lib.hid hn
 have hmk := make_u32 n hm (n : Int) rfl
 clear hx hn
 unfold W32 at hdW
 go_enter Tryz.func182, Tryz.ntmps182
 go_wp2_with fail
 clear hmk
 go_loopw [7, 8] (fun r i wr => ∃ (k r' : Nat) (zs : List Nat), k ≤ n ∧ i = .int .i64 ((k : Int) - 1) ∧ r = .int .u64 r' ∧ OneI W32 d (digs W32 a) k r' zs ∧ Row32 wr w.heap.size zs ∧ Grow w wr) (fun _ i _ => (intOf i + 1).toNat)
 case atStart => exact ⟨n, 0, List.replicate n 0, Nat.le_refl _, rfl, rfl, ⟨by rw [List.length_replicate]; exact Hn.out, fun z hz => (by rw [(List.mem_replicate.1 hz).2]; exact W32_pos), hd0, by rw [List.drop_of_length_le (by simp), List.drop_of_length_le (Nat.le_of_eq Hn.out.symm)]; simp [val]⟩, Blk.new w 162 _, Grow.alloc _ _⟩
 case round =>
  obtain ⟨k, r', zs, hk, rfl, rfl, hI, hR, hG⟩ := hrel
  have HI := Lib.hid hI
  have HG := Lib.hid hG
  have HR := Lib.hid hR
  clear hI hG hR
  rcases Nat.eq_zero_or_pos k with rfl | hpos
  ·have hval : val W32 zs * d + r' = a := by have := HI.out.2.2.2; rw [List.drop_zero, List.drop_zero, val_digs W32_ge] at this; exact this
   have hr := HI.out.2.2.1
   have hres : a % d = r' ∧ a / d = val W32 zs := by
    rw [← hval, Nat.mul_comm, Nat.mul_add_mod, Nat.mod_eq_of_lt hr, Nat.mul_add_div hd0, Nat.div_eq_of_lt hr]
    simp
   have hzl : zs.length = n := by rw [HI.out.1]; exact Hn.out.symm
   have htr : Calls Tryz.prog 126 #[.slice (some ⟨w.heap.size, 0, none⟩) n n] wr fun e w' => e = .returned (.slice (some ⟨w.heap.size, 0, none⟩) (ln (a / d)) n) ∧ Rn w' (some ⟨w.heap.size, 0, none⟩, n) (a / d) ∧ Grow w w' := by
    have h1 := ref1_trim (some ⟨w.heap.size, 0, none⟩) zs n wr HR.out.lim (Nat.le_of_eq hzl) (by omega)
    rw [hzl] at h1
    refine h1.mono fun e w' ⟨he, hg⟩ => ?_
    obtain ⟨hr1, hlen⟩ := rn_trim (a := a / d) (c := n) (HR.out.lim.grow hg) HI.out.2.1 hres.2.symm (Nat.le_of_eq hzl) hm
    rw [hlen] at he
    exact ⟨he, hr1, HG.out.trans hg⟩
   have Htr := Lib.hid htr
   have Hres := Lib.hid hres
   clear hval hres hzl htr
   have hc : decide ((0 : Int) ≤ ((0 : Nat) : Int) - 1) = false := by decide
   have hwr : ((r' : Int)) % 4294967296 = (r' : Int) := by omega
   go_wp2_with (go_at_call 126; ((with_reducible refine (Htr.out).mono ?_); rintro e w1 ⟨rfl, hr1, hg⟩))
   go_ret2
   exact ⟨(some ⟨w.heap.size, 0, none⟩, n), congrArg (fun z : Nat => Ending.returned (.tuple #[.slice (some ⟨w.heap.size, 0, none⟩) (ln (a / d)) n, .int .u32 (z : Nat)])) Hres.out.1.symm, hr1, hg⟩
  ·obtain ⟨j, rfl⟩ : ∃ j, k = j + 1 := ⟨k - 1, by omega⟩
   have e1 : ((j + 1 : Nat) : Int) - 1 = (j : Nat) := by omega
   rw [e1]
   have hjl : j < (digs W32 a).length := by have := Hn.out; unfold ln at this; omega
   have hnx := HI.out.next hjl (dig_digs W32_ge a) W32_pos
   obtain ⟨b1, o1, rfl, hc1⟩ := (Hx.out.grow HG.out).cell hjl
   have hjz : j < zs.length := by rw [HI.out.1]; exact hjl
   have hc2 := HR.out.cell hjz
   have hf2 := HR.out.frozen j
   have hxl := dg_lt W32_pos (dig_digs W32_ge a) j
   obtain ⟨p, hp⟩ : ∃ p, p = dg (digs W32 a) j := ⟨_, rfl⟩
   rw [← hp] at hc1 hnx hxl
   have hr := HI.out.2.2.1
   have Hp := Lib.hid hp
   have Hnx := Lib.hid hnx
   clear hp hnx e1
   have hc0 : decide ((0 : Int) ≤ (j : Int)) = true := by simp
   unfold W32 at hxl
   obtain ⟨X, hX⟩ : ∃ X, X = r' * W32 + p := ⟨_, rfl⟩
   have hXl : X < 18446744073709551616 := by rw [hX]; unfold W32; omega
   have hqW : X / d < 4294967296 := by rw [hX]; exact digit_lt hr (by unfold W32; exact hxl)
   have hmW : X % d < d := Nat.mod_lt _ hd0
   have hor : bits BinOp.or IntKind.u64 ((r' : Int) * 4294967296) (p : Int) = (X : Nat) := by
    have e2 : ((r' : Int) * 4294967296) = ((r' * 4294967296 : Nat) : Int) := by omega
    rw [e2, bits_or_u64_nat _ _ (by omega) (by omega), hX]
    unfold W32
    rw [or_add (s := 32) (by omega) (by omega)]
   have htm : ((X : Nat) : Int).tmod (d : Int) = ((X % d : Nat) : Int) := rfl
   have htd : ((X : Nat) : Int).tdiv (d : Int) = ((X / d : Nat) : Int) := rfl
   rw [← hX] at Hnx
   have HX := Lib.hid hX
   obtain ⟨q, hq⟩ : ∃ q, q = X / d := ⟨_, rfl⟩
   obtain ⟨m, hm'⟩ : ∃ q, q = X % d := ⟨_, rfl⟩
   rw [← hq] at Hnx htd hqW
   rw [← hm'] at Hnx htm hmW
   clear hX hq hm'
   have hwq : ((q : Int)) % 4294967296 = (q : Int) := by omega
   go_wp2_with fail
   exact ⟨⟨j, m, zs.set j q, by omega, rfl, rfl, Hnx.out, HR.out.set j q, HG.out.setCell (p := ⟨w.heap.size, j, none⟩) (Nat.le_refl _) _⟩, by simp [intOf]⟩
end Go.Proofs.YtjmopgepnndckaaGreatDoor
namespace Go.Proofs.YtjmopgepnndckaaGreatDoor
open Go.RowKit
theorem ln_one {b : Nat} (h0 : b ≠ 0) (h : b < W32) : ln b = 1 ∧ digs W32 b = [b] := by
 have e : digs W32 b = [b] := by
  rw [digs_pos W32_ge h0, Nat.mod_eq_of_lt h, Nat.div_eq_of_lt h]; rfl
 exact ⟨by unfold ln; rw [e]; rfl, e⟩
theorem Rn.nil (u : World) : Rn u (none, 0) 0 := ⟨Lim.nil _ _, Nat.le_refl _, by omega, by decide⟩
theorem Ret.nn {a b : Nat} {w : World} {P : Program} {f : FuncId} {args : Array Value} {W : World} (h : Calls P f args W (Ret (nnR a b) w)) : Calls P f args W fun e w' => ∃ x y : Ax, e = .returned (.tuple #[.slice x.1 (ln a) x.2, .slice y.1 (ln b) y.2]) ∧ Rn w' x a ∧ Rn w' y b ∧ Grow w w' :=
 h.mono fun _ _ ⟨x, he, ht, hg⟩ => ⟨x.1, x.2, he, ht.1, ht.2, hg⟩
set_option maxHeartbeats 1000000 in
set_option maxRecDepth 100000 in
theorem ref1_NatDiv_less (x y : Ax) (a b : Nat) (w : World) (hx : Rn w x a) (hy : Rn w y b) (hlt : a < b) : Calls Tryz.prog 154 #[nvV x a, nvV y b] w (Ret (nnR (a / b) (a % b)) w) := by
 have hcmp := ref1_NatCmp x y a b w hx hy
 rw [cmpN_lt hlt] at hcmp
 have Hcmp := Lib.hid hcmp
 have Hx := Lib.hid hx
 clear hcmp hx hy
 rw [Nat.div_eq_of_lt hlt, Nat.mod_eq_of_lt hlt]
 go_enter Tryz.func154, Tryz.ntmps154
 go_wp2_with (go_at_call 59; ((with_reducible refine (Hcmp.out).mono ?_); rintro e w1 ⟨rfl, hg⟩))
 go_ret2
 exact ⟨((none, 0), x), rfl, ⟨Rn.nil _, Hx.out.grow hg⟩, hg⟩
set_option maxHeartbeats 1000000 in
set_option maxRecDepth 100000 in
theorem ref1_NatDiv_small (x y : Ax) (a b : Nat) (w : World) (hx : Rn w x a) (hy : Rn w y b) (h0 : b ≠ 0) (hs : b < W32) : Calls Tryz.prog 154 #[nvV x a, nvV y b] w (Ret (nnR (a / b) (a % b)) w) := by
 by_cases hlt : a < b
 ·exact ref1_NatDiv_less x y a b w hx hy hlt
 ·have hcmp := ref1_NatCmp x y a b w hx hy
  have hcz : decide (cmpN a b < 0) = false := by unfold cmpN; rw [if_neg hlt]; split <;> rfl
  obtain ⟨hl1, hdg⟩ := ln_one h0 hs
  obtain ⟨A2, c2⟩ := y
  have hcell := hy.1.cell (i := 0) (by rw [hdg]; simp)
  rw [hdg] at hcell
  obtain ⟨b2, o2, rfl, hc2⟩ := hcell
  have hc2' : ∀ W, Grow w W → W.cell? ⟨b2, o2, none⟩ = some (.int .u32 (b : Nat)) := fun W hg => by
   have h1 := (hy.1.grow hg).cell (i := 0) (by rw [hdg]; simp)
   rw [hdg] at h1
   obtain ⟨b3, o3, e3, h3⟩ := h1
   injection e3 with e3
   injection e3 with e4 e5
   subst e4; subst e5
   exact h3
  have hone : ∀ W, Grow w W → Calls Tryz.prog 182 #[nvV x a, .int .u32 b] W fun e w' => ∃ y : Ax, e = .returned (.tuple #[nvV y (a / b), .int .u32 (a % b : Nat)]) ∧ Rn w' y (a / b) ∧ Grow W w' := fun W hg => ref1_one x a b W (hx.grow hg) (Nat.pos_of_ne_zero h0) hs
  have hmod : a % b < W64 := Nat.lt_of_lt_of_le (Nat.mod_lt _ (Nat.pos_of_ne_zero h0)) (Nat.le_of_lt (Nat.lt_of_lt_of_le hs (by unfold W32 W64; omega)))
  have hof := ref1_NatOf (a % b) hmod
  obtain ⟨m, hme⟩ : ∃ m, m = a % b := ⟨_, rfl⟩
  rw [← hme] at hone hof hmod ⊢
  unfold W64 at hmod
  show Calls Tryz.prog 154 #[nvV x a, .slice (some ⟨b2, o2, none⟩) (ln b) c2] w _
  rw [hl1]
  have hcmp' : Calls Tryz.prog 59 #[nvV x a, .slice (some ⟨b2, o2, none⟩) 1 c2] w fun e w' => e = .returned (.int .i64 (cmpN a b)) ∧ Grow w w' := by
   rw [← hl1]; exact hcmp
  have Hcmp := Lib.hid hcmp'
  have Hone := Lib.hid hone
  have Hof := Lib.hid hof
  have Hc2 := Lib.hid hc2'
  clear hcmp hcmp' hone hof hc2' hc2 hy hx hdg hl1 hs hme
  go_enter Tryz.func154, Tryz.ntmps154
  go_wp2_with (first
   | (go_at_call 59; ((with_reducible refine (Hcmp.out).mono ?_); rintro e w1 ⟨rfl, hg1⟩; have hcc := Hc2.out w1 hg1))
   | (go_at_call 182; ((with_reducible refine (Hone.out w1 hg1).mono ?_); rintro e w2 ⟨y2, rfl, hy2, hg2⟩))
   | (go_at_call 88; ((with_reducible refine (Hof.out _).mono ?_); rintro e w3 ⟨y3, rfl, hy3, hg3⟩)))
  go_ret2
  exact ⟨(y2, y3), rfl, ⟨hy2.grow hg3, hy3⟩, hg1.trans (hg2.trans hg3)⟩
end Go.Proofs.YtjmopgepnndckaaGreatDoor
namespace Go.Proofs.YtjmopgepnndckaaGreatDoor
open Go.RowKit
theorem ln_bl (a : Nat) : ln a ≤ bl a / 32 + 1 := by
 refine digs_length_le W32_ge (Nat.lt_of_lt_of_le (lt_bl a) ?_)
 rw [show W32 = 2 ^ 32 from rfl, ← Nat.pow_mul]
 exact Nat.pow_le_pow_right (by omega) (by omega)
theorem dgl (a k : Nat) : dg (digs W32 a) k < 4294967296 := dg_lt W32_pos (dig_digs W32_ge a) k
set_option maxHeartbeats 400000 in
theorem ref1_at (x : Ax) (a i : Nat) (w : World) (hx : Rn w x a) : Calls Tryz.prog 206 #[nvV x a, .int .i64 i] w fun e w' => e = .returned (.int .u64 (dg (digs W32 a) i : Nat)) ∧ Grow w w' := by
 obtain ⟨A, c⟩ := x
 obtain ⟨n, hn⟩ : ∃ n, n = ln a := ⟨_, rfl⟩
 show Calls Tryz.prog 206 #[.slice A (ln a) c, .int .i64 i] w _
 rw [← hn]
 rcases Nat.lt_or_ge i n with h | h
 ·obtain ⟨b, off, rfl, hc⟩ := hx.1.cell (i := i) (by rw [hn] at h; exact h)
  have hl := dgl a i
  generalize dg (digs W32 a) i = p at *
  have hp : ((p : Int)) % 18446744073709551616 = (p : Int) := by omega
  clear hx hn
  go_enter Tryz.func206, Tryz.ntmps206
  go_wp2_with fail
  go_ret
  exact ⟨rfl, Grow.refl _⟩
 ·rw [dg_over (l := digs W32 a) (by rw [hn] at h; exact h)]
  have h' : ¬ i < n := by omega
  clear hx hn
  go_enter Tryz.func206, Tryz.ntmps206
  go_wp2_with fail
  go_ret
  exact ⟨rfl, Grow.refl _⟩
/-- a sum: the limbs below k are done -/
def AdI (W N : Nat) (la lb : List Nat) (k c : Nat) (zs : List Nat) : Prop := zs.length = N ∧ Dig W zs ∧ c ≤ 1 ∧ val W (zs.take k) + c * W ^ k = val W (la.take k) + val W (lb.take k)
theorem AdI.start {W : Nat} (N : Nat) (la lb : List Nat) (hW : 0 < W) : AdI W N la lb 0 0 (List.replicate N 0) :=
 ⟨by simp, fun z hz => by rw [(List.mem_replicate.1 hz).2]; exact hW, by omega, by simp [val]⟩
theorem AdI.next {W N : Nat} {la lb zs : List Nat} {k c : Nat} (h : AdI W N la lb k c zs) (hW : 2 ≤ W) (ha : Dig W la) (hb : Dig W lb) (hk : k < N) :
  AdI W N la lb (k + 1) ((dg la k + dg lb k + c) / W) (zs.set k ((dg la k + dg lb k + c) % W)) := by
 obtain ⟨h1, h2, h3, h4⟩ := h
 have e1 := dg_lt (by omega) ha k
 have e2 := dg_lt (by omega) hb k
 refine ⟨by rw [List.length_set]; exact h1, dig_set h2 _ (Nat.mod_lt _ (by omega)), ?_, ?_⟩
 ·have : (dg la k + dg lb k + c) / W < 2 := Nat.div_lt_of_lt_mul (by omega)
  omega
 ·rw [take_set_succ (by omega)]
  exact add_step (by rw [List.length_take]; omega) h4
theorem AdI.done {W N : Nat} {la lb zs : List Nat} {c : Nat} (h : AdI W N la lb N c zs) (hW : 2 ≤ W) (ha : Dig W la) (hb : Dig W lb) (hla : la.length < N) (hlb : lb.length < N) : val W zs = val W la + val W lb := by
 obtain ⟨h1, h2, h3, h4⟩ := h
 rw [List.take_of_length_le (by omega), List.take_of_length_le (by omega), List.take_of_length_le (by omega)] at h4
 have e1 := Nat.lt_of_lt_of_le (val_lt ha) (Nat.pow_le_pow_right (by omega) (show la.length ≤ N - 1 by omega))
 have e2 := Nat.lt_of_lt_of_le (val_lt hb) (Nat.pow_le_pow_right (by omega) (show lb.length ≤ N - 1 by omega))
 have e3 : 2 * W ^ (N - 1) ≤ W ^ N := by
  obtain ⟨m, rfl⟩ : ∃ m, N = m + 1 := ⟨N - 1, by omega⟩
  rw [Nat.add_sub_cancel, Nat.pow_succ, Nat.mul_comm]
  exact Nat.mul_le_mul_left _ hW
 rcases Nat.eq_zero_or_pos c with rfl | hc
 ·omega
 ·obtain rfl : c = 1 := by omega
  omega
/-- behind the last loop: the row trimmed -/
theorem trim_ret {w u : World} {b N a : Nat} {zs : List Nat} (hG : Grow w u) (hR : Blk u b 162 (cells32 zs)) (hl : zs.length = N) (hd : Dig W32 zs) (hv : val W32 zs = a) (hN : N ≤ 1099511627776) :
  ∀ W, Grow u W → Calls Tryz.prog 126 #[.slice (some ⟨b, 0, none⟩) N N] W fun e w' => e = .returned (.slice (some ⟨b, 0, none⟩) (ln a) N) ∧ Grow W w' := fun W hg => by
 have hL : Lim W (some ⟨b, 0, none⟩) zs := (Row32.lim hR).grow hg
 have h1 := ref1_trim (some ⟨b, 0, none⟩) zs N W hL (Nat.le_of_eq hl) (by omega)
 obtain ⟨-, hlen⟩ := rn_trim (a := a) (c := N) hL hd hv (Nat.le_of_eq hl) hN
 rw [hl, hlen] at h1
 exact h1
theorem trim_rn {u : World} {b N a : Nat} {zs : List Nat} (hR : Blk u b 162 (cells32 zs)) (hl : zs.length = N) (hd : Dig W32 zs) (hv : val W32 zs = a) (hN : N ≤ 1099511627776) : Rn u (some ⟨b, 0, none⟩, N) a :=
 (rn_trim (a := a) (c := N) (Row32.lim hR) hd hv (Nat.le_of_eq hl) hN).1
end Go.Proofs.YtjmopgepnndckaaGreatDoor
namespace Go.Proofs.YtjmopgepnndckaaGreatDoor
open Go.RowKit
/-- a difference into a new row: the limbs below k are done -/
def SdI (W N : Nat) (la lb : List Nat) (k br : Nat) (zs : List Nat) : Prop := zs.length = N ∧ Dig W zs ∧ br ≤ 1 ∧ val W (zs.take k) + val W (lb.take k) = val W (la.take k) + br * W ^ k
theorem SdI.start {W : Nat} (N : Nat) (la lb : List Nat) (hW : 0 < W) : SdI W N la lb 0 0 (List.replicate N 0) :=
 ⟨by simp, fun z hz => by rw [(List.mem_replicate.1 hz).2]; exact hW, by omega, by simp [val]⟩
theorem SdI.next {W N : Nat} {la lb zs : List Nat} {k br : Nat} (h : SdI W N la lb k br zs) (hW : 0 < W) (ha : Dig W la) (hb : Dig W lb) (hk : k < N) :
  SdI W N la lb (k + 1) (if dg la k < dg lb k + br then 1 else 0) (zs.set k ((dg la k + W - dg lb k - br) % W)) := by
 obtain ⟨h1, h2, h3, h4⟩ := h
 refine ⟨by rw [List.length_set]; exact h1, dig_set h2 _ (Nat.mod_lt _ hW), by split <;> omega, ?_⟩
 rw [take_set_succ (by omega)]
 exact sub_step h3 (dg_lt hW ha k) (dg_lt hW hb k) (by rw [List.length_take]; omega) h4
theorem SdI.done {W N : Nat} {la lb zs : List Nat} {br : Nat} (h : SdI W N la lb N br zs) (hla : la.length = N) (hlb : lb.length ≤ N) (hle : val W lb ≤ val W la) : val W zs = val W la - val W lb := by
 obtain ⟨h1, h2, h3, h4⟩ := h
 rw [List.take_of_length_le (by omega), List.take_of_length_le (by omega), List.take_of_length_le (by omega)] at h4
 have h6 := val_lt h2
 rw [h1] at h6
 rcases Nat.eq_zero_or_pos br with rfl | hc
 ·omega
 ·obtain rfl : br = 1 := by omega
  omega
/-- where a product stands after i rounds -/
def MlI (W N : Nat) (l1 l2 : List Nat) (i : Nat) (zs : List Nat) : Prop :=
 zs.length = N ∧ Dig W zs ∧ val W zs = val W (l1.take i) * val W l2 ∧ ∀ t, i + l2.length ≤ t → dg zs t = 0
def MlJ (W N : Nat) (l1 l2 : List Nat) (i j c : Nat) (zs : List Nat) : Prop :=
 zs.length = N ∧ Dig W zs ∧ c < W ∧ val W zs + c * W ^ (i + j) = val W (l1.take i) * val W l2 + W ^ i * (dg l1 i * val W (l2.take j)) ∧ ∀ t, i + l2.length ≤ t → dg zs t = 0
theorem MlI.start {W : Nat} (N : Nat) (l1 l2 : List Nat) (hW : 0 < W) : MlI W N l1 l2 0 (List.replicate N 0) :=
 ⟨by simp, fun z hz => by rw [(List.mem_replicate.1 hz).2]; exact hW, by simp [val_zeros, val], fun t _ => by unfold dg; rw [List.getElem?_replicate]; split <;> rfl⟩
theorem MlI.inner {W N : Nat} {l1 l2 : List Nat} {i : Nat} {zs : List Nat} (h : MlI W N l1 l2 i zs) (hW : 0 < W) : MlJ W N l1 l2 i 0 0 zs :=
 ⟨h.1, h.2.1, hW, by rw [h.2.2.1]; simp [val], h.2.2.2⟩
theorem MlJ.next {W N : Nat} {l1 l2 : List Nat} {i j c : Nat} {zs : List Nat} (h : MlJ W N l1 l2 i j c zs) (hN : N = l1.length + l2.length) (h1 : Dig W l1) (h2 : Dig W l2) (hW : 0 < W) (hi : i < l1.length) (hj : j < l2.length) :
  MlJ W N l1 l2 i (j + 1) ((dg l1 i * dg l2 j + dg zs (i + j) + c) / W) (zs.set (i + j) ((dg l1 i * dg l2 j + dg zs (i + j) + c) % W)) := by
 obtain ⟨hl, hd, hc, hv, hz⟩ := h
 refine ⟨by rw [List.length_set, hl], dig_set hd _ (Nat.mod_lt _ hW), (mul_digit (dg_lt hW h1 i) (dg_lt hW h2 j) (dg_lt hW hd _) hc).2.2, ?_, fun t ht => ?_⟩
 ·rw [← Nat.add_assoc]
  exact mul_step (by rw [hl]; omega) hv
 ·rw [dg_set_ne _ _ (by omega)]
  exact hz t ht
theorem MlJ.outer {W N : Nat} {l1 l2 : List Nat} {i c : Nat} {zs : List Nat} (h : MlJ W N l1 l2 i l2.length c zs) (hN : N = l1.length + l2.length) (hi : i < l1.length) : MlI W N l1 l2 (i + 1) (zs.set (i + l2.length) c) := by
 obtain ⟨hl, hd, hc, hv, hz⟩ := h
 have hlt : i + l2.length < zs.length := by rw [hl]; omega
 refine ⟨by rw [List.length_set, hl], dig_set hd _ hc, ?_, fun t ht => ?_⟩
 ·have h1 := val_set W zs (i + l2.length) c hlt
  rw [hz _ (Nat.le_refl _), Nat.mul_zero, Nat.add_zero] at h1
  rw [val_take_over W l2 _ (Nat.le_refl _)] at hv
  rw [h1, val_take_dg, Nat.add_mul, Nat.mul_comm (W ^ (i + l2.length)) c, hv]
  grind
 ·rw [dg_set_ne _ _ (by omega)]
  exact hz t (by omega)
end Go.Proofs.YtjmopgepnndckaaGreatDoor
