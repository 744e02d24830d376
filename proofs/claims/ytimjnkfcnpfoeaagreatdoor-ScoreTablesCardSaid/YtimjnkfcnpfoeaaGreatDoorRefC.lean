/-
  The document's numbers: one (division by one limb).
-/
import Derived.Test.YtimjnkfcnpfoeaaGreatDoorRefB
set_option linter.unusedSimpArgs false
namespace Go.Proofs.YtimjnkfcnpfoeaaGreatDoor
open Go.RowKit

def cells32 (l : List Nat) : Array Value := (l.map fun x => Value.int .u32 (x : Nat)).toArray
theorem cells32_get (l : List Nat) (i : Nat) : (cells32 l)[i]? = (l[i]?).map fun x => Value.int .u32 (x : Nat) := by
  unfold cells32; simp
theorem cells32_set (l : List Nat) (i y : Nat) : (cells32 l).setIfInBounds i (.int .u32 (y : Nat)) = cells32 (l.set i y) := by
  unfold cells32
  rw [List.setIfInBounds_toArray, List.map_set]
/-- a row of the call's own -/
def Row32 (u : World) (b : Nat) (l : List Nat) : Prop := Blk u b 157 (cells32 l)
theorem Row32.grow {u u' : World} {b : Nat} {l : List Nat} (hg : Grow u u') (h : Row32 u b l) : Row32 u' b l := Blk.grow hg h
theorem Row32.cell {u : World} {b : Nat} {l : List Nat} (h : Row32 u b l) {i : Nat} (hi : i < l.length) : u.cell? ⟨b, i, none⟩ = some (.int .u32 (dg l i : Nat)) := by
  rw [Blk.cell h, cells32_get, List.getElem?_eq_getElem hi, dg_eq hi]
  rfl
theorem Row32.frozen {u : World} {b : Nat} {l : List Nat} (h : Row32 u b l) (i : Nat) : u.frozen? ⟨b, i, none⟩ = false := Blk.frozen h i
theorem Row32.set {u : World} {b : Nat} {l : List Nat} (h : Row32 u b l) (i y : Nat) : Row32 (u.setCell ⟨b, i, none⟩ (.int .u32 (y : Nat))) b (l.set i y) := by
  have := Blk.set_ h i (.int .u32 (y : Nat))
  rw [cells32_set] at this
  exact this
theorem Row32.lim {u : World} {b : Nat} {l : List Nat} (h : Row32 u b l) : Lim u (some ⟨b, 0, none⟩) l := fun _ =>
  ⟨b, 0, cells32 l, (0, 0), rfl, h, fun i x hi => by rw [Nat.zero_add, cells32_get, hi]; rfl⟩
theorem info_u32 : (Tryz.prog.info? 157).map (fun i => (i.zero, i.size, i.bytes)) = some (some (.int .u32 0), 1, 4) := by kernel_rfl
theorem cells_made32 (n : Nat) : madeCells (Value.int .u32 0).cells (n * 1) = cells32 (List.replicate n 0) := by
  unfold cells32 madeCells
  refine Array.ext (by simp) fun i h1 h2 => ?_
  simp [Value.cells, Nat.mod_one]
theorem make_u32 (n : Nat) (hn : n ≤ 1099511627776) (x : Int) (hx : x = n) (W : World) : (Instr.makeSlice 37 (.int .i64 x) (.int .i64 x)).run Tryz.prog W =
    .ok (.slice (some ⟨W.heap.size, 0, none⟩) n n) (W.alloc (.cells (cells32 (List.replicate n 0)) 157)) := by
  obtain ⟨i0, hi0, hz0, hz1, hz2⟩ := info_parts info_u32
  have hr := run_make (P := Tryz.prog) W 37 157 i0 (.int .u32 0) Tryz.underlying37 hi0 hz0 .i64 .i64 n n (by omega) (by omega) (by rw [hz2]; omega) (by omega)
  rw [hx]
  rw [hr, hz1]
  simp only [Int.toNat_natCast]
  rw [cells_made32]
theorem dg_set_self {l : List Nat} {k : Nat} (h : k < l.length) (y : Nat) : dg (l.set k y) k = y := by
  unfold dg; rw [List.getElem?_set_self h]; rfl
/-- where a division by one limb stands: the limbs from k on are done -/
def OneI (W d : Nat) (l : List Nat) (k r : Nat) (zs : List Nat) : Prop :=
  zs.length = l.length ∧ Dig W zs ∧ r < d ∧ val W (zs.drop k) * d + r = val W (l.drop k)
theorem OneI.next {W d : Nat} {l : List Nat} {k r : Nat} {zs : List Nat} (h : OneI W d l (k + 1) r zs) (hk : k < l.length) (hd : Dig W l) (hW : 0 < W) :
    OneI W d l k ((r * W + dg l k) % d) (zs.set k ((r * W + dg l k) / d)) := by
  obtain ⟨h1, h2, h4, h5⟩ := h
  have hk' : k < zs.length := by rw [h1]; exact hk
  have hx := dg_lt hW hd k
  refine ⟨by rw [List.length_set, h1], dig_set h2 _ (digit_lt h4 hx), Nat.mod_lt _ (by omega), ?_⟩
  rw [drop_dg (l := zs.set k _) (by rw [List.length_set]; exact hk'), dg_set_self hk', drop_dg hk, val_cons, val_cons, List.drop_set_of_lt (by omega), ← h5]
  have e := Nat.div_add_mod (r * W + dg l k) d
  generalize (r * W + dg l k) / d = q at *
  generalize (r * W + dg l k) % d = m at *
  generalize val W (zs.drop (k + 1)) = V at *
  grind
set_option maxHeartbeats 1000000 in
set_option maxRecDepth 100000 in
theorem ref1_one (x : Ax) (a d : Nat) (w : World) (hx : Rn w x a) (hd0 : 0 < d) (hdW : d < W32) :
    Calls Tryz.prog 170 #[nvV x a, .int .u32 d] w fun e w' => ∃ y : Ax, e = .returned (.tuple #[nvV y (a / d), .int .u32 (a % d : Nat)]) ∧ Rn w' y (a / d) ∧ Grow w w' := by
  obtain ⟨A, c⟩ := x
  obtain ⟨n, hn⟩ : ∃ n, n = ln a := ⟨_, rfl⟩
  have hm : n ≤ 1099511627776 := by rw [hn]; exact Nat.le_trans hx.2.1 hx.2.2
  show Calls Tryz.prog 170 #[.slice A (ln a) c, .int .u32 d] w _
  rw [← hn]
  have Hx := Lib.hid hx.1
  have Hn := Lib.hid hn
  have hmk := make_u32 n hm (n : Int) rfl
  clear hx hn
  unfold W32 at hdW
  go_enter Tryz.func170, Tryz.ntmps170
  go_wp2_with fail
  clear hmk
  go_loopw [7, 8] (fun r i wr => ∃ (k r' : Nat) (zs : List Nat), k ≤ n ∧ i = .int .i64 ((k : Int) - 1) ∧ r = .int .u64 r' ∧ OneI W32 d (digs W32 a) k r' zs ∧ Row32 wr w.heap.size zs ∧ Grow w wr) (fun _ i _ => (intOf i + 1).toNat)
  case atStart => exact ⟨n, 0, List.replicate n 0, Nat.le_refl _, rfl, rfl, ⟨by rw [List.length_replicate]; exact Hn.out, fun z hz => (by rw [(List.mem_replicate.1 hz).2]; exact W32_pos), hd0, by rw [List.drop_of_length_le (by simp), List.drop_of_length_le (Nat.le_of_eq Hn.out.symm)]; simp [val]⟩, Blk.new w 157 _, Grow.alloc _ _⟩
  case round =>
    obtain ⟨k, r', zs, hk, rfl, rfl, hI, hR, hG⟩ := hrel
    have HI := Lib.hid hI
    have HG := Lib.hid hG
    have HR := Lib.hid hR
    clear hI hG hR
    rcases Nat.eq_zero_or_pos k with rfl | hpos
    · have hval : val W32 zs * d + r' = a := by have := HI.out.2.2.2; rw [List.drop_zero, List.drop_zero, val_digs W32_ge] at this; exact this
      have hr := HI.out.2.2.1
      have hres : a % d = r' ∧ a / d = val W32 zs := by
        rw [← hval, Nat.mul_comm, Nat.mul_add_mod, Nat.mod_eq_of_lt hr, Nat.mul_add_div hd0, Nat.div_eq_of_lt hr]
        simp
      have hzl : zs.length = n := by rw [HI.out.1]; exact Hn.out.symm
      have htr : Calls Tryz.prog 135 #[.slice (some ⟨w.heap.size, 0, none⟩) n n] wr fun e w' => e = .returned (.slice (some ⟨w.heap.size, 0, none⟩) (ln (a / d)) n) ∧ Rn w' (some ⟨w.heap.size, 0, none⟩, n) (a / d) ∧ Grow w w' := by
        have h1 := ref1_trim (some ⟨w.heap.size, 0, none⟩) zs n wr HR.out.lim (Nat.le_of_eq hzl) (by omega)
        rw [hzl] at h1
        refine h1.mono fun e w' ⟨he, hg⟩ => ?_
        obtain ⟨hr1, hlen⟩ := rn_trim (a := a / d) (c := n) (HR.out.lim.grow hg) HI.out.2.1 hres.2.symm (Nat.le_of_eq hzl) hm
        rw [hlen] at he
        exact ⟨he, hr1, HG.out.trans hg⟩
      have Htr := Lib.hid htr
      have Hres := Lib.hid hres
      clear hval hres hzl htr
      have hc : decide ((0 : Int) ≤ ((0 : Nat) : Int) - 1) = false := by decide
      have hwr : ((r' : Int)) % 4294967296 = (r' : Int) := by omega
      go_wp2_with (go_at_call 135; ((with_reducible refine (Htr.out).mono ?_); rintro e w1 ⟨rfl, hr1, hg⟩))
      go_ret2
      exact ⟨(some ⟨w.heap.size, 0, none⟩, n), congrArg (fun z : Nat => Ending.returned (.tuple #[.slice (some ⟨w.heap.size, 0, none⟩) (ln (a / d)) n, .int .u32 (z : Nat)])) Hres.out.1.symm, hr1, hg⟩
    · obtain ⟨j, rfl⟩ : ∃ j, k = j + 1 := ⟨k - 1, by omega⟩
      have e1 : ((j + 1 : Nat) : Int) - 1 = (j : Nat) := by omega
      rw [e1]
      have hjl : j < (digs W32 a).length := by have := Hn.out; unfold ln at this; omega
      have hnx := HI.out.next hjl (dig_digs W32_ge a) W32_pos
      obtain ⟨b1, o1, rfl, hc1⟩ := (Hx.out.grow HG.out).cell hjl
      have hjz : j < zs.length := by rw [HI.out.1]; exact hjl
      have hc2 := HR.out.cell hjz
      have hf2 := HR.out.frozen j
      have hxl := dg_lt W32_pos (dig_digs W32_ge a) j
      obtain ⟨p, hp⟩ : ∃ p, p = dg (digs W32 a) j := ⟨_, rfl⟩
      rw [← hp] at hc1 hnx hxl
      have hr := HI.out.2.2.1
      have Hp := Lib.hid hp
      have Hnx := Lib.hid hnx
      clear hp hnx e1
      have hc0 : decide ((0 : Int) ≤ (j : Int)) = true := by simp
      unfold W32 at hxl
      obtain ⟨X, hX⟩ : ∃ X, X = r' * W32 + p := ⟨_, rfl⟩
      have hXl : X < 18446744073709551616 := by rw [hX]; unfold W32; omega
      have hqW : X / d < 4294967296 := by rw [hX]; exact digit_lt hr (by unfold W32; exact hxl)
      have hmW : X % d < d := Nat.mod_lt _ hd0
      have hor : bits BinOp.or IntKind.u64 ((r' : Int) * 4294967296) (p : Int) = (X : Nat) := by
        have e2 : ((r' : Int) * 4294967296) = ((r' * 4294967296 : Nat) : Int) := by omega
        rw [e2, bits_or_u64_nat _ _ (by omega) (by omega), hX]
        unfold W32
        rw [or_add (s := 32) (by omega) (by omega)]
      have htm : ((X : Nat) : Int).tmod (d : Int) = ((X % d : Nat) : Int) := rfl
      have htd : ((X : Nat) : Int).tdiv (d : Int) = ((X / d : Nat) : Int) := rfl
      rw [← hX] at Hnx
      have HX := Lib.hid hX
      obtain ⟨q, hq⟩ : ∃ q, q = X / d := ⟨_, rfl⟩
      obtain ⟨m, hm'⟩ : ∃ q, q = X % d := ⟨_, rfl⟩
      rw [← hq] at Hnx htd hqW
      rw [← hm'] at Hnx htm hmW
      clear hX hq hm'
      have hwq : ((q : Int)) % 4294967296 = (q : Int) := by omega
      go_wp2_with fail
      exact ⟨⟨j, m, zs.set j q, by omega, rfl, rfl, Hnx.out, HR.out.set j q, HG.out.setCell (p := ⟨w.heap.size, j, none⟩) (Nat.le_refl _) _⟩, by simp [intOf]⟩
end Go.Proofs.YtimjnkfcnpfoeaaGreatDoor
