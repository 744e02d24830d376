/-
  Contracts and laws: NatJ ByteA Tz.
-/
import Derived.Test.YtjmopgepnndckaaGreatDoorO13
import Derived.RegionTactic
import Derived.BigRegion
import Derived.Deep.RegionHeld3
import Derived.Laws.Bits64b
import Derived.BigQuiet
set_option linter.unusedSimpArgs false
set_option linter.unusedVariables false
namespace Go.Proofs.YtjmopgepnndckaaGreatDoor
open Go.RowKit
theorem quo_wrap (a b : Nat) (h : a / b < W64) : IntKind.u64.wrap ((a : Int) / (b : Int)) = ((a / b : Nat) : Int) := by
 rw [← Int.natCast_ediv]
 generalize a / b = q at *
 unfold W64 at h; exact u64_wrap_id (x := (q : Int)) (by omega) (by omega)
theorem rem_wrap (a b : Nat) (h : a % b < W64) : IntKind.u64.wrap ((a : Int) % (b : Int)) = ((a % b : Nat) : Int) := by
 rw [← Int.natCast_emod]
 generalize a % b = q at *
 unfold W64 at h; exact u64_wrap_id (x := (q : Int)) (by omega) (by omega)
set_option maxHeartbeats 1000000 in
set_option maxRecDepth 100000 in
theorem nat_Div_small (a b : Nat) (ha : a < W64) (hb : b < W64) (h0 : b ≠ 0) (w : World) : Calls Tryz.prog 177 #[natV a, natV b] w fun e w' => e = .returned (.tuple #[natV (a / b), natV (a % b), .bool true]) ∧ Grow w w' := by
 have hbits : ∀ W : World, Calls Tryz.prog 119 #[natV b] W fun e w' => e = .returned (.int .i64 (bl b)) ∧ Grow W w' := fun W => nat_Bits b (Nat.le_trans (bl_small hb) (by omega)) W
 have hq : a / b < W64 := Nat.lt_of_le_of_lt (Nat.div_le_self a b) ha
 have hm : a % b < W64 := Nat.lt_of_le_of_lt (Nat.mod_le a b) ha
 have hne : ((bl b : Int) == 0) = false := by have := bl_pos.2 h0; simp; omega
 have hb0 : (natLo b == 0) = false := by rw [natLo_small hb]; simpa using h0
 have hE1 : (natMo a).toList.isEmpty = true := by rw [natMo_isEmpty]; simpa using ha
 have hE2 : (natMo b).toList.isEmpty = true := by rw [natMo_isEmpty]; simpa using hb
 have hb1 : ¬ natLo b = 0 := by rw [natLo_small hb]; omega
 have hw1 : IntKind.u64.wrap ((natLo a).tdiv (natLo b)) = natLo (a / b) := by
  rw [Int.tdiv_eq_ediv_of_nonneg (natLo_nonneg a), natLo_small ha, natLo_small hb, natLo_small hq]; exact quo_wrap a b hq
 have hw2 : IntKind.u64.wrap ((natLo a).tmod (natLo b)) = natLo (a % b) := by
  rw [Int.tmod_eq_emod_of_nonneg (natLo_nonneg a), natLo_small ha, natLo_small hb, natLo_small hm]; exact rem_wrap a b hm
 have hw3 : (natLo a).tmod (natLo b) = natLo (a % b) := by
  rw [Int.tmod_eq_emod_of_nonneg (natLo_nonneg a), natLo_small ha, natLo_small hb, natLo_small hm]; exact (Int.natCast_emod a b).symm
 have hw4 : natLo a % natLo b = natLo (a % b) := by
  rw [natLo_small ha, natLo_small hb, natLo_small hm]; exact (Int.natCast_emod a b).symm
 have hn1 := natLo_nonneg a
 have hn2 := natLo_nonneg b
 have Hmo := Lib.hid (And.intro (natMo_small hq) (natMo_small hm))
 have Hbits := Lib.hid hbits
 clear hbits hq hm
 go_enter Tryz.func177, Tryz.ntmps177
 refine en4 ?_
 intro u hG b5 b4 b3 b2 hB hF
 refine wp_seq ?_
 refine wp_seq (rsE allocs [0, 1, 0] hB hG fun L hL => ?_)
 refine gs ?_
 refine gmw (C := fun v => Hbits.out _) ?_
 refine gs ?_
 refine geT hL ?_
 clear hB hG hL L
 rintro u ⟨-, hB, hG, -⟩
 refine wp_cond_false (rfl) ?_
 refine wp_skip ?_
 refine then_norm ?_
 refine wp_seq ?_
 refine r0T ?_
 refine wp_cond_true (rfl) ?_
 refine wp_seq ?_
 refine Code.wp_mono NoP.up ?_
 have r := hB.r
 simp only [BxR] at r
 have hD : b2 ≠ b4 ∧ b2 ≠ b5 ∧ b3 ≠ b4 ∧ b3 ≠ b5 ∧ b4 ≠ b2 ∧ b4 ≠ b3 ∧ b4 ≠ b5 ∧ b5 ≠ b2 ∧ b5 ≠ b3 ∧ b5 ≠ b4 := ⟨hF.ne 0 2 rfl rfl (by decide), hF.ne 0 3 rfl rfl (by decide), hF.ne 1 2 rfl rfl (by decide), hF.ne 1 3 rfl rfl (by decide), hF.ne 2 0 rfl rfl (by decide), hF.ne 2 1 rfl rfl (by decide), hF.ne 2 3 rfl rfl (by decide), hF.ne 3 0 rfl rfl (by decide), hF.ne 3 1 rfl rfl (by decide), hF.ne 3 2 rfl rfl (by decide)⟩
 go_region
 clear r hD
 generalize hu0 : World.setCell (World.setCell u _ _) _ _ = u0
 have hBG := over_n hB hF hG 2 rfl 0 [_, _] hu0
 clear hB hG hu0
 obtain ⟨hB, hG⟩ := hBG
 clear u
 generalize hu1 : World.setCell (World.setCell u0 _ _) _ _ = u1
 have hBG := over_n hB hF hG 3 rfl 0 [_, _] hu1
 clear hB hG hu1
 obtain ⟨hB, hG⟩ := hBG
 clear u0
 obtain ⟨u, rfl⟩ : ∃ x, x = u1 := ⟨_, rfl⟩
 replace hB := hB.grow (Grow.drew u)
 replace hG := hG.trans (Grow.drew u)
 obtain ⟨u, rfl⟩ : ∃ x, x = u.drew := ⟨_, rfl⟩
 refine NoP.norm ?_
 refine then_norm ?_
 refine rt Tryz.results177 ?_
 refine And.intro ?_ hG
 rw [natV, natV, Hmo.out.1, Hmo.out.2]
end Go.Proofs.YtjmopgepnndckaaGreatDoor
namespace Go.Proofs.YtjmopgepnndckaaGreatDoor
open Go.RowKit
theorem heap_lt {u : World} {b : Nat} {o : Obj} (h : u.heap[b]? = some o) : b < u.heap.size := by
 rcases Nat.lt_or_ge b u.heap.size with hlt | hge
 ·exact hlt
 ·rw [Array.getElem?_eq_none hge] at h; cases h
theorem dg_digs {B : Nat} (hB : 2 ≤ B) (a k : Nat) : dg (digs B a) k = a / B ^ k % B := by
 induction k generalizing a with
 | zero =>
  by_cases h : a = 0
  ·subst h; rw [digs_zero]; simp [dg]
  ·rw [digs_pos hB h]; simp [dg]
 | succ k ih =>
  by_cases h : a = 0
  ·subst h; rw [digs_zero]; simp [dg]
  ·rw [digs_pos hB h]
   have : dg (a % B :: digs B (a / B)) (k + 1) = dg (digs B (a / B)) k := by simp [dg]
   rw [this, ih, Nat.pow_succ', Nat.div_div_eq_div_mul]
/-- the bytes, the lowest first -/
def byt (a : Nat) : List Nat := digs 256 a
theorem byt_length (a : Nat) : (byt a).length = (bl a + 7) / 8 := by
 have h1 := @digs_length_le 256 a ((bl a + 7) / 8) (by omega) (by
  refine Nat.lt_of_lt_of_le (lt_bl a) ?_
  rw [show (256 : Nat) = 2 ^ 8 from rfl, ← Nat.pow_mul]
  exact Nat.pow_le_pow_right (by omega) (by omega))
 rcases Nat.eq_zero_or_pos (bl a) with h | h
 ·have := bl_eq_zero.1 h
  subst this
  rfl
 ·have h2 : 256 ^ ((bl a + 7) / 8 - 1) ≤ a := by
   rw [show (256 : Nat) = 2 ^ 8 from rfl, ← Nat.pow_mul]
   exact bl_lt.1 (by omega)
  have := digs_length_gt (B := 256) (by omega) h2
  unfold byt
  omega
theorem byt_dig (a : Nat) : Dig 256 (byt a) := dig_digs (by omega) a
/-- the byte number k off the words -/
theorem word_byte (a k : Nat) : dg (digs W64 a) (k / 8) / 2 ^ (8 * (k % 8)) % 256 = dg (byt a) k := by
 unfold byt
 rw [dg_digs W64_ge, dg_digs (by omega)]
 have e1 : (256 : Nat) ^ k = W64 ^ (k / 8) * 2 ^ (8 * (k % 8)) := by
  rw [W64_pow, show (256 : Nat) = 2 ^ 8 from rfl, ← Nat.pow_mul, ← Nat.pow_mul, ← Nat.pow_add]
  congr 1
  omega
 rw [e1, ← Nat.div_div_eq_div_mul]
 generalize a / W64 ^ (k / 8) = x
 have hr : k % 8 < 8 := Nat.mod_lt _ (by omega)
 generalize k % 8 = r at hr
 have e2 : W64 = 2 ^ (8 * r) * (256 * 2 ^ (56 - 8 * r)) := by
  rw [W64_pow, show (256 : Nat) = 2 ^ 8 from rfl, ← Nat.pow_add, ← Nat.pow_add]
  congr 1
  omega
 rw [e2, Nat.mod_mul_right_div_self, Nat.mod_mul_right_mod]
def cells8 (l : List Nat) : Array Value := (l.map fun x => Value.int .u8 (x : Nat)).toArray
theorem cells8_get (l : List Nat) (i : Nat) : (cells8 l)[i]? = (l[i]?).map fun x => Value.int .u8 (x : Nat) := by
 unfold cells8; simp
theorem cells8_set (l : List Nat) (i y : Nat) : (cells8 l).setIfInBounds i (.int .u8 (y : Nat)) = cells8 (l.set i y) := by
 unfold cells8
 rw [List.setIfInBounds_toArray, List.map_set]
theorem cells_made8 (n : Nat) : madeCells (Value.int .u8 0).cells (n * 1) = cells8 (List.replicate n 0) := by
 unfold cells8 madeCells
 refine Array.ext (by simp) fun i h1 h2 => ?_
 simp [Value.cells, Nat.mod_one]
theorem make_u8 (n : Nat) (hn : n ≤ 1099511627776) (x : Int) (hx : x = n) (W : World) : (Instr.makeSlice 182 (.int .i64 x) (.int .i64 x)).run Tryz.prog W =
  .ok (.slice (some ⟨W.heap.size, 0, none⟩) n n) (W.alloc (.cells (cells8 (List.replicate n 0)) 5)) := by
 obtain ⟨i0, hi0, hz0, hz1, hz2⟩ := info_parts info_u8
 have hr := run_make (P := Tryz.prog) W 182 5 i0 (.int .u8 0) Tryz.underlying182 hi0 hz0 .i64 .i64 n n (by omega) (by omega) (by rw [hz2]; omega) (by omega)
 rw [hx]
 rw [hr, hz1]
 simp only [Int.toNat_natCast]
 rw [cells_made8]
/-- what is written after k rounds: the lowest k bytes at the end -/
def bytTo (l : List Nat) (k : Nat) : List Nat := List.replicate (l.length - k) 0 ++ (l.take k).reverse
theorem bytTo_len (l : List Nat) {k : Nat} (h : k ≤ l.length) : (bytTo l k).length = l.length := by
 unfold bytTo; simp; omega
theorem bytTo_set (l : List Nat) {k : Nat} (h : k < l.length) : (bytTo l k).set (l.length - 1 - k) (dg l k) = bytTo l (k + 1) := by
 unfold bytTo
 obtain ⟨m, hm⟩ : ∃ m, l.length - k = m + 1 := ⟨l.length - k - 1, by omega⟩
 rw [hm, show l.length - (k + 1) = m by omega, show l.length - 1 - k = m by omega, List.replicate_succ', List.append_assoc, List.set_append_right _ _ (by simp), List.length_replicate, Nat.sub_self]
 rw [List.take_succ_eq_append_getElem h, List.reverse_append, dg_eq h]
 rfl
theorem bytTo_all (l : List Nat) : bytTo l l.length = l.reverse := by unfold bytTo; simp
/-- a slice of bytes -/
def By (u : World) (A : Option Addr) (l : List Nat) : Prop :=
 l ≠ [] → ∃ b off cs fr, A = some ⟨b, off, none⟩ ∧ u.heap[b]? = some (.cells cs 5 fr) ∧ ∀ i x, l[i]? = some x → cs[off + i]? = some (.int .u8 (x : Nat))
theorem By.grow {u u' : World} {A : Option Addr} {l : List Nat} (h : By u A l) (hg : Grow u u') : By u' A l := fun hn => by
 obtain ⟨b, off, cs, fr, e, hb, hc⟩ := h hn
 exact ⟨b, off, cs, fr, e, (hg.block b (heap_lt hb)).trans hb, hc⟩
theorem By.cell {u : World} {A : Option Addr} {l : List Nat} (h : By u A l) {i : Nat} (hi : i < l.length) : ∃ b off, A = some ⟨b, off, none⟩ ∧ u.cell? ⟨b, off + i, none⟩ = some (.int .u8 (dg l i : Nat)) := by
 obtain ⟨b, off, cs, fr, e, hb, hc⟩ := h (fun h0 => by rw [h0] at hi; cases hi)
 refine ⟨b, off, e, ?_⟩
 rw [dg_eq hi, ← hc i _ (List.getElem?_eq_getElem hi)]
 exact cell_of_row u b (off + i) cs 5 fr hb
theorem By.of {u : World} {b : Nat} {l : List Nat} (h : Blk u b 5 (cells8 l)) : By u (some ⟨b, 0, none⟩) l := fun _ =>
 ⟨b, 0, cells8 l, (0, 0), rfl, h, fun i x hi => by rw [Nat.zero_add, cells8_get, hi]; rfl⟩
set_option maxHeartbeats 1000000 in
set_option maxRecDepth 100000 in
theorem nat_Bytes (a : Nat) (ha : bl a ≤ 1099511627760) (w : World) : Calls Tryz.prog 143 #[natV a] w fun e w' => ∃ A, e = .returned (.slice A (byt a).length (byt a).length) ∧ By w' A (byt a).reverse ∧ Grow w w' := by
 obtain ⟨n, hn⟩ : ∃ n, n = (byt a).length := ⟨_, rfl⟩
 have hnb : (n : Int) = ((bl a : Int) + 7) / 8 := by rw [hn, byt_length]; omega
 have hm : n ≤ 1099511627776 := by omega
 have hmk := make_u8 n hm
 have hbits : ∀ W, Calls Tryz.prog 119 #[natV a] W fun e w' => e = .returned (.int .i64 (bl a)) ∧ Grow W w' := fun W => nat_Bits a (by omega) W
 have hwords : ∀ W, Calls Tryz.prog 167 #[natV a] W fun e w' => ∃ A, e = .returned (.slice A (digs W64 a).length (digs W64 a).length) ∧ Own W w' A (digs W64 a) ∧ Grow W w' := fun W => nat_words a (by omega) W
 obtain ⟨m, hmw⟩ : ∃ m, m = (digs W64 a).length := ⟨_, rfl⟩
 rw [← hmw] at hwords
 rw [← hn]
 have Hbits := Lib.hid hbits
 have Hwords := Lib.hid hwords
 have Hn := Lib.hid hn
 have Hmw := Lib.hid hmw
 have hb1 : IntKind.i64.wrap ((bl a : Int) + 7) = (bl a : Int) + 7 := IntWalk.i64_in _ (by omega)
 have hdv : ((bl a : Int) + 7).tdiv 8 = (n : Int) := by rw [Int.tdiv_eq_ediv_of_nonneg (by omega)]; exact hnb.symm
 have hdv2 : ((bl a : Int) + 7) / 8 = (n : Int) := hnb.symm
 clear hbits hwords hn hmw hnb
 go_enter Tryz.func143, Tryz.ntmps143
 go_wp2_with (first
  | (go_at_call 119; ((with_reducible refine (Hbits.out _).mono ?_); rintro e w1 ⟨rfl, hg1⟩; have hmk1 := hmk (n : Int) rfl w1; have hbx := (Blk.new w 45 _).grow hg1; have hc1 := hbx.cell; have hlt1 := hbx.lt))
  | (go_at_call 167; ((with_reducible refine (Hwords.out _).mono ?_); rintro e w2 ⟨A2, rfl, hown, hg2⟩)))
 clear hmk hmk1 hc1 hdv hdv2 hb1
 have hgw1 : Grow w w1 := (Grow.alloc _ _).trans hg1
 have hgw2 : Grow w w2 := hgw1.trans ((Grow.alloc _ _).trans hg2)
 have hrow : Blk w2 w1.heap.size 5 (cells8 (List.replicate n 0)) := (Blk.new w1 5 _).grow hg2
 have Hown := Lib.hid hown
 have hsz2 := hg2.size
 rw [alloc_size] at hsz2
 clear hown
 go_loopw [16] (fun i wr => ∃ k : Nat, k ≤ n ∧ i = .int .i64 k ∧ Blk wr w1.heap.size 5 (cells8 (bytTo (byt a) k)) ∧ Own (w1.alloc (.cells (cells8 (List.replicate n 0)) 5)) wr A2 (digs W64 a) ∧ Grow w wr) (fun i _ => n - (intOf i).toNat)
 case atStart => exact ⟨0, Nat.zero_le _, rfl, by rw [show bytTo (byt a) 0 = List.replicate n 0 by unfold bytTo; rw [← Hn.out]; simp]; exact hrow, Hown.out, hgw2⟩
 case round =>
  obtain ⟨k, hk, rfl, hR, hO, hG⟩ := hrel
  have HR := Lib.hid hR
  have HO := Lib.hid hO
  have HG := Lib.hid hG
  clear hR hO hG
  rcases Nat.lt_or_ge k n with hlt | hge
  ·have hkl : k < (byt a).length := by rw [← Hn.out]; exact hlt
   have hwk : k / 8 < (digs W64 a).length := by
    refine digs_length_gt W64_ge ?_
    have h1 : k < (bl a + 7) / 8 := by rw [← byt_length]; exact hkl
    rw [W64_pow, ← Nat.pow_mul]
    exact bl_lt.1 (by omega)
   obtain ⟨b2, hb2, rfl, hrow2⟩ := HO.out (by intro e; rw [e] at hwk; cases hwk)
   have hc2 := hrow2.cell (k / 8)
   rw [List.getElem?_eq_getElem hwk, ← dg_eq hwk] at hc2
   simp only [Option.map_some] at hc2
   have hxl : dg (digs W64 a) (k / 8) < 18446744073709551616 := dg_lt W64_pos (dig_digs W64_ge a) _
   have hby := word_byte a k
   have hbl := dg_lt (by omega) (byt_dig a) k
   have hst := bytTo_set (byt a) hkl
   rw [← Hn.out] at hst
   have hcs := HR.out.cell (n - 1 - k)
   have hfs := HR.out.frozen (n - 1 - k)
   rw [cells8_get, List.getElem?_eq_getElem (by rw [bytTo_len _ (by omega), ← Hn.out]; omega)] at hcs
   simp only [Option.map_some] at hcs
   generalize (bytTo (byt a) k)[n - 1 - k]'_ = old at hcs
   have hwm : k / 8 < m := by rw [Hmw.out]; exact hwk
   obtain ⟨q, hq⟩ : ∃ q, q = k / 8 := ⟨_, rfl⟩
   obtain ⟨r, hr⟩ : ∃ r, r = k % 8 := ⟨_, rfl⟩
   have hr8 : r < 8 := by omega
   rw [← hq] at hc2 hxl hby hwm
   rw [← hr] at hby
   obtain ⟨x, hx⟩ : ∃ x, x = dg (digs W64 a) q := ⟨_, rfl⟩
   obtain ⟨y, hy⟩ : ∃ y, y = dg (byt a) k := ⟨_, rfl⟩
   rw [← hx] at hc2 hxl hby
   rw [← hy] at hby hbl hst
   have hqi : (k : Int) / 8 = (q : Int) := by omega
   have hri : (k : Int) % 8 = (r : Int) := by omega
   have Hst := Lib.hid hst
   have Hby := Lib.hid hby
   have hne : w1.heap.size < b2 := by rw [alloc_size] at hb2; omega
   have hnn : (0 : Int) ≤ (n : Int) - 1 - (k : Int) := by omega
   have hnt : ((n : Int) - 1 - (k : Int)).toNat = n - 1 - k := by omega
   clear hq hr hx hy hst hby hwk
   go_wp2_with fail
   have hv : ((x : Int) / 2 ^ (8 * r) % 256) = (y : Int) := by rw [← Hby.out]; simp
   rw [hv]
   refine ⟨⟨k + 1, by omega, by go_num, ?_, fun _ => ⟨b2, hb2, rfl, hrow2.far (p := ⟨w1.heap.size, n - 1 - k, none⟩) (by show b2 ≠ w1.heap.size; omega) _⟩, HG.out.setCell (p := ⟨w1.heap.size, n - 1 - k, none⟩) hgw1.size _⟩, by simp [intOf]; omega⟩
   have := HR.out.set_ (n - 1 - k) (.int .u8 (y : Nat))
   rw [cells8_set, Hst.out] at this
   exact this
  ·obtain rfl : k = n := by omega
   go_wp2_with fail
   go_ret
   refine ⟨_, rfl, ?_, HG.out⟩
   have := By.of HR.out
   rw [Hn.out, bytTo_all] at this
   exact this
end Go.Proofs.YtjmopgepnndckaaGreatDoor
namespace Go.Proofs.YtjmopgepnndckaaGreatDoor
open Go.RowKit
/-- the library's table of bits lies in its variable -/
def Tab (w : World) : Prop := ∀ j, j < 64 → w.cell? ⟨2, j, none⟩ = some (.int .u8 (Lib.deBruijn64tab.getD j 0 : Nat))
theorem Tab.grow {w w' : World} (h : Tab w) (hg : Grow w w') : Tab w' := fun j hj => by
 have hb : 2 < w.heap.size := World.block_lt_of_cell? w _ (h 0 (by omega))
 exact (hg.cell (p := ⟨2, j, none⟩) hb).trans (h j hj)
theorem tz64_key (x a : Nat) (hx : x < 18446744073709551616) (hx0 : x ≠ 0) (hlow : x &&& (18446744073709551616 - x) = a) :
  IntKind.u64.wrap (bits BinOp.and IntKind.u64 (x : Int) (IntKind.u64.wrap (-(x : Int))) * 285870213051353865) / 288230376151711744 = ((a * 285870213051353865 % 18446744073709551616 / 288230376151711744 : Nat) : Int) := by
 have e1 : IntKind.u64.wrap (-(x : Int)) = ((18446744073709551616 - x : Nat) : Int) := by rw [IntKind.wrap_u64]; omega
 rw [e1, bits_and_u64_nat x _ hx (by omega), hlow, IntKind.wrap_u64]
 omega
set_option maxHeartbeats 1000000 in
theorem tz64_core (x k idx : Nat) (w : World) (hx0 : ((x : Int) == 0) = false)
  (key : IntKind.u64.wrap (bits BinOp.and IntKind.u64 (x : Int) (IntKind.u64.wrap (-(x : Int))) * 285870213051353865) / 288230376151711744 = (idx : Int))
  (hi : idx < 64) (hk : k < 64) (hcell : w.cell? ⟨2, idx, none⟩ = some (.int .u8 k)) :
  Calls Tryz.prog 216 #[.int .u64 x] w fun e w' => e = .returned (.int .i64 k) ∧ w' = w := by
 go_enter Tryz.func216, Tryz.ntmps216
 go_wp2_with (simp only [key])
 go_ret
 exact ⟨rfl, rfl⟩
theorem bits_TrailingZeros64 (x : Nat) (hx : x < W64) (hx0 : x ≠ 0) (w : World) (hT : Tab w) :
  Calls Tryz.prog 216 #[.int .u64 x] w fun e w' => e = .returned (.int .i64 (Lib.ctz 64 x)) ∧ w' = w := by
 obtain ⟨hlow, hk⟩ := Lib.lowest_bit 64 x hx0 hx
 obtain ⟨hi, htab⟩ := Lib.deBruijn64_at _ hk
 have hcell := hT _ hi
 rw [htab] at hcell
 exact tz64_core x _ _ w (by simp; omega) (tz64_key x _ hx hx0 hlow) hi hk hcell
set_option maxHeartbeats 1000000 in
set_option maxRecDepth 100000 in
/-- the zeros at the end of a number in words, above 0 -/
theorem whole_zeros (b off : Nat) (l : List Nat) (c : Nat) (hd : Dig W64 l) (hv : val W64 l ≠ 0) (hm : l.length ≤ 34359738368) (w : World) (h : Wds w b off l) (hT : Tab w) :
  Calls Tryz.prog 199 #[.slice (some ⟨b, off, none⟩) l.length c] w fun e w' => ∃ z : Nat, e = .returned (.int .i64 z) ∧ Tz (val W64 l) z ∧ z / 64 < l.length ∧ w' = w := by
 obtain ⟨n, hn⟩ : ∃ n, n = l.length := ⟨_, rfl⟩
 rw [← hn] at hm
 rw [← hn]
 have H := Lib.hid h
 have HT := Lib.hid hT
 have Hn := Lib.hid hn
 have Hd := Lib.hid hd
 have Hv := Lib.hid hv
 clear h hT hn hd hv
 go_enter Tryz.func199, Tryz.ntmps199
 go_wp2
 go_loop [3] (fun s => ∃ k : Nat, k ≤ n ∧ s = .int .i64 k ∧ ∀ i, i < k → dg l i = 0) (fun s => n - (intOf s).toNat)
 case atStart => exact ⟨0, Nat.zero_le _, rfl, fun i hi => by omega⟩
 case round =>
  obtain ⟨k, hk, rfl, hz⟩ := hrel
  have hkn : k < n := by
   rcases Nat.lt_or_ge k n with h | h
   ·exact h
   ·exact absurd (by rw [← val_take_over W64 l k (by rw [← Hn.out]; exact h)]; exact val_take_zero hz) Hv.out
  have hkl : k < l.length := by rw [← Hn.out]; exact hkn
  have hc := H.out.cell hkl
  rw [← dg_eq hkl] at hc
  have Hz := Lib.hid hz
  clear hz
  have hxW := dg_lt W64_pos Hd.out k
  by_cases h0 : dg l k = 0
  ·rw [h0] at hc
   have H0 := Lib.hid h0
   clear h0 hxW
   go_wp2
   go_round
   case rel => exact ⟨k + 1, by omega, by go_num, fun i hi => by
    rcases Nat.lt_or_ge i k with h | h
    ·exact Hz.out i h
    ·obtain rfl : i = k := by omega
     exact H0.out⟩
   case measure => simp [intOf]; omega
  ·obtain ⟨m, hx1, hx2⟩ := ctz_spec (dg l k) h0 hxW
   have htz := tz_words Hz.out hkl hx1 hx2
   have hcall := bits_TrailingZeros64 (dg l k) hxW h0 w HT.out
   obtain ⟨x, hx⟩ : ∃ x, x = dg l k := ⟨_, rfl⟩
   obtain ⟨t, ht⟩ : ∃ t, t = Lib.ctz 64 (dg l k) := ⟨_, rfl⟩
   rw [← ht] at hx2 htz hcall
   rw [← hx] at hc hcall h0
   have Hcall := Lib.hid hcall
   have Htz := Lib.hid htz
   have hb : ((x : Int) == 0) = false := by simpa using h0
   clear hx1 htz hcall hx ht h0 hxW
   go_wp2_with (go_at_call 216; ((with_reducible refine (Hcall.out).mono ?_); rintro e w1 ⟨rfl, rfl⟩))
   go_ret
   exact ⟨64 * k + t, by go_num, Htz.out, by omega, rfl⟩
end Go.Proofs.YtjmopgepnndckaaGreatDoor
