/-
  Bytes: Nat.Bytes and the document's NatFrom.
-/
import Derived.Test.YtimjnkfcnpfoeaaGreatDoorRefE
set_option linter.unusedSimpArgs false
namespace Go.Proofs.YtimjnkfcnpfoeaaGreatDoor
open Go.RowKit

theorem dg_digs {B : Nat} (hB : 2 ≤ B) (a k : Nat) : dg (digs B a) k = a / B ^ k % B := by
  induction k generalizing a with
  | zero =>
    by_cases h : a = 0
    · subst h; rw [digs_zero]; simp [dg]
    · rw [digs_pos hB h]; simp [dg]
  | succ k ih =>
    by_cases h : a = 0
    · subst h; rw [digs_zero]; simp [dg]
    · rw [digs_pos hB h]
      have : dg (a % B :: digs B (a / B)) (k + 1) = dg (digs B (a / B)) k := by simp [dg]
      rw [this, ih, Nat.pow_succ', Nat.div_div_eq_div_mul]
/-- the bytes, the lowest first -/
def byt (a : Nat) : List Nat := digs 256 a
theorem byt_length (a : Nat) : (byt a).length = (bl a + 7) / 8 := by
  have h1 := @digs_length_le 256 a ((bl a + 7) / 8) (by omega) (by
    refine Nat.lt_of_lt_of_le (lt_bl a) ?_
    rw [show (256 : Nat) = 2 ^ 8 from rfl, ← Nat.pow_mul]
    exact Nat.pow_le_pow_right (by omega) (by omega))
  rcases Nat.eq_zero_or_pos (bl a) with h | h
  · have := bl_eq_zero.1 h
    subst this
    rfl
  · have h2 : 256 ^ ((bl a + 7) / 8 - 1) ≤ a := by
      rw [show (256 : Nat) = 2 ^ 8 from rfl, ← Nat.pow_mul]
      exact bl_lt.1 (by omega)
    have := digs_length_gt (B := 256) (by omega) h2
    unfold byt
    omega
theorem byt_dig (a : Nat) : Dig 256 (byt a) := dig_digs (by omega) a
/-- the byte number k off the words -/
theorem word_byte (a k : Nat) : dg (digs W64 a) (k / 8) / 2 ^ (8 * (k % 8)) % 256 = dg (byt a) k := by
  unfold byt
  rw [dg_digs W64_ge, dg_digs (by omega)]
  have e1 : (256 : Nat) ^ k = W64 ^ (k / 8) * 2 ^ (8 * (k % 8)) := by
    rw [W64_pow, show (256 : Nat) = 2 ^ 8 from rfl, ← Nat.pow_mul, ← Nat.pow_mul, ← Nat.pow_add]
    congr 1
    omega
  rw [e1, ← Nat.div_div_eq_div_mul]
  generalize a / W64 ^ (k / 8) = x
  have hr : k % 8 < 8 := Nat.mod_lt _ (by omega)
  generalize k % 8 = r at hr
  have e2 : W64 = 2 ^ (8 * r) * (256 * 2 ^ (56 - 8 * r)) := by
    rw [W64_pow, show (256 : Nat) = 2 ^ 8 from rfl, ← Nat.pow_add, ← Nat.pow_add]
    congr 1
    omega
  rw [e2, Nat.mod_mul_right_div_self, Nat.mod_mul_right_mod]
def cells8 (l : List Nat) : Array Value := (l.map fun x => Value.int .u8 (x : Nat)).toArray
theorem cells8_get (l : List Nat) (i : Nat) : (cells8 l)[i]? = (l[i]?).map fun x => Value.int .u8 (x : Nat) := by
  unfold cells8; simp
theorem cells8_set (l : List Nat) (i y : Nat) : (cells8 l).setIfInBounds i (.int .u8 (y : Nat)) = cells8 (l.set i y) := by
  unfold cells8
  rw [List.setIfInBounds_toArray, List.map_set]
theorem cells_made8 (n : Nat) : madeCells (Value.int .u8 0).cells (n * 1) = cells8 (List.replicate n 0) := by
  unfold cells8 madeCells
  refine Array.ext (by simp) fun i h1 h2 => ?_
  simp [Value.cells, Nat.mod_one]
theorem make_u8 (n : Nat) (hn : n ≤ 1099511627776) (x : Int) (hx : x = n) (W : World) : (Instr.makeSlice 180 (.int .i64 x) (.int .i64 x)).run Tryz.prog W =
    .ok (.slice (some ⟨W.heap.size, 0, none⟩) n n) (W.alloc (.cells (cells8 (List.replicate n 0)) 5)) := by
  obtain ⟨i0, hi0, hz0, hz1, hz2⟩ := info_parts info_u8
  have hr := run_make (P := Tryz.prog) W 180 5 i0 (.int .u8 0) Tryz.underlying180 hi0 hz0 .i64 .i64 n n (by omega) (by omega) (by rw [hz2]; omega) (by omega)
  rw [hx]
  rw [hr, hz1]
  simp only [Int.toNat_natCast]
  rw [cells_made8]
/-- what is written after k rounds: the lowest k bytes at the end -/
def bytTo (l : List Nat) (k : Nat) : List Nat := List.replicate (l.length - k) 0 ++ (l.take k).reverse
theorem bytTo_len (l : List Nat) {k : Nat} (h : k ≤ l.length) : (bytTo l k).length = l.length := by
  unfold bytTo; simp; omega
theorem bytTo_set (l : List Nat) {k : Nat} (h : k < l.length) : (bytTo l k).set (l.length - 1 - k) (dg l k) = bytTo l (k + 1) := by
  unfold bytTo
  obtain ⟨m, hm⟩ : ∃ m, l.length - k = m + 1 := ⟨l.length - k - 1, by omega⟩
  rw [hm, show l.length - (k + 1) = m by omega, show l.length - 1 - k = m by omega, List.replicate_succ', List.append_assoc, List.set_append_right _ _ (by simp), List.length_replicate, Nat.sub_self]
  rw [List.take_succ_eq_append_getElem h, List.reverse_append, dg_eq h]
  rfl
theorem bytTo_all (l : List Nat) : bytTo l l.length = l.reverse := by unfold bytTo; simp
/-- a slice of bytes -/
def By (u : World) (A : Option Addr) (l : List Nat) : Prop :=
  l ≠ [] → ∃ b off cs fr, A = some ⟨b, off, none⟩ ∧ u.heap[b]? = some (.cells cs 5 fr) ∧ ∀ i x, l[i]? = some x → cs[off + i]? = some (.int .u8 (x : Nat))
theorem By.grow {u u' : World} {A : Option Addr} {l : List Nat} (h : By u A l) (hg : Grow u u') : By u' A l := fun hn => by
  obtain ⟨b, off, cs, fr, e, hb, hc⟩ := h hn
  exact ⟨b, off, cs, fr, e, (hg.block b (heap_lt hb)).trans hb, hc⟩
theorem By.cell {u : World} {A : Option Addr} {l : List Nat} (h : By u A l) {i : Nat} (hi : i < l.length) : ∃ b off, A = some ⟨b, off, none⟩ ∧ u.cell? ⟨b, off + i, none⟩ = some (.int .u8 (dg l i : Nat)) := by
  obtain ⟨b, off, cs, fr, e, hb, hc⟩ := h (fun h0 => by rw [h0] at hi; cases hi)
  refine ⟨b, off, e, ?_⟩
  rw [dg_eq hi, ← hc i _ (List.getElem?_eq_getElem hi)]
  exact cell_of_row u b (off + i) cs 5 fr hb
theorem By.of {u : World} {b : Nat} {l : List Nat} (h : Blk u b 5 (cells8 l)) : By u (some ⟨b, 0, none⟩) l := fun _ =>
  ⟨b, 0, cells8 l, (0, 0), rfl, h, fun i x hi => by rw [Nat.zero_add, cells8_get, hi]; rfl⟩

set_option maxHeartbeats 1000000 in
set_option maxRecDepth 100000 in
theorem nat_Bytes (a : Nat) (ha : bl a ≤ 1099511627760) (w : World) : Calls Tryz.prog 151 #[natV a] w fun e w' => ∃ A, e = .returned (.slice A (byt a).length (byt a).length) ∧ By w' A (byt a).reverse ∧ Grow w w' := by
  obtain ⟨n, hn⟩ : ∃ n, n = (byt a).length := ⟨_, rfl⟩
  have hnb : (n : Int) = ((bl a : Int) + 7) / 8 := by rw [hn, byt_length]; omega
  have hm : n ≤ 1099511627776 := by omega
  have hmk := make_u8 n hm
  have hbits : ∀ W, Calls Tryz.prog 119 #[natV a] W fun e w' => e = .returned (.int .i64 (bl a)) ∧ Grow W w' := fun W => nat_Bits a (by omega) W
  have hwords : ∀ W, Calls Tryz.prog 130 #[natV a] W fun e w' => ∃ A, e = .returned (.slice A (digs W64 a).length (digs W64 a).length) ∧ Own W w' A (digs W64 a) ∧ Grow W w' := fun W => nat_words a (by omega) W
  obtain ⟨m, hmw⟩ : ∃ m, m = (digs W64 a).length := ⟨_, rfl⟩
  rw [← hmw] at hwords
  rw [← hn]
  have Hbits := Lib.hid hbits
  have Hwords := Lib.hid hwords
  have Hn := Lib.hid hn
  have Hmw := Lib.hid hmw
  have hb1 : IntKind.i64.wrap ((bl a : Int) + 7) = (bl a : Int) + 7 := IntWalk.i64_in _ (by omega)
  have hdv : ((bl a : Int) + 7).tdiv 8 = (n : Int) := by rw [Int.tdiv_eq_ediv_of_nonneg (by omega)]; exact hnb.symm
  have hdv2 : ((bl a : Int) + 7) / 8 = (n : Int) := hnb.symm
  clear hbits hwords hn hmw hnb
  go_enter Tryz.func151, Tryz.ntmps151
  go_wp2_with (first
    | (go_at_call 119; ((with_reducible refine (Hbits.out _).mono ?_); rintro e w1 ⟨rfl, hg1⟩; have hmk1 := hmk (n : Int) rfl w1; have hbx := (Blk.new w 28 _).grow hg1; have hc1 := hbx.cell; have hlt1 := hbx.lt))
    | (go_at_call 130; ((with_reducible refine (Hwords.out _).mono ?_); rintro e w2 ⟨A2, rfl, hown, hg2⟩)))
  clear hmk hmk1 hc1 hdv hdv2 hb1
  have hgw1 : Grow w w1 := (Grow.alloc _ _).trans hg1
  have hgw2 : Grow w w2 := hgw1.trans ((Grow.alloc _ _).trans hg2)
  have hrow : Blk w2 w1.heap.size 5 (cells8 (List.replicate n 0)) := (Blk.new w1 5 _).grow hg2
  have Hown := Lib.hid hown
  have hsz2 := hg2.size
  rw [alloc_size] at hsz2
  clear hown
  go_loopw [16] (fun i wr => ∃ k : Nat, k ≤ n ∧ i = .int .i64 k ∧ Blk wr w1.heap.size 5 (cells8 (bytTo (byt a) k)) ∧ Own (w1.alloc (.cells (cells8 (List.replicate n 0)) 5)) wr A2 (digs W64 a) ∧ Grow w wr) (fun i _ => n - (intOf i).toNat)
  case atStart => exact ⟨0, Nat.zero_le _, rfl, by rw [show bytTo (byt a) 0 = List.replicate n 0 by unfold bytTo; rw [← Hn.out]; simp]; exact hrow, Hown.out, hgw2⟩
  case round =>
    obtain ⟨k, hk, rfl, hR, hO, hG⟩ := hrel
    have HR := Lib.hid hR
    have HO := Lib.hid hO
    have HG := Lib.hid hG
    clear hR hO hG
    rcases Nat.lt_or_ge k n with hlt | hge
    · have hkl : k < (byt a).length := by rw [← Hn.out]; exact hlt
      have hwk : k / 8 < (digs W64 a).length := by
        refine digs_length_gt W64_ge ?_
        have h1 : k < (bl a + 7) / 8 := by rw [← byt_length]; exact hkl
        rw [W64_pow, ← Nat.pow_mul]
        exact bl_lt.1 (by omega)
      obtain ⟨b2, hb2, rfl, hrow2⟩ := HO.out (by intro e; rw [e] at hwk; cases hwk)
      have hc2 := hrow2.cell (k / 8)
      rw [List.getElem?_eq_getElem hwk, ← dg_eq hwk] at hc2
      simp only [Option.map_some] at hc2
      have hxl : dg (digs W64 a) (k / 8) < 18446744073709551616 := dg_lt W64_pos (dig_digs W64_ge a) _
      have hby := word_byte a k
      have hbl := dg_lt (by omega) (byt_dig a) k
      have hst := bytTo_set (byt a) hkl
      rw [← Hn.out] at hst
      have hcs := HR.out.cell (n - 1 - k)
      have hfs := HR.out.frozen (n - 1 - k)
      rw [cells8_get, List.getElem?_eq_getElem (by rw [bytTo_len _ (by omega), ← Hn.out]; omega)] at hcs
      simp only [Option.map_some] at hcs
      generalize (bytTo (byt a) k)[n - 1 - k]'_ = old at hcs
      have hwm : k / 8 < m := by rw [Hmw.out]; exact hwk
      obtain ⟨q, hq⟩ : ∃ q, q = k / 8 := ⟨_, rfl⟩
      obtain ⟨r, hr⟩ : ∃ r, r = k % 8 := ⟨_, rfl⟩
      have hr8 : r < 8 := by omega
      rw [← hq] at hc2 hxl hby hwm
      rw [← hr] at hby
      obtain ⟨x, hx⟩ : ∃ x, x = dg (digs W64 a) q := ⟨_, rfl⟩
      obtain ⟨y, hy⟩ : ∃ y, y = dg (byt a) k := ⟨_, rfl⟩
      rw [← hx] at hc2 hxl hby
      rw [← hy] at hby hbl hst
      have hqi : (k : Int) / 8 = (q : Int) := by omega
      have hri : (k : Int) % 8 = (r : Int) := by omega
      have Hst := Lib.hid hst
      have Hby := Lib.hid hby
      have hne : w1.heap.size < b2 := by rw [alloc_size] at hb2; omega
      have hnn : (0 : Int) ≤ (n : Int) - 1 - (k : Int) := by omega
      have hnt : ((n : Int) - 1 - (k : Int)).toNat = n - 1 - k := by omega
      clear hq hr hx hy hst hby hwk
      go_wp2_with fail
      have hv : ((x : Int) / 2 ^ (8 * r) % 256) = (y : Int) := by rw [← Hby.out]; simp
      rw [hv]
      refine ⟨⟨k + 1, by omega, by go_num, ?_, fun _ => ⟨b2, hb2, rfl, hrow2.far (p := ⟨w1.heap.size, n - 1 - k, none⟩) (by show b2 ≠ w1.heap.size; omega) _⟩, HG.out.setCell (p := ⟨w1.heap.size, n - 1 - k, none⟩) hgw1.size _⟩, by simp [intOf]; omega⟩
      have := HR.out.set_ (n - 1 - k) (.int .u8 (y : Nat))
      rw [cells8_set, Hst.out] at this
      exact this
    · obtain rfl : k = n := by omega
      go_wp2_with fail
      go_ret
      refine ⟨_, rfl, ?_, HG.out⟩
      have := By.of HR.out
      rw [Hn.out, bytTo_all] at this
      exact this
/-- limbs off bytes: the byte number k is laid in, those above it are there, those below are 0 -/
theorem lay_byte (zs : List Nat) (V k y : Nat) (hd : Dig W32 zs) (hk : k / 4 < zs.length) (hv : val W32 zs = V * 256 ^ (k + 1)) (hy : y < 256) :
    dg zs (k / 4) ||| y * 2 ^ (8 * (k % 4)) = dg zs (k / 4) + y * 2 ^ (8 * (k % 4)) ∧ dg zs (k / 4) + y * 2 ^ (8 * (k % 4)) < W32 ∧ val W32 (zs.set (k / 4) (dg zs (k / 4) + y * 2 ^ (8 * (k % 4)))) = (V * 256 + y) * 256 ^ k := by
  have e1 : (256 : Nat) ^ k = W32 ^ (k / 4) * 2 ^ (8 * (k % 4)) := by
    rw [show W32 = 2 ^ 32 from rfl, show (256 : Nat) = 2 ^ 8 from rfl, ← Nat.pow_mul, ← Nat.pow_mul, ← Nat.pow_add]
    congr 1
    omega
  have hdv : 2 ^ (8 * (k % 4) + 8) ∣ dg zs (k / 4) := by
    have h1 : dg zs (k / 4) = val W32 zs / W32 ^ (k / 4) % W32 := by
      have h2 := val_take_dg W32 zs (k / 4)
      have h3 : val W32 zs = val W32 (zs.take (k / 4 + 1)) + W32 ^ (k / 4 + 1) * val W32 (zs.drop (k / 4 + 1)) := by
        have := val_append W32 (zs.take (k / 4 + 1)) (zs.drop (k / 4 + 1))
        rw [List.take_append_drop, List.length_take, Nat.min_eq_left (by omega)] at this
        exact this
      have h4 : val W32 (zs.take (k / 4)) < W32 ^ (k / 4) := by
        have := val_lt (B := W32) (l := zs.take (k / 4)) (fun x hx => hd x (List.mem_of_mem_take hx))
        rwa [List.length_take, Nat.min_eq_left (by omega)] at this
      have h5 := dg_lt W32_pos hd (k / 4)
      rw [h3, h2, Nat.pow_succ, Nat.mul_assoc, Nat.add_assoc, ← Nat.mul_add, Nat.add_mul_div_left _ _ (Nat.pow_pos W32_pos), Nat.div_eq_of_lt h4, Nat.zero_add, Nat.add_mul_mod_self_left, Nat.mod_eq_of_lt h5]
    rw [h1, hv]
    have e2 : V * 256 ^ (k + 1) = W32 ^ (k / 4) * (V * 2 ^ (8 * (k % 4) + 8)) := by
      rw [Nat.pow_succ, e1, Nat.pow_add]
      simp only [show (256 : Nat) = 2 ^ 8 from rfl]
      grind
    rw [e2, Nat.mul_div_cancel_left _ (Nat.pow_pos W32_pos)]
    refine (Nat.dvd_mod_iff ?_).2 (Nat.dvd_mul_left _ _)
    rw [show W32 = 2 ^ 32 from rfl]
    exact Nat.pow_dvd_pow 2 (by omega)
  have hlt : y * 2 ^ (8 * (k % 4)) < 2 ^ (8 * (k % 4) + 8) := by
    rw [Nat.pow_add, Nat.mul_comm]
    exact Nat.mul_lt_mul_of_pos_left hy (Nat.two_pow_pos _)
  refine ⟨or_add hlt hdv, ?_, ?_⟩
  · obtain ⟨c, hc⟩ := hdv
    have h5 := dg_lt W32_pos hd (k / 4)
    rw [hc] at h5 ⊢
    have e3 : W32 = 2 ^ (8 * (k % 4) + 8) * 2 ^ (24 - 8 * (k % 4)) := by
      rw [← Nat.pow_add, show W32 = 2 ^ 32 from rfl]
      congr 1
      omega
    rw [e3] at h5 ⊢
    have h6 := Nat.lt_of_mul_lt_mul_left h5
    calc 2 ^ (8 * (k % 4) + 8) * c + y * 2 ^ (8 * (k % 4)) < 2 ^ (8 * (k % 4) + 8) * c + 2 ^ (8 * (k % 4) + 8) := by omega
      _ = 2 ^ (8 * (k % 4) + 8) * (c + 1) := by rw [Nat.mul_add, Nat.mul_one]
      _ ≤ _ := Nat.mul_le_mul_left _ h6
  · have h7 := val_set W32 zs (k / 4) (dg zs (k / 4) + y * 2 ^ (8 * (k % 4))) hk
    rw [hv, Nat.mul_add] at h7
    have e4 : (V * 256 + y) * 256 ^ k = V * 256 ^ (k + 1) + W32 ^ (k / 4) * (y * 2 ^ (8 * (k % 4))) := by
      rw [Nat.add_mul, Nat.pow_succ, e1]
      grind
    omega
end Go.Proofs.YtimjnkfcnpfoeaaGreatDoor
