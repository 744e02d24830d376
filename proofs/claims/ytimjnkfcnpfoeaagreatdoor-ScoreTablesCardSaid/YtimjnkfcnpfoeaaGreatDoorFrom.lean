/-
  The document's NatFrom.
-/
import Derived.Test.YtimjnkfcnpfoeaaGreatDoorByte
import Derived.StillTailTactics
set_option linter.unusedSimpArgs false
namespace Go.Proofs.YtimjnkfcnpfoeaaGreatDoor
open Go.RowKit
theorem dg_reverse {l : List Nat} {i : Nat} (h : i < l.length) : dg l.reverse i = dg l (l.length - 1 - i) := by
  rw [dg_eq (by simpa using h), dg_eq (by omega), List.getElem_reverse]
theorem bits_or_u32_nat (a b : Nat) (ha : a < 4294967296) (hb : b < 4294967296) : bits .or .u32 (a : Int) (b : Int) = ((a ||| b : Nat) : Int) := by
  have hx : a ||| b < 2 ^ 32 := Nat.or_lt_two_pow (by omega) (by omega)
  have h1 : (BitVec.ofInt 32 (a : Int)).toNat = a := by
    rw [BitVec.ofInt_natCast, BitVec.toNat_ofNat]; exact Nat.mod_eq_of_lt (by omega)
  have h2 : (BitVec.ofInt 32 (b : Int)).toNat = b := by
    rw [BitVec.ofInt_natCast, BitVec.toNat_ofNat]; exact Nat.mod_eq_of_lt (by omega)
  show IntKind.u32.wrap ((BitVec.ofInt 32 (a : Int) ||| BitVec.ofInt 32 (b : Int)).toNat : Int) = _
  rw [BitVec.toNat_or, h1, h2]
  simp [IntKind.wrap, IntKind.signed, IntKind.bits]
  omega
theorem u32_in (n : Nat) (h : n < 4294967296) : IntKind.u32.wrap (n : Int) = (n : Int) := by
  simp [IntKind.wrap, IntKind.signed, IntKind.bits]; omega
set_option maxHeartbeats 1000000 in
set_option maxRecDepth 100000 in
theorem ref1_NatFrom (A : Option Addr) (a : Nat) (w : World) (ha : bl a ≤ 1099511627760) (hA : By w A (byt a).reverse) : Calls Tryz.prog 150 #[.slice A (byt a).length (byt a).length] w (Ret (natR a) w) := by
  obtain ⟨n, hn⟩ : ∃ n, n = (byt a).length := ⟨_, rfl⟩
  have hnb : n ≤ 137438953471 := by rw [hn, byt_length]; omega
  obtain ⟨m, hm⟩ : ∃ m, m = (n + 3) / 4 := ⟨_, rfl⟩
  have hmi : ((n : Int) + 3) / 4 = (m : Int) := by omega
  have hmt : ((n : Int) + 3).tdiv 4 = (m : Int) := by rw [Int.tdiv_eq_ediv_of_nonneg (by omega)]; exact hmi
  have hmk := make_u32 m (by omega) (m : Int) rfl
  rw [← hn]
  have HA := Lib.hid hA
  have Hn := Lib.hid hn
  have Hm := Lib.hid hm
  have hmb : m ≤ 34359738368 := by omega
  clear hA hn hm
  go_enter Tryz.func150, Tryz.ntmps150
  go_wp2_with fail
  clear hmk hmi hmt
  go_loopw [4] (fun s wr => ∃ (i : Nat) (zs : List Nat), i ≤ n ∧ s = .int .i64 i ∧ zs.length = m ∧ Dig W32 zs ∧ val W32 zs = a / 256 ^ (n - i) * 256 ^ (n - i) ∧ Row32 wr w.heap.size zs ∧ Grow w wr) (fun s _ => n - (intOf s).toNat)
  case atStart => exact ⟨0, List.replicate m 0, Nat.zero_le _, rfl, by simp, fun z hz => (by rw [(List.mem_replicate.1 hz).2]; exact W32_pos), by
      rw [val_zeros, Nat.sub_zero, Nat.div_eq_of_lt, Nat.zero_mul]
      have := val_lt (byt_dig a)
      rw [← Hn.out] at this
      unfold byt at this
      rwa [val_digs (by omega)] at this, Blk.new w 157 _, Grow.alloc _ _⟩
  case round =>
    obtain ⟨i, zs, hi, rfl, hl, hd, hv, hR, hG⟩ := hrel
    have HR := Lib.hid hR
    have HG := Lib.hid hG
    have Hd := Lib.hid hd
    have Hv := Lib.hid hv
    have Hl := Lib.hid hl
    clear hl hd hv hR hG
    rcases Nat.lt_or_ge i n with hlt | hge
    · obtain ⟨k, hk⟩ : ∃ k, k = n - 1 - i := ⟨_, rfl⟩
      have hni : n - i = k + 1 := by omega
      have hki : (n : Int) - 1 - (i : Int) = (k : Int) := by omega
      have hkq : k / 4 < zs.length := by rw [Hl.out, Hm.out]; omega
      obtain ⟨b1, o1, rfl, hc1⟩ := (HA.out.grow HG.out).cell (i := i) (by rw [List.length_reverse, ← Hn.out]; exact hlt)
      rw [dg_reverse (by rw [← Hn.out]; exact hlt), ← Hn.out, ← hk] at hc1
      have hby := dg_lt (by omega) (byt_dig a) k
      have hv1 := Hv.out
      rw [hni] at hv1
      obtain ⟨l1, l2, l3⟩ := lay_byte zs _ k _ Hd.out hkq hv1 hby
      have hc2 := HR.out.cell hkq
      have hf2 := HR.out.frozen (k / 4)
      have hzl := dg_lt W32_pos Hd.out (k / 4)
      have hkm : k / 4 < m := by rw [← Hl.out]; exact hkq
      have hstep : a / 256 ^ (k + 1) * 256 + dg (byt a) k = a / 256 ^ k := by
        unfold byt
        rw [dg_digs (by omega), Nat.pow_succ, ← Nat.div_div_eq_div_mul]
        omega
      rw [hstep] at l3
      obtain ⟨q, hq⟩ : ∃ q, q = k / 4 := ⟨_, rfl⟩
      obtain ⟨r, hr⟩ : ∃ r, r = k % 4 := ⟨_, rfl⟩
      have hr8 : r < 4 := by omega
      have hqi : (k : Int) / 4 = (q : Int) := by omega
      have hri : (k : Int) % 4 = (r : Int) := by omega
      obtain ⟨y, hy⟩ : ∃ y, y = dg (byt a) k := ⟨_, rfl⟩
      obtain ⟨x, hx⟩ : ∃ x, x = dg zs (k / 4) := ⟨_, rfl⟩
      rw [← hx] at hc2 l1 l2 l3 hzl
      rw [← hy] at hc1 hby l1 l2 l3
      rw [← hq] at hc2 hf2 hkm l3
      rw [← hr] at l1 l2 l3
      have L1 := Lib.hid l1
      have L2 := Lib.hid l2
      have L3 := Lib.hid l3
      unfold W32 at hzl
      have hw1 : IntKind.i64.wrap (q : Int) = (q : Int) := IntWalk.i64_in _ (by omega)
      have hw2 : IntKind.i64.wrap (r : Int) = (r : Int) := IntWalk.i64_in _ (by omega)
      have hw3 : IntKind.i64.wrap (8 * (r : Int)) = 8 * (r : Int) := IntWalk.i64_in _ (by omega)
      have hw4 : IntKind.u64.wrap (8 * (r : Int)) = 8 * (r : Int) := u64_wrap_id (x := 8 * (r : Int)) (by omega) (by omega)
      have hw5 : (8 * (r : Int)).toNat = 8 * r := by omega
      have hw6 : (k : Int).tmod 4 = (r : Int) := by rw [Int.tmod_eq_emod_of_nonneg (by omega)]; exact hri
      have hw7 := u32_in y (by omega)
      have hw8 : min (8 * r) 32 = 8 * r := by omega
      obtain ⟨z, hz⟩ : ∃ z, z = y * 2 ^ (8 * r) := ⟨_, rfl⟩
      have hzlt : z < 4294967296 := by unfold W32 at l2; omega
      have hw9 : IntKind.u32.wrap ((y : Int) * 2 ^ (8 * r)) = (z : Int) := by
        rw [show ((y : Int) * 2 ^ (8 * r)) = ((z : Nat) : Int) by rw [hz]; simp]; exact u32_in z hzlt
      rw [← hz] at l1 l2 l3
      have hw10 : bits BinOp.or IntKind.u32 (x : Int) (z : Int) = ((x + z : Nat) : Int) := by
        rw [bits_or_u32_nat x z hzl hzlt, l1]
      obtain ⟨s, hs⟩ : ∃ s, s = x + z := ⟨_, rfl⟩
      rw [← hs] at l2 l3 hw10
      have L4 := Lib.hid l3
      have L5 := Lib.hid l2
      clear hk hni hstep hv1 l1 l2 l3 hx hy hq hr hkq hz hs L1 L2 L3
      go_wp2_with fail
      go_still_tail 19, (by kernel_rfl)
      go_wp2_with fail
      have hnk : n - (i + 1) = k := by omega
      exact ⟨⟨i + 1, zs.set q s, by omega, by go_num, by rw [List.length_set]; exact Hl.out, dig_set Hd.out q L5.out, by rw [hnk]; exact L4.out, (HR.out.set q s).grow (Grow.drew _), (HG.out.setCell (p := ⟨w.heap.size, q, none⟩) (Nat.le_refl _) _).trans (Grow.drew _)⟩, by simp [intOf]; omega⟩
    · obtain rfl : i = n := by omega
      have hva : val W32 zs = a := by have := Hv.out; simpa using this
      have htr : Calls Tryz.prog 135 #[.slice (some ⟨w.heap.size, 0, none⟩) m m] wr fun e w' => e = .returned (.slice (some ⟨w.heap.size, 0, none⟩) (ln a) m) ∧ Rn w' (some ⟨w.heap.size, 0, none⟩, m) a ∧ Grow w w' := by
        have h1 := ref1_trim (some ⟨w.heap.size, 0, none⟩) zs m wr HR.out.lim (Nat.le_of_eq Hl.out) (by omega)
        rw [Hl.out] at h1
        refine h1.mono fun e w' ⟨he, hg⟩ => ?_
        obtain ⟨hr1, hlen⟩ := rn_trim (a := a) (c := m) (HR.out.lim.grow hg) Hd.out hva (Nat.le_of_eq Hl.out) (by omega)
        rw [hlen] at he
        exact ⟨he, hr1, HG.out.trans hg⟩
      have Htr := Lib.hid htr
      clear htr hva
      go_wp2_with (go_at_call 135; ((with_reducible refine (Htr.out).mono ?_); rintro e w1 ⟨rfl, hr1, hg⟩))
      go_ret
      exact ⟨(some ⟨w.heap.size, 0, none⟩, m), rfl, hr1, hg⟩
end Go.Proofs.YtimjnkfcnpfoeaaGreatDoor
