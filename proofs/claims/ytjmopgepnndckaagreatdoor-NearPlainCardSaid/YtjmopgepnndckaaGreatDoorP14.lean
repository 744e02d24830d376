/-
  Contracts and laws: NatL.
-/
import Derived.Test.YtjmopgepnndckaaGreatDoorP13
import Derived.StillTailTactics
set_option linter.unusedSimpArgs false
set_option linter.unusedVariables false
namespace Go.Proofs.YtjmopgepnndckaaGreatDoor
open Go.RowKit
set_option maxHeartbeats 2000000 in
set_option maxRecDepth 100000 in
theorem nat_shiftUp (A : Option Addr) (l : List Nat) (c n : Nat) (hd : Dig W64 l) (hm : l.length ≤ 34359738368) (hn : n ≤ 1099511627776) (w : World) (hr : Rd w A l) :
  Calls Tryz.prog 213 #[.slice A l.length c, .int .i64 n] w fun e w' => ∃ zs : List Nat, e = .returned (.slice (some ⟨w.heap.size, 0, none⟩) zs.length zs.length) ∧ Wrow w' w.heap.size zs ∧ zs.length = l.length + n / 64 + 1 ∧ Dig W64 zs ∧ val W64 zs = val W64 l * 2 ^ n ∧ Grow w w' := by
 have hps := pow_split n
 obtain ⟨wh, hwh⟩ : ∃ q, q = n / 64 := ⟨_, rfl⟩
 obtain ⟨p, hp⟩ : ∃ q, q = n % 64 := ⟨_, rfl⟩
 rw [← hwh, ← hp] at hps
 rw [← hwh, ← hps]
 have hp64 : p < 64 := by omega
 have hwhm : wh ≤ 17179869184 := by omega
 have q1 : (n : Int).tdiv 64 = (wh : Nat) := by rw [Int.tdiv_eq_ediv_of_nonneg (by omega)]; omega
 have q2 : (n : Int).tmod 64 = (p : Nat) := by rw [Int.tmod_eq_emod_of_nonneg (by omega)]; omega
 have q3 : (n : Int) / 64 = (wh : Nat) := by omega
 have q4 : (n : Int) % 64 = (p : Nat) := by omega
 obtain ⟨m, hml⟩ : ∃ m, m = l.length := ⟨_, rfl⟩
 have hs0 := ShU.start (W := W64) (P := 2 ^ p) (wh := wh) l W64_pos (Nat.two_pow_pos _)
 rw [← hml] at hm hs0
 rw [← hml]
 obtain ⟨t, ht⟩ : ∃ t, t = 64 - p := ⟨_, rfl⟩
 have hpw : W64 = 2 ^ p * 2 ^ t := by rw [← Nat.pow_add, show p + t = 64 by omega]; rfl
 have fs : IntKind.u64.wrap (p : Int) = p := wrapN (by omega)
 have fsm : min p 64 = p := by omega
 have ftm : min t 64 = t := by omega
 have ft : IntKind.u64.wrap (64 - (p : Int)) = (t : Nat) := by rw [show (64 - (p : Int)) = (t : Nat) by omega]; exact wrapN (by omega)
 have hmk := make_u64 (m + wh + 1) (by omega) ((m : Int) + (wh : Int) + 1) (by omega)
 have Hr := Lib.hid hr
 have Hd := Lib.hid hd
 have Hml := Lib.hid hml
 have Hs0 := Lib.hid hs0
 have Hpw := Lib.hid hpw
 have hb0 := Blk.new w 43 (cellsW (List.replicate (m + wh + 1) 0))
 have Hb0 := Lib.hid hb0
 clear hr hd hml hs0 hpw hb0 hps hwh hp ht
 go_enter Tryz.func213, Tryz.ntmps213
 go_wp2_with fail
 clear hmk
 go_loopw [23] (fun i wr => ∃ (k : Nat) (zs : List Nat), k ≤ m ∧ i = .int .i64 k ∧ ShU W64 (2 ^ p) wh l k zs ∧ Wrow wr w.heap.size zs ∧ Grow w wr) (fun i _ => m - (intOf i).toNat)
 case atStart => exact ⟨0, _, by omega, rfl, Hs0.out, Hb0.out, Grow.alloc _ _⟩
 case round =>
  obtain ⟨k, zs, hk, rfl, hI, hR, hG⟩ := hrel
  have HI := Lib.hid hI
  have HG := Lib.hid hG
  have HR := Lib.hid hR
  clear hI hG hR
  rcases Nat.lt_or_ge k m with hkm | hkm
  ·have hkl : k < l.length := by rw [← Hml.out]; exact hkm
   obtain ⟨b1, o1, rfl, hw1⟩ := (Hr.out.grow HG.out) (by rintro rfl; simp at hkl)
   have hc := hw1.cell hkl
   rw [← dg_eq hkl] at hc
   have hz := HI.out.1
   have hkz : k + wh < zs.length := by rw [hz, ← Hml.out]; omega
   have hkz1 : k + wh + 1 < zs.length := by rw [hz, ← Hml.out]; omega
   have hc1 := HR.out.cell (k + wh)
   rw [List.getElem?_eq_getElem hkz, ← dg_eq hkz] at hc1
   have hf1 := HR.out.frozen (k + wh)
   have hnx := HI.out.next (R := 2 ^ t) Hpw.out (Nat.two_pow_pos _) hkl Hd.out W64_pos
   have hxW := dg_lt W64_pos Hd.out k
   have hcP := HI.out.2.2.2.1
   obtain ⟨x, hx⟩ : ∃ x, x = dg l k := ⟨_, rfl⟩
   obtain ⟨y, hy⟩ : ∃ x, x = dg zs (k + wh) := ⟨_, rfl⟩
   rw [← hx] at hc hnx hxW
   rw [← hy] at hc1 hnx hcP
   simp only [Option.map_some] at hc1
   obtain ⟨L, hL⟩ : ∃ L, L = x % 2 ^ t * 2 ^ p := ⟨_, rfl⟩
   obtain ⟨Hh, hH⟩ : ∃ L, L = x / 2 ^ t := ⟨_, rfl⟩
   rw [← hL, ← hH] at hnx
   have hlh := low_high (c := y) Hpw.out (Nat.two_pow_pos _) hcP hxW
   rw [← hL, ← hH] at hlh
   obtain ⟨S, hS⟩ : ∃ S, S = y + L := ⟨_, rfl⟩
   rw [← hS] at hnx
   have fL : IntKind.u64.wrap ((x : Int) * 2 ^ p) = (L : Nat) := by
    have e := (shl_split x W64 (2 ^ p) (Nat.two_pow_pos _) (2 ^ t) Hpw.out (Nat.two_pow_pos _)).2
    rw [show ((x : Int) * 2 ^ p) = ((x * 2 ^ p : Nat) : Int) by simp, hL, ← e]; exact wrapM
   have fH : (x : Int) / 2 ^ t = (Hh : Nat) := by rw [hH]; simp
   have fo : bits .or .u64 (y : Int) (L : Int) = (S : Nat) := by
    rw [hS]
    have hyW : y < 18446744073709551616 := by have := hlh.1; unfold W64 at this; omega
    rw [u64_or_nat _ _ hyW (by have := hlh.1; unfold W64 at this; omega), or_add' hcP (by rw [hL]; exact Nat.dvd_mul_left _ _), Nat.add_comm]
   have hset1 := HR.out.set (k + wh) S
   have hc2 := hset1.cell (k + wh + 1)
   have hf2 := hset1.frozen (k + wh + 1)
   rw [List.getElem?_eq_getElem (by rw [List.length_set]; exact hkz1)] at hc2
   simp only [Option.map_some] at hc2
   obtain ⟨old, hold⟩ : ∃ v, v = Value.int .u64 ((zs.set (k + wh) S)[k + wh + 1]'(by rw [List.length_set]; exact hkz1) : Nat) := ⟨_, rfl⟩
   rw [← hold] at hc2
   clear hold
   have hset2 := hset1.set (k + wh + 1) Hh
   have Hset2 := Lib.hid hset2
   have Hnx := Lib.hid hnx
   clear hS hset1 hset2 hnx hlh hx hy hL hH hw1 hz hkz hkz1
   have hdj : decide ((k : Int) < (m : Int)) = true := by simp; omega
   have hcs : ((k + wh : Nat) : Int) = (k : Int) + (wh : Int) := by omega
   go_wp2_with fail
   go_roundw
   case rel => exact ⟨k + 1, _, by omega, by go_num, Hnx.out, Hset2.out, (HG.out.setCell (p := ⟨w.heap.size, k + wh, none⟩) (Nat.le_refl _) _).setCell (p := ⟨w.heap.size, k + wh + 1, none⟩) (Nat.le_refl _) _⟩
   case measure => simp [intOf]; omega
  ·obtain rfl : k = m := by omega
   have hdn := HI.out
   rw [Hml.out] at hdn
   have hdn2 := hdn.done
   have Hdn := Lib.hid hdn2
   clear hdn hdn2
   have hdj : decide ((k : Int) < (k : Int)) = false := by simp
   go_wp2_with fail
   go_ret
   exact ⟨zs, by rw [HI.out.1, ← Hml.out]; rfl, HR.out, by rw [HI.out.1, Hml.out], HI.out.2.1, Hdn.out, HG.out⟩
set_option maxHeartbeats 2000000 in
set_option maxRecDepth 100000 in
theorem nat_shiftDown (A : Option Addr) (l : List Nat) (c n : Nat) (hd : Dig W64 l) (hm : l.length ≤ 34359738368) (hn : n / 64 < l.length) (w : World) (hr : Rd w A l) :
  Calls Tryz.prog 215 #[.slice A l.length c, .int .i64 n] w fun e w' => ∃ zs : List Nat, e = .returned (.slice (some ⟨w.heap.size, 0, none⟩) zs.length zs.length) ∧ Wrow w' w.heap.size zs ∧ zs.length = l.length - n / 64 ∧ Dig W64 zs ∧ val W64 zs = val W64 l / 2 ^ n ∧ Grow w w' := by
 have hps := pow_split n
 obtain ⟨wh, hwh⟩ : ∃ q, q = n / 64 := ⟨_, rfl⟩
 obtain ⟨p, hp⟩ : ∃ q, q = n % 64 := ⟨_, rfl⟩
 have hp64 : p < 64 := by omega
 have hn2 : n < 2199023255616 := by omega
 have q1 : (n : Int).tdiv 64 = (wh : Nat) := by rw [Int.tdiv_eq_ediv_of_nonneg (by omega)]; omega
 have q2 : (n : Int).tmod 64 = (p : Nat) := by rw [Int.tmod_eq_emod_of_nonneg (by omega)]; omega
 have q3 : (n : Int) / 64 = (wh : Nat) := by omega
 have q4 : (n : Int) % 64 = (p : Nat) := by omega
 rw [← hwh, ← hp] at hps
 rw [← hwh] at hn
 rw [← hwh, ← hps]
 obtain ⟨m, hml⟩ : ∃ m, m = l.length := ⟨_, rfl⟩
 obtain ⟨t, ht⟩ : ∃ t, t = 64 - p := ⟨_, rfl⟩
 have hs0 := ShD.start (W := W64) (P := 2 ^ p) (R := 2 ^ t) (wh := wh) l
 rw [← hml] at hm hs0 hn
 rw [← hml]
 obtain ⟨k0, hk0⟩ : ∃ k, k = m - wh := ⟨_, rfl⟩
 rw [← hk0] at hs0
 rw [← hk0]
 have hpw : W64 = 2 ^ p * 2 ^ t := by rw [← Nat.pow_add, show p + t = 64 by omega]; rfl
 have fs : IntKind.u64.wrap (p : Int) = p := wrapN (by omega)
 have fsm : min p 64 = p := by omega
 have ftm : min t 64 = t := by omega
 have ft : IntKind.u64.wrap (64 - (p : Int)) = (t : Nat) := by rw [show (64 - (p : Int)) = (t : Nat) by omega]; exact wrapN (by omega)
 have fk : (m : Int) - (wh : Int) = (k0 : Nat) := by omega
 have fw : IntKind.i64.wrap ((m : Int) - (wh : Int)) = (k0 : Nat) := by rw [fk]; exact IntWalk.i64_in _ (by omega)
 have hmk := make_u64 k0 (by omega) (k0 : Int) rfl
 have hge : decide ((m : Int) ≤ (wh : Int)) = false := by simp; omega
 have Hr := Lib.hid hr
 have Hd := Lib.hid hd
 have Hml := Lib.hid hml
 have Hs0 := Lib.hid hs0
 have Hpw := Lib.hid hpw
 have Hk0 := Lib.hid hk0
 have hb0 := Blk.new w 43 (cellsW (List.replicate k0 0))
 have Hb0 := Lib.hid hb0
 have hk0p : k0 ≤ 34359738368 := by omega
 have hwm : wh ≤ 34359738368 := by omega
 clear hr hd hml hs0 hpw hb0 hps hwh hp ht hk0
 go_enter Tryz.func215, Tryz.ntmps215
 go_wp2_with fail
 rw [show decide (m ≤ wh) = false by simp; omega]
 clear hmk hge
 go_loopw [25] (fun i wr => ∃ (k : Nat) (zs : List Nat), k ≤ k0 ∧ i = .int .i64 k ∧ ShD W64 (2 ^ p) (2 ^ t) wh l k zs ∧ Wrow wr w.heap.size zs ∧ Grow w wr) (fun i _ => k0 - (intOf i).toNat)
 case atStart => exact ⟨0, _, by omega, rfl, Hs0.out, Hb0.out, Grow.alloc _ _⟩
 case round =>
  obtain ⟨k, zs, hk, rfl, hI, hR, hG⟩ := hrel
  have HI := Lib.hid hI
  have HG := Lib.hid hG
  have HR := Lib.hid hR
  clear hI hG hR
  rcases Nat.lt_or_ge k k0 with hkm | hkm
  ·have hkl : k + wh < l.length := by rw [← Hml.out]; have := Hk0.out; omega
   obtain ⟨b1, o1, rfl, hw1⟩ := (Hr.out.grow HG.out) (by rintro rfl; simp at hkl)
   have hb1 : b1 < w.heap.size := by
    obtain ⟨b2, o2, e2, h2⟩ := Hr.out (by rintro rfl; simp at hkl)
    injection e2 with e2
    injection e2 with e3
    rw [e3]
    exact h2.lt
   have hc := hw1.cell hkl
   rw [← dg_eq hkl] at hc
   have hnx := HI.out.next (i := k) (by rw [← Hml.out, ← Hk0.out]; exact hkm)
   have hz := HI.out.1
   rw [← Hml.out, ← Hk0.out] at hz
   have hkz : k < zs.length := by omega
   have hc1 := HR.out.cell k
   rw [List.getElem?_eq_getElem hkz] at hc1
   have hf1 := HR.out.frozen k
   simp only [Option.map_some] at hc1
   obtain ⟨old, hold⟩ : ∃ v, v = Value.int .u64 (zs[k]'hkz : Nat) := ⟨_, rfl⟩
   rw [← hold] at hc1
   clear hold
   have hxW := dg_lt W64_pos Hd.out (k + wh)
   have hyW := dg_lt W64_pos Hd.out (k + wh + 1)
   obtain ⟨x, hx⟩ : ∃ x, x = dg l (k + wh) := ⟨_, rfl⟩
   obtain ⟨y, hy⟩ : ∃ x, x = dg l (k + wh + 1) := ⟨_, rfl⟩
   rw [← hx] at hc hnx hxW
   rw [← hy] at hnx hyW
   obtain ⟨q, hq⟩ : ∃ q, q = x / 2 ^ p := ⟨_, rfl⟩
   obtain ⟨L, hL⟩ : ∃ q, q = y % 2 ^ p * 2 ^ t := ⟨_, rfl⟩
   have hdd := down_digit (y := y) Hpw.out (Nat.two_pow_pos _) hxW
   rw [← hq, ← hL] at hnx hdd
   have fq : (x : Int) / 2 ^ p = (q : Nat) := by rw [hq]; simp
   have hdj : decide ((k : Int) < (k0 : Int)) = true := by simp; omega
   rcases Nat.lt_or_ge (k + wh + 1) m with hin | hin
   ·have hin2 : k + wh + 1 < l.length := by rw [← Hml.out]; exact hin
    have hcy := hw1.cell hin2
    rw [← dg_eq hin2, ← hy] at hcy
    obtain ⟨S, hS⟩ : ∃ S, S = q + L := ⟨_, rfl⟩
    rw [← hS] at hnx
    have fL : IntKind.u64.wrap ((y : Int) * 2 ^ t) = (L : Nat) := by
     have e := (shl_split y W64 (2 ^ t) (Nat.two_pow_pos _) (2 ^ p) (by rw [Nat.mul_comm]; exact Hpw.out) (Nat.two_pow_pos _)).2
     rw [show ((y : Int) * 2 ^ t) = ((y * 2 ^ t : Nat) : Int) by simp, hL, ← e]; exact wrapM
    have fo : bits .or .u64 (q : Int) (L : Int) = (S : Nat) := by
     rw [hS]
     have hyW : q < 18446744073709551616 := by have := hdd.1; unfold W64 at this; omega
     rw [u64_or_nat _ _ hyW (by have := hdd.1; unfold W64 at this; omega), or_add' hdd.2 (by rw [hL]; exact Nat.dvd_mul_left _ _), Nat.add_comm]
    have hset1 := HR.out.set k q
    have hc2 := hset1.cell k
    have hf2 := hset1.frozen k
    rw [List.getElem?_set_self hkz] at hc2
    simp only [Option.map_some] at hc2
    have hc3 : (wr.setCell ⟨w.heap.size, k, none⟩ (.int .u64 q)).cell? ⟨b1, o1 + (k + wh + 1), none⟩ = some (.int .u64 y) := by
     rw [← hcy]
     exact World.cell?_of_block (Below.heap_setCell wr ⟨w.heap.size, k, none⟩ _ b1 (by show b1 ≠ w.heap.size; omega))
    have hset2 := hset1.set k S
    rw [List.set_set] at hset2
    have Hset2 := Lib.hid hset2
    have Hnx := Lib.hid hnx
    have hc9 : decide ((k : Int) + (wh : Int) + 1 < (m : Int)) = true := by simp; omega
    clear hS hset1 hset2 hnx hdd hx hy hq hL hw1 hz hkz hcy
    go_wp2_with fail
    have hG1 := HG.out.setCell (p := ⟨w.heap.size, k, none⟩) (Nat.le_refl _) (.int .u64 q)
    have hset2 := Hset2.out
    clear Hset2
    generalize wr.setCell ⟨w.heap.size, k, none⟩ (.int .u64 q) = w1 at hc2 hf2 hc3 hset2 hG1 ⊢
    have Hset2 := Lib.hid hset2
    have HG1 := Lib.hid hG1
    clear hset2 hG1 hc hc1 hf1 hc9 hdj
    obtain ⟨K0, hK0⟩ : ∃ K, K = k + wh := ⟨_, rfl⟩
    obtain ⟨K1, hK1⟩ : ∃ K, K = k + wh + 1 := ⟨_, rfl⟩
    have f0 : IntKind.i64.wrap ((k : Int) + (wh : Int)) = (K0 : Nat) := by rw [show ((k : Int) + (wh : Int)) = (K0 : Nat) by omega]; exact IntWalk.i64_in _ (by omega)
    have f1 : IntKind.i64.wrap ((K0 : Int) + 1) = (K1 : Nat) := by rw [show ((K0 : Int) + 1) = (K1 : Nat) by omega]; exact IntWalk.i64_in _ (by omega)
    have hK1m : K1 < m := by omega
    rw [← hK1] at hc3
    clear hK0 hK1 hin hin2 hkl
    go_still_tail 15, (by kernel_rfl)
    go_wp2_with fail
    go_roundw
    case rel => exact ⟨k + 1, _, by omega, by go_num, Hnx.out, Hset2.out.grow (Grow.drew _), (HG1.out.setCell (p := ⟨w.heap.size, k, none⟩) (Nat.le_refl _) _).trans (Grow.drew _)⟩
    case measure => simp [intOf]; omega
   ·have hy0 : y = 0 := by rw [hy]; exact dg_over (by rw [← Hml.out]; exact hin)
    have hL0 : L = 0 := by rw [hL, hy0, Nat.zero_mod, Nat.zero_mul]
    rw [hL0, Nat.add_zero] at hnx
    have hset1 := HR.out.set k q
    have Hset1 := Lib.hid hset1
    have Hnx := Lib.hid hnx
    have hc9 : decide ((k : Int) + (wh : Int) + 1 < (m : Int)) = false := by simp; omega
    clear hset1 hnx hdd hx hy hq hL hw1 hz hkz hy0 hL0
    go_wp2_with fail
    go_roundw
    case rel => exact ⟨k + 1, _, by omega, by go_num, Hnx.out, Hset1.out, HG.out.setCell (p := ⟨w.heap.size, k, none⟩) (Nat.le_refl _) _⟩
    case measure => simp [intOf]; omega
  ·obtain rfl : k = k0 := by omega
   have hdn := HI.out
   rw [Hk0.out, Hml.out] at hdn
   have hdn2 := hdn.done Hpw.out (Nat.two_pow_pos _) W64_pos Hd.out
   have hdn3 := hdn.dig Hpw.out (Nat.two_pow_pos _) W64_pos Hd.out
   have Hdn := Lib.hid hdn2
   have Hdg := Lib.hid hdn3
   clear hdn hdn2 hdn3
   have hdj : decide ((k : Int) < (k : Int)) = false := by simp
   go_wp2_with fail
   go_ret
   have hz := HI.out.1
   rw [← Hml.out, ← Hk0.out] at hz
   exact ⟨zs, by rw [hz]; rfl, HR.out, hz, Hdg.out, Hdn.out, HG.out⟩
end Go.Proofs.YtjmopgepnndckaaGreatDoor
