/-
  Contracts and laws: Byte From HandA ScoreA.
-/
import Derived.Test.YtimjnkfcnpfoeaaGreatDoorU32
import Derived.StillTailTactics
set_option linter.unusedSimpArgs false
set_option linter.unusedVariables false
namespace Go.Proofs.YtimjnkfcnpfoeaaGreatDoor
open Go.RowKit
/-- limbs off bytes: the byte number k is laid in, those above it are there, those below are 0 -/
theorem lay_byte (zs : List Nat) (V k y : Nat) (hd : Dig W32 zs) (hk : k / 4 < zs.length) (hv : val W32 zs = V * 256 ^ (k + 1)) (hy : y < 256) :
  dg zs (k / 4) ||| y * 2 ^ (8 * (k % 4)) = dg zs (k / 4) + y * 2 ^ (8 * (k % 4)) ∧ dg zs (k / 4) + y * 2 ^ (8 * (k % 4)) < W32 ∧ val W32 (zs.set (k / 4) (dg zs (k / 4) + y * 2 ^ (8 * (k % 4)))) = (V * 256 + y) * 256 ^ k := by
 have e1 : (256 : Nat) ^ k = W32 ^ (k / 4) * 2 ^ (8 * (k % 4)) := by
  rw [show W32 = 2 ^ 32 from rfl, show (256 : Nat) = 2 ^ 8 from rfl, ← Nat.pow_mul, ← Nat.pow_mul, ← Nat.pow_add]
  congr 1
  omega
 have hdv : 2 ^ (8 * (k % 4) + 8) ∣ dg zs (k / 4) := by
  have h1 : dg zs (k / 4) = val W32 zs / W32 ^ (k / 4) % W32 := by
   have h2 := val_take_dg W32 zs (k / 4)
   have h3 : val W32 zs = val W32 (zs.take (k / 4 + 1)) + W32 ^ (k / 4 + 1) * val W32 (zs.drop (k / 4 + 1)) := by
    have := val_append W32 (zs.take (k / 4 + 1)) (zs.drop (k / 4 + 1))
    rw [List.take_append_drop, List.length_take, Nat.min_eq_left (by omega)] at this
    exact this
   have h4 : val W32 (zs.take (k / 4)) < W32 ^ (k / 4) := by
    have := val_lt (B := W32) (l := zs.take (k / 4)) (fun x hx => hd x (List.mem_of_mem_take hx))
    rwa [List.length_take, Nat.min_eq_left (by omega)] at this
   have h5 := dg_lt W32_pos hd (k / 4)
   rw [h3, h2, Nat.pow_succ, Nat.mul_assoc, Nat.add_assoc, ← Nat.mul_add, Nat.add_mul_div_left _ _ (Nat.pow_pos W32_pos), Nat.div_eq_of_lt h4, Nat.zero_add, Nat.add_mul_mod_self_left, Nat.mod_eq_of_lt h5]
  rw [h1, hv]
  have e2 : V * 256 ^ (k + 1) = W32 ^ (k / 4) * (V * 2 ^ (8 * (k % 4) + 8)) := by
   rw [Nat.pow_succ, e1, Nat.pow_add]
   simp only [show (256 : Nat) = 2 ^ 8 from rfl]
   grind
  rw [e2, Nat.mul_div_cancel_left _ (Nat.pow_pos W32_pos)]
  refine (Nat.dvd_mod_iff ?_).2 (Nat.dvd_mul_left _ _)
  rw [show W32 = 2 ^ 32 from rfl]
  exact Nat.pow_dvd_pow 2 (by omega)
 have hlt : y * 2 ^ (8 * (k % 4)) < 2 ^ (8 * (k % 4) + 8) := by
  rw [Nat.pow_add, Nat.mul_comm]
  exact Nat.mul_lt_mul_of_pos_left hy (Nat.two_pow_pos _)
 refine ⟨or_add hlt hdv, ?_, ?_⟩
 ·obtain ⟨c, hc⟩ := hdv
  have h5 := dg_lt W32_pos hd (k / 4)
  rw [hc] at h5 ⊢
  have e3 : W32 = 2 ^ (8 * (k % 4) + 8) * 2 ^ (24 - 8 * (k % 4)) := by
   rw [← Nat.pow_add, show W32 = 2 ^ 32 from rfl]
   congr 1
   omega
  rw [e3] at h5 ⊢
  have h6 := Nat.lt_of_mul_lt_mul_left h5
  calc 2 ^ (8 * (k % 4) + 8) * c + y * 2 ^ (8 * (k % 4)) < 2 ^ (8 * (k % 4) + 8) * c + 2 ^ (8 * (k % 4) + 8) := by omega
   _ = 2 ^ (8 * (k % 4) + 8) * (c + 1) := by rw [Nat.mul_add, Nat.mul_one]
   _ ≤ _ := Nat.mul_le_mul_left _ h6
 ·have h7 := val_set W32 zs (k / 4) (dg zs (k / 4) + y * 2 ^ (8 * (k % 4))) hk
  rw [hv, Nat.mul_add] at h7
  have e4 : (V * 256 + y) * 256 ^ k = V * 256 ^ (k + 1) + W32 ^ (k / 4) * (y * 2 ^ (8 * (k % 4))) := by
   rw [Nat.add_mul, Nat.pow_succ, e1]
   grind
  omega
end Go.Proofs.YtimjnkfcnpfoeaaGreatDoor
namespace Go.Proofs.YtimjnkfcnpfoeaaGreatDoor
open Go.RowKit
theorem bits_or_u32_nat (a b : Nat) (ha : a < 4294967296) (hb : b < 4294967296) : bits .or .u32 (a : Int) (b : Int) = ((a ||| b : Nat) : Int) := by
 have hx : a ||| b < 2 ^ 32 := Nat.or_lt_two_pow (by omega) (by omega)
 have h1 : (BitVec.ofInt 32 (a : Int)).toNat = a := by
  rw [BitVec.ofInt_natCast, BitVec.toNat_ofNat]; exact Nat.mod_eq_of_lt (by omega)
 have h2 : (BitVec.ofInt 32 (b : Int)).toNat = b := by
  rw [BitVec.ofInt_natCast, BitVec.toNat_ofNat]; exact Nat.mod_eq_of_lt (by omega)
 show IntKind.u32.wrap ((BitVec.ofInt 32 (a : Int) ||| BitVec.ofInt 32 (b : Int)).toNat : Int) = _
 rw [BitVec.toNat_or, h1, h2]
 simp [IntKind.wrap, IntKind.signed, IntKind.bits]
 omega
theorem u32_in (n : Nat) (h : n < 4294967296) : IntKind.u32.wrap (n : Int) = (n : Int) := by
 simp [IntKind.wrap, IntKind.signed, IntKind.bits]; omega
set_option maxHeartbeats 1000000 in
set_option maxRecDepth 100000 in
theorem ref1_NatFrom (A : Option Addr) (a : Nat) (w : World) (ha : bl a ≤ 1099511627760) (hA : By w A (byt a).reverse) : Calls Tryz.prog 150 #[.slice A (byt a).length (byt a).length] w (Ret (natR a) w) := by
 obtain ⟨n, hn⟩ : ∃ n, n = (byt a).length := ⟨_, rfl⟩
 have hnb : n ≤ 137438953471 := by rw [hn, byt_length]; omega
 obtain ⟨m, hm⟩ : ∃ m, m = (n + 3) / 4 := ⟨_, rfl⟩
 have hmi : ((n : Int) + 3) / 4 = (m : Int) := by omega
 have hmt : ((n : Int) + 3).tdiv 4 = (m : Int) := by rw [Int.tdiv_eq_ediv_of_nonneg (by omega)]; exact hmi
 have hmk := make_u32 m (by omega) (m : Int) rfl
 rw [← hn]
 have HA := Lib.hid hA
 have Hn := Lib.hid hn
 have Hm := Lib.hid hm
 have hmb : m ≤ 34359738368 := by omega
 clear hA hn hm
 go_enter Tryz.func150, Tryz.ntmps150
 go_wp2_with fail
 clear hmk hmi hmt
 go_loopw [4] (fun s wr => ∃ (i : Nat) (zs : List Nat), i ≤ n ∧ s = .int .i64 i ∧ zs.length = m ∧ Dig W32 zs ∧ val W32 zs = a / 256 ^ (n - i) * 256 ^ (n - i) ∧ Row32 wr w.heap.size zs ∧ Grow w wr) (fun s _ => n - (intOf s).toNat)
 case atStart => exact ⟨0, List.replicate m 0, Nat.zero_le _, rfl, by simp, fun z hz => (by rw [(List.mem_replicate.1 hz).2]; exact W32_pos), by
   rw [val_zeros, Nat.sub_zero, Nat.div_eq_of_lt, Nat.zero_mul]
   have := val_lt (byt_dig a)
   rw [← Hn.out] at this
   unfold byt at this
   rwa [val_digs (by omega)] at this, Blk.new w 157 _, Grow.alloc _ _⟩
 case round =>
  obtain ⟨i, zs, hi, rfl, hl, hd, hv, hR, hG⟩ := hrel
  have HR := Lib.hid hR
  have HG := Lib.hid hG
  have Hd := Lib.hid hd
  have Hv := Lib.hid hv
  have Hl := Lib.hid hl
  clear hl hd hv hR hG
  rcases Nat.lt_or_ge i n with hlt | hge
  ·obtain ⟨k, hk⟩ : ∃ k, k = n - 1 - i := ⟨_, rfl⟩
   have hni : n - i = k + 1 := by omega
   have hki : (n : Int) - 1 - (i : Int) = (k : Int) := by omega
   have hkq : k / 4 < zs.length := by rw [Hl.out, Hm.out]; omega
   obtain ⟨b1, o1, rfl, hc1⟩ := (HA.out.grow HG.out).cell (i := i) (by rw [List.length_reverse, ← Hn.out]; exact hlt)
   rw [dg_reverse (by rw [← Hn.out]; exact hlt), ← Hn.out, ← hk] at hc1
   have hby := dg_lt (by omega) (byt_dig a) k
   have hv1 := Hv.out
   rw [hni] at hv1
   obtain ⟨l1, l2, l3⟩ := lay_byte zs _ k _ Hd.out hkq hv1 hby
   have hc2 := HR.out.cell hkq
   have hf2 := HR.out.frozen (k / 4)
   have hzl := dg_lt W32_pos Hd.out (k / 4)
   have hkm : k / 4 < m := by rw [← Hl.out]; exact hkq
   have hstep : a / 256 ^ (k + 1) * 256 + dg (byt a) k = a / 256 ^ k := by
    unfold byt
    rw [dg_digs (by omega), Nat.pow_succ, ← Nat.div_div_eq_div_mul]
    omega
   rw [hstep] at l3
   obtain ⟨q, hq⟩ : ∃ q, q = k / 4 := ⟨_, rfl⟩
   obtain ⟨r, hr⟩ : ∃ r, r = k % 4 := ⟨_, rfl⟩
   have hr8 : r < 4 := by omega
   have hqi : (k : Int) / 4 = (q : Int) := by omega
   have hri : (k : Int) % 4 = (r : Int) := by omega
   obtain ⟨y, hy⟩ : ∃ y, y = dg (byt a) k := ⟨_, rfl⟩
   obtain ⟨x, hx⟩ : ∃ x, x = dg zs (k / 4) := ⟨_, rfl⟩
   rw [← hx] at hc2 l1 l2 l3 hzl
   rw [← hy] at hc1 hby l1 l2 l3
   rw [← hq] at hc2 hf2 hkm l3
   rw [← hr] at l1 l2 l3
   have L1 := Lib.hid l1
   have L2 := Lib.hid l2
   have L3 := Lib.hid l3
   unfold W32 at hzl
   have hw1 : IntKind.i64.wrap (q : Int) = (q : Int) := IntWalk.i64_in _ (by omega)
   have hw2 : IntKind.i64.wrap (r : Int) = (r : Int) := IntWalk.i64_in _ (by omega)
   have hw3 : IntKind.i64.wrap (8 * (r : Int)) = 8 * (r : Int) := IntWalk.i64_in _ (by omega)
   have hw4 : IntKind.u64.wrap (8 * (r : Int)) = 8 * (r : Int) := u64_wrap_id (x := 8 * (r : Int)) (by omega) (by omega)
   have hw5 : (8 * (r : Int)).toNat = 8 * r := by omega
   have hw6 : (k : Int).tmod 4 = (r : Int) := by rw [Int.tmod_eq_emod_of_nonneg (by omega)]; exact hri
   have hw7 := u32_in y (by omega)
   have hw8 : min (8 * r) 32 = 8 * r := by omega
   obtain ⟨z, hz⟩ : ∃ z, z = y * 2 ^ (8 * r) := ⟨_, rfl⟩
   have hzlt : z < 4294967296 := by unfold W32 at l2; omega
   have hw9 : IntKind.u32.wrap ((y : Int) * 2 ^ (8 * r)) = (z : Int) := by
    rw [show ((y : Int) * 2 ^ (8 * r)) = ((z : Nat) : Int) by rw [hz]; simp]; exact u32_in z hzlt
   rw [← hz] at l1 l2 l3
   have hw10 : bits BinOp.or IntKind.u32 (x : Int) (z : Int) = ((x + z : Nat) : Int) := by
    rw [bits_or_u32_nat x z hzl hzlt, l1]
   obtain ⟨s, hs⟩ : ∃ s, s = x + z := ⟨_, rfl⟩
   rw [← hs] at l2 l3 hw10
   have L4 := Lib.hid l3
   have L5 := Lib.hid l2
   clear hk hni hstep hv1 l1 l2 l3 hx hy hq hr hkq hz hs L1 L2 L3
   go_wp2_with fail
   go_still_tail 19, (by kernel_rfl)
   go_wp2_with fail
   have hnk : n - (i + 1) = k := by omega
   exact ⟨⟨i + 1, zs.set q s, by omega, by go_num, by rw [List.length_set]; exact Hl.out, dig_set Hd.out q L5.out, by rw [hnk]; exact L4.out, (HR.out.set q s).grow (Grow.drew _), (HG.out.setCell (p := ⟨w.heap.size, q, none⟩) (Nat.le_refl _) _).trans (Grow.drew _)⟩, by simp [intOf]; omega⟩
  ·obtain rfl : i = n := by omega
   have hva : val W32 zs = a := by have := Hv.out; simpa using this
   have htr : Calls Tryz.prog 135 #[.slice (some ⟨w.heap.size, 0, none⟩) m m] wr fun e w' => e = .returned (.slice (some ⟨w.heap.size, 0, none⟩) (ln a) m) ∧ Rn w' (some ⟨w.heap.size, 0, none⟩, m) a ∧ Grow w w' := by
    have h1 := ref1_trim (some ⟨w.heap.size, 0, none⟩) zs m wr HR.out.lim (Nat.le_of_eq Hl.out) (by omega)
    rw [Hl.out] at h1
    refine h1.mono fun e w' ⟨he, hg⟩ => ?_
    obtain ⟨hr1, hlen⟩ := rn_trim (a := a) (c := m) (HR.out.lim.grow hg) Hd.out hva (Nat.le_of_eq Hl.out) (by omega)
    rw [hlen] at he
    exact ⟨he, hr1, HG.out.trans hg⟩
   have Htr := Lib.hid htr
   clear htr hva
   go_wp2_with (go_at_call 135; ((with_reducible refine (Htr.out).mono ?_); rintro e w1 ⟨rfl, hr1, hg⟩))
   go_ret
   exact ⟨(some ⟨w.heap.size, 0, none⟩, m), rfl, hr1, hg⟩
end Go.Proofs.YtimjnkfcnpfoeaaGreatDoor
namespace Go.Proofs.YtimjnkfcnpfoeaaGreatDoor
open Go.RowKit
def LIM : Nat := 1099511627760
theorem allocs2 : ∀ t ∈ [28, 30, 32, 39, 41], AllocT Tryz.prog t := by
 intro t ht
 simp only [List.mem_cons, List.not_mem_nil, or_false] at ht
 rcases ht with rfl | rfl | rfl | rfl | rfl
 ·exact fun _ _ _ _ _ _ => by rw [newObj_Nat]; kernel_rfl
 ·exact fun _ _ _ _ _ _ => by rw [newObj_Int]; kernel_rfl
 ·exact fun _ _ _ _ _ _ => by rw [newObj_Q]; kernel_rfl
 ·exact fun _ _ _ _ _ _ => by rw [newObj_RInt]; kernel_rfl
 ·exact fun _ _ _ _ _ _ => by rw [newObj_RQ]; kernel_rfl
set_option maxHeartbeats 400000 in
theorem hand_OutNat (a : Nat) (ha : bl a ≤ LIM) (w : World) : Calls Tryz.prog 118 #[natV a] w (Ret (natR a) w) := by
 unfold LIM at ha
 have hby : ∀ W, Calls Tryz.prog 151 #[natV a] W fun e w' => ∃ A, e = .returned (.slice A (byt a).length (byt a).length) ∧ By w' A (byt a).reverse ∧ Grow W w' := fun W => nat_Bytes a ha W
 have hfr : ∀ A W, By W A (byt a).reverse → Calls Tryz.prog 150 #[.slice A (byt a).length (byt a).length] W (Ret (natR a) W) := fun A W h => ref1_NatFrom A a W ha h
 obtain ⟨n, hn⟩ : ∃ n, n = (byt a).length := ⟨_, rfl⟩
 rw [← hn] at hby hfr
 have Hby := Lib.hid hby
 have Hfr := Lib.hid hfr
 clear hby hfr hn
 go_enter Tryz.func118, Tryz.ntmps118
 go_wp2_with (first
  | (go_at_call 151; ((with_reducible refine (Hby.out _).mono ?_); rintro e w1 ⟨A, rfl, hA, hg1⟩))
  | (go_at_call 150; ((with_reducible refine (Hfr.out _ _ hA).mono ?_); rintro e w2 ⟨x, rfl, hx, hg2⟩)))
 go_ret
 exact ⟨x, rfl, hx, (Grow.alloc _ _).trans (hg1.trans hg2)⟩
set_option maxHeartbeats 400000 in
set_option maxRecDepth 100000 in
theorem hand_OutInt (z : Int) (ha : bl z.natAbs ≤ LIM) (w : World) : Calls Tryz.prog 116 #[intV z] w (Ret (intR z) w) := by
 have ha' : bl z.natAbs ≤ 1099511627776 := by unfold LIM at ha; omega
 go_enter Tryz.func116, Tryz.ntmps116
 refine en2 ?_
 intro u hG b2 b1 hB hF
 refine wp_seq (rdC allocs [] [(0, 0), (0, 3), (1, 1), (0, 2), (1, 4), (1, 5), (1, 6)] hB hG fun K L hN hL => ?_)
 refine gs ?_
 refine gmw (C := fun v => whole_Sign _ (by assumption) _) ?_
 refine gs ?_
 refine gmw (C := fun v => whole_Abs _ _) ?_
 refine grd (natR z.natAbs) (fun (x8 : Ax) => ?_) (C := fun v _ => hand_OutNat z.natAbs ha _)
 refine gmd (C := by (rintro v ⟨⟨hgu, hB, hG, -⟩, hx8⟩; have hx8 : Rn v x8 _ := hx8; exact ref1_I x8 _ z.natAbs _)) ?_
 refine geC hL ?_
 clear hB hG hL L
 rintro u ⟨⟨-, hB, hG, -⟩, hx8⟩
 replace hx8 : Rn u x8 _ := hx8
 refine gtT ?_
 clear hN K
 refine sv hB hF hG 1 0 [_, _] ?_
 intro u hu hBG
 replace hx8 := hx8.put hB 1 rfl (by first | decide | simp) _ _ hu
 clear hB hG hu
 obtain ⟨hB, hG⟩ := hBG
 refine rt Tryz.results116 ?_
 exact ⟨x8, congrArg (fun y : Int => Ending.returned (riV x8 y)) (sgn_self z), hx8, hG⟩
set_option maxHeartbeats 400000 in
set_option maxRecDepth 100000 in
theorem hand_Out (q : Rat) (ha : qs q ≤ LIM) (w : World) : Calls Tryz.prog 62 #[qV q] w (Ret (ratR q) w) := by
 have h1 : bl q.num.natAbs ≤ LIM := Nat.le_trans (qs_num q) ha
 have h2 : bl q.den ≤ LIM := Nat.le_trans (qs_den q) ha
 have h3 : bl q.den ≤ 1099511627776 := by unfold LIM at h2; omega
 go_enter Tryz.func62, Tryz.ntmps62
 refine en2 ?_
 intro u hG b2 b1 hB hF
 refine wp_seq (rdC allocs [] [(0, 0), (0, 3), (1, 1), (1, 2), (1, 4), (1, 5), (0, 6)] hB hG fun K L hN hL => ?_)
 refine gs ?_
 refine gmw (C := fun v => frac_Num _ _) ?_
 refine grd (intR q.num) (fun (x5 : Ax) => ?_) (C := fun v _ => hand_OutInt q.num h1 _)
 refine gmd (C := by (rintro v ⟨⟨hgu, hB, hG, -⟩, hx5⟩; have hx5 : Rn v x5 _ := hx5; exact frac_Den _ (by assumption) _)) ?_
 refine grd (natR q.den) (fun (x8 : Ax) => ?_) (C := by (rintro v ⟨⟨hgu, hB, hG, -⟩, hx5⟩; have hx5 : Rn v x5 _ := hx5; exact hand_OutNat q.den h2 _))
 refine gs ?_
 refine geC hL ?_
 clear hB hG hL L
 rintro u ⟨⟨⟨-, hB, hG, -⟩, hx5⟩, hx8⟩
 replace hx5 : Rn u x5 _ := hx5
 replace hx8 : Rn u x8 _ := hx8
 refine gtT ?_
 clear hN K
 refine sv hB hF hG 1 0 [_, _, _] ?_
 intro u hu hBG
 replace hx5 := hx5.put hB 1 rfl (by first | decide | simp) _ _ hu
 replace hx8 := hx8.put hB 1 rfl (by first | decide | simp) _ _ hu
 clear hB hG hu
 obtain ⟨hB, hG⟩ := hBG
 refine rt Tryz.results62 ?_
 exact ⟨(x5, x8), rfl, ⟨hx5, hx8⟩, hG⟩
theorem NatCmp_same (x y : Ax) (a : Nat) (w : World) (hx : Rn w x a) (hy : Rn w y a) : Calls Tryz.prog 63 #[nvV x a, nvV y a] w fun e w' => e = .returned (.int .i64 0) ∧ Grow w w' := by
 have := ref1_NatCmp x y a a w hx hy
 rw [cmpN_eq rfl] at this
 exact this
set_option maxHeartbeats 1000000 in
set_option maxRecDepth 100000 in
theorem hand_Same (q : Rat) (x y : Ax) (ha : qs q ≤ LIM) (w : World) (hx : Rn w x q.num.natAbs) (hy : Rn w y q.den) : Calls Tryz.prog 17 #[qV q, rqV x y q] w fun e w' => e = .returned (.bool true) ∧ Grow w w' := by
 have hl : 0 < ln q.den := ln_pos.2 q.den_nz
 have hlb : ((ln q.den : Int) == 0) = false := by simp; omega
 go_enter Tryz.func17, Tryz.ntmps17
 refine en2 ?_
 intro u hG b3 b2 hB hF
 replace hx := hx.grow hG
 replace hy := hy.grow hG
 refine wp_seq (rsC allocs2 [0, 1, 2] hB hG fun K L hN hL => ?_)
 refine gs ?_
 refine grd (ratR q) (fun (x7 : Ax × Ax) => ?_) (C := fun v _ => hand_Out q ha _)
 refine gaa (newObj_RQ _ _ _ _ _) fun b5 hb5 hn5 => ?_
 replace hF := hF.n1 [] hB hG hb5 hn5
 refine geC hL ?_
 clear hB hG hL L
 rintro u ⟨⟨⟨hgu, hB, hG, -⟩, hx7⟩, h5⟩
 replace hB := hB.cons' h5
 clear h5
 replace hx := hx.grow hgu
 replace hy := hy.grow hgu
 obtain ⟨hx7a, hx7b⟩ : Rn u x7.1 _ ∧ Rn u x7.2 _ := hx7
 clear hb5 hn5
 clear hgu
 refine gtT ?_
 clear hN K
 refine sv hB hF hG 0 0 [_, _, _] ?_
 intro u hu hBG
 replace hx := hx.put hB 0 rfl (by first | decide | simp) _ _ hu
 replace hy := hy.put hB 0 rfl (by first | decide | simp) _ _ hu
 replace hx7a := hx7a.put hB 0 rfl (by first | decide | simp) _ _ hu
 replace hx7b := hx7b.put hB 0 rfl (by first | decide | simp) _ _ hu
 clear hB hG hu
 obtain ⟨hB, hG⟩ := hBG
 refine wp_seq ?_
 refine r0T ?_
 refine wp_cond_false (rfl) ?_
 refine wp_skip ?_
 refine then_norm ?_
 refine wp_seq (rsE allocs2 [0, 0, 0, 0, 0, 0, 1, 0, 0, 0, 0, 0, 0, 0, 0, 0, 0, 0, 0, 0, 0, 0, 1, 0, 0, 0] hB hG fun L hL => ?_)
 refine gs ?_
 refine gmd (C := fun v ⟨hgu, hB, hG, _⟩ => NatCmp_same x7.1 x q.num.natAbs _ (hx7a.grow hgu) (hx.grow hgu)) ?_
 refine gs ?_
 first | refine gmd (C := fun v ⟨hgu, hB, hG, _⟩ => NatCmp_same x7.2 y q.den _ (hx7b.grow hgu) (hy.grow hgu)) ?_ | refine gmna ?_
 refine gs ?_
 refine geT hL ?_
 clear hB hG hL L
 rintro u ⟨hgu, hB, hG, -⟩
 replace hx := hx.grow hgu
 replace hy := hy.grow hgu
 replace hx7a := hx7a.grow hgu
 replace hx7b := hx7b.grow hgu
 clear hgu
 refine rt Tryz.results17 ?_
 exact ⟨rfl, hG⟩
set_option maxHeartbeats 400000 in
set_option maxRecDepth 100000 in
theorem hand_Is (n d : Int) (h0 : -9223372036854775808 ≤ n) (h1 : n ≤ 9223372036854775807) (h2 : -9223372036854775808 ≤ d) (h3 : d ≤ 9223372036854775807) (hd : d ≠ 0) (ha : qs (qover n d) ≤ LIM) (w : World) : Calls Tryz.prog 26 #[qV (qover n d), .int .i64 n, .int .i64 d] w fun e w' => e = .returned (.bool true) ∧ Grow w w' := by
 go_enter Tryz.func26, Tryz.ntmps26
 refine en1 ?_
 intro u hG b3 hB hF
 refine wp_seq (rdC allocs [] [(0, 0), (0, 1), (0, 2), (1, 3), (1, 4)] hB hG fun K L hN hL => ?_)
 refine gs ?_
 refine grd (ratR (qover n d)) (fun (x10 : Ax × Ax) => ?_) (C := fun v _ => ref1_Over n d h0 h1 h2 h3 hd _)
 refine gmd (C := by (rintro v ⟨⟨hgu, hB, hG, -⟩, hx10⟩; obtain ⟨hx10a, hx10b⟩ : Rn v x10.1 _ ∧ Rn v x10.2 _ := hx10; exact hand_Same (qover n d) x10.1 x10.2 ha _ hx10a hx10b)) ?_
 refine geC hL ?_
 clear hB hG hL L
 rintro u ⟨⟨-, hB, hG, -⟩, hx10⟩
 obtain ⟨hx10a, hx10b⟩ : Rn u x10.1 _ ∧ Rn u x10.2 _ := hx10
 refine gtT ?_
 clear hN K
 refine rt Tryz.results26 ?_
 exact ⟨rfl, hG⟩
/-- any number as one of 0 to m - 1 -/
def pick (n m : Int) : Int := n % m
theorem pick_range (n : Int) {m : Int} (h : 0 < m) : 0 ≤ pick n m ∧ pick n m < m := ⟨Int.emod_nonneg _ (by omega), Int.emod_lt_of_pos _ h⟩
set_option maxHeartbeats 400000 in
theorem hand_Pick (n m : Int) (hm : 0 < m) (hm2 : m ≤ 9223372036854775807) (w : World) : Calls Tryz.prog 10 #[.int .i64 n, .int .i64 m] w fun e w' => e = .returned (.int .i64 (pick n m)) ∧ w = w' := by
 have h0 : ¬ m = 0 := by omega
 obtain ⟨t, ht⟩ : ∃ t, t = n.tmod m := ⟨_, rfl⟩
 have hp : pick n m = if t < 0 then t + m else t := by
  rw [ht]
  unfold pick
  have h1 := Int.emod_nonneg n (show m ≠ 0 by omega)
  have h2 := Int.emod_lt_of_pos n hm
  rw [Int.tmod_eq_emod]
  split <;> split <;> omega
 have hb : -m < t ∧ t < m := by
  rw [ht]
  have h1 := Int.emod_nonneg n (show m ≠ 0 by omega)
  have h2 := Int.emod_lt_of_pos n hm
  rw [Int.tmod_eq_emod]
  split <;> omega
 have htm : n.tmod m = t := ht.symm
 have hw1 : IntKind.i64.wrap t = t := IntWalk.i64_in _ (by omega)
 clear ht
 by_cases hneg : t < 0
 ·rw [if_pos hneg] at hp
  have hw2 : IntKind.i64.wrap (t + m) = t + m := IntWalk.i64_in _ (by omega)
  have Hp := Lib.hid hp
  clear hp
  go_enter Tryz.func10, Tryz.ntmps10
  go_wp2_with fail
  go_ret
  exact ⟨ret_i64 Hp.out.symm, rfl⟩
 ·rw [if_neg hneg] at hp
  have Hp := Lib.hid hp
  clear hp
  go_enter Tryz.func10, Tryz.ntmps10
  go_wp2_with fail
  go_ret
  exact ⟨ret_i64 Hp.out.symm, rfl⟩
end Go.Proofs.YtimjnkfcnpfoeaaGreatDoor
namespace Go.Proofs.YtimjnkfcnpfoeaaGreatDoor
open Go.RowKit
/-- these integers lie from the address on -/
def Li (u : World) (A : Option Addr) (l : List Int) : Prop :=
 l ≠ [] → ∃ b off, A = some ⟨b, off, none⟩ ∧ b < u.heap.size ∧ ∀ i x, l[i]? = some x → u.cell? ⟨b, off + i, none⟩ = some (.int .i64 x)
theorem Li.nil (u : World) (A : Option Addr) : Li u A [] := fun h => absurd rfl h
theorem Li.grow {u u' : World} {A : Option Addr} {l : List Int} (h : Li u A l) (hg : Grow u u') : Li u' A l := fun hn => by
 obtain ⟨b, off, e, hb, hc⟩ := h hn
 exact ⟨b, off, e, Nat.lt_of_lt_of_le hb hg.size, fun i x hi => (hg.cell (p := ⟨b, off + i, none⟩) hb).trans (hc i x hi)⟩
def gi (l : List Int) (i : Nat) : Int := (l[i]?).getD 0
theorem gi_eq {l : List Int} {i : Nat} (h : i < l.length) : l[i]? = some (gi l i) := by
 unfold gi; rw [List.getElem?_eq_getElem h]; rfl
theorem Li.cell {u : World} {A : Option Addr} {l : List Int} (h : Li u A l) {i : Nat} (hi : i < l.length) : ∃ b off, A = some ⟨b, off, none⟩ ∧ u.cell? ⟨b, off + i, none⟩ = some (.int .i64 (gi l i)) := by
 obtain ⟨b, off, e, hb, hc⟩ := h (fun h0 => by rw [h0] at hi; cases hi)
 exact ⟨b, off, e, hc i _ (gi_eq hi)⟩
def pairedB (m n : Nat) : Bool := decide (m = n) && decide (0 < m)
set_option maxHeartbeats 400000 in
theorem score_paired_ii (A B : Option Addr) (m n c d : Nat) (w : World) : Calls Tryz.prog 57 #[.slice A m c, .slice B n d] w fun e w' => e = .returned (.bool (pairedB m n)) ∧ Grow w w' := by
 by_cases h : m = n
 ·subst h
  by_cases h0 : 0 < m
  ·have e : pairedB m m = true := by unfold pairedB; simp [h0]
   rw [e]
   clear e
   go_enter Tryz.func57, Tryz.ntmps57
   go_wp2_with fail
   go_ret
   exact ⟨rfl, Grow.refl _⟩
  ·have e : pairedB m m = false := by unfold pairedB; simp; omega
   rw [e]
   clear e
   go_enter Tryz.func57, Tryz.ntmps57
   go_wp2_with fail
   go_ret
   exact ⟨rfl, Grow.refl _⟩
 ·have e : pairedB m n = false := by unfold pairedB; simp [h]
  have hb : ((m : Int) == (n : Int)) = false := by simp; omega
  rw [e]
  clear e
  go_enter Tryz.func57, Tryz.ntmps57
  go_wp2_with fail
  go_ret
  exact ⟨rfl, Grow.refl _⟩
--! score_ratio = score_ratio _ _ SIDE SIDE SIDE SIDE _ (HT.grow hG)
set_option maxHeartbeats 400000 in
set_option maxRecDepth 100000 in
theorem score_ratio (n d : Int) (h0 : -9223372036854775808 ≤ n) (h1 : n ≤ 9223372036854775807) (h2 : -9223372036854775808 ≤ d) (h3 : d ≤ 9223372036854775807) (w : World) (HT : Tab w) : Calls Tryz.prog 60 #[.int .i64 n, .int .i64 d] w fun e w' => e = .returned (qV (qover n d)) ∧ Grow w w' := by
 go_enter Tryz.func60, Tryz.ntmps60
 refine en1 ?_
 intro u hG b4 hB hF
 refine wp_seq (rsC allocs [0, 0, 1, 0, 0, 0, 2] hB hG fun K L hN hL => ?_)
 refine gs ?_
 refine gmd (C := fun v ⟨hgu, hB, hG, _⟩ => frac_Over _ _ (by assumption) (by assumption) (by assumption) (by assumption) _ (HT.grow hG)) ?_
 refine gs ?_
 refine gaa (newObj_Q _ _ _ _ _) fun b5 hb5 hn5 => ?_
 replace hF := hF.n1 [] hB hG hb5 hn5
 refine geC hL ?_
 clear hB hG hL L
 rintro u ⟨⟨-, hB, hG, -⟩, h5⟩
 replace hB := hB.cons' h5
 clear h5
 clear hb5 hn5
 refine gtT ?_
 clear hN K
 refine st hB hF hG 0 0 [_, _, _, _, _] ?_
 clear hB hG
 intro u hB hG
 refine r0T ?_
 refine st hB hF hG 1 0 [_, _, _, _, _] ?_
 clear hB hG
 intro u hB hG
 refine rt Tryz.results60 ?_
 exact ⟨rfl, hG⟩
/-- how many of the first n fit -/
def cnt (t : Nat → Bool) : Nat → Nat
 | 0 => 0
 | n + 1 => cnt t n + (if t n then 1 else 0)
theorem cnt_le (t : Nat → Bool) (n : Nat) : cnt t n ≤ n := by
 induction n with
 | zero => exact Nat.le_refl _
 | succ n ih => simp only [cnt]; split <;> omega
set_option maxHeartbeats 1000000 in
set_option maxRecDepth 100000 in
theorem score_count (n : Nat) (hn : n ≤ 1099511627776) (k : FuncId) (hcf : ∀ (args : Array Value) (W : World), Sem.run Tryz.prog (callFunc k args) W = .ok (.enter k args) W) (caps : Array Value) (t : Nat → Bool) (P : World → Prop) (hPm : ∀ u u', Grow u u' → P u → P u') (w : World) (hP : P w)
  (hf : ∀ i, i < n → ∀ W, P W → Calls Tryz.prog k (#[.int .i64 (i : Nat)] ++ caps) W fun e w' => e = .returned (.bool (t i)) ∧ Grow W w') :
  Calls Tryz.prog 58 #[.int .i64 n, .func (.func k) #[] caps] w fun e w' => e = .returned (.int .i64 (cnt t n : Nat)) ∧ Grow w w' := by
 have Hf := Lib.hid hf
 have HP := Lib.hid hP
 clear hf hP
 go_enter Tryz.func58, Tryz.ntmps58
 go_wp2_with fail
 go_loopw [5, 8] (fun s i wr => ∃ j : Nat, j ≤ n ∧ i = .int .i64 j ∧ s = .int .i64 (cnt t j : Nat) ∧ Grow w wr) (fun _ i _ => n - (intOf i).toNat)
 case atStart => exact ⟨0, Nat.zero_le _, rfl, rfl, Grow.refl _⟩
 case round =>
  obtain ⟨j, hj, rfl, rfl, hG⟩ := hrel
  have hcl := cnt_le t j
  rcases Nat.lt_or_ge j n with hlt | hge
  ·have hc := Hf.out j hlt wr (hPm _ _ hG HP.out)
   have hsu : cnt t (j + 1) = cnt t j + (if t j then 1 else 0) := rfl
   have Hsu := Lib.hid hsu
   obtain ⟨s, hs⟩ : ∃ s, s = cnt t j := ⟨_, rfl⟩
   rw [← hs]
   rw [← hs] at hcl
   have Hs := Lib.hid hs
   obtain ⟨tj, htj⟩ : ∃ b, b = t j := ⟨_, rfl⟩
   rw [← htj] at hc
   have Htj := Lib.hid htj
   have Hc := Lib.hid hc
   clear hsu hs htj hc
   cases tj
   all_goals
    go_wp2_with (((with_reducible refine (Hc.out).mono ?_); rintro e w1 ⟨rfl, hg⟩))
    go_roundw
    case rel => exact ⟨j + 1, by omega, by go_num, by rw [Hsu.out, ← Htj.out, ← Hs.out]; rfl, hG.trans hg⟩
    case measure => simp [intOf]; omega
  ·obtain rfl : j = n := by omega
   go_wp2_with fail
   go_ret
   exact ⟨rfl, hG⟩
theorem cf_Right (args : Array Value) (W : World) : Sem.run Tryz.prog (callFunc 59 args) W = .ok (.enter 59 args) W := by kernel_rfl
/-- what the closure of Right reads -/
def TwoLi (b2 b3 : Nat) (A B : Option Addr) (m c d : Nat) (l l' : List Int) (W : World) : Prop :=
 Blk W b2 22 #[.slice A m c] ∧ Blk W b3 22 #[.slice B m d] ∧ Li W A l ∧ Li W B l'
theorem TwoLi.mk {b2 b3 : Nat} {A B : Option Addr} {m c d : Nat} {l l' : List Int} {u : World} (h1 : Blk u b2 22 #[.slice A m c]) (h2 : Blk u b3 22 #[.slice B m d]) (h3 : Li u A l) (h4 : Li u B l') : TwoLi b2 b3 A B m c d l l' u := ⟨h1, h2, h3, h4⟩
theorem TwoLi.grow {b2 b3 : Nat} {A B : Option Addr} {m c d : Nat} {l l' : List Int} {u u' : World} (hg : Grow u u') (h : TwoLi b2 b3 A B m c d l l' u) : TwoLi b2 b3 A B m c d l l' u' := ⟨h.1.grow hg, h.2.1.grow hg, h.2.2.1.grow hg, h.2.2.2.grow hg⟩
set_option maxHeartbeats 400000 in
set_option maxRecDepth 100000 in
theorem score_Right_c1 (b2 b3 : Nat) (A B : Option Addr) (m c d : Nat) (l l' : List Int) (hl : l.length = m) (hl' : l'.length = m) (i : Nat) (hi : i < m) (w : World) (h : TwoLi b2 b3 A B m c d l l' w) :
  Calls Tryz.prog 59 #[.int .i64 (i : Nat), .pointer (some ⟨b2, 0, none⟩), .pointer (some ⟨b3, 0, none⟩)] w fun e w' => e = .returned (.bool (gi l i == gi l' i)) ∧ Grow w w' := by
 obtain ⟨h1, h2, h3, h4⟩ := h
 have hc1 := h1.cell 0
 have hc2 := h2.cell 0
 obtain ⟨b4, o4, rfl, hc3⟩ := h3.cell (i := i) (by omega)
 obtain ⟨b5, o5, rfl, hc4⟩ := h4.cell (i := i) (by omega)
 simp only [List.getElem?_toArray, List.getElem?_cons_zero] at hc1 hc2
 clear h1 h2 h3 h4 hl hl'
 go_enter Tryz.func59, Tryz.ntmps59
 go_wp2_with fail
 go_quiet (fail)
 go_wp2_with fail
 go_ret
 exact ⟨rfl, grow_drewN _ _⟩
def hits (l l' : List Int) (m : Nat) : Nat := cnt (fun i => gi l i == gi l' i) m
theorem hits_le (l l' : List Int) (m : Nat) : hits l l' m ≤ m := cnt_le _ _
theorem score_count_R (b2 b3 : Nat) (A B : Option Addr) (m c d : Nat) (l l' : List Int) (hl : l.length = m) (hl' : l'.length = m) (hm : m ≤ 1099511627776) (w : World) (h : TwoLi b2 b3 A B m c d l l' w) :
  Calls Tryz.prog 58 #[.int .i64 m, .func (.func 59) #[] #[.pointer (some ⟨b2, 0, none⟩), .pointer (some ⟨b3, 0, none⟩)]] w fun e w' => e = .returned (.int .i64 (hits l l' m : Nat)) ∧ Grow w w' :=
 score_count m hm 59 cf_Right _ (fun i => gi l i == gi l' i) (TwoLi b2 b3 A B m c d l l') (fun _ _ hg h => h.grow hg) w h (fun i hi W h => score_Right_c1 b2 b3 A B m c d l l' hl hl' i hi W h)
set_option maxHeartbeats 1000000 in
set_option maxRecDepth 100000 in
theorem score_Right_ok (A B : Option Addr) (m c d : Nat) (l l' : List Int) (hl : l.length = m) (hl' : l'.length = m) (hm0 : 0 < m) (hm : m ≤ 1099511627776) (w : World) (h1 : Li w A l) (h2 : Li w B l') (HT : Tab w) :
  Calls Tryz.prog 12 #[.slice A m c, .slice B m d] w fun e w' => e = .returned (.tuple #[qV (qover (hits l l' m : Nat) (m : Nat)), .int .i64 0]) ∧ Grow w w' := by
 have hp : ∀ W, Calls Tryz.prog 57 #[.slice A m c, .slice B m d] W fun e w' => e = .returned (.bool true) ∧ Grow W w' := fun W => by
  have := score_paired_ii A B m m c d W
  rw [show pairedB m m = true by unfold pairedB; simp [hm0]] at this
  exact this
 have hcnt : ∀ b2 b3 W, TwoLi b2 b3 A B m c d l l' W → Calls Tryz.prog 58 #[.int .i64 m, .func (.func 59) #[] #[.pointer (some ⟨b2, 0, none⟩), .pointer (some ⟨b3, 0, none⟩)]] W fun e w' => e = .returned (.int .i64 (hits l l' m : Nat)) ∧ Grow W w' := fun b2 b3 W h => score_count_R b2 b3 A B m c d l l' hl hl' hm W h
 have hh := hits_le l l' m
 obtain ⟨s, hs⟩ : ∃ s, s = hits l l' m := ⟨_, rfl⟩
 rw [← hs] at hcnt hh
 rw [← hs]
 have Hp := Lib.hid hp
 have Hcnt := Lib.hid hcnt
 have H1 := Lib.hid h1
 have H2 := Lib.hid h2
 clear hp hcnt h1 h2 hl hl' hs
 go_enter Tryz.func12, Tryz.ntmps12
 refine en3 ?_
 intro u hG b4 b3 b2 hB hF
 refine wp_seq ?_
 refine wp_seq (rsE allocs [0, 0, 1, 0] hB hG fun L hL => ?_)
 refine gs ?_
 refine gmw (C := fun v => Hp.out _) ?_
 refine gs ?_
 refine geT hL ?_
 clear hB hG hL L
 rintro u ⟨-, hB, hG, -⟩
 refine wp_cond_false (rfl) ?_
 refine wp_skip ?_
 refine then_norm ?_
 refine wp_seq (rsE allocs [0, 0, 0, 1, 0] hB hG fun L hL => ?_)
 refine gs ?_
 refine gmd (C := fun v ⟨hgu, hB, hG, _⟩ => Hcnt.out b2 b3 _ (TwoLi.mk hB.head hB.tail.head (H1.out.grow hG) (H2.out.grow hG))) ?_
 refine gs ?_
 refine geT hL ?_
 clear hB hG hL L
 rintro u ⟨-, hB, hG, -⟩
 refine wp_seq (rsC allocs [0, 0, 0, 1] hB hG fun K L hN hL => ?_)
 refine gs ?_
 refine gmd (C := fun v ⟨hgu, hB, hG, _⟩ => score_ratio _ _ (by omega) (by omega) (by omega) (by omega) _ (HT.grow hG)) ?_
 refine geC hL ?_
 clear hB hG hL L
 rintro u ⟨-, hB, hG, -⟩
 refine gtT ?_
 clear hN K
 refine st hB hF hG 2 0 [_, _, _, _, _] ?_
 clear hB hG
 intro u hB hG
 refine rt Tryz.results12 ?_
 exact ⟨rfl, hG⟩
theorem ret_qe {p q : Rat} {k : Int} (h : p = q) : Ending.returned (.tuple #[qV p, .int .i64 k]) = .returned (.tuple #[qV q, .int .i64 k]) := by rw [h]
theorem li_new (w : World) (l : List Int) : Li (w.alloc (.cells (l.map fun x => Value.int .i64 x).toArray 3)) (some ⟨w.heap.size, 0, none⟩) l := fun _ =>
 ⟨w.heap.size, 0, rfl, by rw [alloc_size]; omega, fun i x hi => by
  rw [Nat.zero_add, Blk.cell (Blk.new w 3 _) i]
  simp [hi]⟩
theorem q23 : qs (qover 2 3) ≤ LIM := by decide
set_option maxHeartbeats 1000000 in
set_option maxRecDepth 100000 in
theorem law9_known (w : World) (HT : Tab w) : Calls Tryz.prog 16 #[] w fun e w' => e = .returned (.bool true) ∧ Grow w w' := by
 have hR : Calls Tryz.prog 12 #[.slice (some ⟨w.heap.size, 0, none⟩) 3 3, .slice (some ⟨w.heap.size + 1, 0, none⟩) 3 3] ((w.alloc (.cells #[.int .i64 0, .int .i64 1, .int .i64 1] 3)).alloc (.cells #[.int .i64 0, .int .i64 1, .int .i64 0] 3)) fun e w' => e = .returned (.tuple #[qV (qover 2 3), .int .i64 0]) ∧ Grow w w' := by
  have h1 := (li_new w [0, 1, 1]).grow (Grow.alloc _ (.cells #[.int .i64 0, .int .i64 1, .int .i64 0] 3))
  have h2 := li_new (w.alloc (.cells #[.int .i64 0, .int .i64 1, .int .i64 1] 3)) [0, 1, 0]
  rw [alloc_size] at h2
  refine (score_Right_ok _ _ 3 3 3 [0, 1, 1] [0, 1, 0] rfl rfl (by omega) (by omega) _ h1 h2 (HT.grow ((Grow.alloc _ _).trans (Grow.alloc _ _)))).mono fun e w' ⟨he, hg⟩ => ⟨he, ?_⟩
  exact (Grow.alloc _ _).trans ((Grow.alloc _ _).trans hg)
 have hI : ∀ W, Calls Tryz.prog 26 #[qV (qover 2 3), .int .i64 2, .int .i64 3] W fun e w' => e = .returned (.bool true) ∧ Grow W w' := fun W => hand_Is 2 3 (by omega) (by omega) (by omega) (by omega) (by omega) q23 W
 have HR := Lib.hid hR
 have HI := Lib.hid hI
 clear hR hI
 go_enter Tryz.func16, Tryz.ntmps16
 go_wp2_with (first
  | (go_at_call 12; ((with_reducible refine (HR.out).mono ?_); rintro e w1 ⟨rfl, hg1⟩))
  | (go_at_call 26; ((with_reducible refine (HI.out _).mono ?_); rintro e w2 ⟨rfl, hg2⟩)))
 go_ret
 exact ⟨rfl, hg1.trans ((Grow.alloc _ _).trans hg2)⟩
end Go.Proofs.YtimjnkfcnpfoeaaGreatDoor
