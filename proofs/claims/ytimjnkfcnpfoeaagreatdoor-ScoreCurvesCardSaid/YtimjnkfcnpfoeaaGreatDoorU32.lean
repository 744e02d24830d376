/-
  Contracts and laws: RefM RefE RefN.
-/
import Derived.Test.YtimjnkfcnpfoeaaGreatDoorU31
set_option linter.unusedSimpArgs false
set_option linter.unusedVariables false
namespace Go.Proofs.YtimjnkfcnpfoeaaGreatDoor
open Go.RowKit
theorem ref1_NatDiv (x y : Ax) (a b : Nat) (w : World) (hx : Rn w x a) (hy : Rn w y b) (h0 : b ≠ 0) (ha : bl a ≤ BIG) : Calls Tryz.prog 132 #[nvV x a, nvV y b] w (Ret (nnR (a / b) (a % b)) w) := by
 by_cases hs : b < W32
 ·exact ref1_NatDiv_small x y a b w hx hy h0 hs
 ·by_cases hlt : a < b
  ·exact ref1_NatDiv_less x y a b w hx hy hlt
  ·refine ref1_NatDiv_long x y a b w hx hy (by omega) ?_ ha
   have h1 := ln_mono (Nat.not_lt.1 hs)
   have h2 : ln W32 = 2 := by decide +kernel
   omega
set_option maxHeartbeats 1000000 in
set_option maxRecDepth 100000 in
theorem ref1_NatGcd (x y : Ax) (a b : Nat) (w : World) (hx : Rn w x a) (hy : Rn w y b) (ha : bl a ≤ BIG) (hb : bl b ≤ BIG) : Calls Tryz.prog 131 #[nvV x a, nvV y b] w (Ret (natR (Nat.gcd a b)) w) := by
 have Hx := Lib.hid hx
 have Hy := Lib.hid hy
 have Ha := Lib.hid ha
 have Hb := Lib.hid hb
 obtain ⟨g, hg⟩ : ∃ g, g = Nat.gcd a b := ⟨_, rfl⟩
 rw [← hg]
 have Hg := Lib.hid hg.symm
 clear hx hy ha hb hg
 go_enter Tryz.func131, Tryz.ntmps131
 go_wp2_with fail
 go_loopg [0, 1] b (fun k s t wr => ∃ (x y : Ax) (a : Nat), s = nvV x a ∧ t = nvV y k ∧ Nat.gcd a k = g ∧ (bl a ≤ BIG ∧ bl k ≤ BIG) ∧ Rn wr x a ∧ Rn wr y k ∧ Grow w wr)
 case atStart => exact ⟨x, y, a, rfl, rfl, Hg.out, ⟨Ha.out, Hb.out⟩, Hx.out, Hy.out, Grow.refl _⟩
 case round =>
  obtain ⟨x, y, a, rfl, rfl, hgc, hs, hx, hy, hG⟩ := hrel
  rcases Nat.eq_zero_or_pos gk with h0 | h0
  ·have hl : ¬ 0 < ln gk := by rw [h0, ln_zero]; omega
   have Hgc : Hid (a = g) := by rw [h0, Nat.gcd_zero_right] at hgc; exact Lib.hid hgc
   have Hr := Lib.hid hx
   clear hgc hs hx hy h0
   go_wp2_with fail
   go_ret
   exact ⟨x, by rw [← Hgc.out]; rfl, by rw [← Hgc.out]; exact Hr.out, hG⟩
  ·have hl : 0 < ln gk := ln_pos.2 (by omega)
   have hdv := ref1_NatDiv x y a gk wr hx hy (by omega) hs.1
   obtain ⟨q, hq⟩ : ∃ q, q = a / gk := ⟨_, rfl⟩
   obtain ⟨m, hm⟩ : ∃ m, m = a % gk := ⟨_, rfl⟩
   have hmlt : m < gk := by rw [hm]; exact Nat.mod_lt _ h0
   have Hgc : Hid (Nat.gcd gk m = g) := by rw [hm]; exact Lib.hid (gcd_step a gk g hgc)
   rw [← hq, ← hm] at hdv
   have Hdv := Lib.hid (Ret.nn hdv)
   have Hy := Lib.hid hy
   have Hs : Hid (bl gk ≤ BIG ∧ bl m ≤ BIG) := Lib.hid ⟨hs.2, Nat.le_trans (bl_mono (Nat.le_of_lt hmlt)) hs.2⟩
   clear hgc hs hx hy hq hm hdv
   go_wp2_with (go_at_call 132; ((with_reducible refine (Hdv.out).mono ?_); rintro e w1 ⟨y1, y2, rfl, hr1, hr2, hg1⟩))
   go_roundg m
   case rel => exact ⟨y, y2, gk, rfl, rfl, Hgc.out, Hs.out, Hy.out.grow hg1, hr2, hG.trans hg1⟩
   case measure => exact hmlt
end Go.Proofs.YtimjnkfcnpfoeaaGreatDoor
namespace Go.Proofs.YtimjnkfcnpfoeaaGreatDoor
open Go.RowKit
theorem newObj_RInt (d : Option Tmp) (ty : TypeId) (pos : String) (af : Array Edge) (gd : Option (Nat × Bool)) : newObj Tryz.prog ⟨d, .alloc 39, ty, pos, af, gd⟩ = .cells #[.bool false, .slice none 0 0] 39 := by kernel_rfl
theorem newObj_RQ (d : Option Tmp) (ty : TypeId) (pos : String) (af : Array Edge) (gd : Option (Nat × Bool)) : newObj Tryz.prog ⟨d, .alloc 41, ty, pos, af, gd⟩ = .cells #[.bool false, .slice none 0 0, .slice none 0 0] 41 := by kernel_rfl
theorem riV_sgn (x : Ax) (neg : Bool) (a : Nat) : riV x (sgn neg a) = .agg #[.bool (neg && decide (a ≠ 0)), .slice x.1 (ln a) x.2] := by
 unfold riV; rw [intNeg_sgn, sgn_abs]
set_option maxHeartbeats 400000 in
set_option maxRecDepth 100000 in
theorem ref1_I_no (x : Ax) (a : Nat) (w : World) : Calls Tryz.prog 133 #[.bool false, nvV x a] w fun e w' => e = .returned (riV x (sgn false a)) ∧ Grow w w' := by
 rw [riV_sgn, Bool.false_and]
 go_enter Tryz.func133, Tryz.ntmps133
 refine en1 ?_
 intro u hG b4 hB hF
 refine r0T ?_
 refine st hB hF hG 0 0 [_, _] ?_
 clear hB hG
 intro u hB hG
 refine rt Tryz.results133 ?_
 exact ⟨rfl, hG⟩
set_option maxHeartbeats 400000 in
set_option maxRecDepth 100000 in
theorem ref1_I_yes (x : Ax) (a : Nat) (w : World) : Calls Tryz.prog 133 #[.bool true, nvV x a] w fun e w' => e = .returned (riV x (sgn true a)) ∧ Grow w w' := by
 rw [riV_sgn, Bool.true_and]
 have hd : decide (a ≠ 0) = decide (0 < ln a) := by
  have := @ln_pos a
  rw [decide_eq_decide]; exact this.symm
 rw [hd]
 clear hd
 go_enter Tryz.func133, Tryz.ntmps133
 refine en1 ?_
 intro u hG b4 hB hF
 refine r0T ?_
 refine st hB hF hG 0 0 [_, _] ?_
 clear hB hG
 intro u hB hG
 refine rt Tryz.results133 ?_
 exact ⟨rfl, hG⟩
--! ref1_I = ref1_I _ _ _ _
theorem ref1_I (x : Ax) (neg : Bool) (a : Nat) (w : World) : Calls Tryz.prog 133 #[.bool neg, nvV x a] w fun e w' => e = .returned (riV x (sgn neg a)) ∧ Grow w w' := by
 cases neg
 ·exact ref1_I_no x a w
 ·exact ref1_I_yes x a w
set_option maxHeartbeats 400000 in
set_option maxRecDepth 100000 in
theorem ref1_IntOf_neg (n : Int) (h0 : n < 0) (h1 : -9223372036854775808 ≤ n) (w : World) : Calls Tryz.prog 83 #[.int .i64 n] w (Ret (intR n) w) := by
 have hw1 : IntKind.u64.wrap n = n + 18446744073709551616 := by
  simp [IntKind.wrap, IntKind.signed, IntKind.bits]; omega
 have hw2 : IntKind.u64.wrap (-(n + 18446744073709551616)) = (n.natAbs : Nat) := by
  simp [IntKind.wrap, IntKind.signed, IntKind.bits]; omega
 have hlt : n.natAbs < W64 := by unfold W64; omega
 have hd : decide (n < 0) = true := by simpa using h0
 have hn : sgn true n.natAbs = n := by rw [sgn_true]; omega
 have Hn := Lib.hid hn
 clear hn
 go_enter Tryz.func83, Tryz.ntmps83
 refine en1 ?_
 intro u hG b2 hB hF
 refine wp_seq ?_
 refine r0T ?_
 refine wp_cond_true (rfl) ?_
 refine wp_seq (rsC allocs [0, 0, 0, 1, 1] hB hG fun K L hN hL => ?_)
 refine gs ?_
 refine grd (natR n.natAbs) (fun (x8 : Ax) => ?_) (C := fun v _ => ref1_NatOf n.natAbs hlt _)
 refine gmd (C := by (rintro v ⟨⟨hgu, hB, hG, -⟩, hx8⟩; have hx8 : Rn v x8 _ := hx8; exact ref1_I x8 true n.natAbs _)) ?_
 refine geC hL ?_
 clear hB hG hL L
 rintro u ⟨⟨-, hB, hG, -⟩, hx8⟩
 replace hx8 : Rn u x8 _ := hx8
 refine gtT ?_
 clear hN K
 refine sv hB hF hG 0 0 [_, _] ?_
 intro u hu hBG
 replace hx8 := hx8.put hB 0 rfl (by first | decide | simp) _ _ hu
 clear hB hG hu
 obtain ⟨hB, hG⟩ := hBG
 refine rt Tryz.results83 ?_
 exact ⟨x8, congrArg (fun z : Int => Ending.returned (riV x8 z)) Hn.out, hx8, hG⟩
set_option maxHeartbeats 400000 in
set_option maxRecDepth 100000 in
theorem ref1_IntOf_pos (n : Int) (h0 : 0 ≤ n) (h1 : n ≤ 9223372036854775807) (w : World) : Calls Tryz.prog 83 #[.int .i64 n] w (Ret (intR n) w) := by
 have hw1 : IntKind.u64.wrap n = (n.natAbs : Nat) := by
  simp [IntKind.wrap, IntKind.signed, IntKind.bits]; omega
 have hlt : n.natAbs < W64 := by unfold W64; omega
 have hd : decide (n < 0) = false := by simpa using h0
 have hn : sgn false n.natAbs = n := by rw [sgn_false]; omega
 have Hn := Lib.hid hn
 clear hn
 go_enter Tryz.func83, Tryz.ntmps83
 refine en1 ?_
 intro u hG b2 hB hF
 refine wp_seq ?_
 refine r0T ?_
 refine wp_cond_false (rfl) ?_
 refine wp_skip ?_
 refine then_norm ?_
 refine wp_seq (rsC allocs [0, 0, 1, 1] hB hG fun K L hN hL => ?_)
 refine gs ?_
 refine grd (natR n.natAbs) (fun (x12 : Ax) => ?_) (C := fun v _ => ref1_NatOf n.natAbs hlt _)
 refine gmd (C := by (rintro v ⟨⟨hgu, hB, hG, -⟩, hx12⟩; have hx12 : Rn v x12 _ := hx12; exact ref1_I x12 false n.natAbs _)) ?_
 refine geC hL ?_
 clear hB hG hL L
 rintro u ⟨⟨-, hB, hG, -⟩, hx12⟩
 replace hx12 : Rn u x12 _ := hx12
 refine gtT ?_
 clear hN K
 refine sv hB hF hG 0 0 [_, _] ?_
 intro u hu hBG
 replace hx12 := hx12.put hB 0 rfl (by first | decide | simp) _ _ hu
 clear hB hG hu
 obtain ⟨hB, hG⟩ := hBG
 refine rt Tryz.results83 ?_
 exact ⟨x12, congrArg (fun z : Int => Ending.returned (riV x12 z)) Hn.out, hx12, hG⟩
theorem ref1_IntOf (n : Int) (h0 : -9223372036854775808 ≤ n) (h1 : n ≤ 9223372036854775807) (w : World) : Calls Tryz.prog 83 #[.int .i64 n] w (Ret (intR n) w) := by
 by_cases h : n < 0
 ·exact ref1_IntOf_neg n h h0 w
 ·exact ref1_IntOf_pos n (by omega) h1 w
theorem ret_rq {x y : Ax} {z : Int} {d : Nat} {q : Rat} (h1 : q.num = z) (h2 : q.den = d) : Ending.returned (.agg #[.bool (intNeg z), .slice x.1 (ln z.natAbs) x.2, .slice y.1 (ln d) y.2]) = .returned (rqV x y q) := by subst h1; subst h2; rfl
theorem over_num (n d : Int) (h : d ≠ 0) : (qover n d).num = sgn (intNeg n != intNeg d) (n.natAbs / Nat.gcd n.natAbs d.natAbs) := by
 have hd : d.natAbs ≠ 0 := by omega
 by_cases hn : d < 0
 ·rw [over_neg n d hn, num_low _ _ hd, ← sgn_div]
  have e1 : (zneg n).natAbs = n.natAbs := by unfold zneg; exact Int.natAbs_neg n
  rw [e1]
  have e2 : intNeg d = true := decide_eq_true hn
  rw [e2]
  by_cases h0 : n = 0
  ·subst h0; simp [sgn]
  ·congr 1
   unfold intNeg zneg
   rw [Bool.eq_iff_iff]
   simp
   omega
 ·rw [over_pos n d hn, num_low _ _ hd, ← sgn_div]
  have e2 : intNeg d = false := decide_eq_false hn
  rw [e2]
  simp
theorem over_den (n d : Int) (h : d ≠ 0) : (qover n d).den = d.natAbs / Nat.gcd n.natAbs d.natAbs := by
 have hd : d.natAbs ≠ 0 := by omega
 by_cases hn : d < 0
 ·rw [over_neg n d hn, den_low _ _ hd]
  unfold zneg; rw [Int.natAbs_neg]
 ·rw [over_pos n d hn, den_low _ _ hd]
set_option maxHeartbeats 1000000 in
set_option maxRecDepth 100000 in
theorem ref1_Make (x y : Ax) (n d : Int) (w : World) (hx : Rn w x n.natAbs) (hy : Rn w y d.natAbs) (h0 : d ≠ 0) (hn : bl n.natAbs ≤ BIG) (hd : bl d.natAbs ≤ BIG) : Calls Tryz.prog 80 #[riV x n, riV y d] w (Ret (ratR (qover n d)) w) := by
 have He := Lib.hid (And.intro (over_num n d h0) (over_den n d h0))
 have hd0 : d.natAbs ≠ 0 := by omega
 have g0 : Nat.gcd n.natAbs d.natAbs ≠ 0 := fun e => hd0 (Nat.eq_zero_of_gcd_eq_zero_right e)
 go_enter Tryz.func80, Tryz.ntmps80
 refine en3 ?_
 intro u hG b4 b3 b2 hB hF
 replace hx := hx.grow hG
 replace hy := hy.grow hG
 refine wp_seq (rsE allocs [0, 0, 0, 0, 1, 0] hB hG fun L hL => ?_)
 refine gs ?_
 refine grd (natR (Nat.gcd n.natAbs d.natAbs)) (fun (x14 : Ax) => ?_) (C := by (rintro v ⟨hgu, hB, hG, -⟩; exact ref1_NatGcd x y n.natAbs d.natAbs _ (hx.grow hgu) (hy.grow hgu) hn hd))
 refine gs ?_
 refine geT hL ?_
 clear hB hG hL L
 rintro u ⟨⟨hgu, hB, hG, -⟩, hx14⟩
 replace hx := hx.grow hgu
 replace hy := hy.grow hgu
 replace hx14 : Rn u x14 _ := hx14
 clear hgu
 refine wp_seq (rsE allocs [0, 0, 0, 1, 0, 0, 0, 0, 0] hB hG fun L hL => ?_)
 refine gs ?_
 refine grd (nnR (n.natAbs / Nat.gcd n.natAbs d.natAbs) (n.natAbs % Nat.gcd n.natAbs d.natAbs)) (fun (x19 : Ax × Ax) => ?_) (C := by (rintro v ⟨hgu, hB, hG, -⟩; exact ref1_NatDiv x x14 n.natAbs _ _ (hx.grow hgu) (hx14.grow hgu) g0 hn))
 refine gs ?_
 refine geT hL ?_
 clear hB hG hL L
 rintro u ⟨⟨hgu, hB, hG, -⟩, hx19⟩
 replace hx := hx.grow hgu
 replace hy := hy.grow hgu
 replace hx14 := hx14.grow hgu
 obtain ⟨hx19a, hx19b⟩ : Rn u x19.1 _ ∧ Rn u x19.2 _ := hx19
 clear hgu
 refine wp_seq (rsE allocs [0, 0, 0, 1, 0, 0, 0, 0, 0] hB hG fun L hL => ?_)
 refine gs ?_
 refine grd (nnR (d.natAbs / Nat.gcd n.natAbs d.natAbs) (d.natAbs % Nat.gcd n.natAbs d.natAbs)) (fun (x26 : Ax × Ax) => ?_) (C := by (rintro v ⟨hgu, hB, hG, -⟩; exact ref1_NatDiv y x14 d.natAbs _ _ (hy.grow hgu) (hx14.grow hgu) g0 hd))
 refine gs ?_
 refine geT hL ?_
 clear hB hG hL L
 rintro u ⟨⟨hgu, hB, hG, -⟩, hx26⟩
 replace hx := hx.grow hgu
 replace hy := hy.grow hgu
 replace hx14 := hx14.grow hgu
 replace hx19a := hx19a.grow hgu
 replace hx19b := hx19b.grow hgu
 obtain ⟨hx26a, hx26b⟩ : Rn u x26.1 _ ∧ Rn u x26.2 _ := hx26
 clear hgu
 refine wp_seq (rsC allocs [0, 0, 0, 0, 0, 0, 1, 0, 0] hB hG fun K L hN hL => ?_)
 refine gs ?_
 refine gmw (C := fun v => ref1_I x19.1 _ (n.natAbs / Nat.gcd n.natAbs d.natAbs) _) ?_
 refine gs ?_
 refine geC hL ?_
 clear hB hG hL L
 rintro u ⟨hgu, hB, hG, -⟩
 replace hx := hx.grow hgu
 replace hy := hy.grow hgu
 replace hx14 := hx14.grow hgu
 replace hx19a := hx19a.grow hgu
 replace hx19b := hx19b.grow hgu
 replace hx26a := hx26a.grow hgu
 replace hx26b := hx26b.grow hgu
 clear hgu
 refine gtT ?_
 clear hN K
 refine sv hB hF hG 2 0 [_, _, _] ?_
 intro u hu hBG
 replace hx := hx.put hB 2 rfl (by first | decide | simp) _ _ hu
 replace hy := hy.put hB 2 rfl (by first | decide | simp) _ _ hu
 replace hx14 := hx14.put hB 2 rfl (by first | decide | simp) _ _ hu
 replace hx19a := hx19a.put hB 2 rfl (by first | decide | simp) _ _ hu
 replace hx19b := hx19b.put hB 2 rfl (by first | decide | simp) _ _ hu
 replace hx26a := hx26a.put hB 2 rfl (by first | decide | simp) _ _ hu
 replace hx26b := hx26b.put hB 2 rfl (by first | decide | simp) _ _ hu
 clear hB hG hu
 obtain ⟨hB, hG⟩ := hBG
 refine rt Tryz.results80 ?_
 exact ⟨(x19.1, x26.1), ret_rq He.out.1 He.out.2, ⟨by rw [He.out.1, sgn_abs]; exact hx19a, by rw [He.out.2]; exact hx26a⟩, hG⟩
set_option maxHeartbeats 1000000 in
set_option maxRecDepth 100000 in
theorem ref1_Over (n d : Int) (h0 : -9223372036854775808 ≤ n) (h1 : n ≤ 9223372036854775807) (h2 : -9223372036854775808 ≤ d) (h3 : d ≤ 9223372036854775807) (hd : d ≠ 0) (w : World) : Calls Tryz.prog 79 #[.int .i64 n, .int .i64 d] w (Ret (ratR (qover n d)) w) := by
 go_enter Tryz.func79, Tryz.ntmps79
 refine en1 ?_
 intro u hG b4 hB hF
 refine wp_seq (rsC allocs [0, 1, 0, 1, 1] hB hG fun K L hN hL => ?_)
 refine gs ?_
 refine grd (intR n) (fun (x6 : Ax) => ?_) (C := fun v _ => ref1_IntOf n h0 h1 _)
 refine gs ?_
 refine grd (intR d) (fun (x8 : Ax) => ?_) (C := by (rintro v ⟨⟨hgu, hB, hG, -⟩, hx6⟩; have hx6 : Rn v x6 _ := hx6; exact ref1_IntOf d h2 h3 _))
 refine grd (ratR (qover n d)) (fun (x9 : Ax × Ax) => ?_) (C := by (rintro v ⟨⟨⟨hgu, hB, hG, -⟩, hx6⟩, hx8⟩; have hx6 : Rn v x6 _ := hx6; have hx8 : Rn v x8 _ := hx8; exact ref1_Make x6 x8 n d _ hx6 hx8 hd (bl_i64 h0 h1) (bl_i64 h2 h3)))
 refine geC hL ?_
 clear hB hG hL L
 rintro u ⟨⟨⟨⟨-, hB, hG, -⟩, hx6⟩, hx8⟩, hx9⟩
 replace hx6 : Rn u x6 _ := hx6
 replace hx8 : Rn u x8 _ := hx8
 obtain ⟨hx9a, hx9b⟩ : Rn u x9.1 _ ∧ Rn u x9.2 _ := hx9
 refine gtT ?_
 clear hN K
 refine sv hB hF hG 0 0 [_, _, _] ?_
 intro u hu hBG
 replace hx6 := hx6.put hB 0 rfl (by first | decide | simp) _ _ hu
 replace hx8 := hx8.put hB 0 rfl (by first | decide | simp) _ _ hu
 replace hx9a := hx9a.put hB 0 rfl (by first | decide | simp) _ _ hu
 replace hx9b := hx9b.put hB 0 rfl (by first | decide | simp) _ _ hu
 clear hB hG hu
 obtain ⟨hB, hG⟩ := hBG
 refine rt Tryz.results79 ?_
 exact ⟨x9, rfl, ⟨hx9a, hx9b⟩, hG⟩
theorem ref1_NatOf_1 (w : World) : Calls Tryz.prog 84 #[.int .u64 1] w (Ret (natR 1) w) := ref1_NatOf 1 (by unfold W64; omega) w
set_option maxHeartbeats 1000000 in
set_option maxRecDepth 100000 in
theorem ref1_Of (n : Int) (h0 : -9223372036854775808 ≤ n) (h1 : n ≤ 9223372036854775807) (w : World) : Calls Tryz.prog 31 #[.int .i64 n] w (Ret (ratR (qint n)) w) := by
 go_enter Tryz.func31, Tryz.ntmps31
 refine en1 ?_
 intro u hG b2 hB hF
 refine wp_seq (rsC allocs [0, 1, 1, 0] hB hG fun K L hN hL => ?_)
 refine gs ?_
 refine grd (intR n) (fun (x4 : Ax) => ?_) (C := fun v _ => ref1_IntOf n h0 h1 _)
 refine grd (natR 1) (fun (x5 : Ax) => ?_) (C := by (rintro v ⟨⟨hgu, hB, hG, -⟩, hx4⟩; have hx4 : Rn v x4 _ := hx4; exact ref1_NatOf_1 _))
 refine gs ?_
 refine geC hL ?_
 clear hB hG hL L
 rintro u ⟨⟨⟨-, hB, hG, -⟩, hx4⟩, hx5⟩
 replace hx4 : Rn u x4 _ := hx4
 replace hx5 : Rn u x5 _ := hx5
 refine gtT ?_
 clear hN K
 refine sv hB hF hG 0 0 [_, _, _] ?_
 intro u hu hBG
 replace hx4 := hx4.put hB 0 rfl (by first | decide | simp) _ _ hu
 replace hx5 := hx5.put hB 0 rfl (by first | decide | simp) _ _ hu
 clear hB hG hu
 obtain ⟨hB, hG⟩ := hBG
 refine rt Tryz.results31 ?_
 exact ⟨(x4, x5), ret_rq (qint_num n) (qint_den n), ⟨by rw [qint_num]; exact hx4, by rw [qint_den]; exact hx5⟩, hG⟩
end Go.Proofs.YtimjnkfcnpfoeaaGreatDoor
namespace Go.Proofs.YtimjnkfcnpfoeaaGreatDoor
open Go.RowKit
theorem ret_ri {x : Ax} {y z : Int} (h : y = z) : Ending.returned (riV x y) = .returned (riV x z) := by rw [h]
theorem rn_sgn {u : World} {x : Ax} {neg : Bool} {n : Nat} {z : Int} (h : sgn neg n = z) (hr : Rn u x n) : Rn u x z.natAbs := by rw [← h, sgn_abs]; exact hr
theorem ri_ret {w u : World} {x : Ax} {neg : Bool} {n : Nat} {z : Int} (h : sgn neg n = z) (hr : Rn u x n) (hG : Grow w u) : Ret (intR z) w (.returned (riV x (sgn neg n))) u := ⟨x, ret_ri h, rn_sgn h hr, hG⟩
theorem cmpN_ge {a b : Nat} (h : decide (0 ≤ cmpN a b) = true) : b ≤ a := by
 have h := of_decide_eq_true h
 unfold cmpN at h
 split at h
 ·omega
 ·omega
theorem cmpN_no {a b : Nat} (h : decide (0 ≤ cmpN a b) = false) : a < b := by
 have h := of_decide_eq_false h
 unfold cmpN at h
 split at h
 ·assumption
 ·split at h <;> omega
theorem bl_zmul (a b : Int) : bl (zmul a b).natAbs ≤ bl a.natAbs + bl b.natAbs := by unfold zmul; rw [Int.natAbs_mul]; exact bl_mul_le _ _
theorem bl_zadd (a b : Int) : bl (zadd a b).natAbs ≤ max (bl a.natAbs) (bl b.natAbs) + 1 := Nat.le_trans (bl_mono (Int.natAbs_add_le a b)) (bl_add_le _ _)
theorem rn_neg {u : World} {x : Ax} {z : Int} (h : Rn u x z.natAbs) : Rn u x (zneg z).natAbs := by unfold zneg; rw [Int.natAbs_neg]; exact h
--! ref1_den = ref1_den _ _ _ _
set_option maxHeartbeats 400000 in
set_option maxRecDepth 100000 in
theorem ref1_den (x y : Ax) (q : Rat) (w : World) : Calls Tryz.prog 82 #[rqV x y q] w fun e w' => e = .returned (riV y (sgn false q.den)) ∧ Grow w w' := by
 rw [riV_sgn, Bool.false_and]
 have hI := fun W => ref1_I y false q.den W
 simp only [riV_sgn, Bool.false_and] at hI
 go_enter Tryz.func82, Tryz.ntmps82
 refine en2 ?_
 intro u hG b2 b1 hB hF
 refine wp_seq (rsC allocs [0, 0, 1] hB hG fun K L hN hL => ?_)
 refine gs ?_
 refine gmw (C := fun v => hI _) ?_
 refine geC hL ?_
 clear hB hG hL L
 rintro u ⟨-, hB, hG, -⟩
 refine gtT ?_
 clear hN K
 refine st hB hF hG 1 0 [_, _] ?_
 clear hB hG
 intro u hB hG
 refine rt Tryz.results82 ?_
 exact ⟨rfl, hG⟩
--! ref1_IntNeg = ref1_IntNeg _ _ _
set_option maxHeartbeats 400000 in
set_option maxRecDepth 100000 in
theorem ref1_IntNeg (x : Ax) (z : Int) (w : World) : Calls Tryz.prog 175 #[riV x z] w fun e w' => e = .returned (riV x (zneg z)) ∧ Grow w w' := by
 go_enter Tryz.func175, Tryz.ntmps175
 refine en2 ?_
 intro u hG b2 b1 hB hF
 refine wp_seq (rsC allocs [0, 0, 0, 0, 0, 1] hB hG fun K L hN hL => ?_)
 refine gs ?_
 refine gmw (C := fun v => ref1_I x _ z.natAbs _) ?_
 refine geC hL ?_
 clear hB hG hL L
 rintro u ⟨-, hB, hG, -⟩
 refine gtT ?_
 clear hN K
 refine st hB hF hG 1 0 [_, _] ?_
 clear hB hG
 intro u hB hG
 refine rt Tryz.results175 ?_
 exact ⟨ret_ri (neg_sgn z), hG⟩
--! ref1_IntSign = ref1_IntSign _ _ _
set_option maxHeartbeats 400000 in
set_option maxRecDepth 100000 in
theorem ref1_IntSign (x : Ax) (z : Int) (w : World) : Calls Tryz.prog 138 #[riV x z] w fun e w' => e = .returned (.int .i64 z.sign) ∧ Grow w w' := by
 go_enter Tryz.func138, Tryz.ntmps138
 refine en1 ?_
 intro u hG b1 hB hF
 refine wp_seq ?_
 refine wp_block ?_
 refine r0T ?_
 refine wp_cond_split rfl ?_ ?_
 ·intro ht
  have ht3 := ht
  refine r0T ?_
  refine rt Tryz.results138 ?_
  have h2 : ln z.natAbs = 0 := by simpa using ht3
  have h3 : z = 0 := by have := @ln_eq_zero z.natAbs; omega
  exact ⟨ret_i64 (by rw [h3]; rfl), hG⟩
 ·intro ht
  have ht3 := ht
  refine r0T ?_
  refine wp_cond_split rfl ?_ ?_
  ·intro ht
   have ht8 := ht
   refine r0T ?_
   refine rt Tryz.results138 ?_
   have h : z < 0 := of_decide_eq_true ht8
   exact ⟨ret_i64 (Int.sign_eq_neg_one_of_neg h).symm, hG⟩
  ·intro ht
   have ht8 := ht
   refine wp_skip ?_
   refine blk_norm ?_
   refine then_norm ?_
   refine r0T ?_
   refine rt Tryz.results138 ?_
   have h : ¬ z < 0 := of_decide_eq_false ht8
   have h2 : ¬ ln z.natAbs = 0 := by simpa using ht3
   have h3 : z ≠ 0 := by have := @ln_eq_zero z.natAbs; omega
   exact ⟨ret_i64 (Int.sign_eq_one_of_pos (by omega)).symm, hG⟩
set_option maxHeartbeats 1000000 in
set_option maxRecDepth 100000 in
theorem ref1_IntMul (x y : Ax) (a b : Int) (w : World) (hx : Rn w x a.natAbs) (hy : Rn w y b.natAbs) (ha : bl a.natAbs ≤ 1099511627776) (hb : bl b.natAbs ≤ 1099511627776) : Calls Tryz.prog 81 #[riV x a, riV y b] w (Ret (intR (zmul a b)) w) := by
 go_enter Tryz.func81, Tryz.ntmps81
 refine en3 ?_
 intro u hG b4 b3 b2 hB hF
 replace hx := hx.grow hG
 replace hy := hy.grow hG
 refine wp_seq (rdC allocs [] [(0, 0), (0, 1), (0, 2), (0, 3), (0, 4), (0, 5), (0, 6), (0, 7), (0, 8), (1, 9), (1, 10)] hB hG fun K L hN hL => ?_)
 refine gs ?_
 refine grd (natR (a.natAbs * b.natAbs)) (fun (x14 : Ax) => ?_) (C := by (rintro v ⟨hgu, hB, hG, -⟩; exact ref1_NatMul x y a.natAbs b.natAbs _ (hx.grow hgu) (hy.grow hgu) ha hb))
 refine gmd (C := by (rintro v ⟨⟨hgu, hB, hG, -⟩, hx14⟩; have hx14 : Rn v x14 _ := hx14; exact ref1_I x14 _ (a.natAbs * b.natAbs) _)) ?_
 refine geC hL ?_
 clear hB hG hL L
 rintro u ⟨⟨hgu, hB, hG, -⟩, hx14⟩
 replace hx := hx.grow hgu
 replace hy := hy.grow hgu
 replace hx14 : Rn u x14 _ := hx14
 clear hgu
 refine gtT ?_
 clear hN K
 refine sv hB hF hG 2 0 [_, _] ?_
 intro u hu hBG
 replace hx := hx.put hB 2 rfl (by first | decide | simp) _ _ hu
 replace hy := hy.put hB 2 rfl (by first | decide | simp) _ _ hu
 replace hx14 := hx14.put hB 2 rfl (by first | decide | simp) _ _ hu
 clear hB hG hu
 obtain ⟨hB, hG⟩ := hBG
 refine rt Tryz.results81 ?_
 exact ri_ret (mul_sgn a b) hx14 hG
set_option maxHeartbeats 1000000 in
set_option maxRecDepth 100000 in
theorem ref1_IntAdd (x y : Ax) (a b : Int) (w : World) (hx : Rn w x a.natAbs) (hy : Rn w y b.natAbs) (ha : bl a.natAbs ≤ 1099511627776) (hb : bl b.natAbs ≤ 1099511627776) : Calls Tryz.prog 136 #[riV x a, riV y b] w (Ret (intR (zadd a b)) w) := by
 go_enter Tryz.func136, Tryz.ntmps136
 refine en3 ?_
 intro u hG b4 b3 b2 hB hF
 replace hx := hx.grow hG
 replace hy := hy.grow hG
 refine wp_seq ?_
 refine r0T ?_
 refine wp_cond_split rfl ?_ ?_
 ·intro ht
  have ht9 := ht
  refine wp_seq (rdC allocs [] [(0, 0), (0, 1), (0, 2), (0, 3), (0, 4), (0, 5), (1, 6), (1, 7)] hB hG fun K L hN hL => ?_)
  refine gs ?_
  refine grd (natR (a.natAbs + b.natAbs)) (fun (x16 : Ax) => ?_) (C := by (rintro v ⟨hgu, hB, hG, -⟩; exact ref1_NatAdd x y a.natAbs b.natAbs _ (hx.grow hgu) (hy.grow hgu) ha hb))
  refine gmd (C := by (rintro v ⟨⟨hgu, hB, hG, -⟩, hx16⟩; have hx16 : Rn v x16 _ := hx16; exact ref1_I x16 _ (a.natAbs + b.natAbs) _)) ?_
  refine geC hL ?_
  clear hB hG hL L
  rintro u ⟨⟨hgu, hB, hG, -⟩, hx16⟩
  replace hx := hx.grow hgu
  replace hy := hy.grow hgu
  replace hx16 : Rn u x16 _ := hx16
  clear hgu
  refine gtT ?_
  clear hN K
  refine sv hB hF hG 2 0 [_, _] ?_
  intro u hu hBG
  replace hx := hx.put hB 2 rfl (by first | decide | simp) _ _ hu
  replace hy := hy.put hB 2 rfl (by first | decide | simp) _ _ hu
  replace hx16 := hx16.put hB 2 rfl (by first | decide | simp) _ _ hu
  clear hB hG hu
  obtain ⟨hB, hG⟩ := hBG
  refine rt Tryz.results136 ?_
  exact ri_ret (add_same (by simpa using ht9)) hx16 hG
 ·intro ht
  have ht9 := ht
  refine wp_skip ?_
  refine then_norm ?_
  refine wp_seq ?_
  refine wp_seq (rsE allocs [0, 0, 0, 0, 1, 0] hB hG fun L hL => ?_)
  refine gs ?_
  refine gmd (C := fun v ⟨hgu, hB, hG, _⟩ => ref1_NatCmp x y a.natAbs b.natAbs _ (hx.grow hgu) (hy.grow hgu)) ?_
  refine gs ?_
  refine geT hL ?_
  clear hB hG hL L
  rintro u ⟨hgu, hB, hG, -⟩
  replace hx := hx.grow hgu
  replace hy := hy.grow hgu
  clear hgu
  refine wp_cond_split rfl ?_ ?_
  ·intro ht
   have ht23 := ht
   have hle := cmpN_ge ht
   refine wp_seq (rdC allocs [] [(0, 0), (0, 1), (0, 2), (0, 3), (0, 4), (0, 5), (1, 6), (1, 7)] hB hG fun K L hN hL => ?_)
   refine gs ?_
   refine grd (natR (a.natAbs - b.natAbs)) (fun (x30 : Ax) => ?_) (C := by (rintro v ⟨hgu, hB, hG, -⟩; exact ref1_NatSub x y a.natAbs b.natAbs _ (hx.grow hgu) (hy.grow hgu) hle ha))
   refine gmd (C := by (rintro v ⟨⟨hgu, hB, hG, -⟩, hx30⟩; have hx30 : Rn v x30 _ := hx30; exact ref1_I x30 _ (a.natAbs - b.natAbs) _)) ?_
   refine geC hL ?_
   clear hB hG hL L
   rintro u ⟨⟨hgu, hB, hG, -⟩, hx30⟩
   replace hx := hx.grow hgu
   replace hy := hy.grow hgu
   replace hx30 : Rn u x30 _ := hx30
   clear hgu
   refine gtT ?_
   clear hN K
   refine sv hB hF hG 2 0 [_, _] ?_
   intro u hu hBG
   replace hx := hx.put hB 2 rfl (by first | decide | simp) _ _ hu
   replace hy := hy.put hB 2 rfl (by first | decide | simp) _ _ hu
   replace hx30 := hx30.put hB 2 rfl (by first | decide | simp) _ _ hu
   clear hB hG hu
   obtain ⟨hB, hG⟩ := hBG
   refine rt Tryz.results136 ?_
   exact ri_ret (add_fst (by simpa using ht9) hle) hx30 hG
  ·intro ht
   have ht23 := ht
   have hlt := cmpN_no ht
   refine wp_skip ?_
   refine then_norm ?_
   refine wp_seq (rdC allocs [] [(0, 0), (0, 1), (0, 2), (0, 3), (0, 4), (0, 5), (1, 6), (1, 7)] hB hG fun K L hN hL => ?_)
   refine gs ?_
   refine grd (natR (b.natAbs - a.natAbs)) (fun (x38 : Ax) => ?_) (C := by (rintro v ⟨hgu, hB, hG, -⟩; exact ref1_NatSub y x b.natAbs a.natAbs _ (hy.grow hgu) (hx.grow hgu) (Nat.le_of_lt hlt) hb))
   refine gmd (C := by (rintro v ⟨⟨hgu, hB, hG, -⟩, hx38⟩; have hx38 : Rn v x38 _ := hx38; exact ref1_I x38 _ (b.natAbs - a.natAbs) _)) ?_
   refine geC hL ?_
   clear hB hG hL L
   rintro u ⟨⟨hgu, hB, hG, -⟩, hx38⟩
   replace hx := hx.grow hgu
   replace hy := hy.grow hgu
   replace hx38 : Rn u x38 _ := hx38
   clear hgu
   refine gtT ?_
   clear hN K
   refine sv hB hF hG 2 0 [_, _] ?_
   intro u hu hBG
   replace hx := hx.put hB 2 rfl (by first | decide | simp) _ _ hu
   replace hy := hy.put hB 2 rfl (by first | decide | simp) _ _ hu
   replace hx38 := hx38.put hB 2 rfl (by first | decide | simp) _ _ hu
   clear hB hG hu
   obtain ⟨hB, hG⟩ := hBG
   refine rt Tryz.results136 ?_
   exact ri_ret (add_snd (by simpa using ht9) (Nat.not_le.2 hlt)) hx38 hG
def zsub (a b : Int) : Int := a - b
theorem zsub_eq (a b : Int) : zadd a (zneg b) = zsub a b := by unfold zadd zneg zsub; omega
theorem zsub_sign (a b : Int) : (zsub a b).sign = cmpZ a b := by
 unfold zsub cmpZ
 split
 ·exact Int.sign_eq_neg_one_of_neg (by omega)
 ·split
  ·exact Int.sign_eq_one_of_pos (by omega)
  ·rw [show a - b = 0 by omega]; rfl
set_option maxHeartbeats 1000000 in
set_option maxRecDepth 100000 in
theorem ref1_IntSub (x y : Ax) (a b : Int) (w : World) (hx : Rn w x a.natAbs) (hy : Rn w y b.natAbs) (ha : bl a.natAbs ≤ 1099511627776) (hb : bl b.natAbs ≤ 1099511627776) : Calls Tryz.prog 176 #[riV x a, riV y b] w (Ret (intR (zsub a b)) w) := by
 have hy' := rn_neg hy
 have hb' : bl (zneg b).natAbs ≤ 1099511627776 := by rw [bl_zneg]; exact hb
 have had := fun W h1 h2 => ref1_IntAdd x y a (zneg b) W h1 h2 ha hb'
 rw [zsub_eq] at had
 clear hy
 go_enter Tryz.func176, Tryz.ntmps176
 refine en3 ?_
 intro u hG b4 b3 b2 hB hF
 replace hx := hx.grow hG
 replace hy' := hy'.grow hG
 refine wp_seq (rdC allocs [] [(0, 0), (0, 1), (1, 2), (1, 3)] hB hG fun K L hN hL => ?_)
 refine gs ?_
 refine gmw (C := fun v => ref1_IntNeg _ _ _) ?_
 refine grd (intR (zsub a b)) (fun (x8 : Ax) => ?_) (C := by (rintro v ⟨hgu, hB, hG, -⟩; exact had _ (hx.grow hgu) (hy'.grow hgu)))
 refine geC hL ?_
 clear hB hG hL L
 rintro u ⟨⟨hgu, hB, hG, -⟩, hx8⟩
 replace hx := hx.grow hgu
 replace hy' := hy'.grow hgu
 replace hx8 : Rn u x8 _ := hx8
 clear hgu
 refine gtT ?_
 clear hN K
 refine sv hB hF hG 2 0 [_, _] ?_
 intro u hu hBG
 replace hx := hx.put hB 2 rfl (by first | decide | simp) _ _ hu
 replace hy' := hy'.put hB 2 rfl (by first | decide | simp) _ _ hu
 replace hx8 := hx8.put hB 2 rfl (by first | decide | simp) _ _ hu
 clear hB hG hu
 obtain ⟨hB, hG⟩ := hBG
 refine rt Tryz.results176 ?_
 exact ⟨x8, rfl, hx8, hG⟩
set_option maxHeartbeats 1000000 in
set_option maxRecDepth 100000 in
theorem ref1_IntCmp (x y : Ax) (a b : Int) (w : World) (hx : Rn w x a.natAbs) (hy : Rn w y b.natAbs) (ha : bl a.natAbs ≤ 1099511627776) (hb : bl b.natAbs ≤ 1099511627776) : Calls Tryz.prog 143 #[riV x a, riV y b] w fun e w' => e = .returned (.int .i64 (cmpZ a b)) ∧ Grow w w' := by
 rw [← zsub_sign]
 go_enter Tryz.func143, Tryz.ntmps143
 refine en2 ?_
 intro u hG b3 b2 hB hF
 replace hx := hx.grow hG
 replace hy := hy.grow hG
 refine wp_seq (rsE allocs [0, 0, 1, 1, 0] hB hG fun L hL => ?_)
 refine gs ?_
 refine grd (intR (zsub a b)) (fun (x7 : Ax) => ?_) (C := by (rintro v ⟨hgu, hB, hG, -⟩; exact ref1_IntSub x y a b _ (hx.grow hgu) (hy.grow hgu) ha hb))
 refine gmd (C := by (rintro v ⟨⟨hgu, hB, hG, -⟩, hx7⟩; have hx7 : Rn v x7 _ := hx7; exact ref1_IntSign x7 (zsub a b) _)) ?_
 refine gs ?_
 refine geT hL ?_
 clear hB hG hL L
 rintro u ⟨⟨hgu, hB, hG, -⟩, hx7⟩
 replace hx := hx.grow hgu
 replace hy := hy.grow hgu
 replace hx7 : Rn u x7 _ := hx7
 clear hgu
 refine rt Tryz.results143 ?_
 exact ⟨rfl, hG⟩
end Go.Proofs.YtimjnkfcnpfoeaaGreatDoor
