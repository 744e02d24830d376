/-
  Contracts and laws: RefM RefE Byte From HandA.
-/
import Derived.Test.YtjmopgepnndckaaGreatDoorO28
import Derived.StillTailTactics
set_option linter.unusedSimpArgs false
set_option linter.unusedVariables false
namespace Go.Proofs.YtjmopgepnndckaaGreatDoor
open Go.RowKit
theorem ref1_NatDiv (x y : Ax) (a b : Nat) (w : World) (hx : Rn w x a) (hy : Rn w y b) (h0 : b ≠ 0) (ha : bl a ≤ BIG) : Calls Tryz.prog 154 #[nvV x a, nvV y b] w (Ret (nnR (a / b) (a % b)) w) := by
 by_cases hs : b < W32
 ·exact ref1_NatDiv_small x y a b w hx hy h0 hs
 ·by_cases hlt : a < b
  ·exact ref1_NatDiv_less x y a b w hx hy hlt
  ·refine ref1_NatDiv_long x y a b w hx hy (by omega) ?_ ha
   have h1 := ln_mono (Nat.not_lt.1 hs)
   have h2 : ln W32 = 2 := by decide +kernel
   omega
set_option maxHeartbeats 1000000 in
set_option maxRecDepth 100000 in
theorem ref1_NatGcd (x y : Ax) (a b : Nat) (w : World) (hx : Rn w x a) (hy : Rn w y b) (ha : bl a ≤ BIG) (hb : bl b ≤ BIG) : Calls Tryz.prog 153 #[nvV x a, nvV y b] w (Ret (natR (Nat.gcd a b)) w) := by
 have Hx := Lib.hid hx
 have Hy := Lib.hid hy
 have Ha := Lib.hid ha
 have Hb := Lib.hid hb
 obtain ⟨g, hg⟩ : ∃ g, g = Nat.gcd a b := ⟨_, rfl⟩
 rw [← hg]
 have Hg := Lib.hid hg.symm
 clear hx hy ha hb hg
 go_enter Tryz.func153, Tryz.ntmps153
 go_wp2_with fail
 go_loopg [0, 1] b (fun k s t wr => ∃ (x y : Ax) (a : Nat), s = nvV x a ∧ t = nvV y k ∧ Nat.gcd a k = g ∧ (bl a ≤ BIG ∧ bl k ≤ BIG) ∧ Rn wr x a ∧ Rn wr y k ∧ Grow w wr)
 case atStart => exact ⟨x, y, a, rfl, rfl, Hg.out, ⟨Ha.out, Hb.out⟩, Hx.out, Hy.out, Grow.refl _⟩
 case round =>
  obtain ⟨x, y, a, rfl, rfl, hgc, hs, hx, hy, hG⟩ := hrel
  rcases Nat.eq_zero_or_pos gk with h0 | h0
  ·have hl : ¬ 0 < ln gk := by rw [h0, ln_zero]; omega
   have Hgc : Hid (a = g) := by rw [h0, Nat.gcd_zero_right] at hgc; exact Lib.hid hgc
   have Hr := Lib.hid hx
   clear hgc hs hx hy h0
   go_wp2_with fail
   go_ret
   exact ⟨x, by rw [← Hgc.out]; rfl, by rw [← Hgc.out]; exact Hr.out, hG⟩
  ·have hl : 0 < ln gk := ln_pos.2 (by omega)
   have hdv := ref1_NatDiv x y a gk wr hx hy (by omega) hs.1
   obtain ⟨q, hq⟩ : ∃ q, q = a / gk := ⟨_, rfl⟩
   obtain ⟨m, hm⟩ : ∃ m, m = a % gk := ⟨_, rfl⟩
   have hmlt : m < gk := by rw [hm]; exact Nat.mod_lt _ h0
   have Hgc : Hid (Nat.gcd gk m = g) := by rw [hm]; exact Lib.hid (gcd_step a gk g hgc)
   rw [← hq, ← hm] at hdv
   have Hdv := Lib.hid (Ret.nn hdv)
   have Hy := Lib.hid hy
   have Hs : Hid (bl gk ≤ BIG ∧ bl m ≤ BIG) := Lib.hid ⟨hs.2, Nat.le_trans (bl_mono (Nat.le_of_lt hmlt)) hs.2⟩
   clear hgc hs hx hy hq hm hdv
   go_wp2_with (go_at_call 154; ((with_reducible refine (Hdv.out).mono ?_); rintro e w1 ⟨y1, y2, rfl, hr1, hr2, hg1⟩))
   go_roundg m
   case rel => exact ⟨y, y2, gk, rfl, rfl, Hgc.out, Hs.out, Hy.out.grow hg1, hr2, hG.trans hg1⟩
   case measure => exact hmlt
end Go.Proofs.YtjmopgepnndckaaGreatDoor
namespace Go.Proofs.YtjmopgepnndckaaGreatDoor
open Go.RowKit
theorem newObj_RInt (d : Option Tmp) (ty : TypeId) (pos : String) (af : Array Edge) (gd : Option (Nat × Bool)) : newObj Tryz.prog ⟨d, .alloc 55, ty, pos, af, gd⟩ = .cells #[.bool false, .slice none 0 0] 55 := by kernel_rfl
theorem newObj_RQ (d : Option Tmp) (ty : TypeId) (pos : String) (af : Array Edge) (gd : Option (Nat × Bool)) : newObj Tryz.prog ⟨d, .alloc 57, ty, pos, af, gd⟩ = .cells #[.bool false, .slice none 0 0, .slice none 0 0] 57 := by kernel_rfl
theorem riV_sgn (x : Ax) (neg : Bool) (a : Nat) : riV x (sgn neg a) = .agg #[.bool (neg && decide (a ≠ 0)), .slice x.1 (ln a) x.2] := by
 unfold riV; rw [intNeg_sgn, sgn_abs]
set_option maxHeartbeats 400000 in
set_option maxRecDepth 100000 in
theorem ref1_I_no (x : Ax) (a : Nat) (w : World) : Calls Tryz.prog 125 #[.bool false, nvV x a] w fun e w' => e = .returned (riV x (sgn false a)) ∧ Grow w w' := by
 rw [riV_sgn, Bool.false_and]
 go_enter Tryz.func125, Tryz.ntmps125
 refine en1 ?_
 intro u hG b4 hB hF
 refine r0T ?_
 refine st hB hF hG 0 0 [_, _] ?_
 clear hB hG
 intro u hB hG
 refine rt Tryz.results125 ?_
 exact ⟨rfl, hG⟩
set_option maxHeartbeats 400000 in
set_option maxRecDepth 100000 in
theorem ref1_I_yes (x : Ax) (a : Nat) (w : World) : Calls Tryz.prog 125 #[.bool true, nvV x a] w fun e w' => e = .returned (riV x (sgn true a)) ∧ Grow w w' := by
 rw [riV_sgn, Bool.true_and]
 have hd : decide (a ≠ 0) = decide (0 < ln a) := by
  have := @ln_pos a
  rw [decide_eq_decide]; exact this.symm
 rw [hd]
 clear hd
 go_enter Tryz.func125, Tryz.ntmps125
 refine en1 ?_
 intro u hG b4 hB hF
 refine r0T ?_
 refine st hB hF hG 0 0 [_, _] ?_
 clear hB hG
 intro u hB hG
 refine rt Tryz.results125 ?_
 exact ⟨rfl, hG⟩
--! ref1_I = ref1_I _ _ _ _
theorem ref1_I (x : Ax) (neg : Bool) (a : Nat) (w : World) : Calls Tryz.prog 125 #[.bool neg, nvV x a] w fun e w' => e = .returned (riV x (sgn neg a)) ∧ Grow w w' := by
 cases neg
 ·exact ref1_I_no x a w
 ·exact ref1_I_yes x a w
set_option maxHeartbeats 400000 in
set_option maxRecDepth 100000 in
theorem ref1_IntOf_neg (n : Int) (h0 : n < 0) (h1 : -9223372036854775808 ≤ n) (w : World) : Calls Tryz.prog 87 #[.int .i64 n] w (Ret (intR n) w) := by
 have hw1 : IntKind.u64.wrap n = n + 18446744073709551616 := by
  simp [IntKind.wrap, IntKind.signed, IntKind.bits]; omega
 have hw2 : IntKind.u64.wrap (-(n + 18446744073709551616)) = (n.natAbs : Nat) := by
  simp [IntKind.wrap, IntKind.signed, IntKind.bits]; omega
 have hlt : n.natAbs < W64 := by unfold W64; omega
 have hd : decide (n < 0) = true := by simpa using h0
 have hn : sgn true n.natAbs = n := by rw [sgn_true]; omega
 have Hn := Lib.hid hn
 clear hn
 go_enter Tryz.func87, Tryz.ntmps87
 refine en1 ?_
 intro u hG b2 hB hF
 refine wp_seq ?_
 refine r0T ?_
 refine wp_cond_true (rfl) ?_
 refine wp_seq (rsC allocs [0, 0, 0, 1, 1] hB hG fun K L hN hL => ?_)
 refine gs ?_
 refine grd (natR n.natAbs) (fun (x8 : Ax) => ?_) (C := fun v _ => ref1_NatOf n.natAbs hlt _)
 refine gmd (C := by (rintro v ⟨⟨hgu, hB, hG, -⟩, hx8⟩; have hx8 : Rn v x8 _ := hx8; exact ref1_I x8 true n.natAbs _)) ?_
 refine geC hL ?_
 clear hB hG hL L
 rintro u ⟨⟨-, hB, hG, -⟩, hx8⟩
 replace hx8 : Rn u x8 _ := hx8
 refine gtT ?_
 clear hN K
 refine sv hB hF hG 0 0 [_, _] ?_
 intro u hu hBG
 replace hx8 := hx8.put hB 0 rfl (by first | decide | simp) _ _ hu
 clear hB hG hu
 obtain ⟨hB, hG⟩ := hBG
 refine rt Tryz.results87 ?_
 exact ⟨x8, congrArg (fun z : Int => Ending.returned (riV x8 z)) Hn.out, hx8, hG⟩
set_option maxHeartbeats 400000 in
set_option maxRecDepth 100000 in
theorem ref1_IntOf_pos (n : Int) (h0 : 0 ≤ n) (h1 : n ≤ 9223372036854775807) (w : World) : Calls Tryz.prog 87 #[.int .i64 n] w (Ret (intR n) w) := by
 have hw1 : IntKind.u64.wrap n = (n.natAbs : Nat) := by
  simp [IntKind.wrap, IntKind.signed, IntKind.bits]; omega
 have hlt : n.natAbs < W64 := by unfold W64; omega
 have hd : decide (n < 0) = false := by simpa using h0
 have hn : sgn false n.natAbs = n := by rw [sgn_false]; omega
 have Hn := Lib.hid hn
 clear hn
 go_enter Tryz.func87, Tryz.ntmps87
 refine en1 ?_
 intro u hG b2 hB hF
 refine wp_seq ?_
 refine r0T ?_
 refine wp_cond_false (rfl) ?_
 refine wp_skip ?_
 refine then_norm ?_
 refine wp_seq (rsC allocs [0, 0, 1, 1] hB hG fun K L hN hL => ?_)
 refine gs ?_
 refine grd (natR n.natAbs) (fun (x12 : Ax) => ?_) (C := fun v _ => ref1_NatOf n.natAbs hlt _)
 refine gmd (C := by (rintro v ⟨⟨hgu, hB, hG, -⟩, hx12⟩; have hx12 : Rn v x12 _ := hx12; exact ref1_I x12 false n.natAbs _)) ?_
 refine geC hL ?_
 clear hB hG hL L
 rintro u ⟨⟨-, hB, hG, -⟩, hx12⟩
 replace hx12 : Rn u x12 _ := hx12
 refine gtT ?_
 clear hN K
 refine sv hB hF hG 0 0 [_, _] ?_
 intro u hu hBG
 replace hx12 := hx12.put hB 0 rfl (by first | decide | simp) _ _ hu
 clear hB hG hu
 obtain ⟨hB, hG⟩ := hBG
 refine rt Tryz.results87 ?_
 exact ⟨x12, congrArg (fun z : Int => Ending.returned (riV x12 z)) Hn.out, hx12, hG⟩
theorem ref1_IntOf (n : Int) (h0 : -9223372036854775808 ≤ n) (h1 : n ≤ 9223372036854775807) (w : World) : Calls Tryz.prog 87 #[.int .i64 n] w (Ret (intR n) w) := by
 by_cases h : n < 0
 ·exact ref1_IntOf_neg n h h0 w
 ·exact ref1_IntOf_pos n (by omega) h1 w
theorem ret_rq {x y : Ax} {z : Int} {d : Nat} {q : Rat} (h1 : q.num = z) (h2 : q.den = d) : Ending.returned (.agg #[.bool (intNeg z), .slice x.1 (ln z.natAbs) x.2, .slice y.1 (ln d) y.2]) = .returned (rqV x y q) := by subst h1; subst h2; rfl
theorem over_num (n d : Int) (h : d ≠ 0) : (qover n d).num = sgn (intNeg n != intNeg d) (n.natAbs / Nat.gcd n.natAbs d.natAbs) := by
 have hd : d.natAbs ≠ 0 := by omega
 by_cases hn : d < 0
 ·rw [over_neg n d hn, num_low _ _ hd, ← sgn_div]
  have e1 : (zneg n).natAbs = n.natAbs := by unfold zneg; exact Int.natAbs_neg n
  rw [e1]
  have e2 : intNeg d = true := decide_eq_true hn
  rw [e2]
  by_cases h0 : n = 0
  ·subst h0; simp [sgn]
  ·congr 1
   unfold intNeg zneg
   rw [Bool.eq_iff_iff]
   simp
   omega
 ·rw [over_pos n d hn, num_low _ _ hd, ← sgn_div]
  have e2 : intNeg d = false := decide_eq_false hn
  rw [e2]
  simp
theorem over_den (n d : Int) (h : d ≠ 0) : (qover n d).den = d.natAbs / Nat.gcd n.natAbs d.natAbs := by
 have hd : d.natAbs ≠ 0 := by omega
 by_cases hn : d < 0
 ·rw [over_neg n d hn, den_low _ _ hd]
  unfold zneg; rw [Int.natAbs_neg]
 ·rw [over_pos n d hn, den_low _ _ hd]
set_option maxHeartbeats 1000000 in
set_option maxRecDepth 100000 in
theorem ref1_Make (x y : Ax) (n d : Int) (w : World) (hx : Rn w x n.natAbs) (hy : Rn w y d.natAbs) (h0 : d ≠ 0) (hn : bl n.natAbs ≤ BIG) (hd : bl d.natAbs ≤ BIG) : Calls Tryz.prog 114 #[riV x n, riV y d] w (Ret (ratR (qover n d)) w) := by
 have He := Lib.hid (And.intro (over_num n d h0) (over_den n d h0))
 have hd0 : d.natAbs ≠ 0 := by omega
 have g0 : Nat.gcd n.natAbs d.natAbs ≠ 0 := fun e => hd0 (Nat.eq_zero_of_gcd_eq_zero_right e)
 go_enter Tryz.func114, Tryz.ntmps114
 refine en3 ?_
 intro u hG b4 b3 b2 hB hF
 replace hx := hx.grow hG
 replace hy := hy.grow hG
 refine wp_seq (rsE allocs [0, 0, 0, 0, 1, 0] hB hG fun L hL => ?_)
 refine gs ?_
 refine grd (natR (Nat.gcd n.natAbs d.natAbs)) (fun (x14 : Ax) => ?_) (C := by (rintro v ⟨hgu, hB, hG, -⟩; exact ref1_NatGcd x y n.natAbs d.natAbs _ (hx.grow hgu) (hy.grow hgu) hn hd))
 refine gs ?_
 refine geT hL ?_
 clear hB hG hL L
 rintro u ⟨⟨hgu, hB, hG, -⟩, hx14⟩
 replace hx := hx.grow hgu
 replace hy := hy.grow hgu
 replace hx14 : Rn u x14 _ := hx14
 clear hgu
 refine wp_seq (rsE allocs [0, 0, 0, 1, 0, 0, 0, 0, 0] hB hG fun L hL => ?_)
 refine gs ?_
 refine grd (nnR (n.natAbs / Nat.gcd n.natAbs d.natAbs) (n.natAbs % Nat.gcd n.natAbs d.natAbs)) (fun (x19 : Ax × Ax) => ?_) (C := by (rintro v ⟨hgu, hB, hG, -⟩; exact ref1_NatDiv x x14 n.natAbs _ _ (hx.grow hgu) (hx14.grow hgu) g0 hn))
 refine gs ?_
 refine geT hL ?_
 clear hB hG hL L
 rintro u ⟨⟨hgu, hB, hG, -⟩, hx19⟩
 replace hx := hx.grow hgu
 replace hy := hy.grow hgu
 replace hx14 := hx14.grow hgu
 obtain ⟨hx19a, hx19b⟩ : Rn u x19.1 _ ∧ Rn u x19.2 _ := hx19
 clear hgu
 refine wp_seq (rsE allocs [0, 0, 0, 1, 0, 0, 0, 0, 0] hB hG fun L hL => ?_)
 refine gs ?_
 refine grd (nnR (d.natAbs / Nat.gcd n.natAbs d.natAbs) (d.natAbs % Nat.gcd n.natAbs d.natAbs)) (fun (x26 : Ax × Ax) => ?_) (C := by (rintro v ⟨hgu, hB, hG, -⟩; exact ref1_NatDiv y x14 d.natAbs _ _ (hy.grow hgu) (hx14.grow hgu) g0 hd))
 refine gs ?_
 refine geT hL ?_
 clear hB hG hL L
 rintro u ⟨⟨hgu, hB, hG, -⟩, hx26⟩
 replace hx := hx.grow hgu
 replace hy := hy.grow hgu
 replace hx14 := hx14.grow hgu
 replace hx19a := hx19a.grow hgu
 replace hx19b := hx19b.grow hgu
 obtain ⟨hx26a, hx26b⟩ : Rn u x26.1 _ ∧ Rn u x26.2 _ := hx26
 clear hgu
 refine wp_seq (rsC allocs [0, 0, 0, 0, 0, 0, 1, 0, 0] hB hG fun K L hN hL => ?_)
 refine gs ?_
 refine gmw (C := fun v => ref1_I x19.1 _ (n.natAbs / Nat.gcd n.natAbs d.natAbs) _) ?_
 refine gs ?_
 refine geC hL ?_
 clear hB hG hL L
 rintro u ⟨hgu, hB, hG, -⟩
 replace hx := hx.grow hgu
 replace hy := hy.grow hgu
 replace hx14 := hx14.grow hgu
 replace hx19a := hx19a.grow hgu
 replace hx19b := hx19b.grow hgu
 replace hx26a := hx26a.grow hgu
 replace hx26b := hx26b.grow hgu
 clear hgu
 refine gtT ?_
 clear hN K
 refine sv hB hF hG 2 0 [_, _, _] ?_
 intro u hu hBG
 replace hx := hx.put hB 2 rfl (by first | decide | simp) _ _ hu
 replace hy := hy.put hB 2 rfl (by first | decide | simp) _ _ hu
 replace hx14 := hx14.put hB 2 rfl (by first | decide | simp) _ _ hu
 replace hx19a := hx19a.put hB 2 rfl (by first | decide | simp) _ _ hu
 replace hx19b := hx19b.put hB 2 rfl (by first | decide | simp) _ _ hu
 replace hx26a := hx26a.put hB 2 rfl (by first | decide | simp) _ _ hu
 replace hx26b := hx26b.put hB 2 rfl (by first | decide | simp) _ _ hu
 clear hB hG hu
 obtain ⟨hB, hG⟩ := hBG
 refine rt Tryz.results114 ?_
 exact ⟨(x19.1, x26.1), ret_rq He.out.1 He.out.2, ⟨by rw [He.out.1, sgn_abs]; exact hx19a, by rw [He.out.2]; exact hx26a⟩, hG⟩
set_option maxHeartbeats 1000000 in
set_option maxRecDepth 100000 in
theorem ref1_Over (n d : Int) (h0 : -9223372036854775808 ≤ n) (h1 : n ≤ 9223372036854775807) (h2 : -9223372036854775808 ≤ d) (h3 : d ≤ 9223372036854775807) (hd : d ≠ 0) (w : World) : Calls Tryz.prog 74 #[.int .i64 n, .int .i64 d] w (Ret (ratR (qover n d)) w) := by
 go_enter Tryz.func74, Tryz.ntmps74
 refine en1 ?_
 intro u hG b4 hB hF
 refine wp_seq (rsC allocs [0, 1, 0, 1, 1] hB hG fun K L hN hL => ?_)
 refine gs ?_
 refine grd (intR n) (fun (x6 : Ax) => ?_) (C := fun v _ => ref1_IntOf n h0 h1 _)
 refine gs ?_
 refine grd (intR d) (fun (x8 : Ax) => ?_) (C := by (rintro v ⟨⟨hgu, hB, hG, -⟩, hx6⟩; have hx6 : Rn v x6 _ := hx6; exact ref1_IntOf d h2 h3 _))
 refine grd (ratR (qover n d)) (fun (x9 : Ax × Ax) => ?_) (C := by (rintro v ⟨⟨⟨hgu, hB, hG, -⟩, hx6⟩, hx8⟩; have hx6 : Rn v x6 _ := hx6; have hx8 : Rn v x8 _ := hx8; exact ref1_Make x6 x8 n d _ hx6 hx8 hd (bl_i64 h0 h1) (bl_i64 h2 h3)))
 refine geC hL ?_
 clear hB hG hL L
 rintro u ⟨⟨⟨⟨-, hB, hG, -⟩, hx6⟩, hx8⟩, hx9⟩
 replace hx6 : Rn u x6 _ := hx6
 replace hx8 : Rn u x8 _ := hx8
 obtain ⟨hx9a, hx9b⟩ : Rn u x9.1 _ ∧ Rn u x9.2 _ := hx9
 refine gtT ?_
 clear hN K
 refine sv hB hF hG 0 0 [_, _, _] ?_
 intro u hu hBG
 replace hx6 := hx6.put hB 0 rfl (by first | decide | simp) _ _ hu
 replace hx8 := hx8.put hB 0 rfl (by first | decide | simp) _ _ hu
 replace hx9a := hx9a.put hB 0 rfl (by first | decide | simp) _ _ hu
 replace hx9b := hx9b.put hB 0 rfl (by first | decide | simp) _ _ hu
 clear hB hG hu
 obtain ⟨hB, hG⟩ := hBG
 refine rt Tryz.results74 ?_
 exact ⟨x9, rfl, ⟨hx9a, hx9b⟩, hG⟩
theorem ref1_NatOf_1 (w : World) : Calls Tryz.prog 88 #[.int .u64 1] w (Ret (natR 1) w) := ref1_NatOf 1 (by unfold W64; omega) w
set_option maxHeartbeats 1000000 in
set_option maxRecDepth 100000 in
theorem ref1_Of (n : Int) (h0 : -9223372036854775808 ≤ n) (h1 : n ≤ 9223372036854775807) (w : World) : Calls Tryz.prog 48 #[.int .i64 n] w (Ret (ratR (qint n)) w) := by
 go_enter Tryz.func48, Tryz.ntmps48
 refine en1 ?_
 intro u hG b2 hB hF
 refine wp_seq (rsC allocs [0, 1, 1, 0] hB hG fun K L hN hL => ?_)
 refine gs ?_
 refine grd (intR n) (fun (x4 : Ax) => ?_) (C := fun v _ => ref1_IntOf n h0 h1 _)
 refine grd (natR 1) (fun (x5 : Ax) => ?_) (C := by (rintro v ⟨⟨hgu, hB, hG, -⟩, hx4⟩; have hx4 : Rn v x4 _ := hx4; exact ref1_NatOf_1 _))
 refine gs ?_
 refine geC hL ?_
 clear hB hG hL L
 rintro u ⟨⟨⟨-, hB, hG, -⟩, hx4⟩, hx5⟩
 replace hx4 : Rn u x4 _ := hx4
 replace hx5 : Rn u x5 _ := hx5
 refine gtT ?_
 clear hN K
 refine sv hB hF hG 0 0 [_, _, _] ?_
 intro u hu hBG
 replace hx4 := hx4.put hB 0 rfl (by first | decide | simp) _ _ hu
 replace hx5 := hx5.put hB 0 rfl (by first | decide | simp) _ _ hu
 clear hB hG hu
 obtain ⟨hB, hG⟩ := hBG
 refine rt Tryz.results48 ?_
 exact ⟨(x4, x5), ret_rq (qint_num n) (qint_den n), ⟨by rw [qint_num]; exact hx4, by rw [qint_den]; exact hx5⟩, hG⟩
end Go.Proofs.YtjmopgepnndckaaGreatDoor
namespace Go.Proofs.YtjmopgepnndckaaGreatDoor
open Go.RowKit
/-- limbs off bytes: the byte number k is laid in, those above it are there, those below are 0 -/
theorem lay_byte (zs : List Nat) (V k y : Nat) (hd : Dig W32 zs) (hk : k / 4 < zs.length) (hv : val W32 zs = V * 256 ^ (k + 1)) (hy : y < 256) :
  dg zs (k / 4) ||| y * 2 ^ (8 * (k % 4)) = dg zs (k / 4) + y * 2 ^ (8 * (k % 4)) ∧ dg zs (k / 4) + y * 2 ^ (8 * (k % 4)) < W32 ∧ val W32 (zs.set (k / 4) (dg zs (k / 4) + y * 2 ^ (8 * (k % 4)))) = (V * 256 + y) * 256 ^ k := by
 have e1 : (256 : Nat) ^ k = W32 ^ (k / 4) * 2 ^ (8 * (k % 4)) := by
  rw [show W32 = 2 ^ 32 from rfl, show (256 : Nat) = 2 ^ 8 from rfl, ← Nat.pow_mul, ← Nat.pow_mul, ← Nat.pow_add]
  congr 1
  omega
 have hdv : 2 ^ (8 * (k % 4) + 8) ∣ dg zs (k / 4) := by
  have h1 : dg zs (k / 4) = val W32 zs / W32 ^ (k / 4) % W32 := by
   have h2 := val_take_dg W32 zs (k / 4)
   have h3 : val W32 zs = val W32 (zs.take (k / 4 + 1)) + W32 ^ (k / 4 + 1) * val W32 (zs.drop (k / 4 + 1)) := by
    have := val_append W32 (zs.take (k / 4 + 1)) (zs.drop (k / 4 + 1))
    rw [List.take_append_drop, List.length_take, Nat.min_eq_left (by omega)] at this
    exact this
   have h4 : val W32 (zs.take (k / 4)) < W32 ^ (k / 4) := by
    have := val_lt (B := W32) (l := zs.take (k / 4)) (fun x hx => hd x (List.mem_of_mem_take hx))
    rwa [List.length_take, Nat.min_eq_left (by omega)] at this
   have h5 := dg_lt W32_pos hd (k / 4)
   rw [h3, h2, Nat.pow_succ, Nat.mul_assoc, Nat.add_assoc, ← Nat.mul_add, Nat.add_mul_div_left _ _ (Nat.pow_pos W32_pos), Nat.div_eq_of_lt h4, Nat.zero_add, Nat.add_mul_mod_self_left, Nat.mod_eq_of_lt h5]
  rw [h1, hv]
  have e2 : V * 256 ^ (k + 1) = W32 ^ (k / 4) * (V * 2 ^ (8 * (k % 4) + 8)) := by
   rw [Nat.pow_succ, e1, Nat.pow_add]
   simp only [show (256 : Nat) = 2 ^ 8 from rfl]
   grind
  rw [e2, Nat.mul_div_cancel_left _ (Nat.pow_pos W32_pos)]
  refine (Nat.dvd_mod_iff ?_).2 (Nat.dvd_mul_left _ _)
  rw [show W32 = 2 ^ 32 from rfl]
  exact Nat.pow_dvd_pow 2 (by omega)
 have hlt : y * 2 ^ (8 * (k % 4)) < 2 ^ (8 * (k % 4) + 8) := by
  rw [Nat.pow_add, Nat.mul_comm]
  exact Nat.mul_lt_mul_of_pos_left hy (Nat.two_pow_pos _)
 refine ⟨or_add hlt hdv, ?_, ?_⟩
 ·obtain ⟨c, hc⟩ := hdv
  have h5 := dg_lt W32_pos hd (k / 4)
  rw [hc] at h5 ⊢
  have e3 : W32 = 2 ^ (8 * (k % 4) + 8) * 2 ^ (24 - 8 * (k % 4)) := by
   rw [← Nat.pow_add, show W32 = 2 ^ 32 from rfl]
   congr 1
   omega
  rw [e3] at h5 ⊢
  have h6 := Nat.lt_of_mul_lt_mul_left h5
  calc 2 ^ (8 * (k % 4) + 8) * c + y * 2 ^ (8 * (k % 4)) < 2 ^ (8 * (k % 4) + 8) * c + 2 ^ (8 * (k % 4) + 8) := by omega
   _ = 2 ^ (8 * (k % 4) + 8) * (c + 1) := by rw [Nat.mul_add, Nat.mul_one]
   _ ≤ _ := Nat.mul_le_mul_left _ h6
 ·have h7 := val_set W32 zs (k / 4) (dg zs (k / 4) + y * 2 ^ (8 * (k % 4))) hk
  rw [hv, Nat.mul_add] at h7
  have e4 : (V * 256 + y) * 256 ^ k = V * 256 ^ (k + 1) + W32 ^ (k / 4) * (y * 2 ^ (8 * (k % 4))) := by
   rw [Nat.add_mul, Nat.pow_succ, e1]
   grind
  omega
end Go.Proofs.YtjmopgepnndckaaGreatDoor
namespace Go.Proofs.YtjmopgepnndckaaGreatDoor
open Go.RowKit
theorem bits_or_u32_nat (a b : Nat) (ha : a < 4294967296) (hb : b < 4294967296) : bits .or .u32 (a : Int) (b : Int) = ((a ||| b : Nat) : Int) := by
 have hx : a ||| b < 2 ^ 32 := Nat.or_lt_two_pow (by omega) (by omega)
 have h1 : (BitVec.ofInt 32 (a : Int)).toNat = a := by
  rw [BitVec.ofInt_natCast, BitVec.toNat_ofNat]; exact Nat.mod_eq_of_lt (by omega)
 have h2 : (BitVec.ofInt 32 (b : Int)).toNat = b := by
  rw [BitVec.ofInt_natCast, BitVec.toNat_ofNat]; exact Nat.mod_eq_of_lt (by omega)
 show IntKind.u32.wrap ((BitVec.ofInt 32 (a : Int) ||| BitVec.ofInt 32 (b : Int)).toNat : Int) = _
 rw [BitVec.toNat_or, h1, h2]
 simp [IntKind.wrap, IntKind.signed, IntKind.bits]
 omega
theorem u32_in (n : Nat) (h : n < 4294967296) : IntKind.u32.wrap (n : Int) = (n : Int) := by
 simp [IntKind.wrap, IntKind.signed, IntKind.bits]; omega
set_option maxHeartbeats 1000000 in
set_option maxRecDepth 100000 in
theorem ref1_NatFrom (A : Option Addr) (a : Nat) (w : World) (ha : bl a ≤ 1099511627760) (hA : By w A (byt a).reverse) : Calls Tryz.prog 142 #[.slice A (byt a).length (byt a).length] w (Ret (natR a) w) := by
 obtain ⟨n, hn⟩ : ∃ n, n = (byt a).length := ⟨_, rfl⟩
 have hnb : n ≤ 137438953471 := by rw [hn, byt_length]; omega
 obtain ⟨m, hm⟩ : ∃ m, m = (n + 3) / 4 := ⟨_, rfl⟩
 have hmi : ((n : Int) + 3) / 4 = (m : Int) := by omega
 have hmt : ((n : Int) + 3).tdiv 4 = (m : Int) := by rw [Int.tdiv_eq_ediv_of_nonneg (by omega)]; exact hmi
 have hmk := make_u32 m (by omega) (m : Int) rfl
 rw [← hn]
 have HA := Lib.hid hA
 have Hn := Lib.hid hn
 have Hm := Lib.hid hm
 have hmb : m ≤ 34359738368 := by omega
 clear hA hn hm
 go_enter Tryz.func142, Tryz.ntmps142
 go_wp2_with fail
 clear hmk hmi hmt
 go_loopw [4] (fun s wr => ∃ (i : Nat) (zs : List Nat), i ≤ n ∧ s = .int .i64 i ∧ zs.length = m ∧ Dig W32 zs ∧ val W32 zs = a / 256 ^ (n - i) * 256 ^ (n - i) ∧ Row32 wr w.heap.size zs ∧ Grow w wr) (fun s _ => n - (intOf s).toNat)
 case atStart => exact ⟨0, List.replicate m 0, Nat.zero_le _, rfl, by simp, fun z hz => (by rw [(List.mem_replicate.1 hz).2]; exact W32_pos), by
   rw [val_zeros, Nat.sub_zero, Nat.div_eq_of_lt, Nat.zero_mul]
   have := val_lt (byt_dig a)
   rw [← Hn.out] at this
   unfold byt at this
   rwa [val_digs (by omega)] at this, Blk.new w 162 _, Grow.alloc _ _⟩
 case round =>
  obtain ⟨i, zs, hi, rfl, hl, hd, hv, hR, hG⟩ := hrel
  have HR := Lib.hid hR
  have HG := Lib.hid hG
  have Hd := Lib.hid hd
  have Hv := Lib.hid hv
  have Hl := Lib.hid hl
  clear hl hd hv hR hG
  rcases Nat.lt_or_ge i n with hlt | hge
  ·obtain ⟨k, hk⟩ : ∃ k, k = n - 1 - i := ⟨_, rfl⟩
   have hni : n - i = k + 1 := by omega
   have hki : (n : Int) - 1 - (i : Int) = (k : Int) := by omega
   have hkq : k / 4 < zs.length := by rw [Hl.out, Hm.out]; omega
   obtain ⟨b1, o1, rfl, hc1⟩ := (HA.out.grow HG.out).cell (i := i) (by rw [List.length_reverse, ← Hn.out]; exact hlt)
   rw [dg_reverse (by rw [← Hn.out]; exact hlt), ← Hn.out, ← hk] at hc1
   have hby := dg_lt (by omega) (byt_dig a) k
   have hv1 := Hv.out
   rw [hni] at hv1
   obtain ⟨l1, l2, l3⟩ := lay_byte zs _ k _ Hd.out hkq hv1 hby
   have hc2 := HR.out.cell hkq
   have hf2 := HR.out.frozen (k / 4)
   have hzl := dg_lt W32_pos Hd.out (k / 4)
   have hkm : k / 4 < m := by rw [← Hl.out]; exact hkq
   have hstep : a / 256 ^ (k + 1) * 256 + dg (byt a) k = a / 256 ^ k := by
    unfold byt
    rw [dg_digs (by omega), Nat.pow_succ, ← Nat.div_div_eq_div_mul]
    omega
   rw [hstep] at l3
   obtain ⟨q, hq⟩ : ∃ q, q = k / 4 := ⟨_, rfl⟩
   obtain ⟨r, hr⟩ : ∃ r, r = k % 4 := ⟨_, rfl⟩
   have hr8 : r < 4 := by omega
   have hqi : (k : Int) / 4 = (q : Int) := by omega
   have hri : (k : Int) % 4 = (r : Int) := by omega
   obtain ⟨y, hy⟩ : ∃ y, y = dg (byt a) k := ⟨_, rfl⟩
   obtain ⟨x, hx⟩ : ∃ x, x = dg zs (k / 4) := ⟨_, rfl⟩
   rw [← hx] at hc2 l1 l2 l3 hzl
   rw [← hy] at hc1 hby l1 l2 l3
   rw [← hq] at hc2 hf2 hkm l3
   rw [← hr] at l1 l2 l3
   have L1 := Lib.hid l1
   have L2 := Lib.hid l2
   have L3 := Lib.hid l3
   unfold W32 at hzl
   have hw1 : IntKind.i64.wrap (q : Int) = (q : Int) := IntWalk.i64_in _ (by omega)
   have hw2 : IntKind.i64.wrap (r : Int) = (r : Int) := IntWalk.i64_in _ (by omega)
   have hw3 : IntKind.i64.wrap (8 * (r : Int)) = 8 * (r : Int) := IntWalk.i64_in _ (by omega)
   have hw4 : IntKind.u64.wrap (8 * (r : Int)) = 8 * (r : Int) := u64_wrap_id (x := 8 * (r : Int)) (by omega) (by omega)
   have hw5 : (8 * (r : Int)).toNat = 8 * r := by omega
   have hw6 : (k : Int).tmod 4 = (r : Int) := by rw [Int.tmod_eq_emod_of_nonneg (by omega)]; exact hri
   have hw7 := u32_in y (by omega)
   have hw8 : min (8 * r) 32 = 8 * r := by omega
   obtain ⟨z, hz⟩ : ∃ z, z = y * 2 ^ (8 * r) := ⟨_, rfl⟩
   have hzlt : z < 4294967296 := by unfold W32 at l2; omega
   have hw9 : IntKind.u32.wrap ((y : Int) * 2 ^ (8 * r)) = (z : Int) := by
    rw [show ((y : Int) * 2 ^ (8 * r)) = ((z : Nat) : Int) by rw [hz]; simp]; exact u32_in z hzlt
   rw [← hz] at l1 l2 l3
   have hw10 : bits BinOp.or IntKind.u32 (x : Int) (z : Int) = ((x + z : Nat) : Int) := by
    rw [bits_or_u32_nat x z hzl hzlt, l1]
   obtain ⟨s, hs⟩ : ∃ s, s = x + z := ⟨_, rfl⟩
   rw [← hs] at l2 l3 hw10
   have L4 := Lib.hid l3
   have L5 := Lib.hid l2
   clear hk hni hstep hv1 l1 l2 l3 hx hy hq hr hkq hz hs L1 L2 L3
   go_wp2_with fail
   go_still_tail 19, (by kernel_rfl)
   go_wp2_with fail
   have hnk : n - (i + 1) = k := by omega
   exact ⟨⟨i + 1, zs.set q s, by omega, by go_num, by rw [List.length_set]; exact Hl.out, dig_set Hd.out q L5.out, by rw [hnk]; exact L4.out, (HR.out.set q s).grow (Grow.drew _), (HG.out.setCell (p := ⟨w.heap.size, q, none⟩) (Nat.le_refl _) _).trans (Grow.drew _)⟩, by simp [intOf]; omega⟩
  ·obtain rfl : i = n := by omega
   have hva : val W32 zs = a := by have := Hv.out; simpa using this
   have htr : Calls Tryz.prog 126 #[.slice (some ⟨w.heap.size, 0, none⟩) m m] wr fun e w' => e = .returned (.slice (some ⟨w.heap.size, 0, none⟩) (ln a) m) ∧ Rn w' (some ⟨w.heap.size, 0, none⟩, m) a ∧ Grow w w' := by
    have h1 := ref1_trim (some ⟨w.heap.size, 0, none⟩) zs m wr HR.out.lim (Nat.le_of_eq Hl.out) (by omega)
    rw [Hl.out] at h1
    refine h1.mono fun e w' ⟨he, hg⟩ => ?_
    obtain ⟨hr1, hlen⟩ := rn_trim (a := a) (c := m) (HR.out.lim.grow hg) Hd.out hva (Nat.le_of_eq Hl.out) (by omega)
    rw [hlen] at he
    exact ⟨he, hr1, HG.out.trans hg⟩
   have Htr := Lib.hid htr
   clear htr hva
   go_wp2_with (go_at_call 126; ((with_reducible refine (Htr.out).mono ?_); rintro e w1 ⟨rfl, hr1, hg⟩))
   go_ret
   exact ⟨(some ⟨w.heap.size, 0, none⟩, m), rfl, hr1, hg⟩
end Go.Proofs.YtjmopgepnndckaaGreatDoor
namespace Go.Proofs.YtjmopgepnndckaaGreatDoor
open Go.RowKit
def LIM : Nat := 1099511627760
theorem allocs2 : ∀ t ∈ [45, 47, 49, 55, 57], AllocT Tryz.prog t := by
 intro t ht
 simp only [List.mem_cons, List.not_mem_nil, or_false] at ht
 rcases ht with rfl | rfl | rfl | rfl | rfl
 ·exact fun _ _ _ _ _ _ => by rw [newObj_Nat]; kernel_rfl
 ·exact fun _ _ _ _ _ _ => by rw [newObj_Int]; kernel_rfl
 ·exact fun _ _ _ _ _ _ => by rw [newObj_Q]; kernel_rfl
 ·exact fun _ _ _ _ _ _ => by rw [newObj_RInt]; kernel_rfl
 ·exact fun _ _ _ _ _ _ => by rw [newObj_RQ]; kernel_rfl
set_option maxHeartbeats 400000 in
theorem hand_OutNat (a : Nat) (ha : bl a ≤ LIM) (w : World) : Calls Tryz.prog 100 #[natV a] w (Ret (natR a) w) := by
 unfold LIM at ha
 have hby : ∀ W, Calls Tryz.prog 143 #[natV a] W fun e w' => ∃ A, e = .returned (.slice A (byt a).length (byt a).length) ∧ By w' A (byt a).reverse ∧ Grow W w' := fun W => nat_Bytes a ha W
 have hfr : ∀ A W, By W A (byt a).reverse → Calls Tryz.prog 142 #[.slice A (byt a).length (byt a).length] W (Ret (natR a) W) := fun A W h => ref1_NatFrom A a W ha h
 obtain ⟨n, hn⟩ : ∃ n, n = (byt a).length := ⟨_, rfl⟩
 rw [← hn] at hby hfr
 have Hby := Lib.hid hby
 have Hfr := Lib.hid hfr
 clear hby hfr hn
 go_enter Tryz.func100, Tryz.ntmps100
 go_wp2_with (first
  | (go_at_call 143; ((with_reducible refine (Hby.out _).mono ?_); rintro e w1 ⟨A, rfl, hA, hg1⟩))
  | (go_at_call 142; ((with_reducible refine (Hfr.out _ _ hA).mono ?_); rintro e w2 ⟨x, rfl, hx, hg2⟩)))
 go_ret
 exact ⟨x, rfl, hx, (Grow.alloc _ _).trans (hg1.trans hg2)⟩
set_option maxHeartbeats 400000 in
set_option maxRecDepth 100000 in
theorem hand_OutInt (z : Int) (ha : bl z.natAbs ≤ LIM) (w : World) : Calls Tryz.prog 98 #[intV z] w (Ret (intR z) w) := by
 have ha' : bl z.natAbs ≤ 1099511627776 := by unfold LIM at ha; omega
 go_enter Tryz.func98, Tryz.ntmps98
 refine en2 ?_
 intro u hG b2 b1 hB hF
 refine wp_seq (rdC allocs [] [(0, 0), (0, 3), (1, 1), (0, 2), (1, 4), (1, 5), (1, 6)] hB hG fun K L hN hL => ?_)
 refine gs ?_
 refine gmw (C := fun v => whole_Sign _ (by assumption) _) ?_
 refine gs ?_
 refine gmw (C := fun v => whole_Abs _ _) ?_
 refine grd (natR z.natAbs) (fun (x8 : Ax) => ?_) (C := fun v _ => hand_OutNat z.natAbs ha _)
 refine gmd (C := by (rintro v ⟨⟨hgu, hB, hG, -⟩, hx8⟩; have hx8 : Rn v x8 _ := hx8; exact ref1_I x8 _ z.natAbs _)) ?_
 refine geC hL ?_
 clear hB hG hL L
 rintro u ⟨⟨-, hB, hG, -⟩, hx8⟩
 replace hx8 : Rn u x8 _ := hx8
 refine gtT ?_
 clear hN K
 refine sv hB hF hG 1 0 [_, _] ?_
 intro u hu hBG
 replace hx8 := hx8.put hB 1 rfl (by first | decide | simp) _ _ hu
 clear hB hG hu
 obtain ⟨hB, hG⟩ := hBG
 refine rt Tryz.results98 ?_
 exact ⟨x8, congrArg (fun y : Int => Ending.returned (riV x8 y)) (sgn_self z), hx8, hG⟩
set_option maxHeartbeats 400000 in
set_option maxRecDepth 100000 in
theorem hand_Out (q : Rat) (ha : qs q ≤ LIM) (w : World) : Calls Tryz.prog 58 #[qV q] w (Ret (ratR q) w) := by
 have h1 : bl q.num.natAbs ≤ LIM := Nat.le_trans (qs_num q) ha
 have h2 : bl q.den ≤ LIM := Nat.le_trans (qs_den q) ha
 have h3 : bl q.den ≤ 1099511627776 := by unfold LIM at h2; omega
 go_enter Tryz.func58, Tryz.ntmps58
 refine en2 ?_
 intro u hG b2 b1 hB hF
 refine wp_seq (rdC allocs [] [(0, 0), (0, 3), (1, 1), (1, 2), (1, 4), (1, 5), (0, 6)] hB hG fun K L hN hL => ?_)
 refine gs ?_
 refine gmw (C := fun v => frac_Num _ _) ?_
 refine grd (intR q.num) (fun (x5 : Ax) => ?_) (C := fun v _ => hand_OutInt q.num h1 _)
 refine gmd (C := by (rintro v ⟨⟨hgu, hB, hG, -⟩, hx5⟩; have hx5 : Rn v x5 _ := hx5; exact frac_Den _ (by assumption) _)) ?_
 refine grd (natR q.den) (fun (x8 : Ax) => ?_) (C := by (rintro v ⟨⟨hgu, hB, hG, -⟩, hx5⟩; have hx5 : Rn v x5 _ := hx5; exact hand_OutNat q.den h2 _))
 refine gs ?_
 refine geC hL ?_
 clear hB hG hL L
 rintro u ⟨⟨⟨-, hB, hG, -⟩, hx5⟩, hx8⟩
 replace hx5 : Rn u x5 _ := hx5
 replace hx8 : Rn u x8 _ := hx8
 refine gtT ?_
 clear hN K
 refine sv hB hF hG 1 0 [_, _, _] ?_
 intro u hu hBG
 replace hx5 := hx5.put hB 1 rfl (by first | decide | simp) _ _ hu
 replace hx8 := hx8.put hB 1 rfl (by first | decide | simp) _ _ hu
 clear hB hG hu
 obtain ⟨hB, hG⟩ := hBG
 refine rt Tryz.results58 ?_
 exact ⟨(x5, x8), rfl, ⟨hx5, hx8⟩, hG⟩
theorem NatCmp_same (x y : Ax) (a : Nat) (w : World) (hx : Rn w x a) (hy : Rn w y a) : Calls Tryz.prog 59 #[nvV x a, nvV y a] w fun e w' => e = .returned (.int .i64 0) ∧ Grow w w' := by
 have := ref1_NatCmp x y a a w hx hy
 rw [cmpN_eq rfl] at this
 exact this
set_option maxHeartbeats 1000000 in
set_option maxRecDepth 100000 in
theorem hand_Same (q : Rat) (x y : Ax) (ha : qs q ≤ LIM) (w : World) (hx : Rn w x q.num.natAbs) (hy : Rn w y q.den) : Calls Tryz.prog 26 #[qV q, rqV x y q] w fun e w' => e = .returned (.bool true) ∧ Grow w w' := by
 have hl : 0 < ln q.den := ln_pos.2 q.den_nz
 have hlb : ((ln q.den : Int) == 0) = false := by simp; omega
 go_enter Tryz.func26, Tryz.ntmps26
 refine en2 ?_
 intro u hG b3 b2 hB hF
 replace hx := hx.grow hG
 replace hy := hy.grow hG
 refine wp_seq (rsC allocs2 [0, 1, 2] hB hG fun K L hN hL => ?_)
 refine gs ?_
 refine grd (ratR q) (fun (x7 : Ax × Ax) => ?_) (C := fun v _ => hand_Out q ha _)
 refine gaa (newObj_RQ _ _ _ _ _) fun b5 hb5 hn5 => ?_
 replace hF := hF.n1 [] hB hG hb5 hn5
 refine geC hL ?_
 clear hB hG hL L
 rintro u ⟨⟨⟨hgu, hB, hG, -⟩, hx7⟩, h5⟩
 replace hB := hB.cons' h5
 clear h5
 replace hx := hx.grow hgu
 replace hy := hy.grow hgu
 obtain ⟨hx7a, hx7b⟩ : Rn u x7.1 _ ∧ Rn u x7.2 _ := hx7
 clear hb5 hn5
 clear hgu
 refine gtT ?_
 clear hN K
 refine sv hB hF hG 0 0 [_, _, _] ?_
 intro u hu hBG
 replace hx := hx.put hB 0 rfl (by first | decide | simp) _ _ hu
 replace hy := hy.put hB 0 rfl (by first | decide | simp) _ _ hu
 replace hx7a := hx7a.put hB 0 rfl (by first | decide | simp) _ _ hu
 replace hx7b := hx7b.put hB 0 rfl (by first | decide | simp) _ _ hu
 clear hB hG hu
 obtain ⟨hB, hG⟩ := hBG
 refine wp_seq ?_
 refine r0T ?_
 refine wp_cond_false (rfl) ?_
 refine wp_skip ?_
 refine then_norm ?_
 refine wp_seq (rsE allocs2 [0, 0, 0, 0, 0, 0, 1, 0, 0, 0, 0, 0, 0, 0, 0, 0, 0, 0, 0, 0, 0, 0, 1, 0, 0, 0] hB hG fun L hL => ?_)
 refine gs ?_
 refine gmd (C := fun v ⟨hgu, hB, hG, _⟩ => NatCmp_same x7.1 x q.num.natAbs _ (hx7a.grow hgu) (hx.grow hgu)) ?_
 refine gs ?_
 first | refine gmd (C := fun v ⟨hgu, hB, hG, _⟩ => NatCmp_same x7.2 y q.den _ (hx7b.grow hgu) (hy.grow hgu)) ?_ | refine gmna ?_
 refine gs ?_
 refine geT hL ?_
 clear hB hG hL L
 rintro u ⟨hgu, hB, hG, -⟩
 replace hx := hx.grow hgu
 replace hy := hy.grow hgu
 replace hx7a := hx7a.grow hgu
 replace hx7b := hx7b.grow hgu
 clear hgu
 refine rt Tryz.results26 ?_
 exact ⟨rfl, hG⟩
set_option maxHeartbeats 400000 in
set_option maxRecDepth 100000 in
theorem hand_Is (n d : Int) (h0 : -9223372036854775808 ≤ n) (h1 : n ≤ 9223372036854775807) (h2 : -9223372036854775808 ≤ d) (h3 : d ≤ 9223372036854775807) (hd : d ≠ 0) (ha : qs (qover n d) ≤ LIM) (w : World) : Calls Tryz.prog 46 #[qV (qover n d), .int .i64 n, .int .i64 d] w fun e w' => e = .returned (.bool true) ∧ Grow w w' := by
 go_enter Tryz.func46, Tryz.ntmps46
 refine en1 ?_
 intro u hG b3 hB hF
 refine wp_seq (rdC allocs [] [(0, 0), (0, 1), (0, 2), (1, 3), (1, 4)] hB hG fun K L hN hL => ?_)
 refine gs ?_
 refine grd (ratR (qover n d)) (fun (x10 : Ax × Ax) => ?_) (C := fun v _ => ref1_Over n d h0 h1 h2 h3 hd _)
 refine gmd (C := by (rintro v ⟨⟨hgu, hB, hG, -⟩, hx10⟩; obtain ⟨hx10a, hx10b⟩ : Rn v x10.1 _ ∧ Rn v x10.2 _ := hx10; exact hand_Same (qover n d) x10.1 x10.2 ha _ hx10a hx10b)) ?_
 refine geC hL ?_
 clear hB hG hL L
 rintro u ⟨⟨-, hB, hG, -⟩, hx10⟩
 obtain ⟨hx10a, hx10b⟩ : Rn u x10.1 _ ∧ Rn u x10.2 _ := hx10
 refine gtT ?_
 clear hN K
 refine rt Tryz.results46 ?_
 exact ⟨rfl, hG⟩
/-- any number as one of 0 to m - 1 -/
def pick (n m : Int) : Int := n % m
theorem pick_range (n : Int) {m : Int} (h : 0 < m) : 0 ≤ pick n m ∧ pick n m < m := ⟨Int.emod_nonneg _ (by omega), Int.emod_lt_of_pos _ h⟩
set_option maxHeartbeats 400000 in
theorem hand_Pick (n m : Int) (hm : 0 < m) (hm2 : m ≤ 9223372036854775807) (w : World) : Calls Tryz.prog 14 #[.int .i64 n, .int .i64 m] w fun e w' => e = .returned (.int .i64 (pick n m)) ∧ w = w' := by
 have h0 : ¬ m = 0 := by omega
 obtain ⟨t, ht⟩ : ∃ t, t = n.tmod m := ⟨_, rfl⟩
 have hp : pick n m = if t < 0 then t + m else t := by
  rw [ht]
  unfold pick
  have h1 := Int.emod_nonneg n (show m ≠ 0 by omega)
  have h2 := Int.emod_lt_of_pos n hm
  rw [Int.tmod_eq_emod]
  split <;> split <;> omega
 have hb : -m < t ∧ t < m := by
  rw [ht]
  have h1 := Int.emod_nonneg n (show m ≠ 0 by omega)
  have h2 := Int.emod_lt_of_pos n hm
  rw [Int.tmod_eq_emod]
  split <;> omega
 have htm : n.tmod m = t := ht.symm
 have hw1 : IntKind.i64.wrap t = t := IntWalk.i64_in _ (by omega)
 clear ht
 by_cases hneg : t < 0
 ·rw [if_pos hneg] at hp
  have hw2 : IntKind.i64.wrap (t + m) = t + m := IntWalk.i64_in _ (by omega)
  have Hp := Lib.hid hp
  clear hp
  go_enter Tryz.func14, Tryz.ntmps14
  go_wp2_with fail
  go_ret
  exact ⟨ret_i64 Hp.out.symm, rfl⟩
 ·rw [if_neg hneg] at hp
  have Hp := Lib.hid hp
  clear hp
  go_enter Tryz.func14, Tryz.ntmps14
  go_wp2_with fail
  go_ret
  exact ⟨ret_i64 Hp.out.symm, rfl⟩
end Go.Proofs.YtjmopgepnndckaaGreatDoor
