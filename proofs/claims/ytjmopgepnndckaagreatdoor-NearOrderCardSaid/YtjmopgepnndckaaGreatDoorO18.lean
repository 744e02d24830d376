/-
  Contracts and laws: WholeA.
-/
import Derived.Test.YtjmopgepnndckaaGreatDoorO17
set_option linter.unusedSimpArgs false
set_option linter.unusedVariables false
namespace Go.Proofs.YtjmopgepnndckaaGreatDoor
open Go.RowKit
/-- the operations under names that simp does not open -/
def zneg (z : Int) : Int := -z
def zadd (a b : Int) : Int := a + b
def zmul (a b : Int) : Int := a * b
def ztd (a : Int) (b : Nat) : Int := a.tdiv b
def ztm (a : Int) (b : Nat) : Int := a * b
def sgn (neg : Bool) (a : Nat) : Int := if neg then -(a : Int) else a
theorem sgn_abs (neg : Bool) (a : Nat) : (sgn neg a).natAbs = a := by unfold sgn; split <;> omega
theorem sgn_false (a : Nat) : sgn false a = a := rfl
theorem sgn_true (a : Nat) : sgn true a = -(a : Int) := rfl
theorem intNeg_sgn (neg : Bool) (a : Nat) : intNeg (sgn neg a) = (neg && decide (a ≠ 0)) := by
 unfold intNeg sgn
 cases neg
 ·simp
 ·rw [Bool.eq_iff_iff]; simp; omega
theorem intV_sgn (neg : Bool) (a : Nat) : intV (sgn neg a) = .agg #[.bool (neg && decide (a ≠ 0)), .int .u64 (natLo a), .string (natMo a)] := by
 unfold intV; rw [intNeg_sgn, sgn_abs]
theorem sgn_self (z : Int) : sgn (intNeg z) z.natAbs = z := by
 unfold sgn intNeg
 split
 ·rename_i h; have := of_decide_eq_true h; omega
 ·rename_i h; have : ¬ z < 0 := fun h' => h (decide_eq_true h'); omega
set_option maxHeartbeats 400000 in
set_option maxRecDepth 100000 in
theorem whole_From_no (a : Nat) (w : World) : Calls Tryz.prog 79 #[.bool false, natV a] w fun e w' => e = .returned (intV (sgn false a)) ∧ Grow w w' := by
 rw [intV_sgn, Bool.false_and]
 go_enter Tryz.func79, Tryz.ntmps79
 refine en2 ?_
 intro u hG b4 b3 hB hF
 refine wp_seq (rdC allocs [] [(0, 0), (0, 1), (0, 2), (0, 6), (1, 3), (0, 4), (0, 5), (0, 7)] hB hG fun K L hN hL => ?_)
 refine gs ?_
 first | refine gmw (C := fun v => nat_Bits _ (by assumption) _) ?_ | refine gmna ?_
 refine gs ?_
 refine geC hL ?_
 clear hB hG hL L
 rintro u ⟨-, hB, hG, -⟩
 refine gtT ?_
 clear hN K
 refine st hB hF hG 1 0 [_, _, _] ?_
 clear hB hG
 intro u hB hG
 refine rt Tryz.results79 ?_
 exact ⟨rfl, hG⟩
set_option maxHeartbeats 400000 in
set_option maxRecDepth 100000 in
theorem whole_From_yes (a : Nat) (ha : bl a ≤ 1099511627776) (w : World) : Calls Tryz.prog 79 #[.bool true, natV a] w fun e w' => e = .returned (intV (sgn true a)) ∧ Grow w w' := by
 rw [intV_sgn, Bool.true_and]
 have hd : decide (a ≠ 0) = decide (0 < bl a) := by
  have := @bl_pos a
  rw [decide_eq_decide]; exact this.symm
 rw [hd]
 clear hd
 go_enter Tryz.func79, Tryz.ntmps79
 refine en2 ?_
 intro u hG b4 b3 hB hF
 refine wp_seq (rdC allocs [] [(0, 0), (0, 1), (0, 2), (0, 6), (1, 3), (0, 4), (0, 5), (0, 7)] hB hG fun K L hN hL => ?_)
 refine gs ?_
 first | refine gmw (C := fun v => nat_Bits _ (by assumption) _) ?_ | refine gmna ?_
 refine gs ?_
 refine geC hL ?_
 clear hB hG hL L
 rintro u ⟨-, hB, hG, -⟩
 refine gtT ?_
 clear hN K
 refine st hB hF hG 1 0 [_, _, _] ?_
 clear hB hG
 intro u hB hG
 refine rt Tryz.results79 ?_
 exact ⟨rfl, hG⟩
--! whole_From = whole_From _ _ SIDE _
theorem whole_From (neg : Bool) (a : Nat) (ha : bl a ≤ 1099511627776) (w : World) : Calls Tryz.prog 79 #[.bool neg, natV a] w fun e w' => e = .returned (intV (sgn neg a)) ∧ Grow w w' := by
 cases neg
 ·exact whole_From_no a w
 ·exact whole_From_yes a ha w
--! whole_Abs = whole_Abs _ _
set_option maxHeartbeats 400000 in
theorem whole_Abs (z : Int) (w : World) : Calls Tryz.prog 118 #[intV z] w fun e w' => e = .returned (natV z.natAbs) ∧ Grow w w' := by
 go_enter Tryz.func118, Tryz.ntmps118
 refine en2 ?_
 intro u hG b2 b1 hB hF
 refine r0T ?_
 refine st hB hF hG 1 0 [_, _] ?_
 clear hB hG
 intro u hB hG
 refine rt Tryz.results118 ?_
 exact ⟨rfl, hG⟩
theorem ret_intV {x y : Int} (h : x = y) : Ending.returned (intV x) = .returned (intV y) := by rw [h]
set_option maxHeartbeats 400000 in
set_option maxRecDepth 100000 in
theorem whole_Of_neg (n : Int) (h0 : n < 0) (h1 : -9223372036854775808 ≤ n) (w : World) : Calls Tryz.prog 67 #[.int .i64 n] w fun e w' => e = .returned (intV n) ∧ Grow w w' := by
 have hw1 : IntKind.u64.wrap n = n + 18446744073709551616 := by
  simp [IntKind.wrap, IntKind.signed, IntKind.bits]; omega
 have hw2 : IntKind.u64.wrap (-(n + 18446744073709551616)) = (n.natAbs : Nat) := by
  simp [IntKind.wrap, IntKind.signed, IntKind.bits]; omega
 have hlt : n.natAbs < W64 := by unfold W64; omega
 have hd : decide (n < 0) = true := by simpa using h0
 have hn : intNeg n = true := by unfold intNeg; exact hd
 go_enter Tryz.func67, Tryz.ntmps67
 refine en1 ?_
 intro u hG b2 hB hF
 refine wp_seq ?_
 refine r0T ?_
 refine wp_cond_true (rfl) ?_
 refine wp_seq (rsC allocs [0, 0, 0, 1, 0] hB hG fun K L hN hL => ?_)
 refine gs ?_
 refine gmw (C := fun v => nat_Of _ (by assumption) _) ?_
 refine gs ?_
 refine geC hL ?_
 clear hB hG hL L
 rintro u ⟨-, hB, hG, -⟩
 refine gtT ?_
 clear hN K
 refine st hB hF hG 0 0 [_, _, _] ?_
 clear hB hG
 intro u hB hG
 refine rt Tryz.results67 ?_
 exact ⟨by rw [intV, hn], hG⟩
set_option maxHeartbeats 400000 in
set_option maxRecDepth 100000 in
theorem whole_Of_pos (n : Int) (h0 : 0 ≤ n) (h1 : n ≤ 9223372036854775807) (w : World) : Calls Tryz.prog 67 #[.int .i64 n] w fun e w' => e = .returned (intV n) ∧ Grow w w' := by
 have hw1 : IntKind.u64.wrap n = (n.natAbs : Nat) := by
  simp [IntKind.wrap, IntKind.signed, IntKind.bits]; omega
 have hlt : n.natAbs < W64 := by unfold W64; omega
 have hd : decide (n < 0) = false := by simpa using h0
 have hn : intNeg n = false := by unfold intNeg; exact hd
 go_enter Tryz.func67, Tryz.ntmps67
 refine en1 ?_
 intro u hG b2 hB hF
 refine wp_seq ?_
 refine r0T ?_
 refine wp_cond_false (rfl) ?_
 refine wp_skip ?_
 refine then_norm ?_
 refine wp_seq (rsC allocs [0, 0, 1, 0] hB hG fun K L hN hL => ?_)
 refine gs ?_
 refine gmw (C := fun v => nat_Of _ (by assumption) _) ?_
 refine gs ?_
 refine geC hL ?_
 clear hB hG hL L
 rintro u ⟨-, hB, hG, -⟩
 refine gtT ?_
 clear hN K
 refine st hB hF hG 0 0 [_, _, _] ?_
 clear hB hG
 intro u hB hG
 refine rt Tryz.results67 ?_
 exact ⟨by rw [intV, hn], hG⟩
--! whole_Of = whole_Of _ SIDE SIDE _
theorem whole_Of (n : Int) (h0 : -9223372036854775808 ≤ n) (h1 : n ≤ 9223372036854775807) (w : World) : Calls Tryz.prog 67 #[.int .i64 n] w fun e w' => e = .returned (intV n) ∧ Grow w w' := by
 by_cases h : n < 0
 ·exact whole_Of_neg n h h0 w
 ·exact whole_Of_pos n (by omega) h1 w
--! whole_Sign = whole_Sign _ SIDE _
set_option maxHeartbeats 400000 in
set_option maxRecDepth 100000 in
theorem whole_Sign (z : Int) (ha : bl z.natAbs ≤ 1099511627776) (w : World) : Calls Tryz.prog 115 #[intV z] w fun e w' => e = .returned (.int .i64 z.sign) ∧ Grow w w' := by
 go_enter Tryz.func115, Tryz.ntmps115
 refine en1 ?_
 intro u hG b1 hB hF
 refine wp_seq ?_
 refine wp_block ?_
 refine r0T ?_
 refine wp_cond_split rfl ?_ ?_
 ·intro ht
  have ht3 := ht
  refine r0T ?_
  refine rt Tryz.results115 ?_
  have h : z < 0 := of_decide_eq_true ht
  exact ⟨ret_i64 (Int.sign_eq_neg_one_of_neg h).symm, hG⟩
 ·intro ht
  have ht3 := ht
  refine wp_seq (rsE allocs [0, 0, 1, 0, 0] hB hG fun L hL => ?_)
  refine gs ?_
  refine gmw (C := fun v => nat_Bits _ (by assumption) _) ?_
  refine gs ?_
  refine geT hL ?_
  clear hB hG hL L
  rintro u ⟨-, hB, hG, -⟩
  refine wp_cond_split rfl ?_ ?_
  ·intro ht
   have ht6 := ht
   refine r0T ?_
   refine rt Tryz.results115 ?_
   have h : ¬ z < 0 := of_decide_eq_false ht3
   have h2 : 0 < bl z.natAbs := by simpa using ht
   have h3 := bl_pos.1 h2
   exact ⟨ret_i64 (Int.sign_eq_one_of_pos (by omega)).symm, hG⟩
  ·intro ht
   have ht6 := ht
   refine wp_skip ?_
   refine blk_norm ?_
   refine then_norm ?_
   refine r0T ?_
   refine rt Tryz.results115 ?_
   have h : ¬ z < 0 := of_decide_eq_false ht3
   have h2 : ¬ 0 < bl z.natAbs := by simpa using ht
   have h3 : z = 0 := by have := @bl_pos z.natAbs; omega
   exact ⟨ret_i64 (by rw [h3]; rfl), hG⟩
theorem neg_sgn (z : Int) : sgn (!intNeg z) z.natAbs = -z := by
 unfold sgn intNeg
 by_cases h : z < 0 <;> simp [h] <;> omega
--! whole_Neg = whole_Neg _ SIDE _
set_option maxHeartbeats 400000 in
set_option maxRecDepth 100000 in
theorem whole_Neg (z : Int) (ha : bl z.natAbs ≤ 1099511627776) (w : World) : Calls Tryz.prog 116 #[intV z] w fun e w' => e = .returned (intV (zneg z)) ∧ Grow w w' := by
 go_enter Tryz.func116, Tryz.ntmps116
 refine en2 ?_
 intro u hG b2 b1 hB hF
 refine wp_seq (rsC allocs [0, 0, 0, 0, 0, 1] hB hG fun K L hN hL => ?_)
 refine gs ?_
 refine gmw (C := fun v => whole_From _ _ (by assumption) _) ?_
 refine geC hL ?_
 clear hB hG hL L
 rintro u ⟨-, hB, hG, -⟩
 refine gtT ?_
 clear hN K
 refine st hB hF hG 1 0 [_, _, _] ?_
 clear hB hG
 intro u hB hG
 refine rt Tryz.results116 ?_
 exact ⟨ret_intV (neg_sgn z), hG⟩
theorem mul_sgn (a b : Int) : sgn (intNeg a != intNeg b) (a.natAbs * b.natAbs) = a * b := by
 have h1 := sgn_self a
 have h2 := sgn_self b
 revert h1 h2
 generalize intNeg a = p
 generalize intNeg b = q
 generalize a.natAbs = x
 generalize b.natAbs = y
 rintro rfl rfl
 cases p <;> cases q <;> simp [sgn, Int.neg_mul, Int.mul_neg]
--! whole_Mul = whole_Mul _ _ SIDE _
set_option maxHeartbeats 400000 in
set_option maxRecDepth 100000 in
theorem whole_Mul (a b : Int) (hab : bl a.natAbs + bl b.natAbs ≤ 1099511627776) (w : World) : Calls Tryz.prog 124 #[intV a, intV b] w fun e w' => e = .returned (intV (zmul a b)) ∧ Grow w w' := by
 have h1 : bl a.natAbs ≤ 1099511627776 := by omega
 have h2 : bl b.natAbs ≤ 1099511627776 := by omega
 have h3 : bl (a.natAbs * b.natAbs) ≤ 1099511627776 := Nat.le_trans (bl_mul_le _ _) hab
 go_enter Tryz.func124, Tryz.ntmps124
 refine en3 ?_
 intro u hG b4 b3 b2 hB hF
 refine wp_seq (rdC allocs [] [(0, 0), (0, 1), (0, 2), (0, 3), (0, 4), (0, 5), (0, 6), (0, 7), (0, 8), (1, 9), (1, 10)] hB hG fun K L hN hL => ?_)
 refine gs ?_
 refine gmw (C := fun v => nat_Mul _ _ (by assumption) (by assumption) _) ?_
 refine gmw (C := fun v => whole_From _ _ (by assumption) _) ?_
 refine geC hL ?_
 clear hB hG hL L
 rintro u ⟨-, hB, hG, -⟩
 refine gtT ?_
 clear hN K
 refine st hB hF hG 2 0 [_, _, _] ?_
 clear hB hG
 intro u hB hG
 refine rt Tryz.results124 ?_
 exact ⟨ret_intV (mul_sgn a b), hG⟩
def cmpZ (a b : Int) : Int := if a < b then -1 else if b < a then 1 else 0
theorem cmpZ_neg {a b : Int} (ha : a < 0) (hb : b < 0) : cmpN b.natAbs a.natAbs = cmpZ a b := by
 unfold cmpN cmpZ; split <;> split <;> first | rfl | omega | skip
 all_goals split <;> (try split) <;> omega
theorem cmpZ_pos {a b : Int} (ha : ¬ a < 0) (hb : ¬ b < 0) : cmpN a.natAbs b.natAbs = cmpZ a b := by
 unfold cmpN cmpZ; split <;> split <;> first | rfl | omega | skip
 all_goals split <;> (try split) <;> omega
set_option maxHeartbeats 1000000 in
set_option maxRecDepth 100000 in
theorem whole_Cmp_nn (a b : Int) (hb : bl b.natAbs ≤ 1099511627776) (n1 : a < 0) (w : World) : Calls Tryz.prog 84 #[intV a, intV b] w fun e w' => e = .returned (.int .i64 (cmpZ a b)) ∧ Grow w w' := by
 have g1 : intNeg a = true := decide_eq_true n1
 go_enter Tryz.func84, Tryz.ntmps84
 refine en2 ?_
 intro u hG b3 b2 hB hF
 refine wp_seq ?_
 refine wp_block ?_
 refine r0T ?_
 refine wp_cond_split rfl ?_ ?_
 ·intro ht
  have ht5 := ht
  refine wp_seq (rsE allocs [0, 0, 0, 0, 1, 0] hB hG fun L hL => ?_)
  refine gs ?_
  refine gmw (C := fun v => nat_Cmp _ _ (by assumption) _) ?_
  refine gs ?_
  refine geT hL ?_
  clear hB hG hL L
  rintro u ⟨-, hB, hG, -⟩
  refine rt Tryz.results84 ?_
  exact ⟨ret_i64 (cmpZ_neg n1 (of_decide_eq_true ht)), hG⟩
 ·intro ht
  have ht5 := ht
  refine r0T ?_
  refine wp_cond_true (rfl) ?_
  refine r0T ?_
  refine rt Tryz.results84 ?_
  have n2 : ¬ b < 0 := of_decide_eq_false ht5
  exact ⟨ret_i64 (by unfold cmpZ; rw [if_pos (by omega)]), hG⟩
set_option maxHeartbeats 1000000 in
set_option maxRecDepth 100000 in
theorem whole_Cmp_pp (a b : Int) (ha : bl a.natAbs ≤ 1099511627776) (n1 : ¬ a < 0) (w : World) : Calls Tryz.prog 84 #[intV a, intV b] w fun e w' => e = .returned (.int .i64 (cmpZ a b)) ∧ Grow w w' := by
 have g1 : intNeg a = false := decide_eq_false n1
 replace n1 := Int.not_lt.1 n1
 go_enter Tryz.func84, Tryz.ntmps84
 refine en2 ?_
 intro u hG b3 b2 hB hF
 refine wp_seq ?_
 refine wp_block ?_
 refine r0T ?_
 refine wp_cond_false (rfl) ?_
 refine r0T ?_
 refine wp_cond_false (rfl) ?_
 refine r0T ?_
 refine wp_cond_split rfl ?_ ?_
 ·intro ht
  have ht20 := ht
  refine r0T ?_
  refine rt Tryz.results84 ?_
  have n2 : b < 0 := of_decide_eq_true ht
  exact ⟨ret_i64 (by unfold cmpZ; rw [if_neg (by omega), if_pos (by omega)]), hG⟩
 ·intro ht
  have ht20 := ht
  refine wp_skip ?_
  refine blk_norm ?_
  refine then_norm ?_
  refine wp_seq (rsE allocs [0, 0, 0, 0, 1, 0] hB hG fun L hL => ?_)
  refine gs ?_
  refine gmw (C := fun v => nat_Cmp _ _ (by assumption) _) ?_
  refine gs ?_
  refine geT hL ?_
  clear hB hG hL L
  rintro u ⟨-, hB, hG, -⟩
  refine rt Tryz.results84 ?_
  exact ⟨ret_i64 (cmpZ_pos (by omega) (of_decide_eq_false ht20)), hG⟩
--! whole_Cmp = whole_Cmp _ _ SIDE SIDE _
theorem whole_Cmp (a b : Int) (ha : bl a.natAbs ≤ 1099511627776) (hb : bl b.natAbs ≤ 1099511627776) (w : World) : Calls Tryz.prog 84 #[intV a, intV b] w fun e w' => e = .returned (.int .i64 (cmpZ a b)) ∧ Grow w w' := by
 by_cases h : a < 0
 ·exact whole_Cmp_nn a b hb h w
 ·exact whole_Cmp_pp a b ha h w
--! nat_Sub = nat_SubAny _ _ SIDE _
theorem nat_SubAny (a b : Nat) (ha : bl a ≤ 1099511627776) (w : World) : Calls Tryz.prog 189 #[natV a, natV b] w fun e w' => e = .returned (.tuple #[natV (a - b), .bool (decide (b ≤ a))]) ∧ Grow w w' := by
 by_cases h : b ≤ a
 ·rw [decide_eq_true h]; exact nat_Sub a b ha h w
 ·rw [decide_eq_false h, Nat.sub_eq_zero_of_le (by omega)]; exact nat_Sub_no a b ha (by omega) w
theorem add_same {a b : Int} (h : intNeg a = intNeg b) : sgn (intNeg a) (a.natAbs + b.natAbs) = a + b := by
 have h1 := sgn_self a
 have h2 := sgn_self b
 rw [← h] at h2
 revert h1 h2
 clear h
 generalize intNeg a = p
 generalize a.natAbs = x
 generalize b.natAbs = y
 rintro rfl rfl
 cases p <;> simp [sgn] <;> omega
theorem add_fst {a b : Int} (h : ¬ intNeg a = intNeg b) (hle : b.natAbs ≤ a.natAbs) : sgn (intNeg a) (a.natAbs - b.natAbs) = a + b := by
 have h1 := sgn_self a
 have h2 := sgn_self b
 revert h1 h2 h hle
 generalize intNeg a = p
 generalize intNeg b = q
 generalize a.natAbs = x
 generalize b.natAbs = y
 intro h hle
 rintro rfl rfl
 revert h
 cases p <;> cases q <;> simp [sgn] <;> omega
theorem add_snd {a b : Int} (h : ¬ intNeg a = intNeg b) (hle : ¬ b.natAbs ≤ a.natAbs) : sgn (intNeg b) (b.natAbs - a.natAbs) = a + b := by
 rw [add_fst (a := b) (b := a) (fun e => h e.symm) (by omega), Int.add_comm]
set_option maxHeartbeats 1000000 in
set_option maxRecDepth 100000 in
--! whole_Add = whole_Add _ _ SIDE SIDE _
theorem whole_Add (a b : Int) (ha : bl a.natAbs < 1099511627776) (hb : bl b.natAbs < 1099511627776) (w : World) : Calls Tryz.prog 158 #[intV a, intV b] w fun e w' => e = .returned (intV (zadd a b)) ∧ Grow w w' := by
 have h1 : bl a.natAbs ≤ 1099511627776 := by omega
 have h2 : bl b.natAbs ≤ 1099511627776 := by omega
 have h3 : bl (a.natAbs + b.natAbs) ≤ 1099511627776 := Nat.le_trans (bl_add_le _ _) (by omega)
 have h4 : bl (a.natAbs - b.natAbs) ≤ 1099511627776 := Nat.le_trans (bl_sub_le _ _) h1
 have h5 : bl (b.natAbs - a.natAbs) ≤ 1099511627776 := Nat.le_trans (bl_sub_le _ _) h2
 go_enter Tryz.func158, Tryz.ntmps158
 refine en3 ?_
 intro u hG b4 b3 b2 hB hF
 refine wp_seq ?_
 refine r0T ?_
 refine wp_cond_split rfl ?_ ?_
 ·intro ht
  have ht13 := ht
  refine wp_seq (rdC allocs [] [(0, 0), (0, 1), (0, 2), (0, 3), (0, 4), (0, 5), (1, 6), (1, 7)] hB hG fun K L hN hL => ?_)
  refine gs ?_
  refine gmw (C := fun v => nat_Add _ _ (by assumption) (by assumption) _) ?_
  refine gmw (C := fun v => whole_From _ _ (by assumption) _) ?_
  refine geC hL ?_
  clear hB hG hL L
  rintro u ⟨-, hB, hG, -⟩
  refine gtT ?_
  clear hN K
  refine st hB hF hG 2 0 [_, _, _] ?_
  clear hB hG
  intro u hB hG
  refine rt Tryz.results158 ?_
  exact ⟨ret_intV (add_same (by simpa using ht)), hG⟩
 ·intro ht
  have ht13 := ht
  refine wp_skip ?_
  refine then_norm ?_
  refine wp_seq ?_
  refine wp_seq (rsC allocs [0, 0, 0, 0, 1, 0, 0, 0, 2] hB hG fun K L hN hL => ?_)
  refine gs ?_
  refine gmw (C := fun v => nat_SubAny _ _ (by assumption) _) ?_
  refine gs ?_
  refine gaa (newObj_Nat _ _ _ _ _) fun b5 hb5 hn5 => ?_
  replace hF := hF.n1 [] hB hG hb5 hn5
  refine geC hL ?_
  clear hB hG hL L
  rintro u ⟨⟨-, hB, hG, -⟩, h5⟩
  replace hB := hB.cons' h5
  clear h5
  clear hb5 hn5
  refine gtT ?_
  clear hN K
  refine st hB hF hG 0 0 [_, _] ?_
  clear hB hG
  intro u hB hG
  refine r0T ?_
  refine wp_cond_split rfl ?_ ?_
  ·intro ht
   have ht30 := ht
   refine wp_seq (rsC allocs [0, 0, 0, 1] hB hG fun K L hN hL => ?_)
   refine gs ?_
   refine gmw (C := fun v => whole_From _ _ (by assumption) _) ?_
   refine geC hL ?_
   clear hB hG hL L
   rintro u ⟨-, hB, hG, -⟩
   refine gtT ?_
   clear hN K
   refine st hB hF hG 3 0 [_, _, _] ?_
   clear hB hG
   intro u hB hG
   refine rt Tryz.results158 ?_
   exact ⟨ret_intV (add_fst (by simpa using ht13) (by simpa using ht)), hG⟩
  ·intro ht
   have ht30 := ht
   refine wp_skip ?_
   refine then_norm ?_
   refine wp_seq (rsC allocs [0, 0, 0, 0, 1, 0, 0, 0, 2] hB hG fun K L hN hL => ?_)
   refine gs ?_
   refine gmw (C := fun v => nat_SubAny _ _ (by assumption) _) ?_
   refine gs ?_
   refine gaa (newObj_Nat _ _ _ _ _) fun b7 hb7 hn7 => ?_
   replace hF := hF.n1 [] hB hG hb7 hn7
   refine geC hL ?_
   clear hB hG hL L
   rintro u ⟨⟨-, hB, hG, -⟩, h7⟩
   replace hB := hB.cons' h7
   clear h7
   clear hb7 hn7
   refine gtT ?_
   clear hN K
   refine st hB hF hG 0 0 [_, _] ?_
   clear hB hG
   intro u hB hG
   refine wp_seq (rsC allocs [0, 0, 0, 1] hB hG fun K L hN hL => ?_)
   refine gs ?_
   refine gmw (C := fun v => whole_From _ _ (by assumption) _) ?_
   refine geC hL ?_
   clear hB hG hL L
   rintro u ⟨-, hB, hG, -⟩
   refine gtT ?_
   clear hN K
   refine st hB hF hG 4 0 [_, _, _] ?_
   clear hB hG
   intro u hB hG
   refine rt Tryz.results158 ?_
   exact ⟨ret_intV (add_snd (by simpa using ht13) (by simpa using ht)), hG⟩
end Go.Proofs.YtjmopgepnndckaaGreatDoor
