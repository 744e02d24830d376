/- Contracts and laws. -/
import Derived.Test.YtjmopgepnndckaaGreatDoorC17
set_option linter.unusedSimpArgs false
set_option linter.unusedVariables false
set_option maxHeartbeats 1000000
set_option maxRecDepth 100000
namespace Go.Proofs.YtjmopgepnndckaaGreatDoor
open Go.RowKit
def K6 (z : Int) : Int := -z
def V6 (a b : Int) : Int := a + b
def Q0 (a b : Int) : Int := a * b
def ztd (a : Int) (b : Nat) : Int := a.tdiv b
def ztm (a : Int) (b : Nat) : Int := a * b
def sgn (neg : Bool) (a : Nat) : Int := if neg then -(a : Int) else a
theorem O2 (neg : Bool) (a : Nat) : (sgn neg a).natAbs = a := by unfold sgn; split <;> omega
theorem B1z (a : Nat) : sgn false a = a := rfl
theorem A9o (a : Nat) : sgn true a = -(a : Int) := rfl
theorem A53 (neg : Bool) (a : Nat) : D3 (sgn neg a) = (neg && decide (a ≠ 0)) := by
 unfold D3 sgn
 cases neg
 ·simp
 ·rw [Bool.eq_iff_iff]; simp; omega
theorem A4w (neg : Bool) (a : Nat) : C9 (sgn neg a) = .agg #[.bool (neg && decide (a ≠ 0)), .int .u64 (B1 a), .string (A9 a)] := by
 unfold C9; rw [A53, O2]
theorem X8 (z : Int) : sgn (D3 z) z.natAbs = z := by
 unfold sgn D3
 split
 ·rename_i h; have := of_decide_eq_true h; omega
 ·rename_i h; have : ¬ z < 0 := fun h' => h (decide_eq_true h'); omega
theorem B2E (a : Nat) (w : World) : Calls Tryz.prog 79 #[.bool false, A8 a] w fun e w' => e = .returned (C9 (sgn false a)) ∧ A3 w w' := by
 rw [A4w, Bool.false_and]
 go_enter Tryz.func79, Tryz.ntmps79
 refine en2 ?_
 intro u hG b4 b3 hB hF
 refine wp_seq (rdC A6 [] [(0, 0), (0, 1), (0, 2), (0, 6), (1, 3), (0, 4), (0, 5), (0, 7)] hB hG fun K L hN hL => ?_)
 refine gs ?_
 first | refine gmw (C := fun v => I3 _ (by assumption) _) ?_ | refine F2 ?_
 refine gs ?_
 refine geC hL ?_
 clear hB hG hL L
 rintro u ⟨-, hB, hG, -⟩
 refine gtT ?_
 clear hN K
 refine st hB hF hG 1 0 [_, _, _] ?_
 clear hB hG
 intro u hB hG
 refine rt Tryz.results79 ?_
 exact ⟨rfl, hG⟩
theorem B21 (a : Nat) (ha : bl a ≤ 1099511627776) (w : World) : Calls Tryz.prog 79 #[.bool true, A8 a] w fun e w' => e = .returned (C9 (sgn true a)) ∧ A3 w w' := by
 rw [A4w, Bool.true_and]
 have hd : decide (a ≠ 0) = decide (0 < bl a) := by
  have := @M6 a
  rw [decide_eq_decide]; exact this.symm
 rw [hd]
 clear hd
 go_enter Tryz.func79, Tryz.ntmps79
 refine en2 ?_
 intro u hG b4 b3 hB hF
 refine wp_seq (rdC A6 [] [(0, 0), (0, 1), (0, 2), (0, 6), (1, 3), (0, 4), (0, 5), (0, 7)] hB hG fun K L hN hL => ?_)
 refine gs ?_
 first | refine gmw (C := fun v => I3 _ (by assumption) _) ?_ | refine F2 ?_
 refine gs ?_
 refine geC hL ?_
 clear hB hG hL L
 rintro u ⟨-, hB, hG, -⟩
 refine gtT ?_
 clear hN K
 refine st hB hF hG 1 0 [_, _, _] ?_
 clear hB hG
 intro u hB hG
 refine rt Tryz.results79 ?_
 exact ⟨rfl, hG⟩
theorem M4 (neg : Bool) (a : Nat) (ha : bl a ≤ 1099511627776) (w : World) : Calls Tryz.prog 79 #[.bool neg, A8 a] w fun e w' => e = .returned (C9 (sgn neg a)) ∧ A3 w w' := by
 cases neg
 ·exact B2E a w
 ·exact B21 a ha w
theorem A1e (z : Int) (w : World) : Calls Tryz.prog 118 #[C9 z] w fun e w' => e = .returned (A8 z.natAbs) ∧ A3 w w' := by
 go_enter Tryz.func118, Tryz.ntmps118
 refine en2 ?_
 intro u hG b2 b1 hB hF
 refine r0T ?_
 refine st hB hF hG 1 0 [_, _] ?_
 clear hB hG
 intro u hB hG
 refine rt Tryz.results118 ?_
 exact ⟨rfl, hG⟩
theorem A0J {x y : Int} (h : x = y) : Ending.returned (C9 x) = .returned (C9 y) := by rw [h]
theorem B1f (n : Int) (h0 : n < 0) (h1 : -9223372036854775808 ≤ n) (w : World) : Calls Tryz.prog 67 #[.int .i64 n] w fun e w' => e = .returned (C9 n) ∧ A3 w w' := by
 have hw1 : IntKind.u64.wrap n = n + 18446744073709551616 := by
  simp [IntKind.wrap, IntKind.signed, IntKind.bits]; omega
 have hw2 : IntKind.u64.wrap (-(n + 18446744073709551616)) = (n.natAbs : Nat) := by
  simp [IntKind.wrap, IntKind.signed, IntKind.bits]; omega
 have hlt : n.natAbs < W64 := by unfold W64; omega
 have hd : decide (n < 0) = true := by simpa using h0
 have hn : D3 n = true := by unfold D3; exact hd
 go_enter Tryz.func67, Tryz.ntmps67
 refine en1 ?_
 intro u hG b2 hB hF
 refine wp_seq ?_
 refine r0T ?_
 refine wp_cond_true (rfl) ?_
 refine wp_seq (rsC A6 [0, 0, 0, 1, 0] hB hG fun K L hN hL => ?_)
 refine gs ?_
 refine gmw (C := fun v => A1T _ (by assumption) _) ?_
 refine gs ?_
 refine geC hL ?_
 clear hB hG hL L
 rintro u ⟨-, hB, hG, -⟩
 refine gtT ?_
 clear hN K
 refine st hB hF hG 0 0 [_, _, _] ?_
 clear hB hG
 intro u hB hG
 refine rt Tryz.results67 ?_
 exact ⟨by rw [C9, hn], hG⟩
theorem B1m (n : Int) (h0 : 0 ≤ n) (h1 : n ≤ 9223372036854775807) (w : World) : Calls Tryz.prog 67 #[.int .i64 n] w fun e w' => e = .returned (C9 n) ∧ A3 w w' := by
 have hw1 : IntKind.u64.wrap n = (n.natAbs : Nat) := by
  simp [IntKind.wrap, IntKind.signed, IntKind.bits]; omega
 have hlt : n.natAbs < W64 := by unfold W64; omega
 have hd : decide (n < 0) = false := by simpa using h0
 have hn : D3 n = false := by unfold D3; exact hd
 go_enter Tryz.func67, Tryz.ntmps67
 refine en1 ?_
 intro u hG b2 hB hF
 refine wp_seq ?_
 refine r0T ?_
 refine wp_cond_false (rfl) ?_
 refine wp_skip ?_
 refine A4 ?_
 refine wp_seq (rsC A6 [0, 0, 1, 0] hB hG fun K L hN hL => ?_)
 refine gs ?_
 refine gmw (C := fun v => A1T _ (by assumption) _) ?_
 refine gs ?_
 refine geC hL ?_
 clear hB hG hL L
 rintro u ⟨-, hB, hG, -⟩
 refine gtT ?_
 clear hN K
 refine st hB hF hG 0 0 [_, _, _] ?_
 clear hB hG
 intro u hB hG
 refine rt Tryz.results67 ?_
 exact ⟨by rw [C9, hn], hG⟩
theorem B2v (n : Int) (h0 : -9223372036854775808 ≤ n) (h1 : n ≤ 9223372036854775807) (w : World) : Calls Tryz.prog 67 #[.int .i64 n] w fun e w' => e = .returned (C9 n) ∧ A3 w w' := by
 by_cases h : n < 0
 ·exact B1f n h h0 w
 ·exact B1m n (by omega) h1 w
theorem A1J (z : Int) (ha : bl z.natAbs ≤ 1099511627776) (w : World) : Calls Tryz.prog 115 #[C9 z] w fun e w' => e = .returned (.int .i64 z.sign) ∧ A3 w w' := by
 go_enter Tryz.func115, Tryz.ntmps115
 refine en1 ?_
 intro u hG b1 hB hF
 refine wp_seq ?_
 refine wp_block ?_
 refine r0T ?_
 refine wp_cond_split rfl ?_ ?_
 ·intro ht
  have ht3 := ht
  refine r0T ?_
  refine rt Tryz.results115 ?_
  have h : z < 0 := of_decide_eq_true ht
  exact ⟨G0 (Int.sign_eq_neg_one_of_neg h).symm, hG⟩
 ·intro ht
  have ht3 := ht
  refine wp_seq (rsE A6 [0, 0, 1, 0, 0] hB hG fun L hL => ?_)
  refine gs ?_
  refine gmw (C := fun v => I3 _ (by assumption) _) ?_
  refine gs ?_
  refine geT hL ?_
  clear hB hG hL L
  rintro u ⟨-, hB, hG, -⟩
  refine wp_cond_split rfl ?_ ?_
  ·intro ht
   have ht6 := ht
   refine r0T ?_
   refine rt Tryz.results115 ?_
   have h : ¬ z < 0 := of_decide_eq_false ht3
   have h2 : 0 < bl z.natAbs := by simpa using ht
   have h3 := M6.1 h2
   exact ⟨G0 (Int.sign_eq_one_of_pos (by omega)).symm, hG⟩
  ·intro ht
   have ht6 := ht
   refine wp_skip ?_
   refine D2 ?_
   refine A4 ?_
   refine r0T ?_
   refine rt Tryz.results115 ?_
   have h : ¬ z < 0 := of_decide_eq_false ht3
   have h2 : ¬ 0 < bl z.natAbs := by simpa using ht
   have h3 : z = 0 := by have := @M6 z.natAbs; omega
   exact ⟨G0 (by rw [h3]; rfl), hG⟩
theorem A7A (z : Int) : sgn (!D3 z) z.natAbs = -z := by
 unfold sgn D3
 by_cases h : z < 0 <;> simp [h] <;> omega
theorem A5a (z : Int) (ha : bl z.natAbs ≤ 1099511627776) (w : World) : Calls Tryz.prog 116 #[C9 z] w fun e w' => e = .returned (C9 (K6 z)) ∧ A3 w w' := by
 go_enter Tryz.func116, Tryz.ntmps116
 refine en2 ?_
 intro u hG b2 b1 hB hF
 refine wp_seq (rsC A6 [0, 0, 0, 0, 0, 1] hB hG fun K L hN hL => ?_)
 refine gs ?_
 refine gmw (C := fun v => M4 _ _ (by assumption) _) ?_
 refine geC hL ?_
 clear hB hG hL L
 rintro u ⟨-, hB, hG, -⟩
 refine gtT ?_
 clear hN K
 refine st hB hF hG 1 0 [_, _, _] ?_
 clear hB hG
 intro u hB hG
 refine rt Tryz.results116 ?_
 exact ⟨A0J (A7A z), hG⟩
theorem A6b (a b : Int) : sgn (D3 a != D3 b) (a.natAbs * b.natAbs) = a * b := by
 have h1 := X8 a
 have h2 := X8 b
 revert h1 h2
 generalize D3 a = p
 generalize D3 b = q
 generalize a.natAbs = x
 generalize b.natAbs = y
 rintro rfl rfl
 cases p <;> cases q <;> simp [sgn, Int.neg_mul, Int.mul_neg]
theorem A3D (a b : Int) (hab : bl a.natAbs + bl b.natAbs ≤ 1099511627776) (w : World) : Calls Tryz.prog 124 #[C9 a, C9 b] w fun e w' => e = .returned (C9 (Q0 a b)) ∧ A3 w w' := by
 have h1 : bl a.natAbs ≤ 1099511627776 := by omega
 have h2 : bl b.natAbs ≤ 1099511627776 := by omega
 have h3 : bl (a.natAbs * b.natAbs) ≤ 1099511627776 := Nat.le_trans (K8 _ _) hab
 go_enter Tryz.func124, Tryz.ntmps124
 refine en3 ?_
 intro u hG b4 b3 b2 hB hF
 refine wp_seq (rdC A6 [] [(0, 0), (0, 1), (0, 2), (0, 3), (0, 4), (0, 5), (0, 6), (0, 7), (0, 8), (1, 9), (1, 10)] hB hG fun K L hN hL => ?_)
 refine gs ?_
 refine gmw (C := fun v => A3T _ _ (by assumption) (by assumption) _) ?_
 refine gmw (C := fun v => M4 _ _ (by assumption) _) ?_
 refine geC hL ?_
 clear hB hG hL L
 rintro u ⟨-, hB, hG, -⟩
 refine gtT ?_
 clear hN K
 refine st hB hF hG 2 0 [_, _, _] ?_
 clear hB hG
 intro u hB hG
 refine rt Tryz.results124 ?_
 exact ⟨A0J (A6b a b), hG⟩
def I0 (a b : Int) : Int := if a < b then -1 else if b < a then 1 else 0
theorem A7O {a b : Int} (ha : a < 0) (hb : b < 0) : D7 b.natAbs a.natAbs = I0 a b := by
 unfold D7 I0; split <;> split <;> first | rfl | omega | skip
 all_goals split <;> (try split) <;> omega
theorem A8j {a b : Int} (ha : ¬ a < 0) (hb : ¬ b < 0) : D7 a.natAbs b.natAbs = I0 a b := by
 unfold D7 I0; split <;> split <;> first | rfl | omega | skip
 all_goals split <;> (try split) <;> omega
theorem A7g (a b : Int) (hb : bl b.natAbs ≤ 1099511627776) (n1 : a < 0) (w : World) : Calls Tryz.prog 84 #[C9 a, C9 b] w fun e w' => e = .returned (.int .i64 (I0 a b)) ∧ A3 w w' := by
 have g1 : D3 a = true := decide_eq_true n1
 go_enter Tryz.func84, Tryz.ntmps84
 refine en2 ?_
 intro u hG b3 b2 hB hF
 refine wp_seq ?_
 refine wp_block ?_
 refine r0T ?_
 refine wp_cond_split rfl ?_ ?_
 ·intro ht
  have ht5 := ht
  refine wp_seq (rsE A6 [0, 0, 0, 0, 1, 0] hB hG fun L hL => ?_)
  refine gs ?_
  refine gmw (C := fun v => P8 _ _ (by assumption) _) ?_
  refine gs ?_
  refine geT hL ?_
  clear hB hG hL L
  rintro u ⟨-, hB, hG, -⟩
  refine rt Tryz.results84 ?_
  exact ⟨G0 (A7O n1 (of_decide_eq_true ht)), hG⟩
 ·intro ht
  have ht5 := ht
  refine r0T ?_
  refine wp_cond_true (rfl) ?_
  refine r0T ?_
  refine rt Tryz.results84 ?_
  have n2 : ¬ b < 0 := of_decide_eq_false ht5
  exact ⟨G0 (by unfold I0; rw [if_pos (by omega)]), hG⟩
theorem A80 (a b : Int) (ha : bl a.natAbs ≤ 1099511627776) (n1 : ¬ a < 0) (w : World) : Calls Tryz.prog 84 #[C9 a, C9 b] w fun e w' => e = .returned (.int .i64 (I0 a b)) ∧ A3 w w' := by
 have g1 : D3 a = false := decide_eq_false n1
 replace n1 := Int.not_lt.1 n1
 go_enter Tryz.func84, Tryz.ntmps84
 refine en2 ?_
 intro u hG b3 b2 hB hF
 refine wp_seq ?_
 refine wp_block ?_
 refine r0T ?_
 refine wp_cond_false (rfl) ?_
 refine r0T ?_
 refine wp_cond_false (rfl) ?_
 refine r0T ?_
 refine wp_cond_split rfl ?_ ?_
 ·intro ht
  have ht20 := ht
  refine r0T ?_
  refine rt Tryz.results84 ?_
  have n2 : b < 0 := of_decide_eq_true ht
  exact ⟨G0 (by unfold I0; rw [if_neg (by omega), if_pos (by omega)]), hG⟩
 ·intro ht
  have ht20 := ht
  refine wp_skip ?_
  refine D2 ?_
  refine A4 ?_
  refine wp_seq (rsE A6 [0, 0, 0, 0, 1, 0] hB hG fun L hL => ?_)
  refine gs ?_
  refine gmw (C := fun v => P8 _ _ (by assumption) _) ?_
  refine gs ?_
  refine geT hL ?_
  clear hB hG hL L
  rintro u ⟨-, hB, hG, -⟩
  refine rt Tryz.results84 ?_
  exact ⟨G0 (A8j (by omega) (of_decide_eq_false ht20)), hG⟩
theorem A1N (a b : Int) (ha : bl a.natAbs ≤ 1099511627776) (hb : bl b.natAbs ≤ 1099511627776) (w : World) : Calls Tryz.prog 84 #[C9 a, C9 b] w fun e w' => e = .returned (.int .i64 (I0 a b)) ∧ A3 w w' := by
 by_cases h : a < 0
 ·exact A7g a b hb h w
 ·exact A80 a b ha h w
theorem A5b (a b : Nat) (ha : bl a ≤ 1099511627776) (w : World) : Calls Tryz.prog 189 #[A8 a, A8 b] w fun e w' => e = .returned (.tuple #[A8 (a - b), .bool (decide (b ≤ a))]) ∧ A3 w w' := by
 by_cases h : b ≤ a
 ·rw [decide_eq_true h]; exact B0a a b ha h w
 ·rw [decide_eq_false h, Nat.sub_eq_zero_of_le (by omega)]; exact A7Z a b ha (by omega) w
theorem A4n {a b : Int} (h : D3 a = D3 b) : sgn (D3 a) (a.natAbs + b.natAbs) = a + b := by
 have h1 := X8 a
 have h2 := X8 b
 rw [← h] at h2
 revert h1 h2
 clear h
 generalize D3 a = p
 generalize a.natAbs = x
 generalize b.natAbs = y
 rintro rfl rfl
 cases p <;> simp [sgn] <;> omega
theorem A37 {a b : Int} (h : ¬ D3 a = D3 b) (hle : b.natAbs ≤ a.natAbs) : sgn (D3 a) (a.natAbs - b.natAbs) = a + b := by
 have h1 := X8 a
 have h2 := X8 b
 revert h1 h2 h hle
 generalize D3 a = p
 generalize D3 b = q
 generalize a.natAbs = x
 generalize b.natAbs = y
 intro h hle
 rintro rfl rfl
 revert h
 cases p <;> cases q <;> simp [sgn] <;> omega
theorem A4Z {a b : Int} (h : ¬ D3 a = D3 b) (hle : ¬ b.natAbs ≤ a.natAbs) : sgn (D3 b) (b.natAbs - a.natAbs) = a + b := by
 rw [A37 (a := b) (b := a) (fun e => h e.symm) (by omega), Int.add_comm]
theorem A7C (a b : Int) (ha : bl a.natAbs < 1099511627776) (hb : bl b.natAbs < 1099511627776) (w : World) : Calls Tryz.prog 158 #[C9 a, C9 b] w fun e w' => e = .returned (C9 (V6 a b)) ∧ A3 w w' := by
 have h1 : bl a.natAbs ≤ 1099511627776 := by omega
 have h2 : bl b.natAbs ≤ 1099511627776 := by omega
 have h3 : bl (a.natAbs + b.natAbs) ≤ 1099511627776 := Nat.le_trans (A62 _ _) (by omega)
 have h4 : bl (a.natAbs - b.natAbs) ≤ 1099511627776 := Nat.le_trans (A48 _ _) h1
 have h5 : bl (b.natAbs - a.natAbs) ≤ 1099511627776 := Nat.le_trans (A48 _ _) h2
 go_enter Tryz.func158, Tryz.ntmps158
 refine en3 ?_
 intro u hG b4 b3 b2 hB hF
 refine wp_seq ?_
 refine r0T ?_
 refine wp_cond_split rfl ?_ ?_
 ·intro ht
  have ht13 := ht
  refine wp_seq (rdC A6 [] [(0, 0), (0, 1), (0, 2), (0, 3), (0, 4), (0, 5), (1, 6), (1, 7)] hB hG fun K L hN hL => ?_)
  refine gs ?_
  refine gmw (C := fun v => B16 _ _ (by assumption) (by assumption) _) ?_
  refine gmw (C := fun v => M4 _ _ (by assumption) _) ?_
  refine geC hL ?_
  clear hB hG hL L
  rintro u ⟨-, hB, hG, -⟩
  refine gtT ?_
  clear hN K
  refine st hB hF hG 2 0 [_, _, _] ?_
  clear hB hG
  intro u hB hG
  refine rt Tryz.results158 ?_
  exact ⟨A0J (A4n (by simpa using ht)), hG⟩
 ·intro ht
  have ht13 := ht
  refine wp_skip ?_
  refine A4 ?_
  refine wp_seq ?_
  refine wp_seq (rsC A6 [0, 0, 0, 0, 1, 0, 0, 0, 2] hB hG fun K L hN hL => ?_)
  refine gs ?_
  refine gmw (C := fun v => A5b _ _ (by assumption) _) ?_
  refine gs ?_
  refine gaa (G1 _ _ _ _ _) fun b5 hb5 hn5 => ?_
  replace hF := hF.n1 [] hB hG hb5 hn5
  refine geC hL ?_
  clear hB hG hL L
  rintro u ⟨⟨-, hB, hG, -⟩, h5⟩
  replace hB := hB.cons' h5
  clear h5
  clear hb5 hn5
  refine gtT ?_
  clear hN K
  refine st hB hF hG 0 0 [_, _] ?_
  clear hB hG
  intro u hB hG
  refine r0T ?_
  refine wp_cond_split rfl ?_ ?_
  ·intro ht
   have ht30 := ht
   refine wp_seq (rsC A6 [0, 0, 0, 1] hB hG fun K L hN hL => ?_)
   refine gs ?_
   refine gmw (C := fun v => M4 _ _ (by assumption) _) ?_
   refine geC hL ?_
   clear hB hG hL L
   rintro u ⟨-, hB, hG, -⟩
   refine gtT ?_
   clear hN K
   refine st hB hF hG 3 0 [_, _, _] ?_
   clear hB hG
   intro u hB hG
   refine rt Tryz.results158 ?_
   exact ⟨A0J (A37 (by simpa using ht13) (by simpa using ht)), hG⟩
  ·intro ht
   have ht30 := ht
   refine wp_skip ?_
   refine A4 ?_
   refine wp_seq (rsC A6 [0, 0, 0, 0, 1, 0, 0, 0, 2] hB hG fun K L hN hL => ?_)
   refine gs ?_
   refine gmw (C := fun v => A5b _ _ (by assumption) _) ?_
   refine gs ?_
   refine gaa (G1 _ _ _ _ _) fun b7 hb7 hn7 => ?_
   replace hF := hF.n1 [] hB hG hb7 hn7
   refine geC hL ?_
   clear hB hG hL L
   rintro u ⟨⟨-, hB, hG, -⟩, h7⟩
   replace hB := hB.cons' h7
   clear h7
   clear hb7 hn7
   refine gtT ?_
   clear hN K
   refine st hB hF hG 0 0 [_, _] ?_
   clear hB hG
   intro u hB hG
   refine wp_seq (rsC A6 [0, 0, 0, 1] hB hG fun K L hN hL => ?_)
   refine gs ?_
   refine gmw (C := fun v => M4 _ _ (by assumption) _) ?_
   refine geC hL ?_
   clear hB hG hL L
   rintro u ⟨-, hB, hG, -⟩
   refine gtT ?_
   clear hN K
   refine st hB hF hG 4 0 [_, _, _] ?_
   clear hB hG
   intro u hB hG
   refine rt Tryz.results158 ?_
   exact ⟨A0J (A4Z (by simpa using ht13) (by simpa using ht)), hG⟩
end Go.Proofs.YtjmopgepnndckaaGreatDoor
