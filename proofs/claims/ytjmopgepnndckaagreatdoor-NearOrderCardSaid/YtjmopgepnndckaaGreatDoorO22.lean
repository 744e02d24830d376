/-
  Contracts and laws: FracB.
-/
import Derived.Test.YtjmopgepnndckaaGreatDoorO21
set_option linter.unusedSimpArgs false
set_option linter.unusedVariables false
namespace Go.Proofs.YtjmopgepnndckaaGreatDoor
open Go.RowKit
/-- the operations under names that simp does not open -/
def qadd (a b : Rat) : Rat := a + b
def qsub (a b : Rat) : Rat := a - b
def qmul (a b : Rat) : Rat := a * b
def qdiv (a b : Rat) : Rat := a / b
def qneg (a : Rat) : Rat := -a
def qint (n : Int) : Rat := (n : Rat)
def nz (d : Int) : Bool := decide (d ≠ 0)
def nzq (q : Rat) : Bool := decide (q ≠ 0)
def qover (n d : Int) : Rat := Rat.divInt n d
theorem qint_num (n : Int) : (qint n).num = n := Rat.num_intCast n
theorem qint_den (n : Int) : (qint n).den = 1 := Rat.den_intCast n
--! frac_Of = frac_Of _ SIDE SIDE _
set_option maxHeartbeats 400000 in
set_option maxRecDepth 100000 in
theorem frac_Of (n : Int) (h0 : -9223372036854775808 ≤ n) (h1 : n ≤ 9223372036854775807) (w : World) : Calls Tryz.prog 35 #[.int .i64 n] w fun e w' => e = .returned (qV (qint n)) ∧ Grow w w' := by
 go_enter Tryz.func35, Tryz.ntmps35
 refine en1 ?_
 intro u hG b2 hB hF
 refine wp_seq (rsC allocs [0, 1, 0] hB hG fun K L hN hL => ?_)
 refine gs ?_
 refine gmw (C := fun v => whole_Of _ (by assumption) (by assumption) _) ?_
 refine gs ?_
 refine geC hL ?_
 clear hB hG hL L
 rintro u ⟨-, hB, hG, -⟩
 refine gtT ?_
 clear hN K
 refine st hB hF hG 0 0 [_, _, _, _, _] ?_
 clear hB hG
 intro u hB hG
 refine rt Tryz.results35 ?_
 exact ⟨ret_nqV (d := 1) (qint_num n) (qint_den n), hG⟩
theorem over_pos (n d : Int) (h : ¬ d < 0) : qover n d = mkRat n d.natAbs := by
 obtain ⟨m, rfl⟩ : ∃ m : Nat, d = (m : Int) := ⟨d.natAbs, by omega⟩
 unfold qover
 rw [Rat.divInt_ofNat, Int.natAbs_natCast]
theorem over_neg (n d : Int) (h : d < 0) : qover n d = mkRat (zneg n) d.natAbs := by
 obtain ⟨m, rfl⟩ : ∃ m : Nat, d = -(m : Int) := ⟨d.natAbs, by omega⟩
 unfold qover zneg
 rw [Rat.divInt_neg', Rat.divInt_ofNat, Int.natAbs_neg, Int.natAbs_natCast]
theorem bl_zneg (z : Int) : bl (zneg z).natAbs = bl z.natAbs := by unfold zneg; rw [Int.natAbs_neg]
theorem ret_qb {p q : Rat} {a b : Bool} (h : p = q) (h' : a = b) : Ending.returned (.tuple #[qV p, .bool a]) = .returned (.tuple #[qV q, .bool b]) := by rw [h, h']
--! frac_Make = frac_Make _ _ SIDE SIDE _ (HT.grow hG)
set_option maxHeartbeats 1000000 in
set_option maxRecDepth 100000 in
theorem frac_Make (n d : Int) (hn : bl n.natAbs ≤ BIG) (hd : bl d.natAbs ≤ BIG) (w : World) (HT : Tab w) : Calls Tryz.prog 77 #[intV n, intV d] w fun e w' => e = .returned (.tuple #[qV (qover n d), .bool (nz d)]) ∧ Grow w w' := by
 have hn' := fits_most hn
 have hd' := fits_most hd
 have hz : bl (zneg n).natAbs ≤ BIG := by rw [bl_zneg]; exact hn
 go_enter Tryz.func77, Tryz.ntmps77
 refine en3 ?_
 intro u hG b4 b3 b2 hB hF
 refine wp_seq ?_
 refine wp_seq (rsE allocs [0, 1, 0] hB hG fun L hL => ?_)
 refine gs ?_
 refine gmw (C := fun v => whole_Sign _ (by assumption) _) ?_
 refine gs ?_
 refine geT hL ?_
 clear hB hG hL L
 rintro u ⟨-, hB, hG, -⟩
 refine wp_cond_split rfl ?_ ?_
 ·intro ht
  have ht8 := ht
  refine r0T ?_
  refine st hB hF hG 2 0 [_, _, _, _, _] ?_
  clear hB hG
  intro u hB hG
  refine rt Tryz.results77 ?_
  have e : d = 0 := by simpa using ht
  subst e
  exact ⟨ret_qb (p := 0) (by unfold qover; rw [Rat.divInt_zero]) rfl, hG⟩
 ·intro ht
  have ht8 := ht
  have hd0 : d.natAbs ≠ 0 := fun e => by
   have : d = 0 := by omega
   rw [this] at ht
   simp at ht
  refine wp_skip ?_
  refine then_norm ?_
  refine wp_seq ?_
  refine wp_seq (rsE allocs [0, 1, 0] hB hG fun L hL => ?_)
  refine gs ?_
  refine gmw (C := fun v => whole_Sign _ (by assumption) _) ?_
  refine gs ?_
  refine geT hL ?_
  clear hB hG hL L
  rintro u ⟨-, hB, hG, -⟩
  refine wp_cond_split rfl ?_ ?_
  ·intro ht
   have ht12 := ht
   refine rsC allocs [0, 1] hB hG fun K L hN hL => ?_
   refine gs ?_
   refine gmw (C := fun v => whole_Neg _ (by assumption) _) ?_
   refine geC hL ?_
   clear hB hG hL L
   rintro u ⟨-, hB, hG, -⟩
   refine gtT ?_
   clear hN K
   refine st hB hF hG 0 0 [_, _, _] ?_
   clear hB hG
   intro u hB hG
   refine wp_seq (rdC allocs [] [(0, 0), (0, 1), (1, 2), (1, 3)] hB hG fun K L hN hL => ?_)
   refine gs ?_
   refine gmw (C := fun v => whole_Abs _ _) ?_
   refine gmd (C := fun v ⟨hgu, hB, hG, _⟩ => frac_lowest _ _ (by assumption) (by assumption) (by assumption) _ (HT.grow hG)) ?_
   refine geC hL ?_
   clear hB hG hL L
   rintro u ⟨-, hB, hG, -⟩
   refine gtT ?_
   clear hN K
   refine st hB hF hG 2 0 [_, _, _, _, _] ?_
   clear hB hG
   intro u hB hG
   refine rt Tryz.results77 ?_
   have e : d < 0 := by simpa using ht
   exact ⟨ret_qb (over_neg n d e).symm (decide_eq_true (by omega)).symm, hG⟩
  ·intro ht
   have ht12 := ht
   refine wp_skip ?_
   refine then_norm ?_
   refine wp_seq (rdC allocs [] [(0, 0), (0, 1), (1, 2), (1, 3)] hB hG fun K L hN hL => ?_)
   refine gs ?_
   refine gmw (C := fun v => whole_Abs _ _) ?_
   refine gmd (C := fun v ⟨hgu, hB, hG, _⟩ => frac_lowest _ _ (by assumption) (by assumption) (by assumption) _ (HT.grow hG)) ?_
   refine geC hL ?_
   clear hB hG hL L
   rintro u ⟨-, hB, hG, -⟩
   refine gtT ?_
   clear hN K
   refine st hB hF hG 2 0 [_, _, _, _, _] ?_
   clear hB hG
   intro u hB hG
   refine rt Tryz.results77 ?_
   have e : ¬ d < 0 := by simpa using ht
   exact ⟨ret_qb (over_pos n d e).symm (decide_eq_true (by omega)).symm, hG⟩
theorem bl_i64 {n : Int} (h0 : -9223372036854775808 ≤ n) (h1 : n ≤ 9223372036854775807) : bl n.natAbs ≤ BIG := by
 refine Nat.le_trans (bl_le.2 ?_) BIG_ge
 have : (2 : Nat) ^ 64 = 18446744073709551616 := rfl
 omega
--! frac_Neg = frac_Neg _ SIDE _
set_option maxHeartbeats 400000 in
set_option maxRecDepth 100000 in
theorem frac_Neg (q : Rat) (h : bl q.num.natAbs ≤ 1099511627776) (w : World) : Calls Tryz.prog 148 #[qV q] w fun e w' => e = .returned (qV (qneg q)) ∧ Grow w w' := by
 go_enter Tryz.func148, Tryz.ntmps148
 refine en2 ?_
 intro u hG b2 b1 hB hF
 refine wp_seq (rdC allocs [] [(0, 0), (0, 1), (0, 3), (0, 4), (1, 2), (0, 5)] hB hG fun K L hN hL => ?_)
 refine gs ?_
 refine gmw (C := fun v => whole_Neg _ (by assumption) _) ?_
 refine gs ?_
 refine geC hL ?_
 clear hB hG hL L
 rintro u ⟨-, hB, hG, -⟩
 refine gtT ?_
 clear hN K
 refine st hB hF hG 1 0 [_, _, _, _, _] ?_
 clear hB hG
 intro u hB hG
 refine rt Tryz.results148 ?_
 exact ⟨ret_nqV (Rat.neg_num q) (Rat.neg_den q), hG⟩
theorem isWhole_t (q : Rat) (h : bl q.den ≤ 1099511627776) (h1 : q.den = 1) (w : World) : Calls Tryz.prog 83 #[qV q] w fun e w' => e = .returned (.bool true) ∧ Grow w w' := by
 have := frac_isWhole q h w
 rw [decide_eq_true h1] at this
 exact this
theorem isWhole_f (q : Rat) (h : bl q.den ≤ 1099511627776) (h1 : ¬ q.den = 1) (w : World) : Calls Tryz.prog 83 #[qV q] w fun e w' => e = .returned (.bool false) ∧ Grow w w' := by
 have := frac_isWhole q h w
 rw [decide_eq_false h1] at this
 exact this
section
variable (a b : Rat) (w : World)
set_option maxHeartbeats 1000000 in
set_option maxRecDepth 100000 in
theorem frac_Cmp_ww (h : qs a + qs b + 1 ≤ BIG) (ha1 : a.den = 1) (hb1 : b.den = 1) : Calls Tryz.prog 45 #[qV a, qV b] w fun e w' => e = .returned (.int .i64 (cmpQ a b)) ∧ Grow w w' := by
 have hB40 := BIG_le
 have h1 : bl a.num.natAbs ≤ 1099511627776 := by have := qs_num a; omega
 have h2 : bl b.num.natAbs ≤ 1099511627776 := by have := qs_num b; omega
 have h3 : bl a.den ≤ 1099511627776 := by have := qs_den a; omega
 have h4 : bl b.den ≤ 1099511627776 := by have := qs_den b; omega
 have Ha1 := Lib.hid ha1
 have Hb1 := Lib.hid hb1
 clear ha1 hb1
 go_enter Tryz.func45, Tryz.ntmps45
 refine en2 ?_
 intro u hG b3 b2 hB hF
 refine wp_seq ?_
 refine wp_seq (rdC allocs [] [(0, 0), (1, 1), (0, 2), (0, 3), (1, 4), (0, 5), (0, 6), (0, 7), (0, 9), (1, 8), (1, 10), (0, 11)] hB hG fun K L hN hL => ?_)
 refine gs ?_
 refine gmw (C := fun v => isWhole_t a h3 Ha1.out _) ?_
 refine gs ?_
 first | refine gmw (C := fun v => isWhole_t b h4 Hb1.out _) ?_ | refine gmna ?_
 refine gs ?_
 first | refine gmw (C := fun v => frac_Sign _ (by assumption) _) ?_ | refine gmna ?_
 first | refine gmw (C := fun v => frac_Sign _ (by assumption) _) ?_ | refine gmna ?_
 refine gs ?_
 refine geC hL ?_
 clear hB hG hL L
 rintro u ⟨-, hB, hG, -⟩
 refine gtT ?_
 clear hN K
 refine wp_cond_true (rfl) ?_
 refine wp_seq (rsE allocs [0, 0, 0, 0, 1, 0] hB hG fun L hL => ?_)
 refine gs ?_
 refine gmw (C := fun v => whole_Cmp _ _ (by assumption) (by assumption) _) ?_
 refine gs ?_
 refine geT hL ?_
 clear hB hG hL L
 rintro u ⟨-, hB, hG, -⟩
 refine rt Tryz.results45 ?_
 exact ⟨ret_i64 (cmpQ_whole Ha1.out Hb1.out).symm, hG⟩
set_option maxHeartbeats 2000000 in
set_option maxRecDepth 100000 in
theorem frac_Cmp_wn (h : qs a + qs b + 1 ≤ BIG) (ha1 : a.den = 1) (hb1 : ¬ b.den = 1) : Calls Tryz.prog 45 #[qV a, qV b] w fun e w' => e = .returned (.int .i64 (cmpQ a b)) ∧ Grow w w' := by
 have hB40 := BIG_le
 have h1 : bl a.num.natAbs ≤ 1099511627776 := by have := qs_num a; omega
 have h2 : bl b.num.natAbs ≤ 1099511627776 := by have := qs_num b; omega
 have h3 : bl a.den ≤ 1099511627776 := by have := qs_den a; omega
 have h4 : bl b.den ≤ 1099511627776 := by have := qs_den b; omega
 have h5 : bl a.num.natAbs + bl b.den ≤ 1099511627776 := by have := qs_num a; have := qs_den b; omega
 have h6 : bl b.num.natAbs + bl a.den ≤ 1099511627776 := by have := qs_num b; have := qs_den a; omega
 have h7 : bl (ztm a.num b.den).natAbs ≤ 1099511627776 := by unfold ztm; rw [Int.natAbs_mul]; exact Nat.le_trans (bl_mul_le _ _) h5
 have h8 : bl (ztm b.num a.den).natAbs ≤ 1099511627776 := by unfold ztm; rw [Int.natAbs_mul]; exact Nat.le_trans (bl_mul_le _ _) h6
 have Ha1 := Lib.hid ha1
 have Hb1 := Lib.hid hb1
 clear ha1 hb1
 go_enter Tryz.func45, Tryz.ntmps45
 refine en2 ?_
 intro u hG b3 b2 hB hF
 refine wp_seq ?_
 refine wp_seq (rdC allocs [] [(0, 0), (1, 1), (0, 2), (0, 3), (1, 4), (0, 5), (0, 6), (0, 7), (0, 9), (1, 8), (1, 10), (0, 11)] hB hG fun K L hN hL => ?_)
 refine gs ?_
 refine gmw (C := fun v => isWhole_t a h3 Ha1.out _) ?_
 refine gs ?_
 first | refine gmw (C := fun v => isWhole_f b h4 Hb1.out _) ?_ | refine gmna ?_
 refine gs ?_
 first | refine gmw (C := fun v => frac_Sign _ (by assumption) _) ?_ | refine gmna ?_
 first | refine gmw (C := fun v => frac_Sign _ (by assumption) _) ?_ | refine gmna ?_
 refine gs ?_
 refine geC hL ?_
 clear hB hG hL L
 rintro u ⟨-, hB, hG, -⟩
 refine gtT ?_
 clear hN K
 refine wp_cond_split rfl ?_ ?_
 ·intro ht
  have ht17 := ht
  refine wp_seq (rsE allocs [0, 0, 0, 0, 1, 0] hB hG fun L hL => ?_)
  refine gs ?_
  refine gmw (C := fun v => whole_Cmp _ _ (by assumption) (by assumption) _) ?_
  refine gs ?_
  refine geT hL ?_
  clear hB hG hL L
  rintro u ⟨-, hB, hG, -⟩
  refine rt Tryz.results45 ?_
  exact ⟨ret_i64 (cmpQ_sign (by simpa using ht)).symm, hG⟩
 ·intro ht
  have ht17 := ht
  refine wp_skip ?_
  refine then_norm ?_
  refine wp_seq (rdC allocs [] [(0, 0), (0, 1), (0, 2), (0, 5), (0, 6), (0, 7), (1, 3), (1, 4), (1, 8), (1, 9), (1, 10)] hB hG fun K L hN hL => ?_)
  refine gs ?_
  refine gmw (C := fun v => frac_Den _ (by assumption) _) ?_
  refine gmw (C := fun v => frac_times _ _ (by assumption) _) ?_
  refine gmw (C := fun v => frac_Den _ (by assumption) _) ?_
  refine gmw (C := fun v => frac_times _ _ (by assumption) _) ?_
  refine gmw (C := fun v => whole_Cmp _ _ (by assumption) (by assumption) _) ?_
  refine geC hL ?_
  clear hB hG hL L
  rintro u ⟨-, hB, hG, -⟩
  refine gtT ?_
  clear hN K
  refine rt Tryz.results45 ?_
  exact ⟨ret_i64 (cmpQ_cross a b).symm, hG⟩
set_option maxHeartbeats 2000000 in
set_option maxRecDepth 100000 in
theorem frac_Cmp_n (h : qs a + qs b + 1 ≤ BIG) (ha1 : ¬ a.den = 1) : Calls Tryz.prog 45 #[qV a, qV b] w fun e w' => e = .returned (.int .i64 (cmpQ a b)) ∧ Grow w w' := by
 have hB40 := BIG_le
 have h1 : bl a.num.natAbs ≤ 1099511627776 := by have := qs_num a; omega
 have h2 : bl b.num.natAbs ≤ 1099511627776 := by have := qs_num b; omega
 have h3 : bl a.den ≤ 1099511627776 := by have := qs_den a; omega
 have h4 : bl b.den ≤ 1099511627776 := by have := qs_den b; omega
 have h5 : bl a.num.natAbs + bl b.den ≤ 1099511627776 := by have := qs_num a; have := qs_den b; omega
 have h6 : bl b.num.natAbs + bl a.den ≤ 1099511627776 := by have := qs_num b; have := qs_den a; omega
 have h7 : bl (ztm a.num b.den).natAbs ≤ 1099511627776 := by unfold ztm; rw [Int.natAbs_mul]; exact Nat.le_trans (bl_mul_le _ _) h5
 have h8 : bl (ztm b.num a.den).natAbs ≤ 1099511627776 := by unfold ztm; rw [Int.natAbs_mul]; exact Nat.le_trans (bl_mul_le _ _) h6
 have Ha1 := Lib.hid ha1
 clear ha1
 go_enter Tryz.func45, Tryz.ntmps45
 refine en2 ?_
 intro u hG b3 b2 hB hF
 refine wp_seq ?_
 refine wp_seq (rdC allocs [] [(0, 0), (1, 1), (0, 2), (0, 3), (1, 4), (0, 5), (0, 6), (0, 7), (0, 9), (1, 8), (1, 10), (0, 11)] hB hG fun K L hN hL => ?_)
 refine gs ?_
 refine gmw (C := fun v => isWhole_f a h3 Ha1.out _) ?_
 refine gs ?_
 first | refine gmw (C := fun v => isWhole_f a h3 Ha1.out _) ?_ | refine gmna ?_
 refine gs ?_
 first | refine gmw (C := fun v => frac_Sign _ (by assumption) _) ?_ | refine gmna ?_
 first | refine gmw (C := fun v => frac_Sign _ (by assumption) _) ?_ | refine gmna ?_
 refine gs ?_
 refine geC hL ?_
 clear hB hG hL L
 rintro u ⟨-, hB, hG, -⟩
 refine gtT ?_
 clear hN K
 refine wp_cond_split rfl ?_ ?_
 ·intro ht
  have ht17 := ht
  refine wp_seq (rsE allocs [0, 0, 0, 0, 1, 0] hB hG fun L hL => ?_)
  refine gs ?_
  refine gmw (C := fun v => whole_Cmp _ _ (by assumption) (by assumption) _) ?_
  refine gs ?_
  refine geT hL ?_
  clear hB hG hL L
  rintro u ⟨-, hB, hG, -⟩
  refine rt Tryz.results45 ?_
  exact ⟨ret_i64 (cmpQ_sign (by simpa using ht)).symm, hG⟩
 ·intro ht
  have ht17 := ht
  refine wp_skip ?_
  refine then_norm ?_
  refine wp_seq (rdC allocs [] [(0, 0), (0, 1), (0, 2), (0, 5), (0, 6), (0, 7), (1, 3), (1, 4), (1, 8), (1, 9), (1, 10)] hB hG fun K L hN hL => ?_)
  refine gs ?_
  refine gmw (C := fun v => frac_Den _ (by assumption) _) ?_
  refine gmw (C := fun v => frac_times _ _ (by assumption) _) ?_
  refine gmw (C := fun v => frac_Den _ (by assumption) _) ?_
  refine gmw (C := fun v => frac_times _ _ (by assumption) _) ?_
  refine gmw (C := fun v => whole_Cmp _ _ (by assumption) (by assumption) _) ?_
  refine geC hL ?_
  clear hB hG hL L
  rintro u ⟨-, hB, hG, -⟩
  refine gtT ?_
  clear hN K
  refine rt Tryz.results45 ?_
  exact ⟨ret_i64 (cmpQ_cross a b).symm, hG⟩
--! frac_Cmp = frac_Cmp _ _ _ SIDE
theorem frac_Cmp (h : qs a + qs b + 1 ≤ BIG) : Calls Tryz.prog 45 #[qV a, qV b] w fun e w' => e = .returned (.int .i64 (cmpQ a b)) ∧ Grow w w' := by
 by_cases ha1 : a.den = 1
 ·by_cases hb1 : b.den = 1
  ·exact frac_Cmp_ww a b w h ha1 hb1
  ·exact frac_Cmp_wn a b w h ha1 hb1
 ·exact frac_Cmp_n a b w h ha1
theorem whole_is (q : Rat) (h : q.den = 1) : q = (q.num : Rat) := Rat.ext (Rat.num_intCast _).symm (by rw [h]; exact (Rat.den_intCast _).symm)
set_option maxHeartbeats 1000000 in
set_option maxRecDepth 100000 in
theorem frac_Add_ww (h : qs a + qs b + 1 ≤ BIG) (ha1 : a.den = 1) (hb1 : b.den = 1) : Calls Tryz.prog 122 #[qV a, qV b] w fun e w' => e = .returned (qV (qadd a b)) ∧ Grow w w' := by
 have hB40 := BIG_le
 have h1 : bl a.num.natAbs < 1099511627776 := by have := qs_num a; omega
 have h2 : bl b.num.natAbs < 1099511627776 := by have := qs_num b; have := qs_pos a; omega
 have h3 : bl a.den ≤ 1099511627776 := by have := qs_den a; omega
 have h4 : bl b.den ≤ 1099511627776 := by have := qs_den b; omega
 have e : qadd a b = ((a.num + b.num : Int) : Rat) := by
  unfold qadd
  rw [Rat.intCast_add, ← whole_is a ha1, ← whole_is b hb1]
 have e1 : (qadd a b).num = zadd a.num b.num := by rw [e, Rat.num_intCast]; rfl
 have e2 : (qadd a b).den = 1 := by rw [e, Rat.den_intCast]
 have He := Lib.hid (And.intro e1 e2)
 clear e e1 e2
 have Ha1 := Lib.hid ha1
 have Hb1 := Lib.hid hb1
 clear ha1 hb1
 go_enter Tryz.func122, Tryz.ntmps122
 refine en3 ?_
 intro u hG b4 b3 b2 hB hF
 refine wp_seq ?_
 refine wp_seq (rsE allocs [0, 1, 0, 0, 1, 0] hB hG fun L hL => ?_)
 refine gs ?_
 refine gmw (C := fun v => isWhole_t a h3 Ha1.out _) ?_
 refine gs ?_
 first | refine gmw (C := fun v => isWhole_t b h4 Hb1.out _) ?_ | refine gmna ?_
 refine gs ?_
 refine geT hL ?_
 clear hB hG hL L
 rintro u ⟨-, hB, hG, -⟩
 refine wp_cond_true (rfl) ?_
 refine wp_seq (rsC allocs [0, 0, 0, 0, 1, 0] hB hG fun K L hN hL => ?_)
 refine gs ?_
 refine gmw (C := fun v => whole_Add _ _ (by assumption) (by assumption) _) ?_
 refine gs ?_
 refine geC hL ?_
 clear hB hG hL L
 rintro u ⟨-, hB, hG, -⟩
 refine gtT ?_
 clear hN K
 refine st hB hF hG 2 0 [_, _, _, _, _] ?_
 clear hB hG
 intro u hB hG
 refine rt Tryz.results122 ?_
 exact ⟨ret_nqV He.out.1 He.out.2, hG⟩
theorem add_sizes (h : qs a + qs b + 1 ≤ BIG) : bl (Nat.gcd a.den b.den) ≤ BIG ∧ Nat.gcd a.den b.den ≠ 0 ∧ bl a.den ≤ BIG ∧ bl b.den ≤ BIG ∧ bl a.num.natAbs + bl (b.den / Nat.gcd a.den b.den) ≤ 1099511627776 ∧ bl b.num.natAbs + bl (a.den / Nat.gcd a.den b.den) ≤ 1099511627776 ∧
  bl (ztm a.num (b.den / Nat.gcd a.den b.den)).natAbs < 1099511627776 ∧ bl (ztm b.num (a.den / Nat.gcd a.den b.den)).natAbs < 1099511627776 ∧ bl (zadd (ztm a.num (b.den / Nat.gcd a.den b.den)) (ztm b.num (a.den / Nat.gcd a.den b.den))).natAbs ≤ BIG ∧
  bl (Nat.gcd (zadd (ztm a.num (b.den / Nat.gcd a.den b.den)) (ztm b.num (a.den / Nat.gcd a.den b.den))).natAbs (Nat.gcd a.den b.den)) ≤ BIG ∧ Nat.gcd (zadd (ztm a.num (b.den / Nat.gcd a.den b.den)) (ztm b.num (a.den / Nat.gcd a.den b.den))).natAbs (Nat.gcd a.den b.den) ≠ 0 := by
 have hB40 := BIG_le
 have s1 := qs_num a
 have s2 := qs_den a
 have s3 := qs_num b
 have s4 := qs_den b
 have s5 := bl_div_le b.den (Nat.gcd a.den b.den)
 have s6 := bl_div_le a.den (Nat.gcd a.den b.den)
 have g0 : Nat.gcd a.den b.den ≠ 0 := fun e => a.den_nz (Nat.eq_zero_of_gcd_eq_zero_left e)
 have g1 := bl_gcd_le a.den b.den a.den_nz
 have up : bl (upOf a b).natAbs ≤ qs a + qs b + 1 := bl_up a b
 have m1 : bl (ztm a.num (b.den / Nat.gcd a.den b.den)).natAbs ≤ bl a.num.natAbs + bl (b.den / Nat.gcd a.den b.den) := by unfold ztm; rw [Int.natAbs_mul]; exact bl_mul_le _ _
 have m2 : bl (ztm b.num (a.den / Nat.gcd a.den b.den)).natAbs ≤ bl b.num.natAbs + bl (a.den / Nat.gcd a.den b.den) := by unfold ztm; rw [Int.natAbs_mul]; exact bl_mul_le _ _
 refine ⟨by omega, g0, by omega, by omega, by omega, by omega, by omega, by omega, Nat.le_trans up h, Nat.le_trans (bl_gcd_le' _ _ g0) (by omega), fun e => g0 (Nat.eq_zero_of_gcd_eq_zero_right e)⟩
end
end Go.Proofs.YtjmopgepnndckaaGreatDoor
