/-
  Contracts and laws: WholeA.
-/
import Derived.Test.YtimjnkfcnpfoeaaGreatDoorV18
set_option linter.unusedSimpArgs false
set_option linter.unusedVariables false
namespace Go.Proofs.YtimjnkfcnpfoeaaGreatDoor
open Go.RowKit
/-- the operations under names that simp does not open -/
def zneg (z : Int) : Int := -z
def zadd (a b : Int) : Int := a + b
def zmul (a b : Int) : Int := a * b
def ztd (a : Int) (b : Nat) : Int := a.tdiv b
def ztm (a : Int) (b : Nat) : Int := a * b
def sgn (neg : Bool) (a : Nat) : Int := if neg then -(a : Int) else a
theorem sgn_abs (neg : Bool) (a : Nat) : (sgn neg a).natAbs = a := by unfold sgn; split <;> omega
theorem sgn_false (a : Nat) : sgn false a = a := rfl
theorem sgn_true (a : Nat) : sgn true a = -(a : Int) := rfl
theorem intNeg_sgn (neg : Bool) (a : Nat) : intNeg (sgn neg a) = (neg && decide (a ≠ 0)) := by
 unfold intNeg sgn
 cases neg
 ·simp
 ·rw [Bool.eq_iff_iff]; simp; omega
theorem intV_sgn (neg : Bool) (a : Nat) : intV (sgn neg a) = .agg #[.bool (neg && decide (a ≠ 0)), .int .u64 (natLo a), .string (natMo a)] := by
 unfold intV; rw [intNeg_sgn, sgn_abs]
theorem sgn_self (z : Int) : sgn (intNeg z) z.natAbs = z := by
 unfold sgn intNeg
 split
 ·rename_i h; have := of_decide_eq_true h; omega
 ·rename_i h; have : ¬ z < 0 := fun h' => h (decide_eq_true h'); omega
set_option maxHeartbeats 400000 in
set_option maxRecDepth 100000 in
theorem whole_From_no (a : Nat) (w : World) : Calls Tryz.prog 68 #[.bool false, natV a] w fun e w' => e = .returned (intV (sgn false a)) ∧ Grow w w' := by
 rw [intV_sgn, Bool.false_and]
 go_enter Tryz.func68, Tryz.ntmps68
 refine wp_seq (wp_r0 ?_)
 intro K hN
 go_wp2_with fail
 generalize hu : World.alloc (World.alloc w _) _ = u
 obtain ⟨hB, hG⟩ := bx_first [(_, _), (_, _)] w u hu
 have hF := fr_first w [(28, #[]), (30, #[])]
 simp only [numbered, List.map_cons, List.map_nil] at hB hF
 clear hu
 generalize w.heap.size + 1 = b4 at hB hF ⊢
 generalize w.heap.size = b3 at hB hF ⊢
 refine NoK.norm (hN _ _ ?_)
 clear hN K
 refine then_norm ?_
 refine wp_seq ?_
 refine wp_rd (w := w) allocs 8 [] [(0, 0), (0, 1), (0, 2), (0, 6), (1, 3), (0, 4), (0, 5), (0, 7)] (by kernel_rfl) (by kernel_rfl) (by simp only [List.drop_succ_cons, List.drop_zero]; exact rfl) (fun _ => True) noG hB hG trivial ?_
 intro K L hN hL
 simp only [pickOps, List.getElem?_toArray, List.getElem?_cons_zero, List.getElem?_cons_succ]
 refine gya ?_
 refine gya ?_
 first | (apply gy; exact rfl; (rintro v ⟨hgu, hB, hG, -⟩ N hN; have r := hB.r; simp only [BxR] at r; go_simp; exact hN)) | (apply gn; exact rfl)
 refine okf (by simp only [Act.put, List.setIfInBounds_toArray, List.set_cons_succ, List.set_cons_zero]; exact rfl) ?_
 refine gyr ?_
 first | (apply gm; exact rfl; (rintro v ⟨hgu, hB, hG, -⟩ N hN; go_simp; ((with_reducible refine (nat_Bits _ (by assumption) _).mono ?_); rintro e w1 ⟨rfl, hb⟩; exact ⟨_, rfl, hN _ hb⟩))) | (apply gmn; exact rfl)
 refine okf (by simp only [Act.put, List.setIfInBounds_toArray, List.set_cons_succ, List.set_cons_zero]; exact rfl) ?_
 first | (apply gy; exact rfl; (rintro v - N hN; go_simp; exact hN)) | (apply gn; exact rfl)
 refine okf (by simp only [Act.put, List.setIfInBounds_toArray, List.set_cons_succ, List.set_cons_zero]; exact rfl) ?_
 refine gya ?_
 refine gya ?_
 refine gend ?_
 rintro v ⟨hgu, hB1, hG1, -⟩
 clear hB hG
 have hB := hB1
 have hG := hG1
 clear hB1 hG1
 refine hL _ _ ?_
 clear hL L hgu
 obtain ⟨u, rfl⟩ : ∃ x, x = v := ⟨_, rfl⟩
 have r := hB.r
 simp only [BxR] at r
 go_wp2_with fail
 clear r
 generalize hu0 : World.setCell (World.setCell (World.setCell u _ _) _ _) _ _ = u0
 have hBG := over_n hB hF hG 1 rfl 0 [_, _, _] hu0
 clear hB hG hu0
 obtain ⟨hB, hG⟩ := hBG
 clear u
 obtain ⟨u, rfl⟩ : ∃ x, x = u0 := ⟨_, rfl⟩
 refine NoK.norm (hN _ _ ?_)
 clear hN K
 refine then_norm ?_
 refine wp_ret ?_
 refine ret_b rfl ?_
 intro N hN
 have r := hB.r
 simp only [BxR] at r
 simp only [results, Tryz.results68]
 go_simp
 refine hN _ ?_
 clear hN N r
 exact ⟨rfl, hG⟩
set_option maxHeartbeats 400000 in
set_option maxRecDepth 100000 in
theorem whole_From_yes (a : Nat) (ha : bl a ≤ 1099511627776) (w : World) : Calls Tryz.prog 68 #[.bool true, natV a] w fun e w' => e = .returned (intV (sgn true a)) ∧ Grow w w' := by
 rw [intV_sgn, Bool.true_and]
 have hd : decide (a ≠ 0) = decide (0 < bl a) := by
  have := @bl_pos a
  rw [decide_eq_decide]; exact this.symm
 rw [hd]
 clear hd
 go_enter Tryz.func68, Tryz.ntmps68
 refine wp_seq (wp_r0 ?_)
 intro K hN
 go_wp2_with fail
 generalize hu : World.alloc (World.alloc w _) _ = u
 obtain ⟨hB, hG⟩ := bx_first [(_, _), (_, _)] w u hu
 have hF := fr_first w [(28, #[]), (30, #[])]
 simp only [numbered, List.map_cons, List.map_nil] at hB hF
 clear hu
 generalize w.heap.size + 1 = b4 at hB hF ⊢
 generalize w.heap.size = b3 at hB hF ⊢
 refine NoK.norm (hN _ _ ?_)
 clear hN K
 refine then_norm ?_
 refine wp_seq ?_
 refine wp_rd (w := w) allocs 8 [] [(0, 0), (0, 1), (0, 2), (0, 6), (1, 3), (0, 4), (0, 5), (0, 7)] (by kernel_rfl) (by kernel_rfl) (by simp only [List.drop_succ_cons, List.drop_zero]; exact rfl) (fun _ => True) noG hB hG trivial ?_
 intro K L hN hL
 simp only [pickOps, List.getElem?_toArray, List.getElem?_cons_zero, List.getElem?_cons_succ]
 refine gya ?_
 refine gya ?_
 first | (apply gy; exact rfl; (rintro v ⟨hgu, hB, hG, -⟩ N hN; have r := hB.r; simp only [BxR] at r; go_simp; exact hN)) | (apply gn; exact rfl)
 refine okf (by simp only [Act.put, List.setIfInBounds_toArray, List.set_cons_succ, List.set_cons_zero]; exact rfl) ?_
 refine gyr ?_
 first | (apply gm; exact rfl; (rintro v ⟨hgu, hB, hG, -⟩ N hN; go_simp; ((with_reducible refine (nat_Bits _ (by assumption) _).mono ?_); rintro e w1 ⟨rfl, hb⟩; exact ⟨_, rfl, hN _ hb⟩))) | (apply gmn; exact rfl)
 refine okf (by simp only [Act.put, List.setIfInBounds_toArray, List.set_cons_succ, List.set_cons_zero]; exact rfl) ?_
 first | (apply gy; exact rfl; (rintro v - N hN; go_simp; exact hN)) | (apply gn; exact rfl)
 refine okf (by simp only [Act.put, List.setIfInBounds_toArray, List.set_cons_succ, List.set_cons_zero]; exact rfl) ?_
 refine gya ?_
 refine gya ?_
 refine gend ?_
 rintro v ⟨hgu, hB1, hG1, -⟩
 clear hB hG
 have hB := hB1
 have hG := hG1
 clear hB1 hG1
 refine hL _ _ ?_
 clear hL L hgu
 obtain ⟨u, rfl⟩ : ∃ x, x = v := ⟨_, rfl⟩
 have r := hB.r
 simp only [BxR] at r
 go_wp2_with fail
 clear r
 generalize hu0 : World.setCell (World.setCell (World.setCell u _ _) _ _) _ _ = u0
 have hBG := over_n hB hF hG 1 rfl 0 [_, _, _] hu0
 clear hB hG hu0
 obtain ⟨hB, hG⟩ := hBG
 clear u
 obtain ⟨u, rfl⟩ : ∃ x, x = u0 := ⟨_, rfl⟩
 refine NoK.norm (hN _ _ ?_)
 clear hN K
 refine then_norm ?_
 refine wp_ret ?_
 refine ret_b rfl ?_
 intro N hN
 have r := hB.r
 simp only [BxR] at r
 simp only [results, Tryz.results68]
 go_simp
 refine hN _ ?_
 clear hN N r
 exact ⟨rfl, hG⟩
--! whole_From = whole_From _ _ SIDE _
theorem whole_From (neg : Bool) (a : Nat) (ha : bl a ≤ 1099511627776) (w : World) : Calls Tryz.prog 68 #[.bool neg, natV a] w fun e w' => e = .returned (intV (sgn neg a)) ∧ Grow w w' := by
 cases neg
 ·exact whole_From_no a w
 ·exact whole_From_yes a ha w
--! whole_Abs = whole_Abs _ _
set_option maxHeartbeats 400000 in
theorem whole_Abs (z : Int) (w : World) : Calls Tryz.prog 77 #[intV z] w fun e w' => e = .returned (natV z.natAbs) ∧ Grow w w' := by
 go_enter Tryz.func77, Tryz.ntmps77
 refine wp_seq (wp_r0 ?_)
 intro K hN
 go_wp2_with fail
 generalize hu : World.alloc (World.alloc w _) _ = u
 obtain ⟨hB, hG⟩ := bx_first [(_, _), (_, _)] w u hu
 have hF := fr_first w [(30, #[]), (28, #[])]
 simp only [numbered, List.map_cons, List.map_nil] at hB hF
 clear hu
 generalize w.heap.size + 1 = b2 at hB hF ⊢
 generalize w.heap.size = b1 at hB hF ⊢
 refine NoK.norm (hN _ _ ?_)
 clear hN K
 refine then_norm ?_
 refine wp_seq ?_
 refine wp_r0 ?_
 intro K hN
 have r := hB.r
 simp only [BxR] at r
 go_wp2_with fail
 clear r
 generalize hu0 : World.setCell (World.setCell u _ _) _ _ = u0
 have hBG := over_n hB hF hG 1 rfl 0 [_, _] hu0
 clear hB hG hu0
 obtain ⟨hB, hG⟩ := hBG
 clear u
 obtain ⟨u, rfl⟩ : ∃ x, x = u0 := ⟨_, rfl⟩
 refine NoK.norm (hN _ _ ?_)
 clear hN K
 refine then_norm ?_
 refine wp_ret ?_
 refine ret_b rfl ?_
 intro N hN
 have r := hB.r
 simp only [BxR] at r
 simp only [results, Tryz.results77]
 go_simp
 refine hN _ ?_
 clear hN N r
 exact ⟨rfl, hG⟩
theorem ret_intV {x y : Int} (h : x = y) : Ending.returned (intV x) = .returned (intV y) := by rw [h]
set_option maxHeartbeats 400000 in
set_option maxRecDepth 100000 in
theorem whole_Of_neg (n : Int) (h0 : n < 0) (h1 : -9223372036854775808 ≤ n) (w : World) : Calls Tryz.prog 76 #[.int .i64 n] w fun e w' => e = .returned (intV n) ∧ Grow w w' := by
 have hw1 : IntKind.u64.wrap n = n + 18446744073709551616 := by
  simp [IntKind.wrap, IntKind.signed, IntKind.bits]; omega
 have hw2 : IntKind.u64.wrap (-(n + 18446744073709551616)) = (n.natAbs : Nat) := by
  simp [IntKind.wrap, IntKind.signed, IntKind.bits]; omega
 have hlt : n.natAbs < W64 := by unfold W64; omega
 have hd : decide (n < 0) = true := by simpa using h0
 have hn : intNeg n = true := by unfold intNeg; exact hd
 go_enter Tryz.func76, Tryz.ntmps76
 refine wp_seq (wp_r0 ?_)
 intro K hN
 go_wp2_with fail
 generalize hu : World.alloc w _ = u
 obtain ⟨hB, hG⟩ := bx_first [(_, _)] w u hu
 have hF := fr_first w [(30, #[])]
 simp only [numbered, List.map_cons, List.map_nil] at hB hF
 clear hu
 generalize w.heap.size = b2 at hB hF ⊢
 refine NoK.norm (hN _ _ ?_)
 clear hN K
 refine then_norm ?_
 refine wp_seq ?_
 refine wp_seq ?_
 refine wp_r0 ?_
 intro K hN
 go_wp2_with fail
 refine NoK.norm (hN _ _ ?_)
 clear hN K
 refine then_norm ?_
 refine wp_cond_true (rfl) ?_
 refine wp_seq ?_
 refine wp_rs (w := w) allocs 5 [0, 0, 0, 1, 0] (by kernel_rfl) (by simp only [List.drop_succ_cons, List.drop_zero]; exact rfl) (fun _ => True) noG hB hG trivial ?_
 intro K L hN hL
 simp only [List.zip_cons_cons, List.zip_nil_left]
 refine gya ?_
 refine gya ?_
 refine gya ?_
 refine gma (by (rintro v ⟨hgu, hB, hG, -⟩ N hN; go_simp; with_reducible exact gmc (nat_Of _ (by assumption) _) hN)) ?_
 refine gya ?_
 refine gend ?_
 rintro v ⟨hgu, hB1, hG1, -⟩
 clear hB hG
 have hB := hB1
 have hG := hG1
 clear hB1 hG1
 refine hL _ _ ?_
 clear hL L hgu
 obtain ⟨u, rfl⟩ : ∃ x, x = v := ⟨_, rfl⟩
 have r := hB.r
 simp only [BxR] at r
 go_wp2_with fail
 clear r
 generalize hu0 : World.setCell (World.setCell (World.setCell u _ _) _ _) _ _ = u0
 have hBG := over_n hB hF hG 0 rfl 0 [_, _, _] hu0
 clear hB hG hu0
 obtain ⟨hB, hG⟩ := hBG
 clear u
 obtain ⟨u, rfl⟩ : ∃ x, x = u0 := ⟨_, rfl⟩
 refine NoK.norm (hN _ _ ?_)
 clear hN K
 refine then_norm ?_
 refine wp_ret ?_
 refine then_ret ?_
 refine ret_b rfl ?_
 intro N hN
 have r := hB.r
 simp only [BxR] at r
 simp only [results, Tryz.results76]
 go_simp
 refine hN _ ?_
 clear hN N r
 exact ⟨by rw [intV, hn], hG⟩
set_option maxHeartbeats 400000 in
set_option maxRecDepth 100000 in
theorem whole_Of_pos (n : Int) (h0 : 0 ≤ n) (h1 : n ≤ 9223372036854775807) (w : World) : Calls Tryz.prog 76 #[.int .i64 n] w fun e w' => e = .returned (intV n) ∧ Grow w w' := by
 have hw1 : IntKind.u64.wrap n = (n.natAbs : Nat) := by
  simp [IntKind.wrap, IntKind.signed, IntKind.bits]; omega
 have hlt : n.natAbs < W64 := by unfold W64; omega
 have hd : decide (n < 0) = false := by simpa using h0
 have hn : intNeg n = false := by unfold intNeg; exact hd
 go_enter Tryz.func76, Tryz.ntmps76
 refine wp_seq (wp_r0 ?_)
 intro K hN
 go_wp2_with fail
 generalize hu : World.alloc w _ = u
 obtain ⟨hB, hG⟩ := bx_first [(_, _)] w u hu
 have hF := fr_first w [(30, #[])]
 simp only [numbered, List.map_cons, List.map_nil] at hB hF
 clear hu
 generalize w.heap.size = b2 at hB hF ⊢
 refine NoK.norm (hN _ _ ?_)
 clear hN K
 refine then_norm ?_
 refine wp_seq ?_
 refine wp_seq ?_
 refine wp_r0 ?_
 intro K hN
 go_wp2_with fail
 refine NoK.norm (hN _ _ ?_)
 clear hN K
 refine then_norm ?_
 refine wp_cond_false (rfl) ?_
 refine wp_skip ?_
 refine then_norm ?_
 refine wp_seq ?_
 refine wp_rs (w := w) allocs 4 [0, 0, 1, 0] (by kernel_rfl) (by simp only [List.drop_succ_cons, List.drop_zero]; exact rfl) (fun _ => True) noG hB hG trivial ?_
 intro K L hN hL
 simp only [List.zip_cons_cons, List.zip_nil_left]
 refine gya ?_
 refine gya ?_
 refine gma (by (rintro v ⟨hgu, hB, hG, -⟩ N hN; go_simp; with_reducible exact gmc (nat_Of _ (by assumption) _) hN)) ?_
 refine gya ?_
 refine gend ?_
 rintro v ⟨hgu, hB1, hG1, -⟩
 clear hB hG
 have hB := hB1
 have hG := hG1
 clear hB1 hG1
 refine hL _ _ ?_
 clear hL L hgu
 obtain ⟨u, rfl⟩ : ∃ x, x = v := ⟨_, rfl⟩
 have r := hB.r
 simp only [BxR] at r
 go_wp2_with fail
 clear r
 generalize hu0 : World.setCell (World.setCell (World.setCell u _ _) _ _) _ _ = u0
 have hBG := over_n hB hF hG 0 rfl 0 [_, _, _] hu0
 clear hB hG hu0
 obtain ⟨hB, hG⟩ := hBG
 clear u
 obtain ⟨u, rfl⟩ : ∃ x, x = u0 := ⟨_, rfl⟩
 refine NoK.norm (hN _ _ ?_)
 clear hN K
 refine then_norm ?_
 refine wp_ret ?_
 refine ret_b rfl ?_
 intro N hN
 have r := hB.r
 simp only [BxR] at r
 simp only [results, Tryz.results76]
 go_simp
 refine hN _ ?_
 clear hN N r
 exact ⟨by rw [intV, hn], hG⟩
--! whole_Of = whole_Of _ SIDE SIDE _
theorem whole_Of (n : Int) (h0 : -9223372036854775808 ≤ n) (h1 : n ≤ 9223372036854775807) (w : World) : Calls Tryz.prog 76 #[.int .i64 n] w fun e w' => e = .returned (intV n) ∧ Grow w w' := by
 by_cases h : n < 0
 ·exact whole_Of_neg n h h0 w
 ·exact whole_Of_pos n (by omega) h1 w
--! whole_Sign = whole_Sign _ SIDE _
set_option maxHeartbeats 400000 in
set_option maxRecDepth 100000 in
theorem whole_Sign (z : Int) (ha : bl z.natAbs ≤ 1099511627776) (w : World) : Calls Tryz.prog 110 #[intV z] w fun e w' => e = .returned (.int .i64 z.sign) ∧ Grow w w' := by
 go_enter Tryz.func110, Tryz.ntmps110
 refine wp_seq (wp_r0 ?_)
 intro K hN
 go_wp2_with fail
 generalize hu : World.alloc w _ = u
 obtain ⟨hB, hG⟩ := bx_first [(_, _)] w u hu
 have hF := fr_first w [(30, #[])]
 simp only [numbered, List.map_cons, List.map_nil] at hB hF
 clear hu
 generalize w.heap.size = b1 at hB hF ⊢
 refine NoK.norm (hN _ _ ?_)
 clear hN K
 refine then_norm ?_
 refine wp_seq ?_
 refine wp_block ?_
 refine wp_seq ?_
 refine wp_r0 ?_
 intro K hN
 have r := hB.r
 simp only [BxR] at r
 go_wp2_with fail
 clear r
 refine NoK.norm (hN _ _ ?_)
 clear hN K
 refine then_norm ?_
 refine wp_cond_split rfl ?_ ?_
 ·intro ht
  have ht3 := ht
  refine wp_seq ?_
  refine wp_r0 ?_
  intro K hN
  go_wp2_with fail
  refine NoK.norm (hN _ _ ?_)
  clear hN K
  refine then_norm ?_
  refine wp_ret ?_
  refine blk_ret ?_
  refine then_ret ?_
  refine ret_b rfl ?_
  intro N hN
  have r := hB.r
  simp only [BxR] at r
  simp only [results, Tryz.results110]
  go_simp
  refine hN _ ?_
  clear hN N r
  have h : z < 0 := of_decide_eq_true ht
  exact ⟨ret_i64 (Int.sign_eq_neg_one_of_neg h).symm, hG⟩
 ·intro ht
  have ht3 := ht
  refine wp_seq ?_
  refine wp_rs (w := w) allocs 5 [0, 0, 1, 0, 0] (by kernel_rfl) (by simp only [List.drop_succ_cons, List.drop_nil]; exact rfl) (fun _ => True) noG hB hG trivial ?_
  intro K L hN hL
  simp only [List.zip_cons_cons, List.zip_nil_left]
  refine gya ?_
  refine gyr ?_
  refine gma (by (rintro v ⟨hgu, hB, hG, -⟩ N hN; go_simp; with_reducible exact gmc (nat_Bits _ (by assumption) _) hN)) ?_
  refine gya ?_
  refine gya ?_
  refine gend ?_
  rintro v ⟨hgu, hB1, hG1, -⟩
  clear hB hG
  have hB := hB1
  have hG := hG1
  clear hB1 hG1
  refine hL _ _ ?_
  clear hL L hgu
  obtain ⟨u, rfl⟩ : ∃ x, x = v := ⟨_, rfl⟩
  refine wpList_nil ?_
  refine NoK.norm (hN _ _ ?_)
  clear hN K
  refine then_norm ?_
  refine wp_cond_split rfl ?_ ?_
  ·intro ht
   have ht6 := ht
   refine wp_seq ?_
   refine wp_r0 ?_
   intro K hN
   go_wp2_with fail
   refine NoK.norm (hN _ _ ?_)
   clear hN K
   refine then_norm ?_
   refine wp_ret ?_
   refine blk_ret ?_
   refine then_ret ?_
   refine ret_b rfl ?_
   intro N hN
   have r := hB.r
   simp only [BxR] at r
   simp only [results, Tryz.results110]
   go_simp
   refine hN _ ?_
   clear hN N r
   have h : ¬ z < 0 := of_decide_eq_false ht3
   have h2 : 0 < bl z.natAbs := by simpa using ht
   have h3 := bl_pos.1 h2
   exact ⟨ret_i64 (Int.sign_eq_one_of_pos (by omega)).symm, hG⟩
  ·intro ht
   have ht6 := ht
   refine wp_skip ?_
   refine blk_norm ?_
   refine then_norm ?_
   refine wp_seq ?_
   refine wp_r0 ?_
   intro K hN
   go_wp2_with fail
   refine NoK.norm (hN _ _ ?_)
   clear hN K
   refine then_norm ?_
   refine wp_ret ?_
   refine ret_b rfl ?_
   intro N hN
   have r := hB.r
   simp only [BxR] at r
   simp only [results, Tryz.results110]
   go_simp
   refine hN _ ?_
   clear hN N r
   have h : ¬ z < 0 := of_decide_eq_false ht3
   have h2 : ¬ 0 < bl z.natAbs := by simpa using ht
   have h3 : z = 0 := by have := @bl_pos z.natAbs; omega
   exact ⟨ret_i64 (by rw [h3]; rfl), hG⟩
theorem neg_sgn (z : Int) : sgn (!intNeg z) z.natAbs = -z := by
 unfold sgn intNeg
 by_cases h : z < 0 <;> simp [h] <;> omega
--! whole_Neg = whole_Neg _ SIDE _
set_option maxHeartbeats 400000 in
set_option maxRecDepth 100000 in
theorem whole_Neg (z : Int) (ha : bl z.natAbs ≤ 1099511627776) (w : World) : Calls Tryz.prog 107 #[intV z] w fun e w' => e = .returned (intV (zneg z)) ∧ Grow w w' := by
 go_enter Tryz.func107, Tryz.ntmps107
 refine wp_seq (wp_r0 ?_)
 intro K hN
 go_wp2_with fail
 generalize hu : World.alloc (World.alloc w _) _ = u
 obtain ⟨hB, hG⟩ := bx_first [(_, _), (_, _)] w u hu
 have hF := fr_first w [(30, #[]), (30, #[])]
 simp only [numbered, List.map_cons, List.map_nil] at hB hF
 clear hu
 generalize w.heap.size + 1 = b2 at hB hF ⊢
 generalize w.heap.size = b1 at hB hF ⊢
 refine NoK.norm (hN _ _ ?_)
 clear hN K
 refine then_norm ?_
 refine wp_seq ?_
 refine wp_rs (w := w) allocs 6 [0, 0, 0, 0, 0, 1] (by kernel_rfl) (by simp only [List.drop_succ_cons, List.drop_zero]; exact rfl) (fun _ => True) noG hB hG trivial ?_
 intro K L hN hL
 simp only [List.zip_cons_cons, List.zip_nil_left]
 refine gya ?_
 refine gyr ?_
 refine gya ?_
 refine gya ?_
 refine gyr ?_
 refine gma (by (rintro v ⟨hgu, hB, hG, -⟩ N hN; go_simp; with_reducible exact gmc (whole_From _ _ (by assumption) _) hN)) ?_
 refine gend ?_
 rintro v ⟨hgu, hB1, hG1, -⟩
 clear hB hG
 have hB := hB1
 have hG := hG1
 clear hB1 hG1
 refine hL _ _ ?_
 clear hL L hgu
 obtain ⟨u, rfl⟩ : ∃ x, x = v := ⟨_, rfl⟩
 have r := hB.r
 simp only [BxR] at r
 go_wp2_with fail
 clear r
 generalize hu0 : World.setCell (World.setCell (World.setCell u _ _) _ _) _ _ = u0
 have hBG := over_n hB hF hG 1 rfl 0 [_, _, _] hu0
 clear hB hG hu0
 obtain ⟨hB, hG⟩ := hBG
 clear u
 obtain ⟨u, rfl⟩ : ∃ x, x = u0 := ⟨_, rfl⟩
 refine NoK.norm (hN _ _ ?_)
 clear hN K
 refine then_norm ?_
 refine wp_ret ?_
 refine ret_b rfl ?_
 intro N hN
 have r := hB.r
 simp only [BxR] at r
 simp only [results, Tryz.results107]
 go_simp
 refine hN _ ?_
 clear hN N r
 exact ⟨ret_intV (neg_sgn z), hG⟩
theorem mul_sgn (a b : Int) : sgn (intNeg a != intNeg b) (a.natAbs * b.natAbs) = a * b := by
 have h1 := sgn_self a
 have h2 := sgn_self b
 revert h1 h2
 generalize intNeg a = p
 generalize intNeg b = q
 generalize a.natAbs = x
 generalize b.natAbs = y
 rintro rfl rfl
 cases p <;> cases q <;> simp [sgn, Int.neg_mul, Int.mul_neg]
--! whole_Mul = whole_Mul _ _ SIDE _
set_option maxHeartbeats 400000 in
set_option maxRecDepth 100000 in
theorem whole_Mul (a b : Int) (hab : bl a.natAbs + bl b.natAbs ≤ 1099511627776) (w : World) : Calls Tryz.prog 75 #[intV a, intV b] w fun e w' => e = .returned (intV (zmul a b)) ∧ Grow w w' := by
 have h1 : bl a.natAbs ≤ 1099511627776 := by omega
 have h2 : bl b.natAbs ≤ 1099511627776 := by omega
 have h3 : bl (a.natAbs * b.natAbs) ≤ 1099511627776 := Nat.le_trans (bl_mul_le _ _) hab
 go_enter Tryz.func75, Tryz.ntmps75
 refine wp_seq (wp_r0 ?_)
 intro K hN
 go_wp2_with fail
 generalize hu : World.alloc (World.alloc (World.alloc w _) _) _ = u
 obtain ⟨hB, hG⟩ := bx_first [(_, _), (_, _), (_, _)] w u hu
 have hF := fr_first w [(30, #[]), (30, #[]), (30, #[])]
 simp only [numbered, List.map_cons, List.map_nil] at hB hF
 clear hu
 generalize w.heap.size + 1 + 1 = b4 at hB hF ⊢
 generalize w.heap.size + 1 = b3 at hB hF ⊢
 generalize w.heap.size = b2 at hB hF ⊢
 refine NoK.norm (hN _ _ ?_)
 clear hN K
 refine then_norm ?_
 refine wp_seq ?_
 refine wp_rd (w := w) allocs 11 [] [(0, 0), (0, 1), (0, 2), (0, 3), (0, 4), (0, 5), (0, 6), (0, 7), (0, 8), (1, 9), (1, 10)] (by kernel_rfl) (by kernel_rfl) (by simp only [List.drop_succ_cons, List.drop_zero]; exact rfl) (fun _ => True) noG hB hG trivial ?_
 intro K L hN hL
 simp only [pickOps, List.getElem?_toArray, List.getElem?_cons_zero, List.getElem?_cons_succ]
 refine gya ?_
 refine gyr ?_
 refine gya ?_
 refine gyr ?_
 refine gya ?_
 refine gya ?_
 refine gyr ?_
 refine gya ?_
 refine gyr ?_
 refine gma (by (rintro v ⟨hgu, hB, hG, -⟩ N hN; go_simp; with_reducible exact gmc (nat_Mul _ _ (by assumption) (by assumption) _) hN)) ?_
 refine gma (by (rintro v ⟨hgu, hB, hG, -⟩ N hN; go_simp; with_reducible exact gmc (whole_From _ _ (by assumption) _) hN)) ?_
 refine gend ?_
 rintro v ⟨hgu, hB1, hG1, -⟩
 clear hB hG
 have hB := hB1
 have hG := hG1
 clear hB1 hG1
 refine hL _ _ ?_
 clear hL L hgu
 obtain ⟨u, rfl⟩ : ∃ x, x = v := ⟨_, rfl⟩
 have r := hB.r
 simp only [BxR] at r
 go_wp2_with fail
 clear r
 generalize hu0 : World.setCell (World.setCell (World.setCell u _ _) _ _) _ _ = u0
 have hBG := over_n hB hF hG 2 rfl 0 [_, _, _] hu0
 clear hB hG hu0
 obtain ⟨hB, hG⟩ := hBG
 clear u
 obtain ⟨u, rfl⟩ : ∃ x, x = u0 := ⟨_, rfl⟩
 refine NoK.norm (hN _ _ ?_)
 clear hN K
 refine then_norm ?_
 refine wp_ret ?_
 refine ret_b rfl ?_
 intro N hN
 have r := hB.r
 simp only [BxR] at r
 simp only [results, Tryz.results75]
 go_simp
 refine hN _ ?_
 clear hN N r
 exact ⟨ret_intV (mul_sgn a b), hG⟩
def cmpZ (a b : Int) : Int := if a < b then -1 else if b < a then 1 else 0
theorem cmpZ_neg {a b : Int} (ha : a < 0) (hb : b < 0) : cmpN b.natAbs a.natAbs = cmpZ a b := by
 unfold cmpN cmpZ; split <;> split <;> first | rfl | omega | skip
 all_goals split <;> (try split) <;> omega
theorem cmpZ_pos {a b : Int} (ha : ¬ a < 0) (hb : ¬ b < 0) : cmpN a.natAbs b.natAbs = cmpZ a b := by
 unfold cmpN cmpZ; split <;> split <;> first | rfl | omega | skip
 all_goals split <;> (try split) <;> omega
set_option maxHeartbeats 1000000 in
set_option maxRecDepth 100000 in
theorem whole_Cmp_nn (a b : Int) (hb : bl b.natAbs ≤ 1099511627776) (n1 : a < 0) (w : World) : Calls Tryz.prog 78 #[intV a, intV b] w fun e w' => e = .returned (.int .i64 (cmpZ a b)) ∧ Grow w w' := by
 have g1 : intNeg a = true := decide_eq_true n1
 go_enter Tryz.func78, Tryz.ntmps78
 refine wp_seq (wp_r0 ?_)
 intro K hN
 go_wp2_with fail
 generalize hu : World.alloc (World.alloc w _) _ = u
 obtain ⟨hB, hG⟩ := bx_first [(_, _), (_, _)] w u hu
 have hF := fr_first w [(30, #[]), (30, #[])]
 simp only [numbered, List.map_cons, List.map_nil] at hB hF
 clear hu
 generalize w.heap.size + 1 = b3 at hB hF ⊢
 generalize w.heap.size = b2 at hB hF ⊢
 refine NoK.norm (hN _ _ ?_)
 clear hN K
 refine then_norm ?_
 refine wp_seq ?_
 refine wp_block ?_
 refine wp_seq ?_
 refine wp_r0 ?_
 intro K hN
 have r := hB.r
 simp only [BxR] at r
 go_wp2_with fail
 clear r
 refine NoK.norm (hN _ _ ?_)
 clear hN K
 refine then_norm ?_
 refine wp_cond_split rfl ?_ ?_
 ·intro ht
  have ht5 := ht
  refine wp_seq ?_
  refine wp_rs (w := w) allocs 6 [0, 0, 0, 0, 1, 0] (by kernel_rfl) (by simp only [List.drop_succ_cons, List.drop_nil]; exact rfl) (fun _ => True) noG hB hG trivial ?_
  intro K L hN hL
  simp only [List.zip_cons_cons, List.zip_nil_left]
  refine gya ?_
  refine gyr ?_
  refine gya ?_
  refine gyr ?_
  refine gma (by (rintro v ⟨hgu, hB, hG, -⟩ N hN; go_simp; with_reducible exact gmc (nat_Cmp _ _ (by assumption) _) hN)) ?_
  refine gya ?_
  refine gend ?_
  rintro v ⟨hgu, hB1, hG1, -⟩
  clear hB hG
  have hB := hB1
  have hG := hG1
  clear hB1 hG1
  refine hL _ _ ?_
  clear hL L hgu
  obtain ⟨u, rfl⟩ : ∃ x, x = v := ⟨_, rfl⟩
  refine wpList_nil ?_
  refine NoK.norm (hN _ _ ?_)
  clear hN K
  refine then_norm ?_
  refine wp_ret ?_
  refine blk_ret ?_
  refine then_ret ?_
  refine ret_b rfl ?_
  intro N hN
  have r := hB.r
  simp only [BxR] at r
  simp only [results, Tryz.results78]
  go_simp
  refine hN _ ?_
  clear hN N r
  exact ⟨ret_i64 (cmpZ_neg n1 (of_decide_eq_true ht)), hG⟩
 ·intro ht
  have ht5 := ht
  refine wp_seq ?_
  refine wp_r0 ?_
  intro K hN
  have r := hB.r
  simp only [BxR] at r
  go_wp2_with fail
  clear r
  refine NoK.norm (hN _ _ ?_)
  clear hN K
  refine then_norm ?_
  refine wp_cond_split rfl ?_ ?_
  ·intro ht
   have ht17 := ht
   refine wp_seq ?_
   refine wp_r0 ?_
   intro K hN
   go_wp2_with fail
   refine NoK.norm (hN _ _ ?_)
   clear hN K
   refine then_norm ?_
   refine wp_ret ?_
   refine blk_ret ?_
   refine then_ret ?_
   refine ret_b rfl ?_
   intro N hN
   have r := hB.r
   simp only [BxR] at r
   simp only [results, Tryz.results78]
   go_simp
   refine hN _ ?_
   clear hN N r
   have n2 : ¬ b < 0 := of_decide_eq_false ht5
   exact ⟨ret_i64 (by unfold cmpZ; rw [if_pos (by omega)]), hG⟩
  ·intro ht
   cases ht
set_option maxHeartbeats 1000000 in
set_option maxRecDepth 100000 in
theorem whole_Cmp_pp (a b : Int) (ha : bl a.natAbs ≤ 1099511627776) (n1 : ¬ a < 0) (w : World) : Calls Tryz.prog 78 #[intV a, intV b] w fun e w' => e = .returned (.int .i64 (cmpZ a b)) ∧ Grow w w' := by
 have g1 : intNeg a = false := decide_eq_false n1
 go_enter Tryz.func78, Tryz.ntmps78
 refine wp_seq (wp_r0 ?_)
 intro K hN
 go_wp2_with fail
 generalize hu : World.alloc (World.alloc w _) _ = u
 obtain ⟨hB, hG⟩ := bx_first [(_, _), (_, _)] w u hu
 have hF := fr_first w [(30, #[]), (30, #[])]
 simp only [numbered, List.map_cons, List.map_nil] at hB hF
 clear hu
 generalize w.heap.size + 1 = b3 at hB hF ⊢
 generalize w.heap.size = b2 at hB hF ⊢
 refine NoK.norm (hN _ _ ?_)
 clear hN K
 refine then_norm ?_
 refine wp_seq ?_
 refine wp_block ?_
 refine wp_seq ?_
 refine wp_r0 ?_
 intro K hN
 have r := hB.r
 simp only [BxR] at r
 go_wp2_with fail
 clear r
 refine NoK.norm (hN _ _ ?_)
 clear hN K
 refine then_norm ?_
 refine wp_cond_split rfl ?_ ?_
 ·intro ht
  cases ht
 ·intro ht
  have ht5 := ht
  refine wp_seq ?_
  refine wp_r0 ?_
  intro K hN
  have r := hB.r
  simp only [BxR] at r
  go_wp2_with fail
  clear r
  refine NoK.norm (hN _ _ ?_)
  clear hN K
  refine then_norm ?_
  refine wp_cond_split rfl ?_ ?_
  ·intro ht
   cases ht
  ·intro ht
   have ht17 := ht
   refine wp_seq ?_
   refine wp_r0 ?_
   intro K hN
   have r := hB.r
   simp only [BxR] at r
   go_wp2_with fail
   clear r
   refine NoK.norm (hN _ _ ?_)
   clear hN K
   refine then_norm ?_
   refine wp_cond_split rfl ?_ ?_
   ·intro ht
    have ht20 := ht
    refine wp_seq ?_
    refine wp_r0 ?_
    intro K hN
    go_wp2_with fail
    refine NoK.norm (hN _ _ ?_)
    clear hN K
    refine then_norm ?_
    refine wp_ret ?_
    refine blk_ret ?_
    refine then_ret ?_
    refine ret_b rfl ?_
    intro N hN
    have r := hB.r
    simp only [BxR] at r
    simp only [results, Tryz.results78]
    go_simp
    refine hN _ ?_
    clear hN N r
    have n2 : b < 0 := of_decide_eq_true ht
    exact ⟨ret_i64 (by unfold cmpZ; rw [if_neg (by omega), if_pos (by omega)]), hG⟩
   ·intro ht
    have ht20 := ht
    refine wp_skip ?_
    refine blk_norm ?_
    refine then_norm ?_
    refine wp_seq ?_
    refine wp_rs (w := w) allocs 6 [0, 0, 0, 0, 1, 0] (by kernel_rfl) (by simp only [List.drop_succ_cons, List.drop_nil]; exact rfl) (fun _ => True) noG hB hG trivial ?_
    intro K L hN hL
    simp only [List.zip_cons_cons, List.zip_nil_left]
    refine gya ?_
    refine gyr ?_
    refine gya ?_
    refine gyr ?_
    refine gma (by (rintro v ⟨hgu, hB, hG, -⟩ N hN; go_simp; with_reducible exact gmc (nat_Cmp _ _ (by assumption) _) hN)) ?_
    refine gya ?_
    refine gend ?_
    rintro v ⟨hgu, hB1, hG1, -⟩
    clear hB hG
    have hB := hB1
    have hG := hG1
    clear hB1 hG1
    refine hL _ _ ?_
    clear hL L hgu
    obtain ⟨u, rfl⟩ : ∃ x, x = v := ⟨_, rfl⟩
    refine wpList_nil ?_
    refine NoK.norm (hN _ _ ?_)
    clear hN K
    refine then_norm ?_
    refine wp_ret ?_
    refine ret_b rfl ?_
    intro N hN
    have r := hB.r
    simp only [BxR] at r
    simp only [results, Tryz.results78]
    go_simp
    refine hN _ ?_
    clear hN N r
    exact ⟨ret_i64 (cmpZ_pos (by omega) (of_decide_eq_false ht)), hG⟩
--! whole_Cmp = whole_Cmp _ _ SIDE SIDE _
theorem whole_Cmp (a b : Int) (ha : bl a.natAbs ≤ 1099511627776) (hb : bl b.natAbs ≤ 1099511627776) (w : World) : Calls Tryz.prog 78 #[intV a, intV b] w fun e w' => e = .returned (.int .i64 (cmpZ a b)) ∧ Grow w w' := by
 by_cases h : a < 0
 ·exact whole_Cmp_nn a b hb h w
 ·exact whole_Cmp_pp a b ha h w
--! nat_Sub = nat_SubAny _ _ SIDE _
theorem nat_SubAny (a b : Nat) (ha : bl a ≤ 1099511627776) (w : World) : Calls Tryz.prog 121 #[natV a, natV b] w fun e w' => e = .returned (.tuple #[natV (a - b), .bool (decide (b ≤ a))]) ∧ Grow w w' := by
 by_cases h : b ≤ a
 ·rw [decide_eq_true h]; exact nat_Sub a b ha h w
 ·rw [decide_eq_false h, Nat.sub_eq_zero_of_le (by omega)]; exact nat_Sub_no a b ha (by omega) w
theorem add_same {a b : Int} (h : intNeg a = intNeg b) : sgn (intNeg a) (a.natAbs + b.natAbs) = a + b := by
 have h1 := sgn_self a
 have h2 := sgn_self b
 rw [← h] at h2
 revert h1 h2
 clear h
 generalize intNeg a = p
 generalize a.natAbs = x
 generalize b.natAbs = y
 rintro rfl rfl
 cases p <;> simp [sgn] <;> omega
theorem add_fst {a b : Int} (h : ¬ intNeg a = intNeg b) (hle : b.natAbs ≤ a.natAbs) : sgn (intNeg a) (a.natAbs - b.natAbs) = a + b := by
 have h1 := sgn_self a
 have h2 := sgn_self b
 revert h1 h2 h hle
 generalize intNeg a = p
 generalize intNeg b = q
 generalize a.natAbs = x
 generalize b.natAbs = y
 intro h hle
 rintro rfl rfl
 revert h
 cases p <;> cases q <;> simp [sgn] <;> omega
theorem add_snd {a b : Int} (h : ¬ intNeg a = intNeg b) (hle : ¬ b.natAbs ≤ a.natAbs) : sgn (intNeg b) (b.natAbs - a.natAbs) = a + b := by
 rw [add_fst (a := b) (b := a) (fun e => h e.symm) (by omega), Int.add_comm]
set_option maxHeartbeats 1000000 in
set_option maxRecDepth 100000 in
--! whole_Add = whole_Add _ _ SIDE SIDE _
theorem whole_Add (a b : Int) (ha : bl a.natAbs < 1099511627776) (hb : bl b.natAbs < 1099511627776) (w : World) : Calls Tryz.prog 66 #[intV a, intV b] w fun e w' => e = .returned (intV (zadd a b)) ∧ Grow w w' := by
 have h1 : bl a.natAbs ≤ 1099511627776 := by omega
 have h2 : bl b.natAbs ≤ 1099511627776 := by omega
 have h3 : bl (a.natAbs + b.natAbs) ≤ 1099511627776 := Nat.le_trans (bl_add_le _ _) (by omega)
 have h4 : bl (a.natAbs - b.natAbs) ≤ 1099511627776 := Nat.le_trans (bl_sub_le _ _) h1
 have h5 : bl (b.natAbs - a.natAbs) ≤ 1099511627776 := Nat.le_trans (bl_sub_le _ _) h2
 go_enter Tryz.func66, Tryz.ntmps66
 refine wp_seq (wp_r0 ?_)
 intro K hN
 go_wp2_with fail
 generalize hu : World.alloc (World.alloc (World.alloc w _) _) _ = u
 obtain ⟨hB, hG⟩ := bx_first [(_, _), (_, _), (_, _)] w u hu
 have hF := fr_first w [(30, #[]), (30, #[]), (30, #[])]
 simp only [numbered, List.map_cons, List.map_nil] at hB hF
 clear hu
 generalize w.heap.size + 1 + 1 = b4 at hB hF ⊢
 generalize w.heap.size + 1 = b3 at hB hF ⊢
 generalize w.heap.size = b2 at hB hF ⊢
 refine NoK.norm (hN _ _ ?_)
 clear hN K
 refine then_norm ?_
 refine wp_seq ?_
 refine wp_seq ?_
 refine wp_r0 ?_
 intro K hN
 have r := hB.r
 simp only [BxR] at r
 go_wp2_with fail
 clear r
 refine NoK.norm (hN _ _ ?_)
 clear hN K
 refine then_norm ?_
 refine wp_cond_split rfl ?_ ?_
 ·intro ht
  have ht13 := ht
  refine wp_seq ?_
  refine wp_rd (w := w) allocs 8 [] [(0, 0), (0, 1), (0, 2), (0, 3), (0, 4), (0, 5), (1, 6), (1, 7)] (by kernel_rfl) (by kernel_rfl) (by simp only [List.drop_succ_cons, List.drop_zero]; exact rfl) (fun _ => True) noG hB hG trivial ?_
  intro K L hN hL
  simp only [pickOps, List.getElem?_toArray, List.getElem?_cons_zero, List.getElem?_cons_succ]
  refine gya ?_
  refine gyr ?_
  refine gya ?_
  refine gyr ?_
  refine gya ?_
  refine gyr ?_
  refine gma (by (rintro v ⟨hgu, hB, hG, -⟩ N hN; go_simp; with_reducible exact gmc (nat_Add _ _ (by assumption) (by assumption) _) hN)) ?_
  refine gma (by (rintro v ⟨hgu, hB, hG, -⟩ N hN; go_simp; with_reducible exact gmc (whole_From _ _ (by assumption) _) hN)) ?_
  refine gend ?_
  rintro v ⟨hgu, hB1, hG1, -⟩
  clear hB hG
  have hB := hB1
  have hG := hG1
  clear hB1 hG1
  refine hL _ _ ?_
  clear hL L hgu
  obtain ⟨u, rfl⟩ : ∃ x, x = v := ⟨_, rfl⟩
  have r := hB.r
  simp only [BxR] at r
  go_wp2_with fail
  clear r
  generalize hu0 : World.setCell (World.setCell (World.setCell u _ _) _ _) _ _ = u0
  have hBG := over_n hB hF hG 2 rfl 0 [_, _, _] hu0
  clear hB hG hu0
  obtain ⟨hB, hG⟩ := hBG
  clear u
  obtain ⟨u, rfl⟩ : ∃ x, x = u0 := ⟨_, rfl⟩
  refine NoK.norm (hN _ _ ?_)
  clear hN K
  refine then_norm ?_
  refine wp_ret ?_
  refine then_ret ?_
  refine ret_b rfl ?_
  intro N hN
  have r := hB.r
  simp only [BxR] at r
  simp only [results, Tryz.results66]
  go_simp
  refine hN _ ?_
  clear hN N r
  exact ⟨ret_intV (add_same (by simpa using ht)), hG⟩
 ·intro ht
  have ht13 := ht
  refine wp_skip ?_
  refine then_norm ?_
  refine wp_seq ?_
  refine wp_seq ?_
  refine wp_rs (w := w) allocs 9 [0, 0, 0, 0, 1, 0, 0, 0, 2] (by kernel_rfl) (by simp only [List.drop_succ_cons, List.drop_zero]; exact rfl) (fun _ => True) noG hB hG trivial ?_
  intro K L hN hL
  simp only [List.zip_cons_cons, List.zip_nil_left]
  refine gya ?_
  refine gyr ?_
  refine gya ?_
  refine gyr ?_
  refine gma (by (rintro v ⟨hgu, hB, hG, -⟩ N hN; go_simp; with_reducible exact gmc (nat_SubAny _ _ (by assumption) _) hN)) ?_
  refine gya ?_
  refine gya ?_
  refine gya ?_
  refine ga (newObj_Nat _ _ _ _ _) fun b5 hb5 hn5 => ?_
  refine okf (by simp only [Act.put, List.setIfInBounds_toArray, List.set_cons_succ, List.set_cons_zero]; exact rfl) ?_
  refine gend ?_
  rintro v ⟨⟨hgu, hB1, hG1, -⟩, h5⟩
  have hF := Fr.new (tk := []) hF hB hG hb5 hn5
  simp only [List.cons_append, List.nil_append, List.map_cons, List.map_nil] at hF
  clear hB hG
  have hB := (Bx.cons h5 hB1)
  have hG := hG1
  clear hB1 hG1 h5
  refine hL _ _ ?_
  clear hL L hgu
  obtain ⟨u, rfl⟩ : ∃ x, x = v := ⟨_, rfl⟩
  have r := hB.r
  simp only [BxR] at r
  go_wp2_with fail
  clear r
  generalize hu0 : World.setCell (World.setCell u _ _) _ _ = u0
  have hBG := over_n hB hF hG 0 rfl 0 [_, _] hu0
  clear hB hG hu0
  obtain ⟨hB, hG⟩ := hBG
  clear u
  obtain ⟨u, rfl⟩ : ∃ x, x = u0 := ⟨_, rfl⟩
  refine NoK.norm (hN _ _ ?_)
  clear hN K
  refine then_norm ?_
  refine wp_seq ?_
  refine wp_r0 ?_
  intro K hN
  go_wp2_with fail
  refine NoK.norm (hN _ _ ?_)
  clear hN K
  refine then_norm ?_
  refine wp_cond_split rfl ?_ ?_
  ·intro ht
   have ht30 := ht
   refine wp_seq ?_
   refine wp_rs (w := w) allocs 4 [0, 0, 0, 1] (by kernel_rfl) (by simp only [List.drop_succ_cons, List.drop_zero]; exact rfl) (fun _ => True) noG hB hG trivial ?_
   intro K L hN hL
   simp only [List.zip_cons_cons, List.zip_nil_left]
   refine gya ?_
   refine gyr ?_
   refine gyr ?_
   refine gma (by (rintro v ⟨hgu, hB, hG, -⟩ N hN; go_simp; with_reducible exact gmc (whole_From _ _ (by assumption) _) hN)) ?_
   refine gend ?_
   rintro v ⟨hgu, hB1, hG1, -⟩
   clear hB hG
   have hB := hB1
   have hG := hG1
   clear hB1 hG1
   refine hL _ _ ?_
   clear hL L hgu
   obtain ⟨u, rfl⟩ : ∃ x, x = v := ⟨_, rfl⟩
   have r := hB.r
   simp only [BxR] at r
   go_wp2_with fail
   clear r
   generalize hu0 : World.setCell (World.setCell (World.setCell u _ _) _ _) _ _ = u0
   have hBG := over_n hB hF hG 3 rfl 0 [_, _, _] hu0
   clear hB hG hu0
   obtain ⟨hB, hG⟩ := hBG
   clear u
   obtain ⟨u, rfl⟩ : ∃ x, x = u0 := ⟨_, rfl⟩
   refine NoK.norm (hN _ _ ?_)
   clear hN K
   refine then_norm ?_
   refine wp_ret ?_
   refine then_ret ?_
   refine ret_b rfl ?_
   intro N hN
   have r := hB.r
   simp only [BxR] at r
   simp only [results, Tryz.results66]
   go_simp
   refine hN _ ?_
   clear hN N r
   exact ⟨ret_intV (add_fst (by simpa using ht13) (by simpa using ht)), hG⟩
  ·intro ht
   have ht30 := ht
   refine wp_skip ?_
   refine then_norm ?_
   refine wp_seq ?_
   refine wp_rs (w := w) allocs 9 [0, 0, 0, 0, 1, 0, 0, 0, 2] (by kernel_rfl) (by simp only [List.drop_succ_cons, List.drop_zero]; exact rfl) (fun _ => True) noG hB hG trivial ?_
   intro K L hN hL
   simp only [List.zip_cons_cons, List.zip_nil_left]
   refine gya ?_
   refine gyr ?_
   refine gya ?_
   refine gyr ?_
   refine gma (by (rintro v ⟨hgu, hB, hG, -⟩ N hN; go_simp; with_reducible exact gmc (nat_SubAny _ _ (by assumption) _) hN)) ?_
   refine gya ?_
   refine gya ?_
   refine gya ?_
   refine ga (newObj_Nat _ _ _ _ _) fun b7 hb7 hn7 => ?_
   refine okf (by simp only [Act.put, List.setIfInBounds_toArray, List.set_cons_succ, List.set_cons_zero]; exact rfl) ?_
   refine gend ?_
   rintro v ⟨⟨hgu, hB1, hG1, -⟩, h7⟩
   have hF := Fr.new (tk := []) hF hB hG hb7 hn7
   simp only [List.cons_append, List.nil_append, List.map_cons, List.map_nil] at hF
   clear hB hG
   have hB := (Bx.cons h7 hB1)
   have hG := hG1
   clear hB1 hG1 h7
   refine hL _ _ ?_
   clear hL L hgu
   obtain ⟨u, rfl⟩ : ∃ x, x = v := ⟨_, rfl⟩
   have r := hB.r
   simp only [BxR] at r
   go_wp2_with fail
   clear r
   generalize hu0 : World.setCell (World.setCell u _ _) _ _ = u0
   have hBG := over_n hB hF hG 0 rfl 0 [_, _] hu0
   clear hB hG hu0
   obtain ⟨hB, hG⟩ := hBG
   clear u
   obtain ⟨u, rfl⟩ : ∃ x, x = u0 := ⟨_, rfl⟩
   refine NoK.norm (hN _ _ ?_)
   clear hN K
   refine then_norm ?_
   refine wp_seq ?_
   refine wp_rs (w := w) allocs 4 [0, 0, 0, 1] (by kernel_rfl) (by simp only [List.drop_succ_cons, List.drop_zero]; exact rfl) (fun _ => True) noG hB hG trivial ?_
   intro K L hN hL
   simp only [List.zip_cons_cons, List.zip_nil_left]
   refine gya ?_
   refine gyr ?_
   refine gyr ?_
   refine gma (by (rintro v ⟨hgu, hB, hG, -⟩ N hN; go_simp; with_reducible exact gmc (whole_From _ _ (by assumption) _) hN)) ?_
   refine gend ?_
   rintro v ⟨hgu, hB1, hG1, -⟩
   clear hB hG
   have hB := hB1
   have hG := hG1
   clear hB1 hG1
   refine hL _ _ ?_
   clear hL L hgu
   obtain ⟨u, rfl⟩ : ∃ x, x = v := ⟨_, rfl⟩
   have r := hB.r
   simp only [BxR] at r
   go_wp2_with fail
   clear r
   generalize hu0 : World.setCell (World.setCell (World.setCell u _ _) _ _) _ _ = u0
   have hBG := over_n hB hF hG 4 rfl 0 [_, _, _] hu0
   clear hB hG hu0
   obtain ⟨hB, hG⟩ := hBG
   clear u
   obtain ⟨u, rfl⟩ : ∃ x, x = u0 := ⟨_, rfl⟩
   refine NoK.norm (hN _ _ ?_)
   clear hN K
   refine then_norm ?_
   refine wp_ret ?_
   refine ret_b rfl ?_
   intro N hN
   have r := hB.r
   simp only [BxR] at r
   simp only [results, Tryz.results66]
   go_simp
   refine hN _ ?_
   clear hN N r
   exact ⟨ret_intV (add_snd (by simpa using ht13) (by simpa using ht)), hG⟩
end Go.Proofs.YtimjnkfcnpfoeaaGreatDoor
