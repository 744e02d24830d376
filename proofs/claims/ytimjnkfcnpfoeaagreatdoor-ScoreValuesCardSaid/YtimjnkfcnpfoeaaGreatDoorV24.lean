/-
  Contracts and laws: FracA.
-/
import Derived.Test.YtimjnkfcnpfoeaaGreatDoorV23
set_option linter.unusedSimpArgs false
set_option linter.unusedVariables false
namespace Go.Proofs.YtimjnkfcnpfoeaaGreatDoor
open Go.RowKit
theorem ret_qV {p q : Rat} (h : p = q) : Ending.returned (qV p) = .returned (qV q) := by rw [h]
theorem ret_nqV {n : Int} {d : Nat} {q : Rat} (h1 : q.num = n) (h2 : q.den = d) : Ending.returned (nqV n d) = .returned (qV q) := by rw [nqV_eq h1 h2]
theorem ret_natV {a b : Nat} (h : a = b) : Ending.returned (natV a) = .returned (natV b) := by rw [h]
theorem kept_big {d : Nat} (h : bl d ≤ 1099511627776) : bl (keptDen d) ≤ 1099511627776 := by
 unfold keptDen; split
 ·rw [bl_zero]; omega
 ·exact h
--! frac_isWhole = frac_isWhole _ SIDE _
set_option maxHeartbeats 400000 in
set_option maxRecDepth 100000 in
theorem frac_isWhole (q : Rat) (h : bl q.den ≤ 1099511627776) (w : World) : Calls Tryz.prog 65 #[qV q] w fun e w' => e = .returned (.bool (decide (q.den = 1))) ∧ Grow w w' := by
 have hk := kept_big h
 have hd : decide (q.den = 1) = ((bl (keptDen q.den) : Int) == 0) := by
  have h2 := q.den_pos
  by_cases h1 : q.den = 1
  ·rw [h1, keptDen_one, bl_zero]; rfl
  ·rw [keptDen_ne h1, decide_eq_false h1]
   have : bl q.den ≠ 0 := fun e => by have := bl_eq_zero.1 e; omega
   symm
   simpa using this
 rw [hd]
 clear hd
 go_enter Tryz.func65, Tryz.ntmps65
 refine wp_seq (wp_r0 ?_)
 intro K hN
 go_wp2_with fail
 generalize hu : World.alloc w _ = u
 obtain ⟨hB, hG⟩ := bx_first [(_, _)] w u hu
 have hF := fr_first w [(32, #[])]
 simp only [numbered, List.map_cons, List.map_nil] at hB hF
 clear hu
 generalize w.heap.size = b1 at hB hF ⊢
 refine NoK.norm (hN _ _ ?_)
 clear hN K
 refine then_norm ?_
 refine wp_seq ?_
 refine wp_rs (w := w) allocs 5 [0, 0, 1, 0, 0] (by kernel_rfl) (by simp only [List.drop_succ_cons, List.drop_nil]; exact rfl) (fun _ => True) noG hB hG trivial ?_
 intro K L hN hL
 simp only [List.zip_cons_cons, List.zip_nil_left]
 refine gya ?_
 refine gyr ?_
 refine gma (by (rintro v ⟨hgu, hB, hG, -⟩ N hN; go_simp; with_reducible exact gmc (nat_Bits _ (by assumption) _) hN)) ?_
 refine gya ?_
 refine gya ?_
 refine gend ?_
 rintro v ⟨hgu, hB1, hG1, -⟩
 clear hB hG
 have hB := hB1
 have hG := hG1
 clear hB1 hG1
 refine hL _ _ ?_
 clear hL L hgu
 obtain ⟨u, rfl⟩ : ∃ x, x = v := ⟨_, rfl⟩
 refine wpList_nil ?_
 refine NoK.norm (hN _ _ ?_)
 clear hN K
 refine then_norm ?_
 refine wp_ret ?_
 refine ret_b rfl ?_
 intro N hN
 have r := hB.r
 simp only [BxR] at r
 simp only [results, Tryz.results65]
 go_simp
 refine hN _ ?_
 clear hN N r
 exact ⟨rfl, hG⟩
theorem nat_Of_1 (w : World) : Calls Tryz.prog 125 #[.int .u64 1] w fun e w' => e = .returned (natV 1) ∧ Grow w w' := nat_Of 1 (by unfold W64; omega) w
--! frac_Den = frac_Den _ SIDE _
set_option maxHeartbeats 400000 in
set_option maxRecDepth 100000 in
theorem frac_Den (q : Rat) (h : bl q.den ≤ 1099511627776) (w : World) : Calls Tryz.prog 69 #[qV q] w fun e w' => e = .returned (natV q.den) ∧ Grow w w' := by
 go_enter Tryz.func69, Tryz.ntmps69
 refine wp_seq (wp_r0 ?_)
 intro K hN
 go_wp2_with fail
 generalize hu : World.alloc (World.alloc w _) _ = u
 obtain ⟨hB, hG⟩ := bx_first [(_, _), (_, _)] w u hu
 have hF := fr_first w [(32, #[]), (28, #[])]
 simp only [numbered, List.map_cons, List.map_nil] at hB hF
 clear hu
 generalize w.heap.size + 1 = b2 at hB hF ⊢
 generalize w.heap.size = b1 at hB hF ⊢
 refine NoK.norm (hN _ _ ?_)
 clear hN K
 refine then_norm ?_
 refine wp_seq ?_
 refine wp_seq ?_
 refine wp_rs (w := w) allocs 2 [0, 1] (by kernel_rfl) (by simp only [List.drop_succ_cons, List.drop_nil]; exact rfl) (fun _ => True) noG hB hG trivial ?_
 intro K L hN hL
 simp only [List.zip_cons_cons, List.zip_nil_left]
 refine gyr ?_
 refine gma (by (rintro v ⟨hgu, hB, hG, -⟩ N hN; go_simp; with_reducible exact gmc (frac_isWhole _ (by assumption) _) hN)) ?_
 refine gend ?_
 rintro v ⟨hgu, hB1, hG1, -⟩
 clear hB hG
 have hB := hB1
 have hG := hG1
 clear hB1 hG1
 refine hL _ _ ?_
 clear hL L hgu
 obtain ⟨u, rfl⟩ : ∃ x, x = v := ⟨_, rfl⟩
 refine wpList_nil ?_
 refine NoK.norm (hN _ _ ?_)
 clear hN K
 refine then_norm ?_
 refine wp_cond_split rfl ?_ ?_
 ·intro ht
  have ht4 := ht
  refine wp_seq ?_
  refine wp_rs (w := w) allocs 1 [1] (by kernel_rfl) (by simp only [List.drop_succ_cons, List.drop_zero]; exact rfl) (fun _ => True) noG hB hG trivial ?_
  intro K L hN hL
  simp only [List.zip_cons_cons, List.zip_nil_left]
  refine gma (by (rintro v ⟨hgu, hB, hG, -⟩ N hN; go_simp; with_reducible exact gmc (nat_Of_1 _) hN)) ?_
  refine gend ?_
  rintro v ⟨hgu, hB1, hG1, -⟩
  clear hB hG
  have hB := hB1
  have hG := hG1
  clear hB1 hG1
  refine hL _ _ ?_
  clear hL L hgu
  obtain ⟨u, rfl⟩ : ∃ x, x = v := ⟨_, rfl⟩
  have r := hB.r
  simp only [BxR] at r
  go_wp2_with fail
  clear r
  generalize hu0 : World.setCell (World.setCell u _ _) _ _ = u0
  have hBG := over_n hB hF hG 1 rfl 0 [_, _] hu0
  clear hB hG hu0
  obtain ⟨hB, hG⟩ := hBG
  clear u
  obtain ⟨u, rfl⟩ : ∃ x, x = u0 := ⟨_, rfl⟩
  refine NoK.norm (hN _ _ ?_)
  clear hN K
  refine then_norm ?_
  refine wp_ret ?_
  refine then_ret ?_
  refine ret_b rfl ?_
  intro N hN
  have r := hB.r
  simp only [BxR] at r
  simp only [results, Tryz.results69]
  go_simp
  refine hN _ ?_
  clear hN N r
  have e : q.den = 1 := of_decide_eq_true ht
  exact ⟨ret_natV e.symm, hG⟩
 ·intro ht
  have ht4 := ht
  refine wp_skip ?_
  refine then_norm ?_
  refine wp_seq ?_
  refine wp_r0 ?_
  intro K hN
  have r := hB.r
  simp only [BxR] at r
  go_wp2_with fail
  clear r
  generalize hu0 : World.setCell (World.setCell u _ _) _ _ = u0
  have hBG := over_n hB hF hG 1 rfl 0 [_, _] hu0
  clear hB hG hu0
  obtain ⟨hB, hG⟩ := hBG
  clear u
  obtain ⟨u, rfl⟩ : ∃ x, x = u0 := ⟨_, rfl⟩
  refine NoK.norm (hN _ _ ?_)
  clear hN K
  refine then_norm ?_
  refine wp_ret ?_
  refine ret_b rfl ?_
  intro N hN
  have r := hB.r
  simp only [BxR] at r
  simp only [results, Tryz.results69]
  go_simp
  refine hN _ ?_
  clear hN N r
  have e : q.den ≠ 1 := of_decide_eq_false ht
  exact ⟨ret_natV (keptDen_ne e), hG⟩
--! frac_Num = frac_Num _ _
set_option maxHeartbeats 400000 in
theorem frac_Num (q : Rat) (w : World) : Calls Tryz.prog 117 #[qV q] w fun e w' => e = .returned (intV q.num) ∧ Grow w w' := by
 go_enter Tryz.func117, Tryz.ntmps117
 refine wp_seq (wp_r0 ?_)
 intro K hN
 go_wp2_with fail
 generalize hu : World.alloc (World.alloc w _) _ = u
 obtain ⟨hB, hG⟩ := bx_first [(_, _), (_, _)] w u hu
 have hF := fr_first w [(32, #[]), (30, #[])]
 simp only [numbered, List.map_cons, List.map_nil] at hB hF
 clear hu
 generalize w.heap.size + 1 = b2 at hB hF ⊢
 generalize w.heap.size = b1 at hB hF ⊢
 refine NoK.norm (hN _ _ ?_)
 clear hN K
 refine then_norm ?_
 refine wp_seq ?_
 refine wp_r0 ?_
 intro K hN
 have r := hB.r
 simp only [BxR] at r
 go_wp2_with fail
 clear r
 generalize hu0 : World.setCell (World.setCell (World.setCell u _ _) _ _) _ _ = u0
 have hBG := over_n hB hF hG 1 rfl 0 [_, _, _] hu0
 clear hB hG hu0
 obtain ⟨hB, hG⟩ := hBG
 clear u
 obtain ⟨u, rfl⟩ : ∃ x, x = u0 := ⟨_, rfl⟩
 refine NoK.norm (hN _ _ ?_)
 clear hN K
 refine then_norm ?_
 refine wp_ret ?_
 refine ret_b rfl ?_
 intro N hN
 have r := hB.r
 simp only [BxR] at r
 simp only [results, Tryz.results117]
 go_simp
 refine hN _ ?_
 clear hN N r
 exact ⟨rfl, hG⟩
--! frac_Sign = frac_Sign _ SIDE _
set_option maxHeartbeats 400000 in
set_option maxRecDepth 100000 in
theorem frac_Sign (q : Rat) (h : bl q.num.natAbs ≤ 1099511627776) (w : World) : Calls Tryz.prog 48 #[qV q] w fun e w' => e = .returned (.int .i64 q.num.sign) ∧ Grow w w' := by
 go_enter Tryz.func48, Tryz.ntmps48
 refine wp_seq (wp_r0 ?_)
 intro K hN
 go_wp2_with fail
 generalize hu : World.alloc w _ = u
 obtain ⟨hB, hG⟩ := bx_first [(_, _)] w u hu
 have hF := fr_first w [(32, #[])]
 simp only [numbered, List.map_cons, List.map_nil] at hB hF
 clear hu
 generalize w.heap.size = b1 at hB hF ⊢
 refine NoK.norm (hN _ _ ?_)
 clear hN K
 refine then_norm ?_
 refine wp_seq ?_
 refine wp_rs (w := w) allocs 4 [0, 0, 1, 0] (by kernel_rfl) (by simp only [List.drop_succ_cons, List.drop_nil]; exact rfl) (fun _ => True) noG hB hG trivial ?_
 intro K L hN hL
 simp only [List.zip_cons_cons, List.zip_nil_left]
 refine gya ?_
 refine gyr ?_
 refine gma (by (rintro v ⟨hgu, hB, hG, -⟩ N hN; go_simp; with_reducible exact gmc (whole_Sign _ (by assumption) _) hN)) ?_
 refine gya ?_
 refine gend ?_
 rintro v ⟨hgu, hB1, hG1, -⟩
 clear hB hG
 have hB := hB1
 have hG := hG1
 clear hB1 hG1
 refine hL _ _ ?_
 clear hL L hgu
 obtain ⟨u, rfl⟩ : ∃ x, x = v := ⟨_, rfl⟩
 refine wpList_nil ?_
 refine NoK.norm (hN _ _ ?_)
 clear hN K
 refine then_norm ?_
 refine wp_ret ?_
 refine ret_b rfl ?_
 intro N hN
 have r := hB.r
 simp only [BxR] at r
 simp only [results, Tryz.results48]
 go_simp
 refine hN _ ?_
 clear hN N r
 exact ⟨rfl, hG⟩
--! frac_pack = frac_pack _ _ SIDE _
set_option maxHeartbeats 400000 in
set_option maxRecDepth 100000 in
theorem frac_pack (n : Int) (d : Nat) (h : bl d ≤ 1099511627776) (w : World) : Calls Tryz.prog 72 #[intV n, natV d] w fun e w' => e = .returned (nqV n d) ∧ Grow w w' := by
 go_enter Tryz.func72, Tryz.ntmps72
 refine wp_seq (wp_r0 ?_)
 intro K hN
 go_wp2_with fail
 generalize hu : World.alloc (World.alloc (World.alloc w _) _) _ = u
 obtain ⟨hB, hG⟩ := bx_first [(_, _), (_, _), (_, _)] w u hu
 have hF := fr_first w [(30, #[]), (28, #[]), (32, #[])]
 simp only [numbered, List.map_cons, List.map_nil] at hB hF
 clear hu
 generalize w.heap.size + 1 + 1 = b4 at hB hF ⊢
 generalize w.heap.size + 1 = b3 at hB hF ⊢
 generalize w.heap.size = b2 at hB hF ⊢
 refine NoK.norm (hN _ _ ?_)
 clear hN K
 refine then_norm ?_
 refine wp_seq ?_
 refine wp_seq ?_
 refine wp_rs (w := w) allocs 3 [0, 1, 0] (by kernel_rfl) (by simp only [List.drop_succ_cons, List.drop_nil]; exact rfl) (fun _ => True) noG hB hG trivial ?_
 intro K L hN hL
 simp only [List.zip_cons_cons, List.zip_nil_left]
 refine gyr ?_
 refine gma (by (rintro v ⟨hgu, hB, hG, -⟩ N hN; go_simp; with_reducible exact gmc (nat_Bits _ (by assumption) _) hN)) ?_
 refine gya ?_
 refine gend ?_
 rintro v ⟨hgu, hB1, hG1, -⟩
 clear hB hG
 have hB := hB1
 have hG := hG1
 clear hB1 hG1
 refine hL _ _ ?_
 clear hL L hgu
 obtain ⟨u, rfl⟩ : ∃ x, x = v := ⟨_, rfl⟩
 refine wpList_nil ?_
 refine NoK.norm (hN _ _ ?_)
 clear hN K
 refine then_norm ?_
 refine wp_cond_split rfl ?_ ?_
 ·intro ht
  have ht7 := ht
  refine wp_seq ?_
  refine wp_r0 ?_
  intro K hN
  have r := hB.r
  simp only [BxR] at r
  go_wp2_with fail
  clear r
  generalize hu0 : World.setCell (World.setCell (World.setCell (World.setCell (World.setCell u _ _) _ _) _ _) _ _) _ _ = u0
  have hBG := over_n hB hF hG 2 rfl 0 [_, _, _, _, _] hu0
  clear hB hG hu0
  obtain ⟨hB, hG⟩ := hBG
  clear u
  obtain ⟨u, rfl⟩ : ∃ x, x = u0 := ⟨_, rfl⟩
  refine NoK.norm (hN _ _ ?_)
  clear hN K
  refine then_norm ?_
  refine wp_ret ?_
  refine then_ret ?_
  refine ret_b rfl ?_
  intro N hN
  have r := hB.r
  simp only [BxR] at r
  simp only [results, Tryz.results72]
  go_simp
  refine hN _ ?_
  clear hN N r
  have e : d = 1 := bl_eq_one.1 (by simp at ht; omega)
  subst e
  exact ⟨rfl, hG⟩
 ·intro ht
  have ht7 := ht
  refine wp_skip ?_
  refine then_norm ?_
  refine wp_seq ?_
  refine wp_r0 ?_
  intro K hN
  have r := hB.r
  simp only [BxR] at r
  go_wp2_with fail
  clear r
  generalize hu0 : World.setCell (World.setCell (World.setCell (World.setCell (World.setCell u _ _) _ _) _ _) _ _) _ _ = u0
  have hBG := over_n hB hF hG 2 rfl 0 [_, _, _, _, _] hu0
  clear hB hG hu0
  obtain ⟨hB, hG⟩ := hBG
  clear u
  obtain ⟨u, rfl⟩ : ∃ x, x = u0 := ⟨_, rfl⟩
  refine NoK.norm (hN _ _ ?_)
  clear hN K
  refine then_norm ?_
  refine wp_ret ?_
  refine ret_b rfl ?_
  intro N hN
  have r := hB.r
  simp only [BxR] at r
  simp only [results, Tryz.results72]
  go_simp
  refine hN _ ?_
  clear hN N r
  have e : d ≠ 1 := fun e => by
   have h2 := bl_eq_one.2 e
   rw [h2] at ht
   simp at ht
  exact ⟨by rw [nqV, keptDen_ne e], hG⟩
--! frac_over = frac_over _ _ SIDE SIDE SIDE _
set_option maxHeartbeats 400000 in
set_option maxRecDepth 100000 in
theorem frac_over (a b : Nat) (ha : bl a ≤ BIG) (hb : bl b ≤ BIG) (h0 : b ≠ 0) (w : World) : Calls Tryz.prog 70 #[natV a, natV b] w fun e w' => e = .returned (natV (a / b)) ∧ Grow w w' := by
 have hb' := fits_most hb
 go_enter Tryz.func70, Tryz.ntmps70
 refine wp_seq (wp_r0 ?_)
 intro K hN
 go_wp2_with fail
 generalize hu : World.alloc (World.alloc (World.alloc w _) _) _ = u
 obtain ⟨hB, hG⟩ := bx_first [(_, _), (_, _), (_, _)] w u hu
 have hF := fr_first w [(28, #[]), (28, #[]), (28, #[])]
 simp only [numbered, List.map_cons, List.map_nil] at hB hF
 clear hu
 generalize w.heap.size + 1 + 1 = b4 at hB hF ⊢
 generalize w.heap.size + 1 = b3 at hB hF ⊢
 generalize w.heap.size = b2 at hB hF ⊢
 refine NoK.norm (hN _ _ ?_)
 clear hN K
 refine then_norm ?_
 refine wp_seq ?_
 refine wp_seq ?_
 refine wp_rs (w := w) allocs 3 [0, 1, 0] (by kernel_rfl) (by simp only [List.drop_succ_cons, List.drop_nil]; exact rfl) (fun _ => True) noG hB hG trivial ?_
 intro K L hN hL
 simp only [List.zip_cons_cons, List.zip_nil_left]
 refine gyr ?_
 refine gma (by (rintro v ⟨hgu, hB, hG, -⟩ N hN; go_simp; with_reducible exact gmc (nat_Bits _ (by assumption) _) hN)) ?_
 refine gya ?_
 refine gend ?_
 rintro v ⟨hgu, hB1, hG1, -⟩
 clear hB hG
 have hB := hB1
 have hG := hG1
 clear hB1 hG1
 refine hL _ _ ?_
 clear hL L hgu
 obtain ⟨u, rfl⟩ : ∃ x, x = v := ⟨_, rfl⟩
 refine wpList_nil ?_
 refine NoK.norm (hN _ _ ?_)
 clear hN K
 refine then_norm ?_
 refine wp_cond_split rfl ?_ ?_
 ·intro ht
  have ht10 := ht
  refine wp_seq ?_
  refine wp_r0 ?_
  intro K hN
  have r := hB.r
  simp only [BxR] at r
  go_wp2_with fail
  clear r
  generalize hu0 : World.setCell (World.setCell u _ _) _ _ = u0
  have hBG := over_n hB hF hG 2 rfl 0 [_, _] hu0
  clear hB hG hu0
  obtain ⟨hB, hG⟩ := hBG
  clear u
  obtain ⟨u, rfl⟩ : ∃ x, x = u0 := ⟨_, rfl⟩
  refine NoK.norm (hN _ _ ?_)
  clear hN K
  refine then_norm ?_
  refine wp_ret ?_
  refine then_ret ?_
  refine ret_b rfl ?_
  intro N hN
  have r := hB.r
  simp only [BxR] at r
  simp only [results, Tryz.results70]
  go_simp
  refine hN _ ?_
  clear hN N r
  have e : b = 1 := bl_eq_one.1 (by simp at ht; omega)
  exact ⟨ret_natV (by rw [e, Nat.div_one]), hG⟩
 ·intro ht
  have ht10 := ht
  refine wp_skip ?_
  refine then_norm ?_
  refine wp_seq ?_
  refine wp_rs (w := w) allocs 9 [0, 0, 1, 0, 0, 0, 0, 2, 2] (by kernel_rfl) (by simp only [List.drop_succ_cons, List.drop_zero]; exact rfl) (fun _ => True) noG hB hG trivial ?_
  intro K L hN hL
  simp only [List.zip_cons_cons, List.zip_nil_left]
  refine gyr ?_
  refine gyr ?_
  refine gma (by (rintro v ⟨hgu, hB, hG, -⟩ N hN; go_simp; with_reducible exact gmc (nat_Div _ _ (by assumption) (by assumption) (by assumption) _) hN)) ?_
  refine gya ?_
  refine gya ?_
  refine gya ?_
  refine gya ?_
  refine ga (newObj_Nat _ _ _ _ _) fun b5 hb5 hn5 => ?_
  refine okf (by simp only [Act.put, List.setIfInBounds_toArray, List.set_cons_succ, List.set_cons_zero]; exact rfl) ?_
  refine ga (newObj_Nat _ _ _ _ _) fun b6 hb6 hn6 => ?_
  refine okf (by simp only [Act.put, List.setIfInBounds_toArray, List.set_cons_succ, List.set_cons_zero]; exact rfl) ?_
  refine gend ?_
  rintro v ⟨⟨⟨hgu, hB1, hG1, -⟩, h5⟩, h6⟩
  have hF := Fr.new (tk := []) hF hB hG hb5 hn5
  have hF := Fr.new (tk := [b5]) hF hB hG hb6 hn6
  simp only [List.cons_append, List.nil_append, List.map_cons, List.map_nil] at hF
  clear hB hG
  have hB := (Bx.cons h6 (Bx.cons h5 hB1))
  have hG := hG1
  clear hB1 hG1 h5 h6
  refine hL _ _ ?_
  clear hL L hgu
  obtain ⟨u, rfl⟩ : ∃ x, x = v := ⟨_, rfl⟩
  have hD : b5 ≠ b6 ∧ b6 ≠ b5 := ⟨hF.ne 1 0 rfl rfl (by decide), hF.ne 0 1 rfl rfl (by decide)⟩
  have r := hB.r
  simp only [BxR] at r
  go_wp2_with fail
  clear r
  clear hD
  generalize hu0 : World.setCell (World.setCell u _ _) _ _ = u0
  have hBG := over_n hB hF hG 1 rfl 0 [_, _] hu0
  clear hB hG hu0
  obtain ⟨hB, hG⟩ := hBG
  clear u
  generalize hu1 : World.setCell (World.setCell u0 _ _) _ _ = u1
  have hBG := over_n hB hF hG 0 rfl 0 [_, _] hu1
  clear hB hG hu1
  obtain ⟨hB, hG⟩ := hBG
  clear u0
  obtain ⟨u, rfl⟩ : ∃ x, x = u1 := ⟨_, rfl⟩
  refine NoK.norm (hN _ _ ?_)
  clear hN K
  refine then_norm ?_
  refine wp_seq ?_
  refine wp_r0 ?_
  intro K hN
  have r := hB.r
  simp only [BxR] at r
  go_wp2_with fail
  clear r
  generalize hu0 : World.setCell (World.setCell u _ _) _ _ = u0
  have hBG := over_n hB hF hG 4 rfl 0 [_, _] hu0
  clear hB hG hu0
  obtain ⟨hB, hG⟩ := hBG
  clear u
  obtain ⟨u, rfl⟩ : ∃ x, x = u0 := ⟨_, rfl⟩
  refine NoK.norm (hN _ _ ?_)
  clear hN K
  refine then_norm ?_
  refine wp_ret ?_
  refine ret_b rfl ?_
  intro N hN
  have r := hB.r
  simp only [BxR] at r
  simp only [results, Tryz.results70]
  go_simp
  refine hN _ ?_
  clear hN N r
  exact ⟨rfl, hG⟩
--! frac_part = frac_part _ _ SIDE SIDE SIDE _
set_option maxHeartbeats 400000 in
set_option maxRecDepth 100000 in
theorem frac_part (n : Int) (b : Nat) (ha : bl n.natAbs ≤ BIG) (hb : bl b ≤ BIG) (h0 : b ≠ 0) (w : World) : Calls Tryz.prog 73 #[intV n, natV b] w fun e w' => e = .returned (intV (ztd n b)) ∧ Grow w w' := by
 have ha' := fits_most ha
 have hd : bl (n.natAbs / b) ≤ 1099511627776 := Nat.le_trans (bl_div_le _ _) ha'
 go_enter Tryz.func73, Tryz.ntmps73
 refine wp_seq (wp_r0 ?_)
 intro K hN
 go_wp2_with fail
 generalize hu : World.alloc (World.alloc (World.alloc w _) _) _ = u
 obtain ⟨hB, hG⟩ := bx_first [(_, _), (_, _), (_, _)] w u hu
 have hF := fr_first w [(30, #[]), (28, #[]), (30, #[])]
 simp only [numbered, List.map_cons, List.map_nil] at hB hF
 clear hu
 generalize w.heap.size + 1 + 1 = b4 at hB hF ⊢
 generalize w.heap.size + 1 = b3 at hB hF ⊢
 generalize w.heap.size = b2 at hB hF ⊢
 refine NoK.norm (hN _ _ ?_)
 clear hN K
 refine then_norm ?_
 refine wp_seq ?_
 refine wp_rd (w := w) allocs 8 [] [(0, 0), (0, 3), (0, 5), (1, 1), (0, 2), (1, 4), (1, 6), (1, 7)] (by kernel_rfl) (by kernel_rfl) (by simp only [List.drop_succ_cons, List.drop_zero]; exact rfl) (fun _ => True) noG hB hG trivial ?_
 intro K L hN hL
 simp only [pickOps, List.getElem?_toArray, List.getElem?_cons_zero, List.getElem?_cons_succ]
 refine gyr ?_
 refine gyr ?_
 refine gyr ?_
 refine gma (by (rintro v ⟨hgu, hB, hG, -⟩ N hN; go_simp; with_reducible exact gmc (whole_Sign _ (by assumption) _) hN)) ?_
 refine gya ?_
 refine gma (by (rintro v ⟨hgu, hB, hG, -⟩ N hN; go_simp; with_reducible exact gmc (whole_Abs _ _) hN)) ?_
 refine gma (by (rintro v ⟨hgu, hB, hG, -⟩ N hN; go_simp; with_reducible exact gmc (frac_over _ _ (by assumption) (by assumption) (by assumption) _) hN)) ?_
 refine gma (by (rintro v ⟨hgu, hB, hG, -⟩ N hN; go_simp; with_reducible exact gmc (whole_From _ _ (by assumption) _) hN)) ?_
 refine gend ?_
 rintro v ⟨hgu, hB1, hG1, -⟩
 clear hB hG
 have hB := hB1
 have hG := hG1
 clear hB1 hG1
 refine hL _ _ ?_
 clear hL L hgu
 obtain ⟨u, rfl⟩ : ∃ x, x = v := ⟨_, rfl⟩
 have r := hB.r
 simp only [BxR] at r
 go_wp2_with fail
 clear r
 generalize hu0 : World.setCell (World.setCell (World.setCell u _ _) _ _) _ _ = u0
 have hBG := over_n hB hF hG 2 rfl 0 [_, _, _] hu0
 clear hB hG hu0
 obtain ⟨hB, hG⟩ := hBG
 clear u
 obtain ⟨u, rfl⟩ : ∃ x, x = u0 := ⟨_, rfl⟩
 refine NoK.norm (hN _ _ ?_)
 clear hN K
 refine then_norm ?_
 refine wp_ret ?_
 refine ret_b rfl ?_
 intro N hN
 have r := hB.r
 simp only [BxR] at r
 simp only [results, Tryz.results73]
 go_simp
 refine hN _ ?_
 clear hN N r
 exact ⟨ret_intV (sgn_div n b), hG⟩
--! frac_times = frac_times _ _ SIDE _
set_option maxHeartbeats 400000 in
set_option maxRecDepth 100000 in
theorem frac_times (n : Int) (d : Nat) (h : bl n.natAbs + bl d ≤ 1099511627776) (w : World) : Calls Tryz.prog 71 #[intV n, natV d] w fun e w' => e = .returned (intV (ztm n d)) ∧ Grow w w' := by
 have hd : bl d ≤ 1099511627776 := by omega
 have h' : bl n.natAbs + bl (sgn false d).natAbs ≤ 1099511627776 := h
 go_enter Tryz.func71, Tryz.ntmps71
 refine wp_seq (wp_r0 ?_)
 intro K hN
 go_wp2_with fail
 generalize hu : World.alloc (World.alloc (World.alloc w _) _) _ = u
 obtain ⟨hB, hG⟩ := bx_first [(_, _), (_, _), (_, _)] w u hu
 have hF := fr_first w [(30, #[]), (28, #[]), (30, #[])]
 simp only [numbered, List.map_cons, List.map_nil] at hB hF
 clear hu
 generalize w.heap.size + 1 + 1 = b4 at hB hF ⊢
 generalize w.heap.size + 1 = b3 at hB hF ⊢
 generalize w.heap.size = b2 at hB hF ⊢
 refine NoK.norm (hN _ _ ?_)
 clear hN K
 refine then_norm ?_
 refine wp_seq ?_
 refine wp_rd (w := w) allocs 4 [] [(0, 0), (0, 1), (1, 2), (1, 3)] (by kernel_rfl) (by kernel_rfl) (by simp only [List.drop_succ_cons, List.drop_zero]; exact rfl) (fun _ => True) noG hB hG trivial ?_
 intro K L hN hL
 simp only [pickOps, List.getElem?_toArray, List.getElem?_cons_zero, List.getElem?_cons_succ]
 refine gyr ?_
 refine gyr ?_
 refine gma (by (rintro v ⟨hgu, hB, hG, -⟩ N hN; go_simp; with_reducible exact gmc (whole_From _ _ (by assumption) _) hN)) ?_
 refine gma (by (rintro v ⟨hgu, hB, hG, -⟩ N hN; go_simp; with_reducible exact gmc (whole_Mul _ _ (by assumption) _) hN)) ?_
 refine gend ?_
 rintro v ⟨hgu, hB1, hG1, -⟩
 clear hB hG
 have hB := hB1
 have hG := hG1
 clear hB1 hG1
 refine hL _ _ ?_
 clear hL L hgu
 obtain ⟨u, rfl⟩ : ∃ x, x = v := ⟨_, rfl⟩
 have r := hB.r
 simp only [BxR] at r
 go_wp2_with fail
 clear r
 generalize hu0 : World.setCell (World.setCell (World.setCell u _ _) _ _) _ _ = u0
 have hBG := over_n hB hF hG 2 rfl 0 [_, _, _] hu0
 clear hB hG hu0
 obtain ⟨hB, hG⟩ := hBG
 clear u
 obtain ⟨u, rfl⟩ : ∃ x, x = u0 := ⟨_, rfl⟩
 refine NoK.norm (hN _ _ ?_)
 clear hN K
 refine then_norm ?_
 refine wp_ret ?_
 refine ret_b rfl ?_
 intro N hN
 have r := hB.r
 simp only [BxR] at r
 simp only [results, Tryz.results71]
 go_simp
 refine hN _ ?_
 clear hN N r
 exact ⟨rfl, hG⟩
theorem gcd_nd (n : Int) (d : Nat) (hn : bl n.natAbs ≤ BIG) (hd : bl d ≤ BIG) (w : World) (HT : Tab w) : Calls Tryz.prog 67 #[intV n, intV (sgn false d)] w fun e w' => e = .returned (natV (Nat.gcd n.natAbs d)) ∧ Grow w w' := by
 have := whole_Gcd n (sgn false d) hn (by rw [sgn_abs]; exact hd) w HT
 rw [sgn_abs] at this
 exact this
theorem gcd_dd (c d : Nat) (hc : bl c ≤ BIG) (hd : bl d ≤ BIG) (w : World) (HT : Tab w) : Calls Tryz.prog 67 #[intV (sgn false c), intV (sgn false d)] w fun e w' => e = .returned (natV (Nat.gcd c d)) ∧ Grow w w' := by
 have := gcd_nd (sgn false c) d (by rw [sgn_abs]; exact hc) hd w HT
 rw [sgn_abs] at this
 exact this
--! frac_lowest = frac_lowest _ _ SIDE SIDE SIDE _ (HT.grow hG)
set_option maxHeartbeats 1000000 in
set_option maxRecDepth 100000 in
theorem frac_lowest (n : Int) (d : Nat) (hn : bl n.natAbs ≤ BIG) (hd : bl d ≤ BIG) (h0 : d ≠ 0) (w : World) (HT : Tab w) : Calls Tryz.prog 140 #[intV n, natV d] w fun e w' => e = .returned (qV (mkRat n d)) ∧ Grow w w' := by
 have hd' := fits_most hd
 have hg : bl (Nat.gcd n.natAbs d) ≤ BIG := Nat.le_trans (bl_gcd_le' _ _ h0) hd
 have hg0 : Nat.gcd n.natAbs d ≠ 0 := fun e => h0 (Nat.eq_zero_of_gcd_eq_zero_right e)
 have hdd : bl (d / Nat.gcd n.natAbs d) ≤ 1099511627776 := Nat.le_trans (bl_div_le _ _) hd'
 go_enter Tryz.func140, Tryz.ntmps140
 refine wp_seq (wp_r0 ?_)
 intro K hN
 go_wp2_with fail
 generalize hu : World.alloc (World.alloc (World.alloc w _) _) _ = u
 obtain ⟨hB, hG⟩ := bx_first [(_, _), (_, _), (_, _)] w u hu
 have hF := fr_first w [(30, #[]), (28, #[]), (32, #[])]
 simp only [numbered, List.map_cons, List.map_nil] at hB hF
 clear hu
 generalize w.heap.size + 1 + 1 = b4 at hB hF ⊢
 generalize w.heap.size + 1 = b3 at hB hF ⊢
 generalize w.heap.size = b2 at hB hF ⊢
 refine NoK.norm (hN _ _ ?_)
 clear hN K
 refine then_norm ?_
 refine wp_seq ?_
 refine wp_rd (w := w) allocs 5 [] [(0, 0), (0, 1), (1, 2), (1, 3), (2, 4)] (by kernel_rfl) (by kernel_rfl) (by simp only [List.drop_succ_cons, List.drop_zero]; exact rfl) (fun _ => True) noG hB hG trivial ?_
 intro K L hN hL
 simp only [pickOps, List.getElem?_toArray, List.getElem?_cons_zero, List.getElem?_cons_succ]
 refine gyr ?_
 refine gyr ?_
 refine gma (by (rintro v ⟨hgu, hB, hG, -⟩ N hN; go_simp; with_reducible exact gmc (whole_From _ _ (by assumption) _) hN)) ?_
 refine gma (by (rintro v ⟨hgu, hB, hG, -⟩ N hN; go_simp; with_reducible exact gmc (gcd_nd n d hn hd _ (HT.grow hG)) hN)) ?_
 refine ga (newObj_Nat _ _ _ _ _) fun b5 hb5 hn5 => ?_
 refine okf (by simp only [Act.put, List.setIfInBounds_toArray, List.set_cons_succ, List.set_cons_zero]; exact rfl) ?_
 refine gend ?_
 rintro v ⟨⟨hgu, hB1, hG1, -⟩, h5⟩
 have hF := Fr.new (tk := []) hF hB hG hb5 hn5
 simp only [List.cons_append, List.nil_append, List.map_cons, List.map_nil] at hF
 clear hB hG
 have hB := (Bx.cons h5 hB1)
 have hG := hG1
 clear hB1 hG1 h5
 refine hL _ _ ?_
 clear hL L hgu
 obtain ⟨u, rfl⟩ : ∃ x, x = v := ⟨_, rfl⟩
 have r := hB.r
 simp only [BxR] at r
 go_wp2_with fail
 clear r
 generalize hu0 : World.setCell (World.setCell u _ _) _ _ = u0
 have hBG := over_n hB hF hG 0 rfl 0 [_, _] hu0
 clear hB hG hu0
 obtain ⟨hB, hG⟩ := hBG
 clear u
 obtain ⟨u, rfl⟩ : ∃ x, x = u0 := ⟨_, rfl⟩
 refine NoK.norm (hN _ _ ?_)
 clear hN K
 refine then_norm ?_
 refine wp_seq ?_
 refine wp_rd (w := w) allocs 7 [] [(0, 0), (0, 1), (0, 3), (0, 4), (1, 2), (1, 5), (1, 6)] (by kernel_rfl) (by kernel_rfl) (by simp only [List.drop_succ_cons, List.drop_zero]; exact rfl) (fun _ => True) noG hB hG trivial ?_
 intro K L hN hL
 simp only [pickOps, List.getElem?_toArray, List.getElem?_cons_zero, List.getElem?_cons_succ]
 refine gyr ?_
 refine gyr ?_
 refine gyr ?_
 refine gyr ?_
 refine gma (by (rintro v ⟨hgu, hB, hG, -⟩ N hN; go_simp; with_reducible exact gmc (frac_part n (Nat.gcd n.natAbs d) hn hg hg0 _) hN)) ?_
 refine gma (by (rintro v ⟨hgu, hB, hG, -⟩ N hN; go_simp; with_reducible exact gmc (frac_over d (Nat.gcd n.natAbs d) hd hg hg0 _) hN)) ?_
 refine gma (by (rintro v ⟨hgu, hB, hG, -⟩ N hN; go_simp; with_reducible exact gmc (frac_pack _ _ (by assumption) _) hN)) ?_
 refine gend ?_
 rintro v ⟨hgu, hB1, hG1, -⟩
 clear hB hG
 have hB := hB1
 have hG := hG1
 clear hB1 hG1
 refine hL _ _ ?_
 clear hL L hgu
 obtain ⟨u, rfl⟩ : ∃ x, x = v := ⟨_, rfl⟩
 have r := hB.r
 simp only [BxR] at r
 go_wp2_with fail
 clear r
 generalize hu0 : World.setCell (World.setCell (World.setCell (World.setCell (World.setCell u _ _) _ _) _ _) _ _) _ _ = u0
 have hBG := over_n hB hF hG 3 rfl 0 [_, _, _, _, _] hu0
 clear hB hG hu0
 obtain ⟨hB, hG⟩ := hBG
 clear u
 obtain ⟨u, rfl⟩ : ∃ x, x = u0 := ⟨_, rfl⟩
 refine NoK.norm (hN _ _ ?_)
 clear hN K
 refine then_norm ?_
 refine wp_ret ?_
 refine ret_b rfl ?_
 intro N hN
 have r := hB.r
 simp only [BxR] at r
 simp only [results, Tryz.results140]
 go_simp
 refine hN _ ?_
 clear hN N r
 exact ⟨ret_nqV (num_low n d h0) (den_low n d h0), hG⟩
end Go.Proofs.YtimjnkfcnpfoeaaGreatDoor
