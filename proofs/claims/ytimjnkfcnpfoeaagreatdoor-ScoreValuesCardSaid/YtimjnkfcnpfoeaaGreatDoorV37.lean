/-
  Contracts and laws: RefN.
-/
import Derived.Test.YtimjnkfcnpfoeaaGreatDoorV34
set_option linter.unusedSimpArgs false
set_option linter.unusedVariables false
namespace Go.Proofs.YtimjnkfcnpfoeaaGreatDoor
open Go.RowKit
theorem ret_ri {x : Ax} {y z : Int} (h : y = z) : Ending.returned (riV x y) = .returned (riV x z) := by rw [h]
theorem rn_sgn {u : World} {x : Ax} {neg : Bool} {n : Nat} {z : Int} (h : sgn neg n = z) (hr : Rn u x n) : Rn u x z.natAbs := by rw [← h, sgn_abs]; exact hr
theorem ri_ret {w u : World} {x : Ax} {neg : Bool} {n : Nat} {z : Int} (h : sgn neg n = z) (hr : Rn u x n) (hG : Grow w u) : Ret (intR z) w (.returned (riV x (sgn neg n))) u := ⟨x, ret_ri h, rn_sgn h hr, hG⟩
theorem cmpN_ge {a b : Nat} (h : decide (0 ≤ cmpN a b) = true) : b ≤ a := by
 have h := of_decide_eq_true h
 unfold cmpN at h
 split at h
 ·omega
 ·omega
theorem cmpN_no {a b : Nat} (h : decide (0 ≤ cmpN a b) = false) : a < b := by
 have h := of_decide_eq_false h
 unfold cmpN at h
 split at h
 ·assumption
 ·split at h <;> omega
theorem bl_zmul (a b : Int) : bl (zmul a b).natAbs ≤ bl a.natAbs + bl b.natAbs := by unfold zmul; rw [Int.natAbs_mul]; exact bl_mul_le _ _
theorem bl_zadd (a b : Int) : bl (zadd a b).natAbs ≤ max (bl a.natAbs) (bl b.natAbs) + 1 := Nat.le_trans (bl_mono (Int.natAbs_add_le a b)) (bl_add_le _ _)
theorem rn_neg {u : World} {x : Ax} {z : Int} (h : Rn u x z.natAbs) : Rn u x (zneg z).natAbs := by unfold zneg; rw [Int.natAbs_neg]; exact h
--! ref1_den = ref1_den _ _ _ _
set_option maxHeartbeats 400000 in
set_option maxRecDepth 100000 in
theorem ref1_den (x y : Ax) (q : Rat) (w : World) : Calls Tryz.prog 82 #[rqV x y q] w fun e w' => e = .returned (riV y (sgn false q.den)) ∧ Grow w w' := by
 rw [riV_sgn, Bool.false_and]
 have hI := fun W => ref1_I y false q.den W
 simp only [riV_sgn, Bool.false_and] at hI
 go_enter Tryz.func82, Tryz.ntmps82
 refine wp_seq (wp_r0 ?_)
 intro K hN
 go_wp2_with fail
 generalize hu : World.alloc (World.alloc w _) _ = u
 obtain ⟨hB, hG⟩ := bx_first [(_, _), (_, _)] w u hu
 have hF := fr_first w [(41, #[]), (39, #[])]
 simp only [numbered, List.map_cons, List.map_nil] at hB hF
 clear hu
 generalize w.heap.size + 1 = b2 at hB hF ⊢
 generalize w.heap.size = b1 at hB hF ⊢
 refine NoK.norm (hN _ _ ?_)
 clear hN K
 refine then_norm ?_
 refine wp_seq ?_
 refine wp_rs (w := w) allocs 3 [0, 0, 1] (by kernel_rfl) (by simp only [List.drop_succ_cons, List.drop_zero]; exact rfl) (fun _ => True) noG hB hG trivial ?_
 intro K L hN hL
 simp only [List.zip_cons_cons, List.zip_nil_left]
 refine gya ?_
 refine gyr ?_
 refine gma (by (rintro v ⟨hgu, hB, hG, -⟩ N hN; go_simp; with_reducible exact gmc (hI _) hN)) ?_
 refine gend ?_
 rintro v ⟨hgu, hB1, hG1, -⟩
 clear hB hG
 have hB := hB1
 have hG := hG1
 clear hB1 hG1
 refine hL _ _ ?_
 clear hL L hgu
 obtain ⟨u, rfl⟩ : ∃ x, x = v := ⟨_, rfl⟩
 have r := hB.r
 simp only [BxR] at r
 go_wp2_with fail
 clear r
 generalize hu0 : World.setCell (World.setCell u _ _) _ _ = u0
 have hBG := over_n hB hF hG 1 rfl 0 [_, _] hu0
 clear hB hG hu0
 obtain ⟨hB, hG⟩ := hBG
 clear u
 obtain ⟨u, rfl⟩ : ∃ x, x = u0 := ⟨_, rfl⟩
 refine NoK.norm (hN _ _ ?_)
 clear hN K
 refine then_norm ?_
 refine wp_ret ?_
 refine ret_b rfl ?_
 intro N hN
 have r := hB.r
 simp only [BxR] at r
 simp only [results, Tryz.results82]
 go_simp
 refine hN _ ?_
 clear hN N r
 exact ⟨rfl, hG⟩
--! ref1_IntNeg = ref1_IntNeg _ _ _
set_option maxHeartbeats 400000 in
set_option maxRecDepth 100000 in
theorem ref1_IntNeg (x : Ax) (z : Int) (w : World) : Calls Tryz.prog 175 #[riV x z] w fun e w' => e = .returned (riV x (zneg z)) ∧ Grow w w' := by
 go_enter Tryz.func175, Tryz.ntmps175
 refine wp_seq (wp_r0 ?_)
 intro K hN
 go_wp2_with fail
 generalize hu : World.alloc (World.alloc w _) _ = u
 obtain ⟨hB, hG⟩ := bx_first [(_, _), (_, _)] w u hu
 have hF := fr_first w [(39, #[]), (39, #[])]
 simp only [numbered, List.map_cons, List.map_nil] at hB hF
 clear hu
 generalize w.heap.size + 1 = b2 at hB hF ⊢
 generalize w.heap.size = b1 at hB hF ⊢
 refine NoK.norm (hN _ _ ?_)
 clear hN K
 refine then_norm ?_
 refine wp_seq ?_
 refine wp_rs (w := w) allocs 6 [0, 0, 0, 0, 0, 1] (by kernel_rfl) (by simp only [List.drop_succ_cons, List.drop_zero]; exact rfl) (fun _ => True) noG hB hG trivial ?_
 intro K L hN hL
 simp only [List.zip_cons_cons, List.zip_nil_left]
 refine gya ?_
 refine gyr ?_
 refine gya ?_
 refine gya ?_
 refine gyr ?_
 refine gma (by (rintro v ⟨hgu, hB, hG, -⟩ N hN; go_simp; with_reducible exact gmc (ref1_I x _ z.natAbs _) hN)) ?_
 refine gend ?_
 rintro v ⟨hgu, hB1, hG1, -⟩
 clear hB hG
 have hB := hB1
 have hG := hG1
 clear hB1 hG1
 refine hL _ _ ?_
 clear hL L hgu
 obtain ⟨u, rfl⟩ : ∃ x, x = v := ⟨_, rfl⟩
 have r := hB.r
 simp only [BxR] at r
 go_wp2_with fail
 clear r
 generalize hu0 : World.setCell (World.setCell u _ _) _ _ = u0
 have hBG := over_n hB hF hG 1 rfl 0 [_, _] hu0
 clear hB hG hu0
 obtain ⟨hB, hG⟩ := hBG
 clear u
 obtain ⟨u, rfl⟩ : ∃ x, x = u0 := ⟨_, rfl⟩
 refine NoK.norm (hN _ _ ?_)
 clear hN K
 refine then_norm ?_
 refine wp_ret ?_
 refine ret_b rfl ?_
 intro N hN
 have r := hB.r
 simp only [BxR] at r
 simp only [results, Tryz.results175]
 go_simp
 refine hN _ ?_
 clear hN N r
 exact ⟨ret_ri (neg_sgn z), hG⟩
--! ref1_IntSign = ref1_IntSign _ _ _
set_option maxHeartbeats 400000 in
set_option maxRecDepth 100000 in
theorem ref1_IntSign (x : Ax) (z : Int) (w : World) : Calls Tryz.prog 138 #[riV x z] w fun e w' => e = .returned (.int .i64 z.sign) ∧ Grow w w' := by
 go_enter Tryz.func138, Tryz.ntmps138
 refine wp_seq (wp_r0 ?_)
 intro K hN
 go_wp2_with fail
 generalize hu : World.alloc w _ = u
 obtain ⟨hB, hG⟩ := bx_first [(_, _)] w u hu
 have hF := fr_first w [(39, #[])]
 simp only [numbered, List.map_cons, List.map_nil] at hB hF
 clear hu
 generalize w.heap.size = b1 at hB hF ⊢
 refine NoK.norm (hN _ _ ?_)
 clear hN K
 refine then_norm ?_
 refine wp_seq ?_
 refine wp_block ?_
 refine wp_seq ?_
 refine wp_r0 ?_
 intro K hN
 have r := hB.r
 simp only [BxR] at r
 go_wp2_with fail
 clear r
 refine NoK.norm (hN _ _ ?_)
 clear hN K
 refine then_norm ?_
 refine wp_cond_split rfl ?_ ?_
 ·intro ht
  have ht3 := ht
  refine wp_seq ?_
  refine wp_r0 ?_
  intro K hN
  go_wp2_with fail
  refine NoK.norm (hN _ _ ?_)
  clear hN K
  refine then_norm ?_
  refine wp_ret ?_
  refine blk_ret ?_
  refine then_ret ?_
  refine ret_b rfl ?_
  intro N hN
  have r := hB.r
  simp only [BxR] at r
  simp only [results, Tryz.results138]
  go_simp
  refine hN _ ?_
  clear hN N r
  have h2 : ln z.natAbs = 0 := by simpa using ht3
  have h3 : z = 0 := by have := @ln_eq_zero z.natAbs; omega
  exact ⟨ret_i64 (by rw [h3]; rfl), hG⟩
 ·intro ht
  have ht3 := ht
  refine wp_seq ?_
  refine wp_r0 ?_
  intro K hN
  have r := hB.r
  simp only [BxR] at r
  go_wp2_with fail
  clear r
  refine NoK.norm (hN _ _ ?_)
  clear hN K
  refine then_norm ?_
  refine wp_cond_split rfl ?_ ?_
  ·intro ht
   have ht8 := ht
   refine wp_seq ?_
   refine wp_r0 ?_
   intro K hN
   go_wp2_with fail
   refine NoK.norm (hN _ _ ?_)
   clear hN K
   refine then_norm ?_
   refine wp_ret ?_
   refine blk_ret ?_
   refine then_ret ?_
   refine ret_b rfl ?_
   intro N hN
   have r := hB.r
   simp only [BxR] at r
   simp only [results, Tryz.results138]
   go_simp
   refine hN _ ?_
   clear hN N r
   have h : z < 0 := of_decide_eq_true ht8
   exact ⟨ret_i64 (Int.sign_eq_neg_one_of_neg h).symm, hG⟩
  ·intro ht
   have ht8 := ht
   refine wp_skip ?_
   refine blk_norm ?_
   refine then_norm ?_
   refine wp_seq ?_
   refine wp_r0 ?_
   intro K hN
   go_wp2_with fail
   refine NoK.norm (hN _ _ ?_)
   clear hN K
   refine then_norm ?_
   refine wp_ret ?_
   refine ret_b rfl ?_
   intro N hN
   have r := hB.r
   simp only [BxR] at r
   simp only [results, Tryz.results138]
   go_simp
   refine hN _ ?_
   clear hN N r
   have h : ¬ z < 0 := of_decide_eq_false ht8
   have h2 : ¬ ln z.natAbs = 0 := by simpa using ht3
   have h3 : z ≠ 0 := by have := @ln_eq_zero z.natAbs; omega
   exact ⟨ret_i64 (Int.sign_eq_one_of_pos (by omega)).symm, hG⟩
set_option maxHeartbeats 1000000 in
set_option maxRecDepth 100000 in
theorem ref1_IntMul (x y : Ax) (a b : Int) (w : World) (hx : Rn w x a.natAbs) (hy : Rn w y b.natAbs) (ha : bl a.natAbs ≤ 1099511627776) (hb : bl b.natAbs ≤ 1099511627776) : Calls Tryz.prog 81 #[riV x a, riV y b] w (Ret (intR (zmul a b)) w) := by
 go_enter Tryz.func81, Tryz.ntmps81
 refine wp_seq (wp_r0 ?_)
 intro K hN
 go_wp2_with fail
 generalize hu : World.alloc (World.alloc (World.alloc w _) _) _ = u
 obtain ⟨hB, hG⟩ := bx_first [(_, _), (_, _), (_, _)] w u hu
 have hF := fr_first w [(39, #[]), (39, #[]), (39, #[])]
 simp only [numbered, List.map_cons, List.map_nil] at hB hF
 clear hu
 generalize w.heap.size + 1 + 1 = b4 at hB hF ⊢
 generalize w.heap.size + 1 = b3 at hB hF ⊢
 generalize w.heap.size = b2 at hB hF ⊢
 replace hx := hx.grow hG
 replace hy := hy.grow hG
 refine NoK.norm (hN _ _ ?_)
 clear hN K
 refine then_norm ?_
 refine wp_seq ?_
 refine wp_rd (w := w) allocs 11 [] [(0, 0), (0, 1), (0, 2), (0, 3), (0, 4), (0, 5), (0, 6), (0, 7), (0, 8), (1, 9), (1, 10)] (by kernel_rfl) (by kernel_rfl) (by simp only [List.drop_succ_cons, List.drop_zero]; exact rfl) (fun _ => True) noG hB hG trivial ?_
 intro K L hN hL
 simp only [pickOps, List.getElem?_toArray, List.getElem?_cons_zero, List.getElem?_cons_succ]
 refine gya ?_
 refine gyr ?_
 refine gya ?_
 refine gyr ?_
 refine gya ?_
 refine gya ?_
 refine gyr ?_
 refine gya ?_
 refine gyr ?_
 refine gr (natR (a.natAbs * b.natAbs)) rfl ?_ (fun (x14 : Ax) => ?_)
 ·(rintro v ⟨hgu, hB, hG, -⟩ N hN; go_simp; ((with_reducible refine (ref1_NatMul x y a.natAbs b.natAbs _ (hx.grow hgu) (hy.grow hgu) ha hb).mono ?_); rintro e w1 ⟨x, rfl, hx, hg⟩; exact ⟨_, rfl, hN x w1 hx hg⟩))
 refine okf (by simp only [natR, intR, ratR, nnR, Act.put, List.setIfInBounds_toArray, List.set_cons_succ, List.set_cons_zero]; exact rfl) ?_
 refine gma (by (rintro v ⟨⟨hgu, hB, hG, -⟩, hx14⟩ N hN; have hx14 : Rn v x14 _ := hx14; go_simp; with_reducible exact gmc (ref1_I x14 _ (a.natAbs * b.natAbs) _) hN)) ?_
 refine gend ?_
 rintro v ⟨⟨hgu, hB1, hG1, -⟩, hx14⟩
 replace hx := hx.grow hgu
 replace hy := hy.grow hgu
 replace hx14 : Rn v x14 _ := hx14
 clear hB hG
 have hB := hB1
 have hG := hG1
 clear hB1 hG1
 refine hL _ _ ?_
 clear hL L hgu
 obtain ⟨u, rfl⟩ : ∃ x, x = v := ⟨_, rfl⟩
 have r := hB.r
 simp only [BxR] at r
 go_wp2_with fail
 clear r
 generalize hu0 : World.setCell (World.setCell u _ _) _ _ = u0
 have hBG := over_n hB hF hG 2 rfl 0 [_, _] hu0
 replace hx := hx.put hB 2 rfl (by first | decide | simp) 0 [_, _] hu0
 replace hy := hy.put hB 2 rfl (by first | decide | simp) 0 [_, _] hu0
 replace hx14 := hx14.put hB 2 rfl (by first | decide | simp) 0 [_, _] hu0
 clear hB hG hu0
 obtain ⟨hB, hG⟩ := hBG
 clear u
 obtain ⟨u, rfl⟩ : ∃ x, x = u0 := ⟨_, rfl⟩
 refine NoK.norm (hN _ _ ?_)
 clear hN K
 refine then_norm ?_
 refine wp_ret ?_
 refine ret_b rfl ?_
 intro N hN
 have r := hB.r
 simp only [BxR] at r
 simp only [results, Tryz.results81]
 go_simp
 refine hN _ ?_
 clear hN N r
 exact ri_ret (mul_sgn a b) hx14 hG
set_option maxHeartbeats 1000000 in
set_option maxRecDepth 100000 in
theorem ref1_IntAdd (x y : Ax) (a b : Int) (w : World) (hx : Rn w x a.natAbs) (hy : Rn w y b.natAbs) (ha : bl a.natAbs ≤ 1099511627776) (hb : bl b.natAbs ≤ 1099511627776) : Calls Tryz.prog 136 #[riV x a, riV y b] w (Ret (intR (zadd a b)) w) := by
 go_enter Tryz.func136, Tryz.ntmps136
 refine wp_seq (wp_r0 ?_)
 intro K hN
 go_wp2_with fail
 generalize hu : World.alloc (World.alloc (World.alloc w _) _) _ = u
 obtain ⟨hB, hG⟩ := bx_first [(_, _), (_, _), (_, _)] w u hu
 have hF := fr_first w [(39, #[]), (39, #[]), (39, #[])]
 simp only [numbered, List.map_cons, List.map_nil] at hB hF
 clear hu
 generalize w.heap.size + 1 + 1 = b4 at hB hF ⊢
 generalize w.heap.size + 1 = b3 at hB hF ⊢
 generalize w.heap.size = b2 at hB hF ⊢
 replace hx := hx.grow hG
 replace hy := hy.grow hG
 refine NoK.norm (hN _ _ ?_)
 clear hN K
 refine then_norm ?_
 refine wp_seq ?_
 refine wp_seq ?_
 refine wp_r0 ?_
 intro K hN
 have r := hB.r
 simp only [BxR] at r
 go_wp2_with fail
 clear r
 refine NoK.norm (hN _ _ ?_)
 clear hN K
 refine then_norm ?_
 refine wp_cond_split rfl ?_ ?_
 ·intro ht
  have ht9 := ht
  refine wp_seq ?_
  refine wp_rd (w := w) allocs 8 [] [(0, 0), (0, 1), (0, 2), (0, 3), (0, 4), (0, 5), (1, 6), (1, 7)] (by kernel_rfl) (by kernel_rfl) (by simp only [List.drop_succ_cons, List.drop_zero]; exact rfl) (fun _ => True) noG hB hG trivial ?_
  intro K L hN hL
  simp only [pickOps, List.getElem?_toArray, List.getElem?_cons_zero, List.getElem?_cons_succ]
  refine gya ?_
  refine gyr ?_
  refine gya ?_
  refine gyr ?_
  refine gya ?_
  refine gyr ?_
  refine gr (natR (a.natAbs + b.natAbs)) rfl ?_ (fun (x16 : Ax) => ?_)
  ·(rintro v ⟨hgu, hB, hG, -⟩ N hN; go_simp; ((with_reducible refine (ref1_NatAdd x y a.natAbs b.natAbs _ (hx.grow hgu) (hy.grow hgu) ha hb).mono ?_); rintro e w1 ⟨x, rfl, hx, hg⟩; exact ⟨_, rfl, hN x w1 hx hg⟩))
  refine okf (by simp only [natR, intR, ratR, nnR, Act.put, List.setIfInBounds_toArray, List.set_cons_succ, List.set_cons_zero]; exact rfl) ?_
  refine gma (by (rintro v ⟨⟨hgu, hB, hG, -⟩, hx16⟩ N hN; have hx16 : Rn v x16 _ := hx16; go_simp; with_reducible exact gmc (ref1_I x16 _ (a.natAbs + b.natAbs) _) hN)) ?_
  refine gend ?_
  rintro v ⟨⟨hgu, hB1, hG1, -⟩, hx16⟩
  replace hx := hx.grow hgu
  replace hy := hy.grow hgu
  replace hx16 : Rn v x16 _ := hx16
  clear hB hG
  have hB := hB1
  have hG := hG1
  clear hB1 hG1
  refine hL _ _ ?_
  clear hL L hgu
  obtain ⟨u, rfl⟩ : ∃ x, x = v := ⟨_, rfl⟩
  have r := hB.r
  simp only [BxR] at r
  go_wp2_with fail
  clear r
  generalize hu0 : World.setCell (World.setCell u _ _) _ _ = u0
  have hBG := over_n hB hF hG 2 rfl 0 [_, _] hu0
  replace hx := hx.put hB 2 rfl (by first | decide | simp) 0 [_, _] hu0
  replace hy := hy.put hB 2 rfl (by first | decide | simp) 0 [_, _] hu0
  replace hx16 := hx16.put hB 2 rfl (by first | decide | simp) 0 [_, _] hu0
  clear hB hG hu0
  obtain ⟨hB, hG⟩ := hBG
  clear u
  obtain ⟨u, rfl⟩ : ∃ x, x = u0 := ⟨_, rfl⟩
  refine NoK.norm (hN _ _ ?_)
  clear hN K
  refine then_norm ?_
  refine wp_ret ?_
  refine then_ret ?_
  refine ret_b rfl ?_
  intro N hN
  have r := hB.r
  simp only [BxR] at r
  simp only [results, Tryz.results136]
  go_simp
  refine hN _ ?_
  clear hN N r
  exact ri_ret (add_same (by simpa using ht9)) hx16 hG
 ·intro ht
  have ht9 := ht
  refine wp_skip ?_
  refine then_norm ?_
  refine wp_seq ?_
  refine wp_seq ?_
  refine wp_rs (w := w) allocs 6 [0, 0, 0, 0, 1, 0] (by kernel_rfl) (by simp only [List.drop_succ_cons, List.drop_nil]; exact rfl) (fun _ => True) noG hB hG trivial ?_
  intro K L hN hL
  simp only [List.zip_cons_cons, List.zip_nil_left]
  refine gya ?_
  refine gyr ?_
  refine gya ?_
  refine gyr ?_
  refine gma (by (rintro v ⟨hgu, hB, hG, -⟩ N hN; go_simp; with_reducible exact gmc (ref1_NatCmp x y a.natAbs b.natAbs _ (hx.grow hgu) (hy.grow hgu)) hN)) ?_
  refine gya ?_
  refine gend ?_
  rintro v ⟨hgu, hB1, hG1, -⟩
  replace hx := hx.grow hgu
  replace hy := hy.grow hgu
  clear hB hG
  have hB := hB1
  have hG := hG1
  clear hB1 hG1
  refine hL _ _ ?_
  clear hL L hgu
  obtain ⟨u, rfl⟩ : ∃ x, x = v := ⟨_, rfl⟩
  refine wpList_nil ?_
  refine NoK.norm (hN _ _ ?_)
  clear hN K
  refine then_norm ?_
  refine wp_cond_split rfl ?_ ?_
  ·intro ht
   have ht23 := ht
   have hle := cmpN_ge ht
   refine wp_seq ?_
   refine wp_rd (w := w) allocs 8 [] [(0, 0), (0, 1), (0, 2), (0, 3), (0, 4), (0, 5), (1, 6), (1, 7)] (by kernel_rfl) (by kernel_rfl) (by simp only [List.drop_succ_cons, List.drop_zero]; exact rfl) (fun _ => True) noG hB hG trivial ?_
   intro K L hN hL
   simp only [pickOps, List.getElem?_toArray, List.getElem?_cons_zero, List.getElem?_cons_succ]
   refine gya ?_
   refine gyr ?_
   refine gya ?_
   refine gyr ?_
   refine gya ?_
   refine gyr ?_
   refine gr (natR (a.natAbs - b.natAbs)) rfl ?_ (fun (x30 : Ax) => ?_)
   ·(rintro v ⟨hgu, hB, hG, -⟩ N hN; go_simp; ((with_reducible refine (ref1_NatSub x y a.natAbs b.natAbs _ (hx.grow hgu) (hy.grow hgu) hle ha).mono ?_); rintro e w1 ⟨x, rfl, hx, hg⟩; exact ⟨_, rfl, hN x w1 hx hg⟩))
   refine okf (by simp only [natR, intR, ratR, nnR, Act.put, List.setIfInBounds_toArray, List.set_cons_succ, List.set_cons_zero]; exact rfl) ?_
   refine gma (by (rintro v ⟨⟨hgu, hB, hG, -⟩, hx30⟩ N hN; have hx30 : Rn v x30 _ := hx30; go_simp; with_reducible exact gmc (ref1_I x30 _ (a.natAbs - b.natAbs) _) hN)) ?_
   refine gend ?_
   rintro v ⟨⟨hgu, hB1, hG1, -⟩, hx30⟩
   replace hx := hx.grow hgu
   replace hy := hy.grow hgu
   replace hx30 : Rn v x30 _ := hx30
   clear hB hG
   have hB := hB1
   have hG := hG1
   clear hB1 hG1
   refine hL _ _ ?_
   clear hL L hgu
   obtain ⟨u, rfl⟩ : ∃ x, x = v := ⟨_, rfl⟩
   have r := hB.r
   simp only [BxR] at r
   go_wp2_with fail
   clear r
   generalize hu0 : World.setCell (World.setCell u _ _) _ _ = u0
   have hBG := over_n hB hF hG 2 rfl 0 [_, _] hu0
   replace hx := hx.put hB 2 rfl (by first | decide | simp) 0 [_, _] hu0
   replace hy := hy.put hB 2 rfl (by first | decide | simp) 0 [_, _] hu0
   replace hx30 := hx30.put hB 2 rfl (by first | decide | simp) 0 [_, _] hu0
   clear hB hG hu0
   obtain ⟨hB, hG⟩ := hBG
   clear u
   obtain ⟨u, rfl⟩ : ∃ x, x = u0 := ⟨_, rfl⟩
   refine NoK.norm (hN _ _ ?_)
   clear hN K
   refine then_norm ?_
   refine wp_ret ?_
   refine then_ret ?_
   refine ret_b rfl ?_
   intro N hN
   have r := hB.r
   simp only [BxR] at r
   simp only [results, Tryz.results136]
   go_simp
   refine hN _ ?_
   clear hN N r
   exact ri_ret (add_fst (by simpa using ht9) hle) hx30 hG
  ·intro ht
   have ht23 := ht
   have hlt := cmpN_no ht
   refine wp_skip ?_
   refine then_norm ?_
   refine wp_seq ?_
   refine wp_rd (w := w) allocs 8 [] [(0, 0), (0, 1), (0, 2), (0, 3), (0, 4), (0, 5), (1, 6), (1, 7)] (by kernel_rfl) (by kernel_rfl) (by simp only [List.drop_succ_cons, List.drop_zero]; exact rfl) (fun _ => True) noG hB hG trivial ?_
   intro K L hN hL
   simp only [pickOps, List.getElem?_toArray, List.getElem?_cons_zero, List.getElem?_cons_succ]
   refine gya ?_
   refine gyr ?_
   refine gya ?_
   refine gyr ?_
   refine gya ?_
   refine gyr ?_
   refine gr (natR (b.natAbs - a.natAbs)) rfl ?_ (fun (x38 : Ax) => ?_)
   ·(rintro v ⟨hgu, hB, hG, -⟩ N hN; go_simp; ((with_reducible refine (ref1_NatSub y x b.natAbs a.natAbs _ (hy.grow hgu) (hx.grow hgu) (Nat.le_of_lt hlt) hb).mono ?_); rintro e w1 ⟨x, rfl, hx, hg⟩; exact ⟨_, rfl, hN x w1 hx hg⟩))
   refine okf (by simp only [natR, intR, ratR, nnR, Act.put, List.setIfInBounds_toArray, List.set_cons_succ, List.set_cons_zero]; exact rfl) ?_
   refine gma (by (rintro v ⟨⟨hgu, hB, hG, -⟩, hx38⟩ N hN; have hx38 : Rn v x38 _ := hx38; go_simp; with_reducible exact gmc (ref1_I x38 _ (b.natAbs - a.natAbs) _) hN)) ?_
   refine gend ?_
   rintro v ⟨⟨hgu, hB1, hG1, -⟩, hx38⟩
   replace hx := hx.grow hgu
   replace hy := hy.grow hgu
   replace hx38 : Rn v x38 _ := hx38
   clear hB hG
   have hB := hB1
   have hG := hG1
   clear hB1 hG1
   refine hL _ _ ?_
   clear hL L hgu
   obtain ⟨u, rfl⟩ : ∃ x, x = v := ⟨_, rfl⟩
   have r := hB.r
   simp only [BxR] at r
   go_wp2_with fail
   clear r
   generalize hu0 : World.setCell (World.setCell u _ _) _ _ = u0
   have hBG := over_n hB hF hG 2 rfl 0 [_, _] hu0
   replace hx := hx.put hB 2 rfl (by first | decide | simp) 0 [_, _] hu0
   replace hy := hy.put hB 2 rfl (by first | decide | simp) 0 [_, _] hu0
   replace hx38 := hx38.put hB 2 rfl (by first | decide | simp) 0 [_, _] hu0
   clear hB hG hu0
   obtain ⟨hB, hG⟩ := hBG
   clear u
   obtain ⟨u, rfl⟩ : ∃ x, x = u0 := ⟨_, rfl⟩
   refine NoK.norm (hN _ _ ?_)
   clear hN K
   refine then_norm ?_
   refine wp_ret ?_
   refine ret_b rfl ?_
   intro N hN
   have r := hB.r
   simp only [BxR] at r
   simp only [results, Tryz.results136]
   go_simp
   refine hN _ ?_
   clear hN N r
   exact ri_ret (add_snd (by simpa using ht9) (Nat.not_le.2 hlt)) hx38 hG
def zsub (a b : Int) : Int := a - b
theorem zsub_eq (a b : Int) : zadd a (zneg b) = zsub a b := by unfold zadd zneg zsub; omega
theorem zsub_sign (a b : Int) : (zsub a b).sign = cmpZ a b := by
 unfold zsub cmpZ
 split
 ·exact Int.sign_eq_neg_one_of_neg (by omega)
 ·split
  ·exact Int.sign_eq_one_of_pos (by omega)
  ·rw [show a - b = 0 by omega]; rfl
set_option maxHeartbeats 1000000 in
set_option maxRecDepth 100000 in
theorem ref1_IntSub (x y : Ax) (a b : Int) (w : World) (hx : Rn w x a.natAbs) (hy : Rn w y b.natAbs) (ha : bl a.natAbs ≤ 1099511627776) (hb : bl b.natAbs ≤ 1099511627776) : Calls Tryz.prog 176 #[riV x a, riV y b] w (Ret (intR (zsub a b)) w) := by
 have hy' := rn_neg hy
 have hb' : bl (zneg b).natAbs ≤ 1099511627776 := by rw [bl_zneg]; exact hb
 have had := fun W h1 h2 => ref1_IntAdd x y a (zneg b) W h1 h2 ha hb'
 rw [zsub_eq] at had
 clear hy
 go_enter Tryz.func176, Tryz.ntmps176
 refine wp_seq (wp_r0 ?_)
 intro K hN
 go_wp2_with fail
 generalize hu : World.alloc (World.alloc (World.alloc w _) _) _ = u
 obtain ⟨hB, hG⟩ := bx_first [(_, _), (_, _), (_, _)] w u hu
 have hF := fr_first w [(39, #[]), (39, #[]), (39, #[])]
 simp only [numbered, List.map_cons, List.map_nil] at hB hF
 clear hu
 generalize w.heap.size + 1 + 1 = b4 at hB hF ⊢
 generalize w.heap.size + 1 = b3 at hB hF ⊢
 generalize w.heap.size = b2 at hB hF ⊢
 replace hx := hx.grow hG
 replace hy' := hy'.grow hG
 refine NoK.norm (hN _ _ ?_)
 clear hN K
 refine then_norm ?_
 refine wp_seq ?_
 refine wp_rd (w := w) allocs 4 [] [(0, 0), (0, 1), (1, 2), (1, 3)] (by kernel_rfl) (by kernel_rfl) (by simp only [List.drop_succ_cons, List.drop_zero]; exact rfl) (fun _ => True) noG hB hG trivial ?_
 intro K L hN hL
 simp only [pickOps, List.getElem?_toArray, List.getElem?_cons_zero, List.getElem?_cons_succ]
 refine gyr ?_
 refine gyr ?_
 refine gma (by (rintro v ⟨hgu, hB, hG, -⟩ N hN; go_simp; with_reducible exact gmc (ref1_IntNeg _ _ _) hN)) ?_
 refine gr (intR (zsub a b)) rfl ?_ (fun (x8 : Ax) => ?_)
 ·(rintro v ⟨hgu, hB, hG, -⟩ N hN; go_simp; ((with_reducible refine (had _ (hx.grow hgu) (hy'.grow hgu)).mono ?_); rintro e w1 ⟨x, rfl, hx, hg⟩; exact ⟨_, rfl, hN x w1 hx hg⟩))
 refine okf (by simp only [natR, intR, ratR, nnR, Act.put, List.setIfInBounds_toArray, List.set_cons_succ, List.set_cons_zero]; exact rfl) ?_
 refine gend ?_
 rintro v ⟨⟨hgu, hB1, hG1, -⟩, hx8⟩
 replace hx := hx.grow hgu
 replace hy' := hy'.grow hgu
 replace hx8 : Rn v x8 _ := hx8
 clear hB hG
 have hB := hB1
 have hG := hG1
 clear hB1 hG1
 refine hL _ _ ?_
 clear hL L hgu
 obtain ⟨u, rfl⟩ : ∃ x, x = v := ⟨_, rfl⟩
 have r := hB.r
 simp only [BxR] at r
 go_wp2_with fail
 clear r
 generalize hu0 : World.setCell (World.setCell u _ _) _ _ = u0
 have hBG := over_n hB hF hG 2 rfl 0 [_, _] hu0
 replace hx := hx.put hB 2 rfl (by first | decide | simp) 0 [_, _] hu0
 replace hy' := hy'.put hB 2 rfl (by first | decide | simp) 0 [_, _] hu0
 replace hx8 := hx8.put hB 2 rfl (by first | decide | simp) 0 [_, _] hu0
 clear hB hG hu0
 obtain ⟨hB, hG⟩ := hBG
 clear u
 obtain ⟨u, rfl⟩ : ∃ x, x = u0 := ⟨_, rfl⟩
 refine NoK.norm (hN _ _ ?_)
 clear hN K
 refine then_norm ?_
 refine wp_ret ?_
 refine ret_b rfl ?_
 intro N hN
 have r := hB.r
 simp only [BxR] at r
 simp only [results, Tryz.results176]
 go_simp
 refine hN _ ?_
 clear hN N r
 exact ⟨x8, rfl, hx8, hG⟩
set_option maxHeartbeats 1000000 in
set_option maxRecDepth 100000 in
theorem ref1_IntCmp (x y : Ax) (a b : Int) (w : World) (hx : Rn w x a.natAbs) (hy : Rn w y b.natAbs) (ha : bl a.natAbs ≤ 1099511627776) (hb : bl b.natAbs ≤ 1099511627776) : Calls Tryz.prog 143 #[riV x a, riV y b] w fun e w' => e = .returned (.int .i64 (cmpZ a b)) ∧ Grow w w' := by
 rw [← zsub_sign]
 go_enter Tryz.func143, Tryz.ntmps143
 refine wp_seq (wp_r0 ?_)
 intro K hN
 go_wp2_with fail
 generalize hu : World.alloc (World.alloc w _) _ = u
 obtain ⟨hB, hG⟩ := bx_first [(_, _), (_, _)] w u hu
 have hF := fr_first w [(39, #[]), (39, #[])]
 simp only [numbered, List.map_cons, List.map_nil] at hB hF
 clear hu
 generalize w.heap.size + 1 = b3 at hB hF ⊢
 generalize w.heap.size = b2 at hB hF ⊢
 replace hx := hx.grow hG
 replace hy := hy.grow hG
 refine NoK.norm (hN _ _ ?_)
 clear hN K
 refine then_norm ?_
 refine wp_seq ?_
 refine wp_rs (w := w) allocs 5 [0, 0, 1, 1, 0] (by kernel_rfl) (by simp only [List.drop_succ_cons, List.drop_nil]; exact rfl) (fun _ => True) noG hB hG trivial ?_
 intro K L hN hL
 simp only [List.zip_cons_cons, List.zip_nil_left]
 refine gyr ?_
 refine gyr ?_
 refine gr (intR (zsub a b)) rfl ?_ (fun (x7 : Ax) => ?_)
 ·(rintro v ⟨hgu, hB, hG, -⟩ N hN; go_simp; ((with_reducible refine (ref1_IntSub x y a b _ (hx.grow hgu) (hy.grow hgu) ha hb).mono ?_); rintro e w1 ⟨x, rfl, hx, hg⟩; exact ⟨_, rfl, hN x w1 hx hg⟩))
 refine okf (by simp only [natR, intR, ratR, nnR, Act.put, List.setIfInBounds_toArray, List.set_cons_succ, List.set_cons_zero]; exact rfl) ?_
 refine gma (by (rintro v ⟨⟨hgu, hB, hG, -⟩, hx7⟩ N hN; have hx7 : Rn v x7 _ := hx7; go_simp; with_reducible exact gmc (ref1_IntSign x7 (zsub a b) _) hN)) ?_
 refine gya ?_
 refine gend ?_
 rintro v ⟨⟨hgu, hB1, hG1, -⟩, hx7⟩
 replace hx := hx.grow hgu
 replace hy := hy.grow hgu
 replace hx7 : Rn v x7 _ := hx7
 clear hB hG
 have hB := hB1
 have hG := hG1
 clear hB1 hG1
 refine hL _ _ ?_
 clear hL L hgu
 obtain ⟨u, rfl⟩ : ∃ x, x = v := ⟨_, rfl⟩
 refine wpList_nil ?_
 refine NoK.norm (hN _ _ ?_)
 clear hN K
 refine then_norm ?_
 refine wp_ret ?_
 refine ret_b rfl ?_
 intro N hN
 have r := hB.r
 simp only [BxR] at r
 simp only [results, Tryz.results143]
 go_simp
 refine hN _ ?_
 clear hN N r
 exact ⟨rfl, hG⟩
end Go.Proofs.YtimjnkfcnpfoeaaGreatDoor
