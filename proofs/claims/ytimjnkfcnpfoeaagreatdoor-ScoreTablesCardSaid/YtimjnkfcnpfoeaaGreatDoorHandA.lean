/-
  hand: OutNat, OutInt, Out, Same, Is, Pick.
-/
import Derived.Test.YtimjnkfcnpfoeaaGreatDoorFrom
set_option linter.unusedSimpArgs false
namespace Go.Proofs.YtimjnkfcnpfoeaaGreatDoor
open Go.RowKit

def LIM : Nat := 1099511627760
theorem allocs2 : ∀ t ∈ [28, 30, 32, 39, 41], AllocT Tryz.prog t := by
  intro t ht
  simp only [List.mem_cons, List.not_mem_nil, or_false] at ht
  rcases ht with rfl | rfl | rfl | rfl | rfl
  · exact fun _ _ _ _ _ _ => by rw [newObj_Nat]; kernel_rfl
  · exact fun _ _ _ _ _ _ => by rw [newObj_Int]; kernel_rfl
  · exact fun _ _ _ _ _ _ => by rw [newObj_Q]; kernel_rfl
  · exact fun _ _ _ _ _ _ => by rw [newObj_RInt]; kernel_rfl
  · exact fun _ _ _ _ _ _ => by rw [newObj_RQ]; kernel_rfl
set_option maxHeartbeats 400000 in
theorem hand_OutNat (a : Nat) (ha : bl a ≤ LIM) (w : World) : Calls Tryz.prog 118 #[natV a] w (Ret (natR a) w) := by
  unfold LIM at ha
  have hby : ∀ W, Calls Tryz.prog 151 #[natV a] W fun e w' => ∃ A, e = .returned (.slice A (byt a).length (byt a).length) ∧ By w' A (byt a).reverse ∧ Grow W w' := fun W => nat_Bytes a ha W
  have hfr : ∀ A W, By W A (byt a).reverse → Calls Tryz.prog 150 #[.slice A (byt a).length (byt a).length] W (Ret (natR a) W) := fun A W h => ref1_NatFrom A a W ha h
  obtain ⟨n, hn⟩ : ∃ n, n = (byt a).length := ⟨_, rfl⟩
  rw [← hn] at hby hfr
  have Hby := Lib.hid hby
  have Hfr := Lib.hid hfr
  clear hby hfr hn
  go_enter Tryz.func118, Tryz.ntmps118
  go_wp2_with (first
    | (go_at_call 151; ((with_reducible refine (Hby.out _).mono ?_); rintro e w1 ⟨A, rfl, hA, hg1⟩))
    | (go_at_call 150; ((with_reducible refine (Hfr.out _ _ hA).mono ?_); rintro e w2 ⟨x, rfl, hx, hg2⟩)))
  go_ret
  exact ⟨x, rfl, hx, (Grow.alloc _ _).trans (hg1.trans hg2)⟩

set_option maxHeartbeats 400000 in
set_option maxRecDepth 100000 in
theorem hand_OutInt (z : Int) (ha : bl z.natAbs ≤ LIM) (w : World) : Calls Tryz.prog 116 #[intV z] w (Ret (intR z) w) := by
  have ha' : bl z.natAbs ≤ 1099511627776 := by unfold LIM at ha; omega
  go_enter Tryz.func116, Tryz.ntmps116
  refine wp_seq (wp_r0 ?_)
  intro K hN
  go_wp2_with fail
  generalize hu : World.alloc (World.alloc w _) _ = u
  obtain ⟨hB, hG⟩ := bx_first [(_, _), (_, _)] w u hu
  have hF := fr_first w [(30, #[]), (39, #[])]
  simp only [numbered, List.map_cons, List.map_nil] at hB hF
  clear hu
  generalize w.heap.size + 1 = b2 at hB hF ⊢
  generalize w.heap.size = b1 at hB hF ⊢
  refine NoK.norm (hN _ _ ?_)
  clear hN K
  refine then_norm ?_
  refine wp_seq ?_
  refine wp_rd (w := w) allocs 7 [] [(0, 0), (0, 3), (1, 1), (0, 2), (1, 4), (1, 5), (1, 6)] (by kernel_rfl) (by kernel_rfl) (by simp only [List.drop_succ_cons, List.drop_zero]; exact rfl) (fun _ => True) noG hB hG trivial ?_
  intro K L hN hL
  simp only [pickOps, List.getElem?_toArray, List.getElem?_cons_zero, List.getElem?_cons_succ]
  apply gy
  · exact rfl
  · (rintro v ⟨hgu, hB, hG, -⟩ N hN; have r := hB.r; simp only [BxR] at r; go_simp; exact hN)
  refine okf (by simp only [Act.put, List.setIfInBounds_toArray, List.set_cons_succ, List.set_cons_zero]; exact rfl) ?_
  apply gy
  · exact rfl
  · (rintro v ⟨hgu, hB, hG, -⟩ N hN; have r := hB.r; simp only [BxR] at r; go_simp; exact hN)
  refine okf (by simp only [Act.put, List.setIfInBounds_toArray, List.set_cons_succ, List.set_cons_zero]; exact rfl) ?_
  apply gm
  · exact rfl
  · (rintro v ⟨hgu, hB, hG, -⟩ N hN; go_simp; ((with_reducible refine (whole_Sign _ (by assumption) _).mono ?_); rintro e w1 ⟨rfl, hb⟩; exact ⟨_, rfl, hN _ hb⟩))
  refine okf (by simp only [Act.put, List.setIfInBounds_toArray, List.set_cons_succ, List.set_cons_zero]; exact rfl) ?_
  apply gy
  · exact rfl
  · (rintro v - N hN; go_simp; exact hN)
  refine okf (by simp only [Act.put, List.setIfInBounds_toArray, List.set_cons_succ, List.set_cons_zero]; exact rfl) ?_
  apply gm
  · exact rfl
  · (rintro v ⟨hgu, hB, hG, -⟩ N hN; go_simp; ((with_reducible refine (whole_Abs _ _).mono ?_); rintro e w1 ⟨rfl, hb⟩; exact ⟨_, rfl, hN _ hb⟩))
  refine okf (by simp only [Act.put, List.setIfInBounds_toArray, List.set_cons_succ, List.set_cons_zero]; exact rfl) ?_
  refine gr (natR z.natAbs) rfl ?_ (fun (x8 : Ax) => ?_)
  · (rintro v ⟨hgu, hB, hG, -⟩ N hN; go_simp; ((with_reducible refine (hand_OutNat z.natAbs ha _).mono ?_); rintro e w1 ⟨x, rfl, hx, hg⟩; exact ⟨_, rfl, hN x w1 hx hg⟩))
  refine okf (by simp only [natR, intR, ratR, nnR, Act.put, List.setIfInBounds_toArray, List.set_cons_succ, List.set_cons_zero]; exact rfl) ?_
  apply gm
  · exact rfl
  · (rintro v ⟨⟨hgu, hB, hG, -⟩, hx8⟩ N hN; have hx8 : Rn v x8 _ := hx8; go_simp; ((with_reducible refine (ref1_I x8 _ z.natAbs _).mono ?_); rintro e w1 ⟨rfl, hb⟩; exact ⟨_, rfl, hN _ hb⟩))
  refine okf (by simp only [Act.put, List.setIfInBounds_toArray, List.set_cons_succ, List.set_cons_zero]; exact rfl) ?_
  refine gend ?_
  rintro v ⟨⟨hgu, hB1, hG1, -⟩, hx8⟩
  replace hx8 : Rn v x8 _ := hx8
  clear hB hG
  have hB := hB1
  have hG := hG1
  clear hB1 hG1
  refine hL _ _ ?_
  clear hL L hgu
  obtain ⟨u, rfl⟩ : ∃ x, x = v := ⟨_, rfl⟩
  have r := hB.r
  simp only [BxR] at r
  go_wp2_with fail
  clear r
  generalize hu0 : World.setCell (World.setCell u _ _) _ _ = u0
  have hBG := hB.over hF hG 1 rfl 0 [_, _] hu0
  replace hx8 := hx8.put hB 1 rfl (by decide) 0 [_, _] hu0
  clear hB hG hu0
  simp only [List.modify_succ_cons, List.modify_zero_cons, wrAll, List.setIfInBounds_toArray, List.set_cons_zero, List.set_cons_succ, Nat.zero_add, Nat.reduceAdd] at hBG
  obtain ⟨hB, hG⟩ := hBG
  clear u
  obtain ⟨u, rfl⟩ : ∃ x, x = u0 := ⟨_, rfl⟩
  refine NoK.norm (hN _ _ ?_)
  clear hN K
  refine then_norm ?_
  refine wp_ret ?_
  refine ret_b rfl ?_
  intro N hN
  have r := hB.r
  simp only [BxR] at r
  simp only [results, Tryz.results116]
  go_simp
  refine hN _ ?_
  clear hN N r
  exact ⟨x8, congrArg (fun y : Int => Ending.returned (riV x8 y)) (sgn_self z), hx8, hG⟩
set_option maxHeartbeats 400000 in
set_option maxRecDepth 100000 in
theorem hand_Out (q : Rat) (ha : qs q ≤ LIM) (w : World) : Calls Tryz.prog 62 #[qV q] w (Ret (ratR q) w) := by
  have h1 : bl q.num.natAbs ≤ LIM := Nat.le_trans (qs_num q) ha
  have h2 : bl q.den ≤ LIM := Nat.le_trans (qs_den q) ha
  have h3 : bl q.den ≤ 1099511627776 := by unfold LIM at h2; omega
  go_enter Tryz.func62, Tryz.ntmps62
  refine wp_seq (wp_r0 ?_)
  intro K hN
  go_wp2_with fail
  generalize hu : World.alloc (World.alloc w _) _ = u
  obtain ⟨hB, hG⟩ := bx_first [(_, _), (_, _)] w u hu
  have hF := fr_first w [(32, #[]), (41, #[])]
  simp only [numbered, List.map_cons, List.map_nil] at hB hF
  clear hu
  generalize w.heap.size + 1 = b2 at hB hF ⊢
  generalize w.heap.size = b1 at hB hF ⊢
  refine NoK.norm (hN _ _ ?_)
  clear hN K
  refine then_norm ?_
  refine wp_seq ?_
  refine wp_rd (w := w) allocs 7 [] [(0, 0), (0, 3), (1, 1), (1, 2), (1, 4), (1, 5), (0, 6)] (by kernel_rfl) (by kernel_rfl) (by simp only [List.drop_succ_cons, List.drop_zero]; exact rfl) (fun _ => True) noG hB hG trivial ?_
  intro K L hN hL
  simp only [pickOps, List.getElem?_toArray, List.getElem?_cons_zero, List.getElem?_cons_succ]
  apply gy
  · exact rfl
  · (rintro v ⟨hgu, hB, hG, -⟩ N hN; have r := hB.r; simp only [BxR] at r; go_simp; exact hN)
  refine okf (by simp only [Act.put, List.setIfInBounds_toArray, List.set_cons_succ, List.set_cons_zero]; exact rfl) ?_
  apply gy
  · exact rfl
  · (rintro v ⟨hgu, hB, hG, -⟩ N hN; have r := hB.r; simp only [BxR] at r; go_simp; exact hN)
  refine okf (by simp only [Act.put, List.setIfInBounds_toArray, List.set_cons_succ, List.set_cons_zero]; exact rfl) ?_
  apply gm
  · exact rfl
  · (rintro v ⟨hgu, hB, hG, -⟩ N hN; go_simp; ((with_reducible refine (frac_Num _ _).mono ?_); rintro e w1 ⟨rfl, hb⟩; exact ⟨_, rfl, hN _ hb⟩))
  refine okf (by simp only [Act.put, List.setIfInBounds_toArray, List.set_cons_succ, List.set_cons_zero]; exact rfl) ?_
  refine gr (intR q.num) rfl ?_ (fun (x5 : Ax) => ?_)
  · (rintro v ⟨hgu, hB, hG, -⟩ N hN; go_simp; ((with_reducible refine (hand_OutInt q.num h1 _).mono ?_); rintro e w1 ⟨x, rfl, hx, hg⟩; exact ⟨_, rfl, hN x w1 hx hg⟩))
  refine okf (by simp only [natR, intR, ratR, nnR, Act.put, List.setIfInBounds_toArray, List.set_cons_succ, List.set_cons_zero]; exact rfl) ?_
  apply gm
  · exact rfl
  · (rintro v ⟨⟨hgu, hB, hG, -⟩, hx5⟩ N hN; have hx5 : Rn v x5 _ := hx5; go_simp; ((with_reducible refine (frac_Den _ (by assumption) _).mono ?_); rintro e w1 ⟨rfl, hb⟩; exact ⟨_, rfl, hN _ hb⟩))
  refine okf (by simp only [Act.put, List.setIfInBounds_toArray, List.set_cons_succ, List.set_cons_zero]; exact rfl) ?_
  refine gr (natR q.den) rfl ?_ (fun (x8 : Ax) => ?_)
  · (rintro v ⟨⟨hgu, hB, hG, -⟩, hx5⟩ N hN; have hx5 : Rn v x5 _ := hx5; go_simp; ((with_reducible refine (hand_OutNat q.den h2 _).mono ?_); rintro e w1 ⟨x, rfl, hx, hg⟩; exact ⟨_, rfl, hN x w1 hx hg⟩))
  refine okf (by simp only [natR, intR, ratR, nnR, Act.put, List.setIfInBounds_toArray, List.set_cons_succ, List.set_cons_zero]; exact rfl) ?_
  apply gy
  · exact rfl
  · (rintro v - N hN; go_simp; exact hN)
  refine okf (by simp only [Act.put, List.setIfInBounds_toArray, List.set_cons_succ, List.set_cons_zero]; exact rfl) ?_
  refine gend ?_
  rintro v ⟨⟨⟨hgu, hB1, hG1, -⟩, hx5⟩, hx8⟩
  replace hx5 : Rn v x5 _ := hx5
  replace hx8 : Rn v x8 _ := hx8
  clear hB hG
  have hB := hB1
  have hG := hG1
  clear hB1 hG1
  refine hL _ _ ?_
  clear hL L hgu
  obtain ⟨u, rfl⟩ : ∃ x, x = v := ⟨_, rfl⟩
  have r := hB.r
  simp only [BxR] at r
  go_wp2_with fail
  clear r
  generalize hu0 : World.setCell (World.setCell (World.setCell u _ _) _ _) _ _ = u0
  have hBG := hB.over hF hG 1 rfl 0 [_, _, _] hu0
  replace hx5 := hx5.put hB 1 rfl (by decide) 0 [_, _, _] hu0
  replace hx8 := hx8.put hB 1 rfl (by decide) 0 [_, _, _] hu0
  clear hB hG hu0
  simp only [List.modify_succ_cons, List.modify_zero_cons, wrAll, List.setIfInBounds_toArray, List.set_cons_zero, List.set_cons_succ, Nat.zero_add, Nat.reduceAdd] at hBG
  obtain ⟨hB, hG⟩ := hBG
  clear u
  obtain ⟨u, rfl⟩ : ∃ x, x = u0 := ⟨_, rfl⟩
  refine NoK.norm (hN _ _ ?_)
  clear hN K
  refine then_norm ?_
  refine wp_ret ?_
  refine ret_b rfl ?_
  intro N hN
  have r := hB.r
  simp only [BxR] at r
  simp only [results, Tryz.results62]
  go_simp
  refine hN _ ?_
  clear hN N r
  exact ⟨(x5, x8), rfl, ⟨hx5, hx8⟩, hG⟩
theorem NatCmp_same (x y : Ax) (a : Nat) (w : World) (hx : Rn w x a) (hy : Rn w y a) : Calls Tryz.prog 63 #[nvV x a, nvV y a] w fun e w' => e = .returned (.int .i64 0) ∧ Grow w w' := by
  have := ref1_NatCmp x y a a w hx hy
  rw [cmpN_eq rfl] at this
  exact this
set_option maxHeartbeats 1000000 in
set_option maxRecDepth 100000 in
theorem hand_Same (q : Rat) (x y : Ax) (ha : qs q ≤ LIM) (w : World) (hx : Rn w x q.num.natAbs) (hy : Rn w y q.den) : Calls Tryz.prog 17 #[qV q, rqV x y q] w fun e w' => e = .returned (.bool true) ∧ Grow w w' := by
  have hl : 0 < ln q.den := ln_pos.2 q.den_nz
  have hlb : ((ln q.den : Int) == 0) = false := by simp; omega
  go_enter Tryz.func17, Tryz.ntmps17
  refine wp_seq (wp_r0 ?_)
  intro K hN
  go_wp2_with fail
  generalize hu : World.alloc (World.alloc w _) _ = u
  obtain ⟨hB, hG⟩ := bx_first [(_, _), (_, _)] w u hu
  have hF := fr_first w [(32, #[]), (41, #[])]
  simp only [numbered, List.map_cons, List.map_nil] at hB hF
  clear hu
  generalize w.heap.size + 1 = b3 at hB hF ⊢
  generalize w.heap.size = b2 at hB hF ⊢
  replace hx := hx.grow hG
  replace hy := hy.grow hG
  refine NoK.norm (hN _ _ ?_)
  clear hN K
  refine then_norm ?_
  refine wp_seq ?_
  refine wp_rs (w := w) allocs2 3 [0, 1, 2] (by kernel_rfl) (by simp only [List.drop_succ_cons, List.drop_zero]; exact rfl) (fun _ => True) noG hB hG trivial ?_
  intro K L hN hL
  simp only [List.zip_cons_cons, List.zip_nil_left]
  apply gy
  · exact rfl
  · (rintro v ⟨hgu, hB, hG, -⟩ N hN; have r := hB.r; simp only [BxR] at r; go_simp; exact hN)
  refine okf (by simp only [Act.put, List.setIfInBounds_toArray, List.set_cons_succ, List.set_cons_zero]; exact rfl) ?_
  refine gr (ratR q) rfl ?_ (fun (x7 : Ax × Ax) => ?_)
  · (rintro v ⟨hgu, hB, hG, -⟩ N hN; go_simp; ((with_reducible refine (hand_Out q ha _).mono ?_); rintro e w1 ⟨x, rfl, hx, hg⟩; exact ⟨_, rfl, hN x w1 hx hg⟩))
  refine okf (by simp only [natR, intR, ratR, nnR, Act.put, List.setIfInBounds_toArray, List.set_cons_succ, List.set_cons_zero]; exact rfl) ?_
  refine ga (newObj_RQ _ _ _ _ _) fun b5 hb5 hn5 => ?_
  refine okf (by simp only [Act.put, List.setIfInBounds_toArray, List.set_cons_succ, List.set_cons_zero]; exact rfl) ?_
  refine gend ?_
  rintro v ⟨⟨⟨hgu, hB1, hG1, -⟩, hx7⟩, h5⟩
  replace hx := hx.grow hgu
  replace hy := hy.grow hgu
  obtain ⟨hx7a, hx7b⟩ : Rn v x7.1 _ ∧ Rn v x7.2 _ := hx7
  have hF := Fr.new (tk := []) hF hB hG hb5 hn5
  simp only [List.cons_append, List.nil_append, List.map_cons, List.map_nil] at hF
  clear hB hG
  have hB := (Bx.cons h5 hB1)
  have hG := hG1
  clear hB1 hG1 h5
  refine hL _ _ ?_
  clear hL L hgu
  obtain ⟨u, rfl⟩ : ∃ x, x = v := ⟨_, rfl⟩
  have r := hB.r
  simp only [BxR] at r
  go_wp2_with fail
  clear r
  generalize hu0 : World.setCell (World.setCell (World.setCell u _ _) _ _) _ _ = u0
  have hBG := hB.over hF hG 0 rfl 0 [_, _, _] hu0
  replace hx := hx.put hB 0 rfl (by decide) 0 [_, _, _] hu0
  replace hy := hy.put hB 0 rfl (by decide) 0 [_, _, _] hu0
  replace hx7a := hx7a.put hB 0 rfl (by decide) 0 [_, _, _] hu0
  replace hx7b := hx7b.put hB 0 rfl (by decide) 0 [_, _, _] hu0
  clear hB hG hu0
  simp only [List.modify_succ_cons, List.modify_zero_cons, wrAll, List.setIfInBounds_toArray, List.set_cons_zero, List.set_cons_succ, Nat.zero_add, Nat.reduceAdd] at hBG
  obtain ⟨hB, hG⟩ := hBG
  clear u
  obtain ⟨u, rfl⟩ : ∃ x, x = u0 := ⟨_, rfl⟩
  refine NoK.norm (hN _ _ ?_)
  clear hN K
  refine then_norm ?_
  refine wp_seq ?_
  refine wp_seq ?_
  refine wp_r0 ?_
  intro K hN
  have r := hB.r
  simp only [BxR] at r
  go_wp2_with fail
  clear r
  refine NoK.norm (hN _ _ ?_)
  clear hN K
  refine then_norm ?_
  refine wp_cond_false (rfl) ?_
  refine wp_skip ?_
  refine then_norm ?_
  refine wp_seq ?_
  refine wp_rs (w := w) allocs2 26 [0, 0, 0, 0, 0, 0, 1, 0, 0, 0, 0, 0, 0, 0, 0, 0, 0, 0, 0, 0, 0, 0, 1, 0, 0, 0] (by kernel_rfl) (by simp only [List.drop_succ_cons, List.drop_nil]; exact rfl) (fun _ => True) noG hB hG trivial ?_
  intro K L hN hL
  simp only [List.zip_cons_cons, List.zip_nil_left]
  apply gy
  · exact rfl
  · (rintro v - N hN; go_simp; exact hN)
  refine okf (by simp only [Act.put, List.setIfInBounds_toArray, List.set_cons_succ, List.set_cons_zero]; exact rfl) ?_
  apply gy
  · exact rfl
  · (rintro v - N hN; go_simp; exact hN)
  refine okf (by simp only [Act.put, List.setIfInBounds_toArray, List.set_cons_succ, List.set_cons_zero]; exact rfl) ?_
  apply gy
  · exact rfl
  · (rintro v ⟨hgu, hB, hG, -⟩ N hN; have r := hB.r; simp only [BxR] at r; go_simp; exact hN)
  refine okf (by simp only [Act.put, List.setIfInBounds_toArray, List.set_cons_succ, List.set_cons_zero]; exact rfl) ?_
  apply gy
  · exact rfl
  · (rintro v - N hN; go_simp; exact hN)
  refine okf (by simp only [Act.put, List.setIfInBounds_toArray, List.set_cons_succ, List.set_cons_zero]; exact rfl) ?_
  apply gy
  · exact rfl
  · (rintro v - N hN; go_simp; exact hN)
  refine okf (by simp only [Act.put, List.setIfInBounds_toArray, List.set_cons_succ, List.set_cons_zero]; exact rfl) ?_
  apply gy
  · exact rfl
  · (rintro v ⟨hgu, hB, hG, -⟩ N hN; have r := hB.r; simp only [BxR] at r; go_simp; exact hN)
  refine okf (by simp only [Act.put, List.setIfInBounds_toArray, List.set_cons_succ, List.set_cons_zero]; exact rfl) ?_
  apply gm
  · exact rfl
  · (rintro v ⟨hgu, hB, hG, -⟩ N hN; go_simp; ((with_reducible refine (NatCmp_same x7.1 x q.num.natAbs _ (hx7a.grow hgu) (hx.grow hgu)).mono ?_); rintro e w1 ⟨rfl, hb⟩; exact ⟨_, rfl, hN _ hb⟩))
  refine okf (by simp only [Act.put, List.setIfInBounds_toArray, List.set_cons_succ, List.set_cons_zero]; exact rfl) ?_
  apply gy
  · exact rfl
  · (rintro v - N hN; go_simp; exact hN)
  refine okf (by simp only [Act.put, List.setIfInBounds_toArray, List.set_cons_succ, List.set_cons_zero]; exact rfl) ?_
  apply gy
  · exact rfl
  · (rintro v - N hN; go_simp; exact hN)
  refine okf (by simp only [Act.put, List.setIfInBounds_toArray, List.set_cons_succ, List.set_cons_zero]; exact rfl) ?_
  first
    | (apply gy
       · exact rfl
       · (rintro v - N hN; go_simp; exact hN))
    | (apply gn; exact rfl)
  refine okf (by simp only [Act.put, List.setIfInBounds_toArray, List.set_cons_succ, List.set_cons_zero]; exact rfl) ?_
  first
    | (apply gy
       · exact rfl
       · (rintro v - N hN; go_simp; exact hN))
    | (apply gn; exact rfl)
  refine okf (by simp only [Act.put, List.setIfInBounds_toArray, List.set_cons_succ, List.set_cons_zero]; exact rfl) ?_
  first
    | (apply gy
       · exact rfl
       · (rintro v ⟨hgu, hB, hG, -⟩ N hN; have r := hB.r; simp only [BxR] at r; go_simp; exact hN))
    | (apply gn; exact rfl)
  refine okf (by simp only [Act.put, List.setIfInBounds_toArray, List.set_cons_succ, List.set_cons_zero]; exact rfl) ?_
  first
    | (apply gy
       · exact rfl
       · (rintro v - N hN; go_simp; exact hN))
    | (apply gn; exact rfl)
  refine okf (by simp only [Act.put, List.setIfInBounds_toArray, List.set_cons_succ, List.set_cons_zero]; exact rfl) ?_
  first
    | (apply gy
       · exact rfl
       · (rintro v - N hN; go_simp; exact hN))
    | (apply gn; exact rfl)
  refine okf (by simp only [Act.put, List.setIfInBounds_toArray, List.set_cons_succ, List.set_cons_zero]; exact rfl) ?_
  first
    | (apply gy
       · exact rfl
       · (rintro v ⟨hgu, hB, hG, -⟩ N hN; have r := hB.r; simp only [BxR] at r; go_simp; exact hN))
    | (apply gn; exact rfl)
  refine okf (by simp only [Act.put, List.setIfInBounds_toArray, List.set_cons_succ, List.set_cons_zero]; exact rfl) ?_
  first
    | (apply gy
       · exact rfl
       · (rintro v - N hN; go_simp; exact hN))
    | (apply gn; exact rfl)
  refine okf (by simp only [Act.put, List.setIfInBounds_toArray, List.set_cons_succ, List.set_cons_zero]; exact rfl) ?_
  apply gy
  · exact rfl
  · (rintro v - N hN; go_simp; exact hN)
  refine okf (by simp only [Act.put, List.setIfInBounds_toArray, List.set_cons_succ, List.set_cons_zero]; exact rfl) ?_
  apply gy
  · exact rfl
  · (rintro v - N hN; go_simp; exact hN)
  refine okf (by simp only [Act.put, List.setIfInBounds_toArray, List.set_cons_succ, List.set_cons_zero]; exact rfl) ?_
  first
    | (apply gy
       · exact rfl
       · (rintro v - N hN; go_simp; exact hN))
    | (apply gn; exact rfl)
  refine okf (by simp only [Act.put, List.setIfInBounds_toArray, List.set_cons_succ, List.set_cons_zero]; exact rfl) ?_
  first
    | (apply gy
       · exact rfl
       · (rintro v ⟨hgu, hB, hG, -⟩ N hN; have r := hB.r; simp only [BxR] at r; go_simp; exact hN))
    | (apply gn; exact rfl)
  refine okf (by simp only [Act.put, List.setIfInBounds_toArray, List.set_cons_succ, List.set_cons_zero]; exact rfl) ?_
  first
    | (apply gy
       · exact rfl
       · (rintro v - N hN; go_simp; exact hN))
    | (apply gn; exact rfl)
  refine okf (by simp only [Act.put, List.setIfInBounds_toArray, List.set_cons_succ, List.set_cons_zero]; exact rfl) ?_
  first
    | (apply gy
       · exact rfl
       · (rintro v ⟨hgu, hB, hG, -⟩ N hN; have r := hB.r; simp only [BxR] at r; go_simp; exact hN))
    | (apply gn; exact rfl)
  refine okf (by simp only [Act.put, List.setIfInBounds_toArray, List.set_cons_succ, List.set_cons_zero]; exact rfl) ?_
  first
    | (apply gm
       · exact rfl
       · (rintro v ⟨hgu, hB, hG, -⟩ N hN; go_simp; ((with_reducible refine (NatCmp_same x7.2 y q.den _ (hx7b.grow hgu) (hy.grow hgu)).mono ?_); rintro e w1 ⟨rfl, hb⟩; exact ⟨_, rfl, hN _ hb⟩)))
    | (apply gmn; exact rfl)
  refine okf (by simp only [Act.put, List.setIfInBounds_toArray, List.set_cons_succ, List.set_cons_zero]; exact rfl) ?_
  first
    | (apply gy
       · exact rfl
       · (rintro v - N hN; go_simp; exact hN))
    | (apply gn; exact rfl)
  refine okf (by simp only [Act.put, List.setIfInBounds_toArray, List.set_cons_succ, List.set_cons_zero]; exact rfl) ?_
  apply gy
  · exact rfl
  · (rintro v - N hN; go_simp; exact hN)
  refine okf (by simp only [Act.put, List.setIfInBounds_toArray, List.set_cons_succ, List.set_cons_zero]; exact rfl) ?_
  apply gy
  · exact rfl
  · (rintro v - N hN; go_simp; exact hN)
  refine okf (by simp only [Act.put, List.setIfInBounds_toArray, List.set_cons_succ, List.set_cons_zero]; exact rfl) ?_
  refine gend ?_
  rintro v ⟨hgu, hB1, hG1, -⟩
  replace hx := hx.grow hgu
  replace hy := hy.grow hgu
  replace hx7a := hx7a.grow hgu
  replace hx7b := hx7b.grow hgu
  clear hB hG
  have hB := hB1
  have hG := hG1
  clear hB1 hG1
  refine hL _ _ ?_
  clear hL L hgu
  obtain ⟨u, rfl⟩ : ∃ x, x = v := ⟨_, rfl⟩
  refine wpList_nil ?_
  refine NoK.norm (hN _ _ ?_)
  clear hN K
  refine then_norm ?_
  refine wp_ret ?_
  refine ret_b rfl ?_
  intro N hN
  have r := hB.r
  simp only [BxR] at r
  simp only [results, Tryz.results17]
  go_simp
  refine hN _ ?_
  clear hN N r
  exact ⟨rfl, hG⟩
set_option maxHeartbeats 400000 in
set_option maxRecDepth 100000 in
theorem hand_Is (n d : Int) (h0 : -9223372036854775808 ≤ n) (h1 : n ≤ 9223372036854775807) (h2 : -9223372036854775808 ≤ d) (h3 : d ≤ 9223372036854775807) (hd : d ≠ 0) (hs : RDiv d.natAbs) (ha : qs (qover n d) ≤ LIM) (w : World) : Calls Tryz.prog 26 #[qV (qover n d), .int .i64 n, .int .i64 d] w fun e w' => e = .returned (.bool true) ∧ Grow w w' := by
  go_enter Tryz.func26, Tryz.ntmps26
  refine wp_seq (wp_r0 ?_)
  intro K hN
  go_wp2_with fail
  generalize hu : World.alloc w _ = u
  obtain ⟨hB, hG⟩ := bx_first [(_, _)] w u hu
  have hF := fr_first w [(32, #[])]
  simp only [numbered, List.map_cons, List.map_nil] at hB hF
  clear hu
  generalize w.heap.size = b3 at hB hF ⊢
  refine NoK.norm (hN _ _ ?_)
  clear hN K
  refine then_norm ?_
  refine wp_seq ?_
  refine wp_rd (w := w) allocs 5 [] [(0, 0), (0, 1), (0, 2), (1, 3), (1, 4)] (by kernel_rfl) (by kernel_rfl) (by simp only [List.drop_succ_cons, List.drop_zero]; exact rfl) (fun _ => True) noG hB hG trivial ?_
  intro K L hN hL
  simp only [pickOps, List.getElem?_toArray, List.getElem?_cons_zero, List.getElem?_cons_succ]
  apply gy
  · exact rfl
  · (rintro v ⟨hgu, hB, hG, -⟩ N hN; have r := hB.r; simp only [BxR] at r; go_simp; exact hN)
  refine okf (by simp only [Act.put, List.setIfInBounds_toArray, List.set_cons_succ, List.set_cons_zero]; exact rfl) ?_
  apply gy
  · exact rfl
  · (rintro v - N hN; go_simp; exact hN)
  refine okf (by simp only [Act.put, List.setIfInBounds_toArray, List.set_cons_succ, List.set_cons_zero]; exact rfl) ?_
  apply gy
  · exact rfl
  · (rintro v - N hN; go_simp; exact hN)
  refine okf (by simp only [Act.put, List.setIfInBounds_toArray, List.set_cons_succ, List.set_cons_zero]; exact rfl) ?_
  refine gr (ratR (qover n d)) rfl ?_ (fun (x10 : Ax × Ax) => ?_)
  · (rintro v ⟨hgu, hB, hG, -⟩ N hN; go_simp; ((with_reducible refine (ref1_Over n d h0 h1 h2 h3 hd hs _).mono ?_); rintro e w1 ⟨x, rfl, hx, hg⟩; exact ⟨_, rfl, hN x w1 hx hg⟩))
  refine okf (by simp only [natR, intR, ratR, nnR, Act.put, List.setIfInBounds_toArray, List.set_cons_succ, List.set_cons_zero]; exact rfl) ?_
  apply gm
  · exact rfl
  · (rintro v ⟨⟨hgu, hB, hG, -⟩, hx10⟩ N hN; obtain ⟨hx10a, hx10b⟩ : Rn v x10.1 _ ∧ Rn v x10.2 _ := hx10; go_simp; ((with_reducible refine (hand_Same (qover n d) x10.1 x10.2 ha _ hx10a hx10b).mono ?_); rintro e w1 ⟨rfl, hb⟩; exact ⟨_, rfl, hN _ hb⟩))
  refine okf (by simp only [Act.put, List.setIfInBounds_toArray, List.set_cons_succ, List.set_cons_zero]; exact rfl) ?_
  refine gend ?_
  rintro v ⟨⟨hgu, hB1, hG1, -⟩, hx10⟩
  obtain ⟨hx10a, hx10b⟩ : Rn v x10.1 _ ∧ Rn v x10.2 _ := hx10
  clear hB hG
  have hB := hB1
  have hG := hG1
  clear hB1 hG1
  refine hL _ _ ?_
  clear hL L hgu
  obtain ⟨u, rfl⟩ : ∃ x, x = v := ⟨_, rfl⟩
  go_wp2_with fail
  refine NoK.norm (hN _ _ ?_)
  clear hN K
  refine then_norm ?_
  refine wp_ret ?_
  refine ret_b rfl ?_
  intro N hN
  have r := hB.r
  simp only [BxR] at r
  simp only [results, Tryz.results26]
  go_simp
  refine hN _ ?_
  clear hN N r
  exact ⟨rfl, hG⟩
/-- any number as one of 0 to m - 1 -/
def pick (n m : Int) : Int := n % m
theorem pick_range (n : Int) {m : Int} (h : 0 < m) : 0 ≤ pick n m ∧ pick n m < m := ⟨Int.emod_nonneg _ (by omega), Int.emod_lt_of_pos _ h⟩
set_option maxHeartbeats 400000 in
theorem hand_Pick (n m : Int) (hm : 0 < m) (hm2 : m ≤ 9223372036854775807) (w : World) : Calls Tryz.prog 10 #[.int .i64 n, .int .i64 m] w fun e w' => e = .returned (.int .i64 (pick n m)) ∧ w = w' := by
  have h0 : ¬ m = 0 := by omega
  obtain ⟨t, ht⟩ : ∃ t, t = n.tmod m := ⟨_, rfl⟩
  have hp : pick n m = if t < 0 then t + m else t := by
    rw [ht]
    unfold pick
    have h1 := Int.emod_nonneg n (show m ≠ 0 by omega)
    have h2 := Int.emod_lt_of_pos n hm
    rw [Int.tmod_eq_emod]
    split <;> split <;> omega
  have hb : -m < t ∧ t < m := by
    rw [ht]
    have h1 := Int.emod_nonneg n (show m ≠ 0 by omega)
    have h2 := Int.emod_lt_of_pos n hm
    rw [Int.tmod_eq_emod]
    split <;> omega
  have htm : n.tmod m = t := ht.symm
  have hw1 : IntKind.i64.wrap t = t := IntWalk.i64_in _ (by omega)
  clear ht
  by_cases hneg : t < 0
  · rw [if_pos hneg] at hp
    have hw2 : IntKind.i64.wrap (t + m) = t + m := IntWalk.i64_in _ (by omega)
    have Hp := Lib.hid hp
    clear hp
    go_enter Tryz.func10, Tryz.ntmps10
    go_wp2_with fail
    go_ret
    exact ⟨ret_i64 Hp.out.symm, rfl⟩
  · rw [if_neg hneg] at hp
    have Hp := Lib.hid hp
    clear hp
    go_enter Tryz.func10, Tryz.ntmps10
    go_wp2_with fail
    go_ret
    exact ⟨ret_i64 Hp.out.symm, rfl⟩
end Go.Proofs.YtimjnkfcnpfoeaaGreatDoor
