/-
  Contracts and laws: SheetB.
-/
import Derived.Test.YtimjnkfcnpfoeaaGreatDoorV46
set_option linter.unusedSimpArgs false
set_option linter.unusedVariables false
namespace Go.Proofs.YtimjnkfcnpfoeaaGreatDoor
open Go.RowKit
set_option maxHeartbeats 2000000 in
set_option maxRecDepth 100000 in
theorem ref6_TiltOf (x1 y1 x2 y2 : Ax) (t a : Rat) (w : World) (h1 : Rn w x1 t.num.natAbs) (h2 : Rn w y1 t.den) (h3 : Rn w x2 a.num.natAbs) (h4 : Rn w y2 a.den) (h : qs a + qs t + 100 ≤ BIG) : Calls Tryz.prog 103 #[rqV x1 y1 t, rqV x2 y2 a] w (Ret (ratR (tiltD a t)) w) := by
 have z5 : qs (qint 1) ≤ 41 := qint_sz 1 (by omega)
 have z6 : qs (qsub a (qint 1)) ≤ qs a + 42 := by have := qs_sub a (qint 1); unfold qsub; omega
 have hsb := fun W x y e1 e2 e3 e4 => ref1_Sub x2 y2 x y a (qint 1) W e1 e2 e3 e4 (by omega)
 have hT : tiltD a t = if 0 ≤ t.num.sign then qmul a t else qmul (qsub a (qint 1)) t := rfl
 generalize qsub a (qint 1) = A1 at *
 have hsn := fun W => ref1_Sign x1 y1 t W
 generalize t.num.sign = g at *
 rw [hT]
 by_cases h0 : 0 ≤ g
 ·rw [if_pos h0]
  have hd : decide (0 ≤ g) = true := decide_eq_true h0
  have Hsn := Lib.hid hsn
  clear h0 hT hsb hsn
  go_enter Tryz.func103, Tryz.ntmps103
  refine wp_seq (wp_r0 ?_)
  intro K hN
  go_wp2_with fail
  generalize hu : World.alloc (World.alloc (World.alloc w _) _) _ = u
  obtain ⟨hB, hG⟩ := bx_first [(_, _), (_, _), (_, _)] w u hu
  have hF := fr_first w [(41, #[]), (41, #[]), (41, #[])]
  simp only [numbered, List.map_cons, List.map_nil] at hB hF
  clear hu
  generalize w.heap.size + 1 + 1 = b4 at hB hF ⊢
  generalize w.heap.size + 1 = b3 at hB hF ⊢
  generalize w.heap.size = b2 at hB hF ⊢
  replace h1 := h1.grow hG
  replace h2 := h2.grow hG
  replace h3 := h3.grow hG
  replace h4 := h4.grow hG
  refine NoK.norm (hN _ _ ?_)
  clear hN K
  refine then_norm ?_
  refine wp_seq ?_
  refine wp_seq ?_
  refine wp_rs (w := w) allocs 3 [0, 1, 0] (by kernel_rfl) (by simp only [List.drop_succ_cons, List.drop_nil]; exact rfl) (fun _ => True) noG hB hG trivial ?_
  intro K L hN hL
  simp only [List.zip_cons_cons, List.zip_nil_left]
  refine gyr ?_
  refine gma (by (rintro v ⟨hgu, hB, hG, -⟩ N hN; go_simp; with_reducible exact gmc (Hsn.out _) hN)) ?_
  refine gya ?_
  refine gend ?_
  rintro v ⟨hgu, hB1, hG1, -⟩
  replace h1 := h1.grow hgu
  replace h2 := h2.grow hgu
  replace h3 := h3.grow hgu
  replace h4 := h4.grow hgu
  clear hB hG
  have hB := hB1
  have hG := hG1
  clear hB1 hG1
  refine hL _ _ ?_
  clear hL L hgu
  obtain ⟨u, rfl⟩ : ∃ x, x = v := ⟨_, rfl⟩
  refine wpList_nil ?_
  refine NoK.norm (hN _ _ ?_)
  clear hN K
  refine then_norm ?_
  refine wp_cond_true (rfl) ?_
  refine wp_seq ?_
  refine wp_rs (w := w) allocs 3 [0, 0, 1] (by kernel_rfl) (by simp only [List.drop_succ_cons, List.drop_zero]; exact rfl) (fun _ => True) noG hB hG trivial ?_
  intro K L hN hL
  simp only [List.zip_cons_cons, List.zip_nil_left]
  refine gyr ?_
  refine gyr ?_
  refine gr (ratR (qmul a t)) rfl ?_ (fun (x10 : Ax × Ax) => ?_)
  ·(rintro v ⟨hgu, hB, hG, -⟩ N hN; go_simp; ((with_reducible refine (ref1_Mul x2 y2 x1 y1 a t _ (h3.grow hgu) (h4.grow hgu) (h1.grow hgu) (h2.grow hgu) (by omega)).mono ?_); rintro e w1 ⟨x, rfl, hx, hg⟩; exact ⟨_, rfl, hN x w1 hx hg⟩))
  refine okf (by simp only [natR, intR, ratR, nnR, Act.put, List.setIfInBounds_toArray, List.set_cons_succ, List.set_cons_zero]; exact rfl) ?_
  refine gend ?_
  rintro v ⟨⟨hgu, hB1, hG1, -⟩, hx10⟩
  replace h1 := h1.grow hgu
  replace h2 := h2.grow hgu
  replace h3 := h3.grow hgu
  replace h4 := h4.grow hgu
  obtain ⟨hx10a, hx10b⟩ : Rn v x10.1 _ ∧ Rn v x10.2 _ := hx10
  clear hB hG
  have hB := hB1
  have hG := hG1
  clear hB1 hG1
  refine hL _ _ ?_
  clear hL L hgu
  obtain ⟨u, rfl⟩ : ∃ x, x = v := ⟨_, rfl⟩
  have r := hB.r
  simp only [BxR] at r
  go_wp2_with fail
  clear r
  generalize hu0 : World.setCell (World.setCell (World.setCell u _ _) _ _) _ _ = u0
  have hBG := over_n hB hF hG 2 rfl 0 [_, _, _] hu0
  replace h1 := h1.put hB 2 rfl (by first | decide | simp) 0 [_, _, _] hu0
  replace h2 := h2.put hB 2 rfl (by first | decide | simp) 0 [_, _, _] hu0
  replace h3 := h3.put hB 2 rfl (by first | decide | simp) 0 [_, _, _] hu0
  replace h4 := h4.put hB 2 rfl (by first | decide | simp) 0 [_, _, _] hu0
  replace hx10a := hx10a.put hB 2 rfl (by first | decide | simp) 0 [_, _, _] hu0
  replace hx10b := hx10b.put hB 2 rfl (by first | decide | simp) 0 [_, _, _] hu0
  clear hB hG hu0
  obtain ⟨hB, hG⟩ := hBG
  clear u
  obtain ⟨u, rfl⟩ : ∃ x, x = u0 := ⟨_, rfl⟩
  refine NoK.norm (hN _ _ ?_)
  clear hN K
  refine then_norm ?_
  refine wp_ret ?_
  refine then_ret ?_
  refine ret_b rfl ?_
  intro N hN
  have r := hB.r
  simp only [BxR] at r
  simp only [results, Tryz.results103]
  go_simp
  refine hN _ ?_
  clear hN N r
  exact ⟨x10, rfl, ⟨hx10a, hx10b⟩, hG⟩
 ·rw [if_neg h0]
  have hd : decide (0 ≤ g) = false := decide_eq_false h0
  have Hsn := Lib.hid hsn
  have Hsb := Lib.hid hsb
  clear h0 hT hsb hsn
  go_enter Tryz.func103, Tryz.ntmps103
  refine wp_seq (wp_r0 ?_)
  intro K hN
  go_wp2_with fail
  generalize hu : World.alloc (World.alloc (World.alloc w _) _) _ = u
  obtain ⟨hB, hG⟩ := bx_first [(_, _), (_, _), (_, _)] w u hu
  have hF := fr_first w [(41, #[]), (41, #[]), (41, #[])]
  simp only [numbered, List.map_cons, List.map_nil] at hB hF
  clear hu
  generalize w.heap.size + 1 + 1 = b4 at hB hF ⊢
  generalize w.heap.size + 1 = b3 at hB hF ⊢
  generalize w.heap.size = b2 at hB hF ⊢
  replace h1 := h1.grow hG
  replace h2 := h2.grow hG
  replace h3 := h3.grow hG
  replace h4 := h4.grow hG
  refine NoK.norm (hN _ _ ?_)
  clear hN K
  refine then_norm ?_
  refine wp_seq ?_
  refine wp_seq ?_
  refine wp_rs (w := w) allocs 3 [0, 1, 0] (by kernel_rfl) (by simp only [List.drop_succ_cons, List.drop_nil]; exact rfl) (fun _ => True) noG hB hG trivial ?_
  intro K L hN hL
  simp only [List.zip_cons_cons, List.zip_nil_left]
  refine gyr ?_
  refine gma (by (rintro v ⟨hgu, hB, hG, -⟩ N hN; go_simp; with_reducible exact gmc (Hsn.out _) hN)) ?_
  refine gya ?_
  refine gend ?_
  rintro v ⟨hgu, hB1, hG1, -⟩
  replace h1 := h1.grow hgu
  replace h2 := h2.grow hgu
  replace h3 := h3.grow hgu
  replace h4 := h4.grow hgu
  clear hB hG
  have hB := hB1
  have hG := hG1
  clear hB1 hG1
  refine hL _ _ ?_
  clear hL L hgu
  obtain ⟨u, rfl⟩ : ∃ x, x = v := ⟨_, rfl⟩
  refine wpList_nil ?_
  refine NoK.norm (hN _ _ ?_)
  clear hN K
  refine then_norm ?_
  refine wp_cond_false (rfl) ?_
  refine wp_skip ?_
  refine then_norm ?_
  refine wp_seq ?_
  refine wp_rd (w := w) allocs 5 [] [(0, 0), (0, 3), (1, 1), (1, 2), (1, 4)] (by kernel_rfl) (by kernel_rfl) (by simp only [List.drop_succ_cons, List.drop_zero]; exact rfl) (fun _ => True) noG hB hG trivial ?_
  intro K L hN hL
  simp only [pickOps, List.getElem?_toArray, List.getElem?_cons_zero, List.getElem?_cons_succ]
  refine gyr ?_
  refine gyr ?_
  refine gr (ratR (qint 1)) rfl ?_ (fun (x12 : Ax × Ax) => ?_)
  ·(rintro v ⟨hgu, hB, hG, -⟩ N hN; go_simp; ((with_reducible refine (ref1_Of 1 (by omega) (by omega) _).mono ?_); rintro e w1 ⟨x, rfl, hx, hg⟩; exact ⟨_, rfl, hN x w1 hx hg⟩))
  refine okf (by simp only [natR, intR, ratR, nnR, Act.put, List.setIfInBounds_toArray, List.set_cons_succ, List.set_cons_zero]; exact rfl) ?_
  refine gr (ratR A1) rfl ?_ (fun (x13 : Ax × Ax) => ?_)
  ·(rintro v ⟨⟨hgu, hB, hG, -⟩, hx12⟩ N hN; obtain ⟨hx12a, hx12b⟩ : Rn v x12.1 _ ∧ Rn v x12.2 _ := hx12; go_simp; ((with_reducible refine (Hsb.out _ x12.1 x12.2 (h3.grow hgu) (h4.grow hgu) hx12a hx12b).mono ?_); rintro e w1 ⟨x, rfl, hx, hg⟩; exact ⟨_, rfl, hN x w1 hx hg⟩))
  refine okf (by simp only [natR, intR, ratR, nnR, Act.put, List.setIfInBounds_toArray, List.set_cons_succ, List.set_cons_zero]; exact rfl) ?_
  refine gr (ratR (qmul A1 t)) rfl ?_ (fun (x15 : Ax × Ax) => ?_)
  ·(rintro v ⟨⟨⟨hgu, hB, hG, -⟩, hx12⟩, hx13⟩ N hN; obtain ⟨hx12a, hx12b⟩ : Rn v x12.1 _ ∧ Rn v x12.2 _ := hx12; obtain ⟨hx13a, hx13b⟩ : Rn v x13.1 _ ∧ Rn v x13.2 _ := hx13; go_simp; ((with_reducible refine (ref1_Mul x13.1 x13.2 x1 y1 A1 t _ hx13a hx13b (h1.grow hgu) (h2.grow hgu) (by omega)).mono ?_); rintro e w1 ⟨x, rfl, hx, hg⟩; exact ⟨_, rfl, hN x w1 hx hg⟩))
  refine okf (by simp only [natR, intR, ratR, nnR, Act.put, List.setIfInBounds_toArray, List.set_cons_succ, List.set_cons_zero]; exact rfl) ?_
  refine gend ?_
  rintro v ⟨⟨⟨⟨hgu, hB1, hG1, -⟩, hx12⟩, hx13⟩, hx15⟩
  replace h1 := h1.grow hgu
  replace h2 := h2.grow hgu
  replace h3 := h3.grow hgu
  replace h4 := h4.grow hgu
  obtain ⟨hx12a, hx12b⟩ : Rn v x12.1 _ ∧ Rn v x12.2 _ := hx12
  obtain ⟨hx13a, hx13b⟩ : Rn v x13.1 _ ∧ Rn v x13.2 _ := hx13
  obtain ⟨hx15a, hx15b⟩ : Rn v x15.1 _ ∧ Rn v x15.2 _ := hx15
  clear hB hG
  have hB := hB1
  have hG := hG1
  clear hB1 hG1
  refine hL _ _ ?_
  clear hL L hgu
  obtain ⟨u, rfl⟩ : ∃ x, x = v := ⟨_, rfl⟩
  have r := hB.r
  simp only [BxR] at r
  go_wp2_with fail
  clear r
  generalize hu0 : World.setCell (World.setCell (World.setCell u _ _) _ _) _ _ = u0
  have hBG := over_n hB hF hG 2 rfl 0 [_, _, _] hu0
  replace h1 := h1.put hB 2 rfl (by first | decide | simp) 0 [_, _, _] hu0
  replace h2 := h2.put hB 2 rfl (by first | decide | simp) 0 [_, _, _] hu0
  replace h3 := h3.put hB 2 rfl (by first | decide | simp) 0 [_, _, _] hu0
  replace h4 := h4.put hB 2 rfl (by first | decide | simp) 0 [_, _, _] hu0
  replace hx12a := hx12a.put hB 2 rfl (by first | decide | simp) 0 [_, _, _] hu0
  replace hx12b := hx12b.put hB 2 rfl (by first | decide | simp) 0 [_, _, _] hu0
  replace hx13a := hx13a.put hB 2 rfl (by first | decide | simp) 0 [_, _, _] hu0
  replace hx13b := hx13b.put hB 2 rfl (by first | decide | simp) 0 [_, _, _] hu0
  replace hx15a := hx15a.put hB 2 rfl (by first | decide | simp) 0 [_, _, _] hu0
  replace hx15b := hx15b.put hB 2 rfl (by first | decide | simp) 0 [_, _, _] hu0
  clear hB hG hu0
  obtain ⟨hB, hG⟩ := hBG
  clear u
  obtain ⟨u, rfl⟩ : ∃ x, x = u0 := ⟨_, rfl⟩
  refine NoK.norm (hN _ _ ?_)
  clear hN K
  refine then_norm ?_
  refine wp_ret ?_
  refine ret_b rfl ?_
  intro N hN
  have r := hB.r
  simp only [BxR] at r
  simp only [results, Tryz.results103]
  go_simp
  refine hN _ ?_
  clear hN N r
  exact ⟨x15, rfl, ⟨hx15a, hx15b⟩, hG⟩
set_option maxHeartbeats 4000000 in
set_option maxRecDepth 100000 in
theorem ref6_Tilt_ok (A B : Option Addr) (l l' : List Rat) (c d n : Nat) (pa : Az) (a : Rat) (hn : n = l.length) (hn' : n = l'.length) (hn0 : 0 < n) (hm : n ≤ 1048576) (ha0 : ¬ a < 0) (ha1 : ¬ qint 1 < a) (s : Nat) (ha : qs a ≤ s) (hs : ∀ x ∈ l, qs x ≤ s) (hs' : ∀ x ∈ l', qs x ≤ s) (hB : n * (3 * s + 51) + 8 * s + 400 ≤ BIG) (w : World) (h : Lz w A l) (h' : Lz w B l') (hp1 : Rn w pa.1 a.num.natAbs) (hp2 : Rn w pa.2 a.den) :
  Calls Tryz.prog 40 #[.slice A n c, .slice B n d, rzV pa a] w (RetE (qTilt l l' a n) 0 w) := by
 have hfar := fun (b1 b2 : Nat) (W : World) (hg : Grow w W) (hb1 : b1 < W.heap.size) (hb2 : b2 < W.heap.size) => far_beside (c := c) (d := d) hn hn' hn0 hm hs hs' (by omega) h h' [b1, b2] W hg (fun b' hb' => by
  rcases List.mem_cons.1 hb' with e | e
  ·rw [e]; exact hb1
  ·rw [List.mem_singleton.1 e]; exact hb2)
 have hz : ∀ i, i < n → qs (tiltAt a (gq l i) (gq l' i)) ≤ 3 * s + 50 := fun i hi => tiltAt_sz _ _ _ s ha (hs _ (gq_mem (by omega))) (hs' _ (gq_mem (by omega)))
 have hM : ∀ j, j ≤ n → qs (qsum (fun i => tiltAt a (gq l i) (gq l' i)) j) ≤ n * (3 * s + 51) + 1 := fun j hj =>
  Nat.le_trans (qsum_size _ (3 * s + 50) n hz j hj) (Nat.add_le_add_right (Nat.mul_le_mul_right _ hj) 1)
 have hD : ∀ j, j < n → tiltAt a (gq l j) (gq l' j) = tiltD a (gq (diffs l l' n) j) := fun j hj => by rw [diffs_get l l' hj]; rfl
 have hDs := diffs_sz hn hn' hs hs'
 have hDl := diffs_len l l' n
 have z2 := qint_sz n (by omega)
 have z3 := qint_nz hn0
 have z5 : qs (qint 1) ≤ 41 := qint_sz 1 (by omega)
 have hq : qTilt l l' a n = qdiv (qsum (fun i => tiltAt a (gq l i) (gq l' i)) n) (qint n) := rfl
 rw [hq]
 generalize diffs l l' n = D at *
 have hsg : decide (a.num.sign < 0) = false := by
  rw [decide_eq_false_iff_not, Int.sign_neg_iff]
  exact fun h => ha0 (num_neg'.1 h)
 have hsn := fun W => ref1_Sign pa.1 pa.2 a W
 obtain ⟨g, hg⟩ : ∃ g, g = a.num.sign := ⟨_, rfl⟩
 rw [← hg] at hsg hsn
 have hcp : decide (0 < cmpQ a (qint 1)) = false := by
  unfold cmpQ
  rw [if_neg ha1]
  split <;> rfl
 have hcm := fun W (x : Az) e1 e2 e3 e4 => ref1_Cmp pa.1 pa.2 x.1 x.2 a (qint 1) W e1 e2 e3 e4 (by omega)
 obtain ⟨k, hk⟩ : ∃ k, k = cmpQ a (qint 1) := ⟨_, rfl⟩
 rw [← hk] at hcp hcm
 have Hfar := Lib.hid hfar
 have HM := Lib.hid hM
 have HD := Lib.hid hD
 have HDs := Lib.hid hDs
 have HDl := Lib.hid hDl
 have Hsn := Lib.hid hsn
 have Hcm := Lib.hid hcm
 clear hfar hM hz hs hs' hn hn' h h' hq hD hDs hDl hsn hcm hg hk ha0 ha1
 go_enter Tryz.func40, Tryz.ntmps40
 refine wp_seq (wp_r0 ?_)
 intro K hN
 go_wp2_with fail
 generalize hu : World.alloc (World.alloc w _) _ = u
 obtain ⟨hB, hG⟩ := bx_first [(_, _), (_, _)] w u hu
 have hF := fr_first w [(41, #[]), (41, #[])]
 simp only [numbered, List.map_cons, List.map_nil] at hB hF
 clear hu
 generalize w.heap.size + 1 = b6 at hB hF ⊢
 generalize w.heap.size = b5 at hB hF ⊢
 replace hp1 := hp1.grow hG
 replace hp2 := hp2.grow hG
 refine NoK.norm (hN _ _ ?_)
 clear hN K
 refine then_norm ?_
 refine wp_seq ?_
 refine wp_rs (w := w) allocs2 8 [0, 0, 1, 0, 0, 0, 0, 0] (by kernel_rfl) (by simp only [List.drop_succ_cons, List.drop_nil]; exact rfl) (fun _ => True) noG hB hG trivial ?_
 intro K L hN hL
 simp only [List.zip_cons_cons, List.zip_nil_left]
 refine gya ?_
 refine gya ?_
 refine gx (Ax) (fun x : Ax => .tuple #[.slice x.1 n x.2, .int .i64 0]) (fun x W => LzX W [b5, b6] x.1 D) (fun x u u' hg h => LzX.grow h hg) rfl ?_ (fun x15 => ?_)
 ·(rintro v ⟨hgu, hB, hG, -⟩ N hN; go_simp; ((with_reducible refine (Hfar.out b5 b6 _ hG hB.head.lt hB.tail.head.lt).mono ?_); rintro e w1 ⟨x, rfl, hx, hg⟩; exact ⟨_, rfl, hN x w1 hx hg⟩))
 refine okf (by simp only [Act.put, List.setIfInBounds_toArray, List.set_cons_succ, List.set_cons_zero]; exact rfl) ?_
 refine gya ?_
 refine gya ?_
 refine gya ?_
 refine gya ?_
 refine gya ?_
 refine gend ?_
 rintro v ⟨⟨hgu, hB1, hG1, -⟩, hx15⟩
 replace hp1 := hp1.grow hgu
 replace hp2 := hp2.grow hgu
 clear hB hG
 have hB := hB1
 have hG := hG1
 clear hB1 hG1
 refine hL _ _ ?_
 clear hL L hgu
 obtain ⟨u, rfl⟩ : ∃ x, x = v := ⟨_, rfl⟩
 refine wpList_nil ?_
 refine NoK.norm (hN _ _ ?_)
 clear hN K
 obtain ⟨A15, c15⟩ := x15
 obtain ⟨ba, oa, hAe⟩ := LzX.addr hx15
 simp only at hAe
 subst hAe
 have hx15 : LzX u [b5, b6] (some ⟨ba, oa, none⟩) D := hx15
 refine then_norm ?_
 refine wp_seq ?_
 refine wp_seq ?_
 refine wp_r0 ?_
 intro K hN
 go_wp2_with fail
 refine NoK.norm (hN _ _ ?_)
 clear hN K
 refine then_norm ?_
 refine wp_cond_false (rfl) ?_
 refine wp_skip ?_
 refine then_norm ?_
 refine wp_seq ?_
 refine wp_seq ?_
 refine wp_rd (w := w) allocs2 8 [] [(0, 0), (1, 1), (0, 2), (0, 3), (0, 4), (1, 5), (1, 6), (0, 7)] (by kernel_rfl) (by kernel_rfl) (by simp only [List.drop_succ_cons, List.drop_zero]; exact rfl) (fun _ => True) noG hB hG trivial ?_
 intro K L hN hL
 simp only [pickOps, List.getElem?_toArray, List.getElem?_cons_zero, List.getElem?_cons_succ]
 refine gyr ?_
 refine gma (by (rintro v ⟨hgu, hB, hG, -⟩ N hN; go_simp; with_reducible exact gmc (Hsn.out _) hN)) ?_
 refine gya ?_
 refine gya ?_
 first | (apply gy; exact rfl; (rintro v ⟨hgu, hB, hG, -⟩ N hN; have r := hB.r; simp only [BxR] at r; go_simp; exact hN)) | (apply gn; exact rfl)
 refine okf (by simp only [Act.put, List.setIfInBounds_toArray, List.set_cons_succ, List.set_cons_zero]; exact rfl) ?_
 refine gr (ratR (qint 1)) rfl ?_ (fun (x27 : Ax × Ax) => ?_)
 ·(rintro v ⟨hgu, hB, hG, -⟩ N hN; go_simp; ((with_reducible refine (ref1_Of 1 (by omega) (by omega) _).mono ?_); rintro e w1 ⟨x, rfl, hx, hg⟩; exact ⟨_, rfl, hN x w1 hx hg⟩))
 refine okf (by simp only [natR, intR, ratR, nnR, Act.put, List.setIfInBounds_toArray, List.set_cons_succ, List.set_cons_zero]; exact rfl) ?_
 first | (apply gm; exact rfl; (rintro v ⟨⟨hgu, hB, hG, -⟩, hx27⟩ N hN; obtain ⟨hx27a, hx27b⟩ : Rn v x27.1 _ ∧ Rn v x27.2 _ := hx27; go_simp; ((with_reducible refine (Hcm.out _ x27 (hp1.grow hgu) (hp2.grow hgu) hx27a hx27b).mono ?_); rintro e w1 ⟨rfl, hb⟩; exact ⟨_, rfl, hN _ hb⟩))) | (apply gmn; exact rfl)
 refine okf (by simp only [Act.put, List.setIfInBounds_toArray, List.set_cons_succ, List.set_cons_zero]; exact rfl) ?_
 first | (apply gy; exact rfl; (rintro v - N hN; go_simp; exact hN)) | (apply gn; exact rfl)
 refine okf (by simp only [Act.put, List.setIfInBounds_toArray, List.set_cons_succ, List.set_cons_zero]; exact rfl) ?_
 refine gend ?_
 rintro v ⟨⟨hgu, hB1, hG1, -⟩, hx27⟩
 replace hp1 := hp1.grow hgu
 replace hp2 := hp2.grow hgu
 replace hx15 := hx15.grow hgu
 obtain ⟨hx27a, hx27b⟩ : Rn v x27.1 _ ∧ Rn v x27.2 _ := hx27
 clear hB hG
 have hB := hB1
 have hG := hG1
 clear hB1 hG1
 refine hL _ _ ?_
 clear hL L hgu
 obtain ⟨u, rfl⟩ : ∃ x, x = v := ⟨_, rfl⟩
 go_wp2_with fail
 refine NoK.norm (hN _ _ ?_)
 clear hN K
 refine then_norm ?_
 refine wp_cond_false (rfl) ?_
 refine wp_skip ?_
 refine then_norm ?_
 refine wp_seq ?_
 have hlt15 := hx15.lt
 refine wp_rs (w := w) allocs2 2 [1, 2] (by kernel_rfl) (by simp only [List.drop_succ_cons, List.drop_zero]; exact rfl) (fun _ => True) noG hB hG trivial ?_
 intro K L hN hL
 simp only [List.zip_cons_cons, List.zip_nil_left]
 refine gr (ratR (qint 0)) rfl ?_ (fun (x32 : Ax × Ax) => ?_)
 ·(rintro v ⟨hgu, hB, hG, -⟩ N hN; go_simp; ((with_reducible refine (ref1_Of 0 (by omega) (by omega) _).mono ?_); rintro e w1 ⟨x, rfl, hx, hg⟩; exact ⟨_, rfl, hN x w1 hx hg⟩))
 refine okf (by simp only [natR, intR, ratR, nnR, Act.put, List.setIfInBounds_toArray, List.set_cons_succ, List.set_cons_zero]; exact rfl) ?_
 refine ga (newObj_RQ _ _ _ _ _) fun b10 hb10 hn10 => ?_
 refine okf (by simp only [Act.put, List.setIfInBounds_toArray, List.set_cons_succ, List.set_cons_zero]; exact rfl) ?_
 refine gend ?_
 rintro v ⟨⟨⟨hgu, hB1, hG1, -⟩, hx32⟩, h10⟩
 replace hp1 := hp1.grow hgu
 replace hp2 := hp2.grow hgu
 replace hx15 := hx15.grow hgu
 replace hx27a := hx27a.grow hgu
 replace hx27b := hx27b.grow hgu
 obtain ⟨hx32a, hx32b⟩ : Rn v x32.1 _ ∧ Rn v x32.2 _ := hx32
 have hF := Fr.new (tk := []) hF hB hG hb10 hn10
 simp only [List.cons_append, List.nil_append, List.map_cons, List.map_nil] at hF
 replace hx15 := hx15.more hlt15 hb10
 clear hB hG
 have hB := (Bx.cons h10 hB1)
 have hG := hG1
 clear hB1 hG1 h10
 refine hL _ _ ?_
 clear hL L hgu
 obtain ⟨u, rfl⟩ : ∃ x, x = v := ⟨_, rfl⟩
 have r := hB.r
 simp only [BxR] at r
 go_wp2_with fail
 clear r
 generalize hu0 : World.setCell (World.setCell (World.setCell u _ _) _ _) _ _ = u0
 have hBG := over_n hB hF hG 0 rfl 0 [_, _, _] hu0
 replace hp1 := hp1.put hB 0 rfl (by first | decide | simp) 0 [_, _, _] hu0
 replace hp2 := hp2.put hB 0 rfl (by first | decide | simp) 0 [_, _, _] hu0
 replace hx15 := hx15.put hB 0 rfl (by first | decide | simp) 0 [_, _, _] hu0
 replace hx27a := hx27a.put hB 0 rfl (by first | decide | simp) 0 [_, _, _] hu0
 replace hx27b := hx27b.put hB 0 rfl (by first | decide | simp) 0 [_, _, _] hu0
 replace hx32a := hx32a.put hB 0 rfl (by first | decide | simp) 0 [_, _, _] hu0
 replace hx32b := hx32b.put hB 0 rfl (by first | decide | simp) 0 [_, _, _] hu0
 clear hB hG hu0
 obtain ⟨hB, hG⟩ := hBG
 clear u
 obtain ⟨u, rfl⟩ : ∃ x, x = u0 := ⟨_, rfl⟩
 refine NoK.norm (hN _ _ ?_)
 clear hN K
 refine then_norm ?_
 refine wp_seq ?_
 refine wp_seq ?_
 refine wp_r0 ?_
 intro K hN
 go_wp2_with fail
 refine NoK.norm (hN _ _ ?_)
 clear hN K
 refine then_norm ?_
 refine wp_block ?_
 go_loopw [11] (fun s0 wr => ∃ (j : Nat) (S : Rat) (p : Az), j ≤ n ∧ s0 = .int .i64 j ∧ (S = qsum (fun i => tiltAt a (gq l i) (gq l' i)) j ∧ Rz wr p S ∧ LzX wr [b10, b5, b6] (some ⟨ba, oa, none⟩) D ∧ Rz wr pa a) ∧ Bx wr [(b10, 41, zCellsR p S), (b5, 41, zCellsR pa a), (b6, 41, zNone)] ∧ Grow w wr) (fun s0 _ => n - (intOf s0).toNat)
 case atStart => exact ⟨0, qint 0, x32, Nat.zero_le _, rfl, ⟨qint_zero, ⟨hx32a, hx32b⟩, hx15, ⟨hp1, hp2⟩⟩, hB, hG⟩
 case round =>
  clear hB hG
  obtain ⟨j, S, p, hj, rfl, hrel0, hB, hG⟩ := hrel
  obtain ⟨u, rfl⟩ : ∃ x, x = wr := ⟨_, rfl⟩
  have H0 := Lib.hid hrel0
  clear hrel0
  rcases Nat.lt_or_ge j n with hlt0 | hge0
  ·have hdec : decide ((j : Int) < (n : Int)) = true := by simp; omega
   have hjl : j < D.length := by rw [HDl.out]; exact hlt0
   have z1 := HM.out j (by omega)
   have z4 := HDs.out _ (gq_mem hjl)
   have hnx : qsum (fun i => tiltAt a (gq l i) (gq l' i)) (j + 1) = qadd (qsum (fun i => tiltAt a (gq l i) (gq l' i)) j) (tiltAt a (gq l j) (gq l' j)) := rfl
   rw [← H0.out.1, HD.out j hlt0] at hnx
   rw [← H0.out.1] at z1
   have hS := H0.out.2.1
   have hLz := H0.out.2.2.1
   have hP := H0.out.2.2.2
   obtain ⟨r, hrd⟩ := hLz.a.read hjl
   obtain ⟨X, hX⟩ : ∃ F, F = gq D j := ⟨_, rfl⟩
   rw [← hX] at z4 hnx
   simp only [← hX] at hrd
   have z7 := tiltD_sz a X s ha z4
   have hto := fun W e1 e2 e3 e4 => ref6_TiltOf r.1 r.2 pa.1 pa.2 X a W e1 e2 e3 e4 (by omega)
   obtain ⟨Y, hY⟩ : ∃ F, F = tiltD a X := ⟨_, rfl⟩
   rw [← hY] at z7 hto hnx
   have Hto := Lib.hid hto
   have Hrd := Lib.hid hrd
   have Hnx := Lib.hid hnx
   clear hrd hnx hX hjl hto hY H0
   refine wp_seq ?_
   refine wp_seq ?_
   refine wp_r0 ?_
   intro K hN
   go_wp2_with fail
   refine NoK.norm (hN _ _ ?_)
   clear hN K
   refine then_norm ?_
   refine wp_cond_true (rfl) ?_
   refine wp_skip ?_
   refine then_norm ?_
   refine wp_seq ?_
   refine wp_block ?_
   refine wp_rd (w := w) allocs2 8 [] [(0, 0), (0, 1), (0, 2), (0, 3), (0, 4), (0, 5), (1, 6), (1, 7)] (by kernel_rfl) (by kernel_rfl) (by simp only [List.drop_succ_cons, List.drop_zero]; exact rfl) (fun _ => True) noG hB hG trivial ?_
   intro K L hN hL
   simp only [pickOps, List.getElem?_toArray, List.getElem?_cons_zero, List.getElem?_cons_succ]
   refine gyb (by (rintro v ⟨hgu, hB, hG, -⟩ N hN; have r := hB.r; simp only [BxR] at r; obtain ⟨-, c1, c2, c3⟩ := Hrd.out v hgu; go_simp; exact hN)) ?_
   refine gya ?_
   refine gya ?_
   refine gya ?_
   refine gyb (by (rintro v ⟨hgu, hB, hG, -⟩ N hN; have r := hB.r; simp only [BxR] at r; obtain ⟨-, c1, c2, c3⟩ := Hrd.out v hgu; go_simp; exact hN)) ?_
   refine gyb (by (rintro v ⟨hgu, hB, hG, -⟩ N hN; have r := hB.r; simp only [BxR] at r; obtain ⟨-, c1, c2, c3⟩ := Hrd.out v hgu; go_simp; exact hN)) ?_
   refine gr (ratR Y) rfl ?_ (fun (x45 : Ax × Ax) => ?_)
   ·(rintro v ⟨hgu, hB, hG, -⟩ N hN; go_simp; ((with_reducible refine (Hto.out _ (Hrd.out _ hgu).1.a (Hrd.out _ hgu).1.b (hP.grow hgu).a (hP.grow hgu).b).mono ?_); rintro e w1 ⟨x, rfl, hx, hg⟩; exact ⟨_, rfl, hN x w1 hx hg⟩))
   refine okf (by simp only [natR, intR, ratR, nnR, Act.put, List.setIfInBounds_toArray, List.set_cons_succ, List.set_cons_zero]; exact rfl) ?_
   refine gr (ratR (qadd S Y)) rfl ?_ (fun (x46 : Ax × Ax) => ?_)
   ·(rintro v ⟨⟨hgu, hB, hG, -⟩, hx45⟩ N hN; obtain ⟨hx45a, hx45b⟩ : Rn v x45.1 _ ∧ Rn v x45.2 _ := hx45; go_simp; ((with_reducible refine (ref1_Add p.1 p.2 x45.1 x45.2 S Y _ (hS.grow hgu).a (hS.grow hgu).b hx45a hx45b (by omega)).mono ?_); rintro e w1 ⟨x, rfl, hx, hg⟩; exact ⟨_, rfl, hN x w1 hx hg⟩))
   refine okf (by simp only [natR, intR, ratR, nnR, Act.put, List.setIfInBounds_toArray, List.set_cons_succ, List.set_cons_zero]; exact rfl) ?_
   refine gend ?_
   rintro v ⟨⟨⟨hgu, hB1, hG1, -⟩, hx45⟩, hx46⟩
   replace hS := hS.grow hgu
   replace hLz := hLz.grow hgu
   replace hP := hP.grow hgu
   obtain ⟨hx45a, hx45b⟩ : Rn v x45.1 _ ∧ Rn v x45.2 _ := hx45
   obtain ⟨hx46a, hx46b⟩ : Rn v x46.1 _ ∧ Rn v x46.2 _ := hx46
   clear hB hG
   have hB := hB1
   have hG := hG1
   clear hB1 hG1
   refine hL _ _ ?_
   clear hL L hgu
   obtain ⟨u, rfl⟩ : ∃ x, x = v := ⟨_, rfl⟩
   have r := hB.r
   simp only [BxR] at r
   go_wp2_with fail
   clear r
   generalize hu0 : World.setCell (World.setCell (World.setCell u _ _) _ _) _ _ = u0
   have hBG := over_n hB hF hG 0 rfl 0 [_, _, _] hu0
   replace hS := hS.put hB 0 rfl (by first | decide | simp) 0 [_, _, _] hu0
   replace hLz := hLz.put hB 0 rfl (by first | decide | simp) 0 [_, _, _] hu0
   replace hP := hP.put hB 0 rfl (by first | decide | simp) 0 [_, _, _] hu0
   replace hx45a := hx45a.put hB 0 rfl (by first | decide | simp) 0 [_, _, _] hu0
   replace hx45b := hx45b.put hB 0 rfl (by first | decide | simp) 0 [_, _, _] hu0
   replace hx46a := hx46a.put hB 0 rfl (by first | decide | simp) 0 [_, _, _] hu0
   replace hx46b := hx46b.put hB 0 rfl (by first | decide | simp) 0 [_, _, _] hu0
   clear hB hG hu0
   obtain ⟨hB, hG⟩ := hBG
   clear u
   obtain ⟨u, rfl⟩ : ∃ x, x = u0 := ⟨_, rfl⟩
   refine NoK.norm (hN _ _ ?_)
   clear hN K
   refine blk_norm ?_
   refine then_norm ?_
   refine wp_r0 ?_
   intro K hN
   go_wp2_with fail
   refine NoK.norm (hN _ _ ?_)
   clear hN K
   refine then_norm ?_
   go_roundw
   case rel => exact ⟨j + 1, qadd S Y, x46, by omega, by go_num, ⟨Hnx.out.symm, ⟨hx46a, hx46b⟩, hLz, hP⟩, hB, hG⟩
   case measure => simp [intOf]; try omega
  ·obtain rfl : n = j := by omega
   have hdec : decide ((n : Int) < (n : Int)) = false := by simp
   have hS := H0.out.2.1
   have hLz := H0.out.2.2.1
   have hP := H0.out.2.2.2
   have z1 := HM.out n (by omega)
   rw [← H0.out.1] at z1
   have HS0 := Lib.hid H0.out.1
   clear H0
   refine wp_seq ?_
   refine wp_seq ?_
   refine wp_r0 ?_
   intro K hN
   go_wp2_with fail
   refine NoK.norm (hN _ _ ?_)
   clear hN K
   refine then_norm ?_
   refine wp_cond_false (rfl) ?_
   refine wp_exit ?_
   refine then_exit ?_
   refine then_exit ?_
   refine blk_exit ?_
   refine then_norm ?_
   refine wp_seq ?_
   refine wp_rd (w := w) allocs2 5 [] [(0, 0), (0, 1), (0, 2), (1, 3), (1, 4)] (by kernel_rfl) (by kernel_rfl) (by simp only [List.drop_succ_cons, List.drop_zero]; exact rfl) (fun _ => True) noG hB hG trivial ?_
   intro K L hN hL
   simp only [pickOps, List.getElem?_toArray, List.getElem?_cons_zero, List.getElem?_cons_succ]
   refine gyr ?_
   refine gya ?_
   refine gya ?_
   refine gr (ratR (qint n)) rfl ?_ (fun (x50 : Ax × Ax) => ?_)
   ·(rintro v ⟨hgu, hB, hG, -⟩ N hN; go_simp; ((with_reducible refine (ref1_Of n (by omega) (by omega) _).mono ?_); rintro e w1 ⟨x, rfl, hx, hg⟩; exact ⟨_, rfl, hN x w1 hx hg⟩))
   refine okf (by simp only [natR, intR, ratR, nnR, Act.put, List.setIfInBounds_toArray, List.set_cons_succ, List.set_cons_zero]; exact rfl) ?_
   refine gr (ratR (qdiv S (qint n))) rfl ?_ (fun (x51 : Ax × Ax) => ?_)
   ·(rintro v ⟨⟨hgu, hB, hG, -⟩, hx50⟩ N hN; obtain ⟨hx50a, hx50b⟩ : Rn v x50.1 _ ∧ Rn v x50.2 _ := hx50; go_simp; ((with_reducible refine (ref1_Div p.1 p.2 x50.1 x50.2 S (qint n) _ (hS.grow hgu).a (hS.grow hgu).b hx50a hx50b (by omega) z3).mono ?_); rintro e w1 ⟨x, rfl, hx, hg⟩; exact ⟨_, rfl, hN x w1 hx hg⟩))
   refine okf (by simp only [natR, intR, ratR, nnR, Act.put, List.setIfInBounds_toArray, List.set_cons_succ, List.set_cons_zero]; exact rfl) ?_
   refine gend ?_
   rintro v ⟨⟨⟨hgu, hB1, hG1, -⟩, hx50⟩, hx51⟩
   replace hS := hS.grow hgu
   replace hLz := hLz.grow hgu
   replace hP := hP.grow hgu
   obtain ⟨hx50a, hx50b⟩ : Rn v x50.1 _ ∧ Rn v x50.2 _ := hx50
   obtain ⟨hx51a, hx51b⟩ : Rn v x51.1 _ ∧ Rn v x51.2 _ := hx51
   clear hB hG
   have hB := hB1
   have hG := hG1
   clear hB1 hG1
   refine hL _ _ ?_
   clear hL L hgu
   obtain ⟨u, rfl⟩ : ∃ x, x = v := ⟨_, rfl⟩
   have r := hB.r
   simp only [BxR] at r
   go_wp2_with fail
   clear r
   generalize hu0 : World.setCell (World.setCell (World.setCell u _ _) _ _) _ _ = u0
   have hBG := over_n hB hF hG 2 rfl 0 [_, _, _] hu0
   replace hS := hS.put hB 2 rfl (by first | decide | simp) 0 [_, _, _] hu0
   replace hLz := hLz.put hB 2 rfl (by first | decide | simp) 0 [_, _, _] hu0
   replace hP := hP.put hB 2 rfl (by first | decide | simp) 0 [_, _, _] hu0
   replace hx50a := hx50a.put hB 2 rfl (by first | decide | simp) 0 [_, _, _] hu0
   replace hx50b := hx50b.put hB 2 rfl (by first | decide | simp) 0 [_, _, _] hu0
   replace hx51a := hx51a.put hB 2 rfl (by first | decide | simp) 0 [_, _, _] hu0
   replace hx51b := hx51b.put hB 2 rfl (by first | decide | simp) 0 [_, _, _] hu0
   clear hB hG hu0
   obtain ⟨hB, hG⟩ := hBG
   clear u
   obtain ⟨u, rfl⟩ : ∃ x, x = u0 := ⟨_, rfl⟩
   refine NoK.norm (hN _ _ ?_)
   clear hN K
   refine then_norm ?_
   refine wp_ret ?_
   refine ret_b rfl ?_
   intro N hN
   have r := hB.r
   simp only [BxR] at r
   simp only [results, Tryz.results40]
   go_simp
   refine hN _ ?_
   clear hN N r
   exact ⟨x51, by first | (rw [← HS0.out]; done) | (rw [← HS0.out]; rfl), by rw [← HS0.out]; exact ⟨hx51a, hx51b⟩, hG⟩
set_option maxHeartbeats 2000000 in
set_option maxRecDepth 100000 in
theorem ref6_Tilt_neg (A B : Option Addr) (l l' : List Rat) (c d n : Nat) (pa : Az) (a : Rat) (hn : n = l.length) (hn' : n = l'.length) (hn0 : 0 < n) (hm : n ≤ 1048576) (ha0 : a < 0) (s : Nat) (hs : ∀ x ∈ l, qs x ≤ s) (hs' : ∀ x ∈ l', qs x ≤ s) (hB : 2 * s + 10 ≤ BIG) (w : World) (h : Lz w A l) (h' : Lz w B l') :
  Calls Tryz.prog 40 #[.slice A n c, .slice B n d, rzV pa a] w (RetE 0 1 w) := by
 have hfar := fun W hg => far_beside (c := c) (d := d) hn hn' hn0 hm hs hs' hB h h' [] W hg (fun b' hb' => by cases hb')
 generalize diffs l l' n = D at *
 have hsg : decide (a.num.sign < 0) = true := by
  rw [decide_eq_true_eq, Int.sign_neg_iff]
  exact num_neg'.2 ha0
 have hsn := fun W => ref1_Sign pa.1 pa.2 a W
 obtain ⟨g, hg⟩ : ∃ g, g = a.num.sign := ⟨_, rfl⟩
 rw [← hg] at hsg hsn
 have Hfar := Lib.hid hfar
 have Hsn := Lib.hid hsn
 clear hfar hs hs' hn hn' h h' hsn hg ha0
 go_enter Tryz.func40, Tryz.ntmps40
 refine wp_seq (wp_r0 ?_)
 intro K hN
 go_wp2_with fail
 generalize hu : World.alloc (World.alloc w _) _ = u
 obtain ⟨hB, hG⟩ := bx_first [(_, _), (_, _)] w u hu
 have hF := fr_first w [(41, #[]), (41, #[])]
 simp only [numbered, List.map_cons, List.map_nil] at hB hF
 clear hu
 generalize w.heap.size + 1 = b6 at hB hF ⊢
 generalize w.heap.size = b5 at hB hF ⊢
 refine NoK.norm (hN _ _ ?_)
 clear hN K
 refine then_norm ?_
 refine wp_seq ?_
 refine wp_rs (w := w) allocs2 8 [0, 0, 1, 0, 0, 0, 0, 0] (by kernel_rfl) (by simp only [List.drop_succ_cons, List.drop_nil]; exact rfl) (fun _ => True) noG hB hG trivial ?_
 intro K L hN hL
 simp only [List.zip_cons_cons, List.zip_nil_left]
 refine gya ?_
 refine gya ?_
 refine gx (Ax) (fun x : Ax => .tuple #[.slice x.1 n x.2, .int .i64 0]) (fun x W => LzX W [] x.1 D) (fun x u u' hg h => LzX.grow h hg) rfl ?_ (fun x15 => ?_)
 ·(rintro v ⟨hgu, hB, hG, -⟩ N hN; go_simp; ((with_reducible refine (Hfar.out _ hG).mono ?_); rintro e w1 ⟨x, rfl, hx, hg⟩; exact ⟨_, rfl, hN x w1 hx hg⟩))
 refine okf (by simp only [Act.put, List.setIfInBounds_toArray, List.set_cons_succ, List.set_cons_zero]; exact rfl) ?_
 refine gya ?_
 refine gya ?_
 refine gya ?_
 refine gya ?_
 refine gya ?_
 refine gend ?_
 rintro v ⟨⟨hgu, hB1, hG1, -⟩, hx15⟩
 clear hx15
 clear hB hG
 have hB := hB1
 have hG := hG1
 clear hB1 hG1
 refine hL _ _ ?_
 clear hL L hgu
 obtain ⟨u, rfl⟩ : ∃ x, x = v := ⟨_, rfl⟩
 refine wpList_nil ?_
 refine NoK.norm (hN _ _ ?_)
 clear hN K
 refine then_norm ?_
 refine wp_seq ?_
 refine wp_seq ?_
 refine wp_r0 ?_
 intro K hN
 go_wp2_with fail
 refine NoK.norm (hN _ _ ?_)
 clear hN K
 refine then_norm ?_
 refine wp_cond_false (rfl) ?_
 refine wp_skip ?_
 refine then_norm ?_
 refine wp_seq ?_
 refine wp_seq ?_
 refine wp_rd (w := w) allocs2 8 [] [(0, 0), (1, 1), (0, 2), (0, 3), (0, 4), (1, 5), (1, 6), (0, 7)] (by kernel_rfl) (by kernel_rfl) (by simp only [List.drop_succ_cons, List.drop_zero]; exact rfl) (fun _ => True) noG hB hG trivial ?_
 intro K L hN hL
 simp only [pickOps, List.getElem?_toArray, List.getElem?_cons_zero, List.getElem?_cons_succ]
 refine gyr ?_
 refine gma (by (rintro v ⟨hgu, hB, hG, -⟩ N hN; go_simp; with_reducible exact gmc (Hsn.out _) hN)) ?_
 refine gya ?_
 refine gya ?_
 first | (apply gy; exact rfl; (rintro v ⟨hgu, hB, hG, -⟩ N hN; have r := hB.r; simp only [BxR] at r; go_simp; exact hN)) | (apply gn; exact rfl)
 refine okf (by simp only [Act.put, List.setIfInBounds_toArray, List.set_cons_succ, List.set_cons_zero]; exact rfl) ?_
 refine gmn (by exact rfl) ?_
 refine okf (by simp only [Act.put, List.setIfInBounds_toArray, List.set_cons_succ, List.set_cons_zero]; exact rfl) ?_
 refine gmn (by exact rfl) ?_
 refine okf (by simp only [Act.put, List.setIfInBounds_toArray, List.set_cons_succ, List.set_cons_zero]; exact rfl) ?_
 first | (apply gy; exact rfl; (rintro v - N hN; go_simp; exact hN)) | (apply gn; exact rfl)
 refine okf (by simp only [Act.put, List.setIfInBounds_toArray, List.set_cons_succ, List.set_cons_zero]; exact rfl) ?_
 refine gend ?_
 rintro v ⟨hgu, hB1, hG1, -⟩
 clear hB hG
 have hB := hB1
 have hG := hG1
 clear hB1 hG1
 refine hL _ _ ?_
 clear hL L hgu
 obtain ⟨u, rfl⟩ : ∃ x, x = v := ⟨_, rfl⟩
 go_wp2_with fail
 refine NoK.norm (hN _ _ ?_)
 clear hN K
 refine then_norm ?_
 refine wp_cond_true (rfl) ?_
 refine wp_seq ?_
 refine wp_rs (w := w) allocs2 1 [1] (by kernel_rfl) (by simp only [List.drop_succ_cons, List.drop_zero]; exact rfl) (fun _ => True) noG hB hG trivial ?_
 intro K L hN hL
 simp only [List.zip_cons_cons, List.zip_nil_left]
 refine gr (ratR (qint 0)) rfl ?_ (fun (x31 : Ax × Ax) => ?_)
 ·(rintro v ⟨hgu, hB, hG, -⟩ N hN; go_simp; ((with_reducible refine (ref1_Of 0 (by omega) (by omega) _).mono ?_); rintro e w1 ⟨x, rfl, hx, hg⟩; exact ⟨_, rfl, hN x w1 hx hg⟩))
 refine okf (by simp only [natR, intR, ratR, nnR, Act.put, List.setIfInBounds_toArray, List.set_cons_succ, List.set_cons_zero]; exact rfl) ?_
 refine gend ?_
 rintro v ⟨⟨hgu, hB1, hG1, -⟩, hx31⟩
 obtain ⟨hx31a, hx31b⟩ : Rn v x31.1 _ ∧ Rn v x31.2 _ := hx31
 clear hB hG
 have hB := hB1
 have hG := hG1
 clear hB1 hG1
 refine hL _ _ ?_
 clear hL L hgu
 obtain ⟨u, rfl⟩ : ∃ x, x = v := ⟨_, rfl⟩
 have r := hB.r
 simp only [BxR] at r
 go_wp2_with fail
 clear r
 generalize hu0 : World.setCell (World.setCell (World.setCell u _ _) _ _) _ _ = u0
 have hBG := over_n hB hF hG 1 rfl 0 [_, _, _] hu0
 replace hx31a := hx31a.put hB 1 rfl (by first | decide | simp) 0 [_, _, _] hu0
 replace hx31b := hx31b.put hB 1 rfl (by first | decide | simp) 0 [_, _, _] hu0
 clear hB hG hu0
 obtain ⟨hB, hG⟩ := hBG
 clear u
 obtain ⟨u, rfl⟩ : ∃ x, x = u0 := ⟨_, rfl⟩
 refine NoK.norm (hN _ _ ?_)
 clear hN K
 refine then_norm ?_
 refine wp_ret ?_
 refine then_ret ?_
 refine ret_b rfl ?_
 intro N hN
 have r := hB.r
 simp only [BxR] at r
 simp only [results, Tryz.results40]
 go_simp
 refine hN _ ?_
 clear hN N r
 exact ⟨x31, rfl, ⟨hx31a, hx31b⟩, hG⟩
set_option maxHeartbeats 2000000 in
set_option maxRecDepth 100000 in
theorem ref6_Tilt_big (A B : Option Addr) (l l' : List Rat) (c d n : Nat) (pa : Az) (a : Rat) (hn : n = l.length) (hn' : n = l'.length) (hn0 : 0 < n) (hm : n ≤ 1048576) (ha0 : ¬ a < 0) (ha1 : qint 1 < a) (s : Nat) (ha : qs a ≤ s) (hs : ∀ x ∈ l, qs x ≤ s) (hs' : ∀ x ∈ l', qs x ≤ s) (hB : 2 * s + 100 ≤ BIG) (w : World) (h : Lz w A l) (h' : Lz w B l') (hp1 : Rn w pa.1 a.num.natAbs) (hp2 : Rn w pa.2 a.den) :
  Calls Tryz.prog 40 #[.slice A n c, .slice B n d, rzV pa a] w (RetE 0 1 w) := by
 have hfar := fun W hg => far_beside (c := c) (d := d) hn hn' hn0 hm hs hs' (by omega) h h' [] W hg (fun b' hb' => by cases hb')
 generalize diffs l l' n = D at *
 have z5 : qs (qint 1) ≤ 41 := qint_sz 1 (by omega)
 have hsg : decide (a.num.sign < 0) = false := by
  rw [decide_eq_false_iff_not, Int.sign_neg_iff]
  exact fun h => ha0 (num_neg'.1 h)
 have hsn := fun W => ref1_Sign pa.1 pa.2 a W
 obtain ⟨g, hg⟩ : ∃ g, g = a.num.sign := ⟨_, rfl⟩
 rw [← hg] at hsg hsn
 have hcm := fun W (x : Az) e1 e2 e3 e4 => ref1_Cmp pa.1 pa.2 x.1 x.2 a (qint 1) W e1 e2 e3 e4 (by omega)
 rw [cmpQ_gt ha1] at hcm
 have Hfar := Lib.hid hfar
 have Hsn := Lib.hid hsn
 have Hcm := Lib.hid hcm
 clear hfar hs hs' hn hn' h h' hsn hcm hg ha0 ha1
 go_enter Tryz.func40, Tryz.ntmps40
 refine wp_seq (wp_r0 ?_)
 intro K hN
 go_wp2_with fail
 generalize hu : World.alloc (World.alloc w _) _ = u
 obtain ⟨hB, hG⟩ := bx_first [(_, _), (_, _)] w u hu
 have hF := fr_first w [(41, #[]), (41, #[])]
 simp only [numbered, List.map_cons, List.map_nil] at hB hF
 clear hu
 generalize w.heap.size + 1 = b6 at hB hF ⊢
 generalize w.heap.size = b5 at hB hF ⊢
 replace hp1 := hp1.grow hG
 replace hp2 := hp2.grow hG
 refine NoK.norm (hN _ _ ?_)
 clear hN K
 refine then_norm ?_
 refine wp_seq ?_
 refine wp_rs (w := w) allocs2 8 [0, 0, 1, 0, 0, 0, 0, 0] (by kernel_rfl) (by simp only [List.drop_succ_cons, List.drop_nil]; exact rfl) (fun _ => True) noG hB hG trivial ?_
 intro K L hN hL
 simp only [List.zip_cons_cons, List.zip_nil_left]
 refine gya ?_
 refine gya ?_
 refine gx (Ax) (fun x : Ax => .tuple #[.slice x.1 n x.2, .int .i64 0]) (fun x W => LzX W [] x.1 D) (fun x u u' hg h => LzX.grow h hg) rfl ?_ (fun x15 => ?_)
 ·(rintro v ⟨hgu, hB, hG, -⟩ N hN; go_simp; ((with_reducible refine (Hfar.out _ hG).mono ?_); rintro e w1 ⟨x, rfl, hx, hg⟩; exact ⟨_, rfl, hN x w1 hx hg⟩))
 refine okf (by simp only [Act.put, List.setIfInBounds_toArray, List.set_cons_succ, List.set_cons_zero]; exact rfl) ?_
 refine gya ?_
 refine gya ?_
 refine gya ?_
 refine gya ?_
 refine gya ?_
 refine gend ?_
 rintro v ⟨⟨hgu, hB1, hG1, -⟩, hx15⟩
 replace hp1 := hp1.grow hgu
 replace hp2 := hp2.grow hgu
 clear hx15
 clear hB hG
 have hB := hB1
 have hG := hG1
 clear hB1 hG1
 refine hL _ _ ?_
 clear hL L hgu
 obtain ⟨u, rfl⟩ : ∃ x, x = v := ⟨_, rfl⟩
 refine wpList_nil ?_
 refine NoK.norm (hN _ _ ?_)
 clear hN K
 refine then_norm ?_
 refine wp_seq ?_
 refine wp_seq ?_
 refine wp_r0 ?_
 intro K hN
 go_wp2_with fail
 refine NoK.norm (hN _ _ ?_)
 clear hN K
 refine then_norm ?_
 refine wp_cond_false (rfl) ?_
 refine wp_skip ?_
 refine then_norm ?_
 refine wp_seq ?_
 refine wp_seq ?_
 refine wp_rd (w := w) allocs2 8 [] [(0, 0), (1, 1), (0, 2), (0, 3), (0, 4), (1, 5), (1, 6), (0, 7)] (by kernel_rfl) (by kernel_rfl) (by simp only [List.drop_succ_cons, List.drop_zero]; exact rfl) (fun _ => True) noG hB hG trivial ?_
 intro K L hN hL
 simp only [pickOps, List.getElem?_toArray, List.getElem?_cons_zero, List.getElem?_cons_succ]
 refine gyr ?_
 refine gma (by (rintro v ⟨hgu, hB, hG, -⟩ N hN; go_simp; with_reducible exact gmc (Hsn.out _) hN)) ?_
 refine gya ?_
 refine gya ?_
 first | (apply gy; exact rfl; (rintro v ⟨hgu, hB, hG, -⟩ N hN; have r := hB.r; simp only [BxR] at r; go_simp; exact hN)) | (apply gn; exact rfl)
 refine okf (by simp only [Act.put, List.setIfInBounds_toArray, List.set_cons_succ, List.set_cons_zero]; exact rfl) ?_
 refine gr (ratR (qint 1)) rfl ?_ (fun (x27 : Ax × Ax) => ?_)
 ·(rintro v ⟨hgu, hB, hG, -⟩ N hN; go_simp; ((with_reducible refine (ref1_Of 1 (by omega) (by omega) _).mono ?_); rintro e w1 ⟨x, rfl, hx, hg⟩; exact ⟨_, rfl, hN x w1 hx hg⟩))
 refine okf (by simp only [natR, intR, ratR, nnR, Act.put, List.setIfInBounds_toArray, List.set_cons_succ, List.set_cons_zero]; exact rfl) ?_
 first | (apply gm; exact rfl; (rintro v ⟨⟨hgu, hB, hG, -⟩, hx27⟩ N hN; obtain ⟨hx27a, hx27b⟩ : Rn v x27.1 _ ∧ Rn v x27.2 _ := hx27; go_simp; ((with_reducible refine (Hcm.out _ x27 (hp1.grow hgu) (hp2.grow hgu) hx27a hx27b).mono ?_); rintro e w1 ⟨rfl, hb⟩; exact ⟨_, rfl, hN _ hb⟩))) | (apply gmn; exact rfl)
 refine okf (by simp only [Act.put, List.setIfInBounds_toArray, List.set_cons_succ, List.set_cons_zero]; exact rfl) ?_
 first | (apply gy; exact rfl; (rintro v - N hN; go_simp; exact hN)) | (apply gn; exact rfl)
 refine okf (by simp only [Act.put, List.setIfInBounds_toArray, List.set_cons_succ, List.set_cons_zero]; exact rfl) ?_
 refine gend ?_
 rintro v ⟨⟨hgu, hB1, hG1, -⟩, hx27⟩
 replace hp1 := hp1.grow hgu
 replace hp2 := hp2.grow hgu
 obtain ⟨hx27a, hx27b⟩ : Rn v x27.1 _ ∧ Rn v x27.2 _ := hx27
 clear hB hG
 have hB := hB1
 have hG := hG1
 clear hB1 hG1
 refine hL _ _ ?_
 clear hL L hgu
 obtain ⟨u, rfl⟩ : ∃ x, x = v := ⟨_, rfl⟩
 go_wp2_with fail
 refine NoK.norm (hN _ _ ?_)
 clear hN K
 refine then_norm ?_
 refine wp_cond_true (rfl) ?_
 refine wp_seq ?_
 refine wp_rs (w := w) allocs2 1 [1] (by kernel_rfl) (by simp only [List.drop_succ_cons, List.drop_zero]; exact rfl) (fun _ => True) noG hB hG trivial ?_
 intro K L hN hL
 simp only [List.zip_cons_cons, List.zip_nil_left]
 refine gr (ratR (qint 0)) rfl ?_ (fun (x31 : Ax × Ax) => ?_)
 ·(rintro v ⟨hgu, hB, hG, -⟩ N hN; go_simp; ((with_reducible refine (ref1_Of 0 (by omega) (by omega) _).mono ?_); rintro e w1 ⟨x, rfl, hx, hg⟩; exact ⟨_, rfl, hN x w1 hx hg⟩))
 refine okf (by simp only [natR, intR, ratR, nnR, Act.put, List.setIfInBounds_toArray, List.set_cons_succ, List.set_cons_zero]; exact rfl) ?_
 refine gend ?_
 rintro v ⟨⟨hgu, hB1, hG1, -⟩, hx31⟩
 replace hp1 := hp1.grow hgu
 replace hp2 := hp2.grow hgu
 replace hx27a := hx27a.grow hgu
 replace hx27b := hx27b.grow hgu
 obtain ⟨hx31a, hx31b⟩ : Rn v x31.1 _ ∧ Rn v x31.2 _ := hx31
 clear hB hG
 have hB := hB1
 have hG := hG1
 clear hB1 hG1
 refine hL _ _ ?_
 clear hL L hgu
 obtain ⟨u, rfl⟩ : ∃ x, x = v := ⟨_, rfl⟩
 have r := hB.r
 simp only [BxR] at r
 go_wp2_with fail
 clear r
 generalize hu0 : World.setCell (World.setCell (World.setCell u _ _) _ _) _ _ = u0
 have hBG := over_n hB hF hG 1 rfl 0 [_, _, _] hu0
 replace hp1 := hp1.put hB 1 rfl (by first | decide | simp) 0 [_, _, _] hu0
 replace hp2 := hp2.put hB 1 rfl (by first | decide | simp) 0 [_, _, _] hu0
 replace hx27a := hx27a.put hB 1 rfl (by first | decide | simp) 0 [_, _, _] hu0
 replace hx27b := hx27b.put hB 1 rfl (by first | decide | simp) 0 [_, _, _] hu0
 replace hx31a := hx31a.put hB 1 rfl (by first | decide | simp) 0 [_, _, _] hu0
 replace hx31b := hx31b.put hB 1 rfl (by first | decide | simp) 0 [_, _, _] hu0
 clear hB hG hu0
 obtain ⟨hB, hG⟩ := hBG
 clear u
 obtain ⟨u, rfl⟩ : ∃ x, x = u0 := ⟨_, rfl⟩
 refine NoK.norm (hN _ _ ?_)
 clear hN K
 refine then_norm ?_
 refine wp_ret ?_
 refine then_ret ?_
 refine ret_b rfl ?_
 intro N hN
 have r := hB.r
 simp only [BxR] at r
 simp only [results, Tryz.results40]
 go_simp
 refine hN _ ?_
 clear hN N r
 exact ⟨x31, rfl, ⟨hx31a, hx31b⟩, hG⟩
set_option maxHeartbeats 1000000 in
set_option maxRecDepth 100000 in
theorem ref6_Tilt_no (A B : Option Addr) (m n c d : Nat) (pa : Az) (a : Rat) (h : pairedB m n = false) (w : World) :
  Calls Tryz.prog 40 #[.slice A m c, .slice B n d, rzV pa a] w (RetE 0 5 w) := by
 have Hfar := Lib.hid (ref6_far_no A B m n c d h)
 clear h
 go_enter Tryz.func40, Tryz.ntmps40
 refine wp_seq (wp_r0 ?_)
 intro K hN
 go_wp2_with fail
 generalize hu : World.alloc (World.alloc w _) _ = u
 obtain ⟨hB, hG⟩ := bx_first [(_, _), (_, _)] w u hu
 have hF := fr_first w [(41, #[]), (41, #[])]
 simp only [numbered, List.map_cons, List.map_nil] at hB hF
 clear hu
 generalize w.heap.size + 1 = b6 at hB hF ⊢
 generalize w.heap.size = b5 at hB hF ⊢
 refine NoK.norm (hN _ _ ?_)
 clear hN K
 refine then_norm ?_
 refine wp_seq ?_
 refine wp_rs (w := w) allocs2 8 [0, 0, 1, 0, 0, 0, 0, 0] (by kernel_rfl) (by simp only [List.drop_succ_cons, List.drop_nil]; exact rfl) (fun _ => True) noG hB hG trivial ?_
 intro K L hN hL
 simp only [List.zip_cons_cons, List.zip_nil_left]
 refine gya ?_
 refine gya ?_
 refine gma (by (rintro v ⟨hgu, hB, hG, -⟩ N hN; go_simp; with_reducible exact gmc (Hfar.out _) hN)) ?_
 refine gya ?_
 refine gya ?_
 refine gya ?_
 refine gya ?_
 refine gya ?_
 refine gend ?_
 rintro v ⟨hgu, hB1, hG1, -⟩
 clear hB hG
 have hB := hB1
 have hG := hG1
 clear hB1 hG1
 refine hL _ _ ?_
 clear hL L hgu
 obtain ⟨u, rfl⟩ : ∃ x, x = v := ⟨_, rfl⟩
 refine wpList_nil ?_
 refine NoK.norm (hN _ _ ?_)
 clear hN K
 refine then_norm ?_
 refine wp_seq ?_
 refine wp_seq ?_
 refine wp_r0 ?_
 intro K hN
 go_wp2_with fail
 refine NoK.norm (hN _ _ ?_)
 clear hN K
 refine then_norm ?_
 refine wp_cond_true (rfl) ?_
 refine wp_seq ?_
 refine wp_rs (w := w) allocs2 2 [1, 0] (by kernel_rfl) (by simp only [List.drop_succ_cons, List.drop_zero]; exact rfl) (fun _ => True) noG hB hG trivial ?_
 intro K L hN hL
 simp only [List.zip_cons_cons, List.zip_nil_left]
 refine gr (ratR (qint 0)) rfl ?_ (fun (x20 : Ax × Ax) => ?_)
 ·(rintro v ⟨hgu, hB, hG, -⟩ N hN; go_simp; ((with_reducible refine (ref1_Of 0 (by omega) (by omega) _).mono ?_); rintro e w1 ⟨x, rfl, hx, hg⟩; exact ⟨_, rfl, hN x w1 hx hg⟩))
 refine okf (by simp only [natR, intR, ratR, nnR, Act.put, List.setIfInBounds_toArray, List.set_cons_succ, List.set_cons_zero]; exact rfl) ?_
 refine gya ?_
 refine gend ?_
 rintro v ⟨⟨hgu, hB1, hG1, -⟩, hx20⟩
 obtain ⟨hx20a, hx20b⟩ : Rn v x20.1 _ ∧ Rn v x20.2 _ := hx20
 clear hB hG
 have hB := hB1
 have hG := hG1
 clear hB1 hG1
 refine hL _ _ ?_
 clear hL L hgu
 obtain ⟨u, rfl⟩ : ∃ x, x = v := ⟨_, rfl⟩
 have r := hB.r
 simp only [BxR] at r
 go_wp2_with fail
 clear r
 generalize hu0 : World.setCell (World.setCell (World.setCell u _ _) _ _) _ _ = u0
 have hBG := over_n hB hF hG 1 rfl 0 [_, _, _] hu0
 replace hx20a := hx20a.put hB 1 rfl (by first | decide | simp) 0 [_, _, _] hu0
 replace hx20b := hx20b.put hB 1 rfl (by first | decide | simp) 0 [_, _, _] hu0
 clear hB hG hu0
 obtain ⟨hB, hG⟩ := hBG
 clear u
 obtain ⟨u, rfl⟩ : ∃ x, x = u0 := ⟨_, rfl⟩
 refine NoK.norm (hN _ _ ?_)
 clear hN K
 refine then_norm ?_
 refine wp_ret ?_
 refine then_ret ?_
 refine ret_b rfl ?_
 intro N hN
 have r := hB.r
 simp only [BxR] at r
 simp only [results, Tryz.results40]
 go_simp
 refine hN _ ?_
 clear hN N r
 exact ⟨x20, rfl, ⟨hx20a, hx20b⟩, hG⟩
end Go.Proofs.YtimjnkfcnpfoeaaGreatDoor
