/-
  Contracts and laws: RefQ.
-/
import Derived.Test.YtimjnkfcnpfoeaaGreatDoorV42
set_option linter.unusedSimpArgs false
set_option linter.unusedVariables false
namespace Go.Proofs.YtimjnkfcnpfoeaaGreatDoor
open Go.RowKit
theorem qint_zero : qint 0 = 0 := rfl
abbrev zCellsR (p : Az) (q : Rat) : Array Value := #[.bool (intNeg q.num), .slice p.1.1 (ln q.num.natAbs) p.1.2, .slice p.2.1 (ln q.den) p.2.2]
abbrev zNone : Array Value := #[.bool false, .slice none 0 0, .slice none 0 0]
theorem qsum_congr {f g : Nat → Rat} {n : Nat} (h : ∀ i, i < n → f i = g i) : qsum f n = qsum g n := by
 induction n with
 | zero => rfl
 | succ n ih => simp only [qsum]; rw [ih (fun i hi => h i (by omega)), h n (by omega)]
set_option maxHeartbeats 2000000 in
set_option maxRecDepth 100000 in
theorem ref1_Total (A : Option Addr) (l : List Rat) (c n : Nat) (hn : n = l.length) (hm : n ≤ 1099511627776) (s M : Nat) (hs : ∀ x ∈ l, qs x ≤ s) (hM : ∀ j, j ≤ n → qs (qsum (gq l) j) ≤ M) (hB : M + s + 100 ≤ BIG) (w : World) (h : Lz w A l) :
  Calls Tryz.prog 137 #[.slice A n c] w (Ret (ratR (qsum (gq l) n)) w) := by
 have H := Lib.hid h
 have Hs := Lib.hid hs
 have HM := Lib.hid hM
 have Hn := Lib.hid hn
 clear h hs hM hn
 go_enter Tryz.func137, Tryz.ntmps137
 refine wp_seq (wp_r0 ?_)
 intro K hN
 go_wp2_with fail
 generalize hu : World.alloc w _ = u
 obtain ⟨hB, hG⟩ := bx_first [(_, _)] w u hu
 have hF := fr_first w [(41, #[])]
 simp only [numbered, List.map_cons, List.map_nil] at hB hF
 clear hu
 generalize w.heap.size = b2 at hB hF ⊢
 refine NoK.norm (hN _ _ ?_)
 clear hN K
 refine then_norm ?_
 refine wp_seq ?_
 refine wp_rs (w := w) allocs2 2 [1, 2] (by kernel_rfl) (by simp only [List.drop_succ_cons, List.drop_zero]; exact rfl) (fun _ => True) noG hB hG trivial ?_
 intro K L hN hL
 simp only [List.zip_cons_cons, List.zip_nil_left]
 refine gr (ratR (qint 0)) rfl ?_ (fun (x5 : Ax × Ax) => ?_)
 ·(rintro v ⟨hgu, hB, hG, -⟩ N hN; go_simp; ((with_reducible refine (ref1_Of 0 (by omega) (by omega) _).mono ?_); rintro e w1 ⟨x, rfl, hx, hg⟩; exact ⟨_, rfl, hN x w1 hx hg⟩))
 refine okf (by simp only [natR, intR, ratR, nnR, Act.put, List.setIfInBounds_toArray, List.set_cons_succ, List.set_cons_zero]; exact rfl) ?_
 refine ga (newObj_RQ _ _ _ _ _) fun b3 hb3 hn3 => ?_
 refine okf (by simp only [Act.put, List.setIfInBounds_toArray, List.set_cons_succ, List.set_cons_zero]; exact rfl) ?_
 refine gend ?_
 rintro v ⟨⟨⟨hgu, hB1, hG1, -⟩, hx5⟩, h3⟩
 obtain ⟨hx5a, hx5b⟩ : Rn v x5.1 _ ∧ Rn v x5.2 _ := hx5
 have hF := Fr.new (tk := []) hF hB hG hb3 hn3
 simp only [List.cons_append, List.nil_append, List.map_cons, List.map_nil] at hF
 clear hB hG
 have hB := (Bx.cons h3 hB1)
 have hG := hG1
 clear hB1 hG1 h3
 refine hL _ _ ?_
 clear hL L hgu
 obtain ⟨u, rfl⟩ : ∃ x, x = v := ⟨_, rfl⟩
 have r := hB.r
 simp only [BxR] at r
 go_wp2_with fail
 clear r
 generalize hu0 : World.setCell (World.setCell (World.setCell u _ _) _ _) _ _ = u0
 have hBG := over_n hB hF hG 0 rfl 0 [_, _, _] hu0
 replace hx5a := hx5a.put hB 0 rfl (by first | decide | simp) 0 [_, _, _] hu0
 replace hx5b := hx5b.put hB 0 rfl (by first | decide | simp) 0 [_, _, _] hu0
 clear hB hG hu0
 obtain ⟨hB, hG⟩ := hBG
 clear u
 obtain ⟨u, rfl⟩ : ∃ x, x = u0 := ⟨_, rfl⟩
 refine NoK.norm (hN _ _ ?_)
 clear hN K
 refine then_norm ?_
 refine wp_seq ?_
 refine wp_seq ?_
 refine wp_r0 ?_
 intro K hN
 go_wp2_with fail
 refine NoK.norm (hN _ _ ?_)
 clear hN K
 refine then_norm ?_
 refine wp_block ?_
 go_loopw [4] (fun s0 wr => ∃ (j : Nat) (S : Rat) (p : Az), j ≤ n ∧ s0 = .int .i64 j ∧ (S = qsum (gq l) j ∧ Rz wr p S) ∧ Bx wr [(b3, 41, zCellsR p S), (b2, 41, zNone)] ∧ Grow w wr) (fun s0 _ => n - (intOf s0).toNat)
 case atStart => exact ⟨0, qint 0, x5, Nat.zero_le _, rfl, ⟨qint_zero, ⟨hx5a, hx5b⟩⟩, hB, hG⟩
 case round =>
  clear hB hG
  obtain ⟨j, S, p, hj, rfl, hrel0, hB, hG⟩ := hrel
  obtain ⟨u, rfl⟩ : ∃ x, x = wr := ⟨_, rfl⟩
  have H0 := Lib.hid hrel0
  clear hrel0
  rcases Nat.lt_or_ge j n with hlt0 | hge0
  ·have hdec : decide ((j : Int) < (n : Int)) = true := by simp; omega
   have hjl : j < l.length := by rw [← Hn.out]; exact hlt0
   have z1 := HM.out j (by omega)
   have z2 := Hs.out _ (gq_mem hjl)
   have hnx : qsum (gq l) (j + 1) = qadd (qsum (gq l) j) (gq l j) := rfl
   rw [← H0.out.1] at z1 hnx
   obtain ⟨ba, oa, rfl⟩ := H.out.addr (by omega)
   obtain ⟨r, hrd⟩ := H.out.read hjl
   obtain ⟨X, hX⟩ : ∃ F, F = gq l j := ⟨_, rfl⟩
   rw [← hX] at z2 hnx
   simp only [← hX] at hrd
   have hS := H0.out.2
   have Hrd := Lib.hid hrd
   have Hnx := Lib.hid hnx
   clear hrd hnx hX hjl H0
   refine wp_seq ?_
   refine wp_seq ?_
   refine wp_r0 ?_
   intro K hN
   go_wp2_with fail
   refine NoK.norm (hN _ _ ?_)
   clear hN K
   refine then_norm ?_
   refine wp_cond_true (rfl) ?_
   refine wp_skip ?_
   refine then_norm ?_
   refine wp_seq ?_
   refine wp_block ?_
   refine wp_rd (w := w) allocs2 6 [] [(0, 0), (0, 1), (0, 2), (0, 3), (0, 4), (1, 5)] (by kernel_rfl) (by kernel_rfl) (by simp only [List.drop_succ_cons, List.drop_zero]; exact rfl) (fun _ => True) noG hB hG trivial ?_
   intro K L hN hL
   simp only [pickOps, List.getElem?_toArray, List.getElem?_cons_zero, List.getElem?_cons_succ]
   refine gyb (by (rintro v ⟨hgu, hB, hG, -⟩ N hN; have r := hB.r; simp only [BxR] at r; obtain ⟨-, c1, c2, c3⟩ := Hrd.out v hG; go_simp; exact hN)) ?_
   refine gya ?_
   refine gya ?_
   refine gya ?_
   refine gyb (by (rintro v ⟨hgu, hB, hG, -⟩ N hN; have r := hB.r; simp only [BxR] at r; obtain ⟨-, c1, c2, c3⟩ := Hrd.out v hG; go_simp; exact hN)) ?_
   refine gr (ratR (qadd S X)) rfl ?_ (fun (x17 : Ax × Ax) => ?_)
   ·(rintro v ⟨hgu, hB, hG, -⟩ N hN; go_simp; ((with_reducible refine (ref1_Add p.1 p.2 r.1 r.2 S X _ (hS.grow hgu).a (hS.grow hgu).b (Hrd.out _ hG).1.a (Hrd.out _ hG).1.b (by omega)).mono ?_); rintro e w1 ⟨x, rfl, hx, hg⟩; exact ⟨_, rfl, hN x w1 hx hg⟩))
   refine okf (by simp only [natR, intR, ratR, nnR, Act.put, List.setIfInBounds_toArray, List.set_cons_succ, List.set_cons_zero]; exact rfl) ?_
   refine gend ?_
   rintro v ⟨⟨hgu, hB1, hG1, -⟩, hx17⟩
   replace hS := hS.grow hgu
   obtain ⟨hx17a, hx17b⟩ : Rn v x17.1 _ ∧ Rn v x17.2 _ := hx17
   clear hB hG
   have hB := hB1
   have hG := hG1
   clear hB1 hG1
   refine hL _ _ ?_
   clear hL L hgu
   obtain ⟨u, rfl⟩ : ∃ x, x = v := ⟨_, rfl⟩
   have r := hB.r
   simp only [BxR] at r
   go_wp2_with fail
   clear r
   generalize hu0 : World.setCell (World.setCell (World.setCell u _ _) _ _) _ _ = u0
   have hBG := over_n hB hF hG 0 rfl 0 [_, _, _] hu0
   replace hS := hS.put hB 0 rfl (by first | decide | simp) 0 [_, _, _] hu0
   replace hx17a := hx17a.put hB 0 rfl (by first | decide | simp) 0 [_, _, _] hu0
   replace hx17b := hx17b.put hB 0 rfl (by first | decide | simp) 0 [_, _, _] hu0
   clear hB hG hu0
   obtain ⟨hB, hG⟩ := hBG
   clear u
   obtain ⟨u, rfl⟩ : ∃ x, x = u0 := ⟨_, rfl⟩
   refine NoK.norm (hN _ _ ?_)
   clear hN K
   refine blk_norm ?_
   refine then_norm ?_
   refine wp_r0 ?_
   intro K hN
   go_wp2_with fail
   refine NoK.norm (hN _ _ ?_)
   clear hN K
   refine then_norm ?_
   go_roundw
   case rel => exact ⟨j + 1, qadd S X, x17, by omega, by go_num, ⟨Hnx.out.symm, ⟨hx17a, hx17b⟩⟩, hB, hG⟩
   case measure => simp [intOf]; try omega
  ·obtain rfl : n = j := by omega
   have hdec : decide ((n : Int) < (n : Int)) = false := by simp
   have hS := H0.out.2
   have HS0 := Lib.hid H0.out.1
   clear H0
   refine wp_seq ?_
   refine wp_seq ?_
   refine wp_r0 ?_
   intro K hN
   go_wp2_with fail
   refine NoK.norm (hN _ _ ?_)
   clear hN K
   refine then_norm ?_
   refine wp_cond_false (rfl) ?_
   refine wp_exit ?_
   refine then_exit ?_
   refine then_exit ?_
   refine blk_exit ?_
   refine then_norm ?_
   refine wp_seq ?_
   refine wp_r0 ?_
   intro K hN
   have r := hB.r
   simp only [BxR] at r
   go_wp2_with fail
   clear r
   generalize hu0 : World.setCell (World.setCell (World.setCell u _ _) _ _) _ _ = u0
   have hBG := over_n hB hF hG 1 rfl 0 [_, _, _] hu0
   replace hS := hS.put hB 1 rfl (by first | decide | simp) 0 [_, _, _] hu0
   clear hB hG hu0
   obtain ⟨hB, hG⟩ := hBG
   clear u
   obtain ⟨u, rfl⟩ : ∃ x, x = u0 := ⟨_, rfl⟩
   refine NoK.norm (hN _ _ ?_)
   clear hN K
   refine then_norm ?_
   refine wp_ret ?_
   refine ret_b rfl ?_
   intro N hN
   have r := hB.r
   simp only [BxR] at r
   simp only [results, Tryz.results137]
   go_simp
   refine hN _ ?_
   clear hN N r
   exact rz_ret HS0.out hS.a hS.b hG
theorem qint_nz {n : Nat} (h : 0 < n) : qint (n : Nat) ≠ 0 := fun h0 => by
 have h1 := qint_num (n : Int)
 rw [h0] at h1
 have : (0 : Rat).num = 0 := rfl
 omega
theorem qsum_sz {l : List Rat} {s n : Nat} (hs : ∀ x ∈ l, qs x ≤ s) (hn : n = l.length) : ∀ j, j ≤ n → qs (qsum (gq l) j) ≤ n * (s + 1) + 1 := fun j hj =>
 Nat.le_trans (qsum_size (gq l) s n (fun i hi => hs _ (gq_mem (by omega))) j hj) (Nat.add_le_add_right (Nat.mul_le_mul_right _ hj) 1)
set_option maxHeartbeats 1000000 in
set_option maxRecDepth 100000 in
theorem ref1_Mean (A : Option Addr) (l : List Rat) (c n : Nat) (hn : n = l.length) (hn0 : 0 < n) (hm : n ≤ 1099511627776) (s : Nat) (hs : ∀ x ∈ l, qs x ≤ s) (hB : n * (s + 1) + s + 200 ≤ BIG) (w : World) (h : Lz w A l) :
  Calls Tryz.prog 95 #[.slice A n c] w (Ret (ratR (qMean l n)) w) := by
 have hsz := qsum_sz hs hn
 have htot := fun W (hg : Grow w W) => ref1_Total A l c n hn hm s (n * (s + 1) + 1) hs hsz (by omega) W (h.grow hg)
 have z1 := hsz n (Nat.le_refl _)
 have z2 := qint_sz n hm
 have z3 := qint_nz hn0
 have hq : qMean l n = qdiv (qsum (gq l) n) (qint n) := rfl
 rw [hq]
 generalize qsum (gq l) n = S at *
 have Htot := Lib.hid htot
 clear htot hsz hs h hn hq
 go_enter Tryz.func95, Tryz.ntmps95
 refine wp_seq (wp_r0 ?_)
 intro K hN
 go_wp2_with fail
 generalize hu : World.alloc w _ = u
 obtain ⟨hB, hG⟩ := bx_first [(_, _)] w u hu
 have hF := fr_first w [(41, #[])]
 simp only [numbered, List.map_cons, List.map_nil] at hB hF
 clear hu
 generalize w.heap.size = b2 at hB hF ⊢
 refine NoK.norm (hN _ _ ?_)
 clear hN K
 refine then_norm ?_
 refine wp_seq ?_
 refine wp_rs (w := w) allocs 6 [0, 1, 0, 0, 1, 1] (by kernel_rfl) (by simp only [List.drop_succ_cons, List.drop_zero]; exact rfl) (fun _ => True) noG hB hG trivial ?_
 intro K L hN hL
 simp only [List.zip_cons_cons, List.zip_nil_left]
 refine gya ?_
 refine gr (ratR S) rfl ?_ (fun (x4 : Ax × Ax) => ?_)
 ·(rintro v ⟨hgu, hB, hG, -⟩ N hN; go_simp; ((with_reducible refine (Htot.out _ hG).mono ?_); rintro e w1 ⟨x, rfl, hx, hg⟩; exact ⟨_, rfl, hN x w1 hx hg⟩))
 refine okf (by simp only [natR, intR, ratR, nnR, Act.put, List.setIfInBounds_toArray, List.set_cons_succ, List.set_cons_zero]; exact rfl) ?_
 refine gya ?_
 refine gya ?_
 refine gr (ratR (qint n)) rfl ?_ (fun (x7 : Ax × Ax) => ?_)
 ·(rintro v ⟨⟨hgu, hB, hG, -⟩, hx4⟩ N hN; obtain ⟨hx4a, hx4b⟩ : Rn v x4.1 _ ∧ Rn v x4.2 _ := hx4; go_simp; ((with_reducible refine (ref1_Of n (by omega) (by omega) _).mono ?_); rintro e w1 ⟨x, rfl, hx, hg⟩; exact ⟨_, rfl, hN x w1 hx hg⟩))
 refine okf (by simp only [natR, intR, ratR, nnR, Act.put, List.setIfInBounds_toArray, List.set_cons_succ, List.set_cons_zero]; exact rfl) ?_
 refine gr (ratR (qdiv S (qint n))) rfl ?_ (fun (x8 : Ax × Ax) => ?_)
 ·(rintro v ⟨⟨⟨hgu, hB, hG, -⟩, hx4⟩, hx7⟩ N hN; obtain ⟨hx4a, hx4b⟩ : Rn v x4.1 _ ∧ Rn v x4.2 _ := hx4; obtain ⟨hx7a, hx7b⟩ : Rn v x7.1 _ ∧ Rn v x7.2 _ := hx7; go_simp; ((with_reducible refine (ref1_Div x4.1 x4.2 x7.1 x7.2 S (qint n) _ hx4a hx4b hx7a hx7b (by omega) z3).mono ?_); rintro e w1 ⟨x, rfl, hx, hg⟩; exact ⟨_, rfl, hN x w1 hx hg⟩))
 refine okf (by simp only [natR, intR, ratR, nnR, Act.put, List.setIfInBounds_toArray, List.set_cons_succ, List.set_cons_zero]; exact rfl) ?_
 refine gend ?_
 rintro v ⟨⟨⟨⟨hgu, hB1, hG1, -⟩, hx4⟩, hx7⟩, hx8⟩
 obtain ⟨hx4a, hx4b⟩ : Rn v x4.1 _ ∧ Rn v x4.2 _ := hx4
 obtain ⟨hx7a, hx7b⟩ : Rn v x7.1 _ ∧ Rn v x7.2 _ := hx7
 obtain ⟨hx8a, hx8b⟩ : Rn v x8.1 _ ∧ Rn v x8.2 _ := hx8
 clear hB hG
 have hB := hB1
 have hG := hG1
 clear hB1 hG1
 refine hL _ _ ?_
 clear hL L hgu
 obtain ⟨u, rfl⟩ : ∃ x, x = v := ⟨_, rfl⟩
 have r := hB.r
 simp only [BxR] at r
 go_wp2_with fail
 clear r
 generalize hu0 : World.setCell (World.setCell (World.setCell u _ _) _ _) _ _ = u0
 have hBG := over_n hB hF hG 0 rfl 0 [_, _, _] hu0
 replace hx4a := hx4a.put hB 0 rfl (by first | decide | simp) 0 [_, _, _] hu0
 replace hx4b := hx4b.put hB 0 rfl (by first | decide | simp) 0 [_, _, _] hu0
 replace hx7a := hx7a.put hB 0 rfl (by first | decide | simp) 0 [_, _, _] hu0
 replace hx7b := hx7b.put hB 0 rfl (by first | decide | simp) 0 [_, _, _] hu0
 replace hx8a := hx8a.put hB 0 rfl (by first | decide | simp) 0 [_, _, _] hu0
 replace hx8b := hx8b.put hB 0 rfl (by first | decide | simp) 0 [_, _, _] hu0
 clear hB hG hu0
 obtain ⟨hB, hG⟩ := hBG
 clear u
 obtain ⟨u, rfl⟩ : ∃ x, x = u0 := ⟨_, rfl⟩
 refine NoK.norm (hN _ _ ?_)
 clear hN K
 refine then_norm ?_
 refine wp_ret ?_
 refine ret_b rfl ?_
 intro N hN
 have r := hB.r
 simp only [BxR] at r
 simp only [results, Tryz.results95]
 go_simp
 refine hN _ ?_
 clear hN N r
 exact ⟨x8, rfl, ⟨hx8a, hx8b⟩, hG⟩
set_option maxHeartbeats 2000000 in
set_option maxRecDepth 100000 in
theorem ref1_Dot (A B : Option Addr) (l l' : List Rat) (c d n : Nat) (hn : n = l.length) (hn' : n = l'.length) (hm : n ≤ 1099511627776) (s M : Nat) (hs : ∀ x ∈ l, qs x ≤ s) (hs' : ∀ x ∈ l', qs x ≤ s) (hM : ∀ j, j ≤ n → qs (qsum (fun i => qmul (gq l i) (gq l' i)) j) ≤ M) (hB : M + 2 * s + 100 ≤ BIG) (w : World) (h : Lz w A l) (h' : Lz w B l') :
  Calls Tryz.prog 90 #[.slice A n c, .slice B n d] w (Ret (ratR (qsum (fun i => qmul (gq l i) (gq l' i)) n)) w) := by
 have H := Lib.hid h
 have H' := Lib.hid h'
 have Hs := Lib.hid hs
 have Hs' := Lib.hid hs'
 have HM := Lib.hid hM
 have Hn := Lib.hid hn
 have Hn' := Lib.hid hn'
 clear h hs hM hn h' hs' hn'
 go_enter Tryz.func90, Tryz.ntmps90
 refine wp_seq (wp_r0 ?_)
 intro K hN
 go_wp2_with fail
 generalize hu : World.alloc w _ = u
 obtain ⟨hB, hG⟩ := bx_first [(_, _)] w u hu
 have hF := fr_first w [(41, #[])]
 simp only [numbered, List.map_cons, List.map_nil] at hB hF
 clear hu
 generalize w.heap.size = b4 at hB hF ⊢
 refine NoK.norm (hN _ _ ?_)
 clear hN K
 refine then_norm ?_
 refine wp_seq ?_
 refine wp_rs (w := w) allocs2 2 [1, 2] (by kernel_rfl) (by simp only [List.drop_succ_cons, List.drop_zero]; exact rfl) (fun _ => True) noG hB hG trivial ?_
 intro K L hN hL
 simp only [List.zip_cons_cons, List.zip_nil_left]
 refine gr (ratR (qint 0)) rfl ?_ (fun (x7 : Ax × Ax) => ?_)
 ·(rintro v ⟨hgu, hB, hG, -⟩ N hN; go_simp; ((with_reducible refine (ref1_Of 0 (by omega) (by omega) _).mono ?_); rintro e w1 ⟨x, rfl, hx, hg⟩; exact ⟨_, rfl, hN x w1 hx hg⟩))
 refine okf (by simp only [natR, intR, ratR, nnR, Act.put, List.setIfInBounds_toArray, List.set_cons_succ, List.set_cons_zero]; exact rfl) ?_
 refine ga (newObj_RQ _ _ _ _ _) fun b5 hb5 hn5 => ?_
 refine okf (by simp only [Act.put, List.setIfInBounds_toArray, List.set_cons_succ, List.set_cons_zero]; exact rfl) ?_
 refine gend ?_
 rintro v ⟨⟨⟨hgu, hB1, hG1, -⟩, hx7⟩, h5⟩
 obtain ⟨hx7a, hx7b⟩ : Rn v x7.1 _ ∧ Rn v x7.2 _ := hx7
 have hF := Fr.new (tk := []) hF hB hG hb5 hn5
 simp only [List.cons_append, List.nil_append, List.map_cons, List.map_nil] at hF
 clear hB hG
 have hB := (Bx.cons h5 hB1)
 have hG := hG1
 clear hB1 hG1 h5
 refine hL _ _ ?_
 clear hL L hgu
 obtain ⟨u, rfl⟩ : ∃ x, x = v := ⟨_, rfl⟩
 have r := hB.r
 simp only [BxR] at r
 go_wp2_with fail
 clear r
 generalize hu0 : World.setCell (World.setCell (World.setCell u _ _) _ _) _ _ = u0
 have hBG := over_n hB hF hG 0 rfl 0 [_, _, _] hu0
 replace hx7a := hx7a.put hB 0 rfl (by first | decide | simp) 0 [_, _, _] hu0
 replace hx7b := hx7b.put hB 0 rfl (by first | decide | simp) 0 [_, _, _] hu0
 clear hB hG hu0
 obtain ⟨hB, hG⟩ := hBG
 clear u
 obtain ⟨u, rfl⟩ : ∃ x, x = u0 := ⟨_, rfl⟩
 refine NoK.norm (hN _ _ ?_)
 clear hN K
 refine then_norm ?_
 refine wp_seq ?_
 refine wp_seq ?_
 refine wp_r0 ?_
 intro K hN
 go_wp2_with fail
 refine NoK.norm (hN _ _ ?_)
 clear hN K
 refine then_norm ?_
 refine wp_block ?_
 go_loopw [6] (fun s0 wr => ∃ (j : Nat) (S : Rat) (p : Az), j ≤ n ∧ s0 = .int .i64 j ∧ (S = qsum (fun i => qmul (gq l i) (gq l' i)) j ∧ Rz wr p S) ∧ Bx wr [(b5, 41, zCellsR p S), (b4, 41, zNone)] ∧ Grow w wr) (fun s0 _ => n - (intOf s0).toNat)
 case atStart => exact ⟨0, qint 0, x7, Nat.zero_le _, rfl, ⟨qint_zero, ⟨hx7a, hx7b⟩⟩, hB, hG⟩
 case round =>
  clear hB hG
  obtain ⟨j, S, p, hj, rfl, hrel0, hB, hG⟩ := hrel
  obtain ⟨u, rfl⟩ : ∃ x, x = wr := ⟨_, rfl⟩
  have H0 := Lib.hid hrel0
  clear hrel0
  rcases Nat.lt_or_ge j n with hlt0 | hge0
  ·have hdec : decide ((j : Int) < (n : Int)) = true := by simp; omega
   have hjl : j < l.length := by rw [← Hn.out]; exact hlt0
   have hjl' : j < l'.length := by rw [← Hn'.out]; exact hlt0
   have z1 := HM.out j (by omega)
   have z2 := Hs.out _ (gq_mem hjl)
   have z3 := Hs'.out _ (gq_mem hjl')
   have hnx : qsum (fun i => qmul (gq l i) (gq l' i)) (j + 1) = qadd (qsum (fun i => qmul (gq l i) (gq l' i)) j) (qmul (gq l j) (gq l' j)) := rfl
   rw [← H0.out.1] at z1 hnx
   obtain ⟨ba, oa, rfl⟩ := H.out.addr (by omega)
   obtain ⟨bb, ob, rfl⟩ := H'.out.addr (by omega)
   obtain ⟨r, hrd⟩ := H.out.read hjl
   obtain ⟨r', hrd'⟩ := H'.out.read hjl'
   obtain ⟨X, hX⟩ : ∃ F, F = gq l j := ⟨_, rfl⟩
   obtain ⟨Y, hY⟩ : ∃ F, F = gq l' j := ⟨_, rfl⟩
   rw [← hX] at z2
   rw [← hY] at z3
   rw [← hX, ← hY] at hnx
   simp only [← hX] at hrd
   simp only [← hY] at hrd'
   have z4 : qs (qmul X Y) ≤ 2 * s := by have := qs_mul X Y; unfold qmul; omega
   have hS := H0.out.2
   have Hrd := Lib.hid hrd
   have Hrd' := Lib.hid hrd'
   have Hnx := Lib.hid hnx
   clear hrd hrd' hnx hX hY hjl hjl' H0
   refine wp_seq ?_
   refine wp_seq ?_
   refine wp_r0 ?_
   intro K hN
   go_wp2_with fail
   refine NoK.norm (hN _ _ ?_)
   clear hN K
   refine then_norm ?_
   refine wp_cond_true (rfl) ?_
   refine wp_skip ?_
   refine then_norm ?_
   refine wp_seq ?_
   refine wp_block ?_
   refine wp_rd (w := w) allocs2 11 [] [(0, 0), (0, 1), (0, 2), (0, 3), (0, 4), (0, 5), (0, 6), (0, 7), (0, 8), (1, 9), (1, 10)] (by kernel_rfl) (by kernel_rfl) (by simp only [List.drop_succ_cons, List.drop_zero]; exact rfl) (fun _ => True) noG hB hG trivial ?_
   intro K L hN hL
   simp only [pickOps, List.getElem?_toArray, List.getElem?_cons_zero, List.getElem?_cons_succ]
   refine gyb (by (rintro v ⟨hgu, hB, hG, -⟩ N hN; have r := hB.r; simp only [BxR] at r; obtain ⟨-, c1, c2, c3⟩ := Hrd.out v hG; obtain ⟨-, d1, d2, d3⟩ := Hrd'.out v hG; go_simp; exact hN)) ?_
   refine gya ?_
   refine gya ?_
   refine gya ?_
   refine gyb (by (rintro v ⟨hgu, hB, hG, -⟩ N hN; have r := hB.r; simp only [BxR] at r; obtain ⟨-, c1, c2, c3⟩ := Hrd.out v hG; obtain ⟨-, d1, d2, d3⟩ := Hrd'.out v hG; go_simp; exact hN)) ?_
   refine gya ?_
   refine gya ?_
   refine gya ?_
   refine gyb (by (rintro v ⟨hgu, hB, hG, -⟩ N hN; have r := hB.r; simp only [BxR] at r; obtain ⟨-, c1, c2, c3⟩ := Hrd.out v hG; obtain ⟨-, d1, d2, d3⟩ := Hrd'.out v hG; go_simp; exact hN)) ?_
   refine gr (ratR (qmul X Y)) rfl ?_ (fun (x23 : Ax × Ax) => ?_)
   ·(rintro v ⟨hgu, hB, hG, -⟩ N hN; go_simp; ((with_reducible refine (ref1_Mul r.1 r.2 r'.1 r'.2 X Y _ (Hrd.out _ hG).1.a (Hrd.out _ hG).1.b (Hrd'.out _ hG).1.a (Hrd'.out _ hG).1.b (by omega)).mono ?_); rintro e w1 ⟨x, rfl, hx, hg⟩; exact ⟨_, rfl, hN x w1 hx hg⟩))
   refine okf (by simp only [natR, intR, ratR, nnR, Act.put, List.setIfInBounds_toArray, List.set_cons_succ, List.set_cons_zero]; exact rfl) ?_
   refine gr (ratR (qadd S (qmul X Y))) rfl ?_ (fun (x24 : Ax × Ax) => ?_)
   ·(rintro v ⟨⟨hgu, hB, hG, -⟩, hx23⟩ N hN; obtain ⟨hx23a, hx23b⟩ : Rn v x23.1 _ ∧ Rn v x23.2 _ := hx23; go_simp; ((with_reducible refine (ref1_Add p.1 p.2 x23.1 x23.2 S (qmul X Y) _ (hS.grow hgu).a (hS.grow hgu).b hx23a hx23b (by omega)).mono ?_); rintro e w1 ⟨x, rfl, hx, hg⟩; exact ⟨_, rfl, hN x w1 hx hg⟩))
   refine okf (by simp only [natR, intR, ratR, nnR, Act.put, List.setIfInBounds_toArray, List.set_cons_succ, List.set_cons_zero]; exact rfl) ?_
   refine gend ?_
   rintro v ⟨⟨⟨hgu, hB1, hG1, -⟩, hx23⟩, hx24⟩
   replace hS := hS.grow hgu
   obtain ⟨hx23a, hx23b⟩ : Rn v x23.1 _ ∧ Rn v x23.2 _ := hx23
   obtain ⟨hx24a, hx24b⟩ : Rn v x24.1 _ ∧ Rn v x24.2 _ := hx24
   clear hB hG
   have hB := hB1
   have hG := hG1
   clear hB1 hG1
   refine hL _ _ ?_
   clear hL L hgu
   obtain ⟨u, rfl⟩ : ∃ x, x = v := ⟨_, rfl⟩
   have r := hB.r
   simp only [BxR] at r
   go_wp2_with fail
   clear r
   generalize hu0 : World.setCell (World.setCell (World.setCell u _ _) _ _) _ _ = u0
   have hBG := over_n hB hF hG 0 rfl 0 [_, _, _] hu0
   replace hS := hS.put hB 0 rfl (by first | decide | simp) 0 [_, _, _] hu0
   replace hx23a := hx23a.put hB 0 rfl (by first | decide | simp) 0 [_, _, _] hu0
   replace hx23b := hx23b.put hB 0 rfl (by first | decide | simp) 0 [_, _, _] hu0
   replace hx24a := hx24a.put hB 0 rfl (by first | decide | simp) 0 [_, _, _] hu0
   replace hx24b := hx24b.put hB 0 rfl (by first | decide | simp) 0 [_, _, _] hu0
   clear hB hG hu0
   obtain ⟨hB, hG⟩ := hBG
   clear u
   obtain ⟨u, rfl⟩ : ∃ x, x = u0 := ⟨_, rfl⟩
   refine NoK.norm (hN _ _ ?_)
   clear hN K
   refine blk_norm ?_
   refine then_norm ?_
   refine wp_r0 ?_
   intro K hN
   go_wp2_with fail
   refine NoK.norm (hN _ _ ?_)
   clear hN K
   refine then_norm ?_
   go_roundw
   case rel => exact ⟨j + 1, qadd S (qmul X Y), x24, by omega, by go_num, ⟨Hnx.out.symm, ⟨hx24a, hx24b⟩⟩, hB, hG⟩
   case measure => simp [intOf]; try omega
  ·obtain rfl : n = j := by omega
   have hdec : decide ((n : Int) < (n : Int)) = false := by simp
   have hS := H0.out.2
   have HS0 := Lib.hid H0.out.1
   clear H0
   refine wp_seq ?_
   refine wp_seq ?_
   refine wp_r0 ?_
   intro K hN
   go_wp2_with fail
   refine NoK.norm (hN _ _ ?_)
   clear hN K
   refine then_norm ?_
   refine wp_cond_false (rfl) ?_
   refine wp_exit ?_
   refine then_exit ?_
   refine then_exit ?_
   refine blk_exit ?_
   refine then_norm ?_
   refine wp_seq ?_
   refine wp_r0 ?_
   intro K hN
   have r := hB.r
   simp only [BxR] at r
   go_wp2_with fail
   clear r
   generalize hu0 : World.setCell (World.setCell (World.setCell u _ _) _ _) _ _ = u0
   have hBG := over_n hB hF hG 1 rfl 0 [_, _, _] hu0
   replace hS := hS.put hB 1 rfl (by first | decide | simp) 0 [_, _, _] hu0
   clear hB hG hu0
   obtain ⟨hB, hG⟩ := hBG
   clear u
   obtain ⟨u, rfl⟩ : ∃ x, x = u0 := ⟨_, rfl⟩
   refine NoK.norm (hN _ _ ?_)
   clear hN K
   refine then_norm ?_
   refine wp_ret ?_
   refine ret_b rfl ?_
   intro N hN
   have r := hB.r
   simp only [BxR] at r
   simp only [results, Tryz.results90]
   go_simp
   refine hN _ ?_
   clear hN N r
   exact rz_ret HS0.out hS.a hS.b hG
/-- differences -/
def diffs (l l' : List Rat) (n : Nat) : List Rat := (List.range n).map fun i => qsub (gq l i) (gq l' i)
theorem diffs_len (l l' : List Rat) (n : Nat) : (diffs l l' n).length = n := by unfold diffs; simp
theorem diffs_succ (l l' : List Rat) (n : Nat) : diffs l l' (n + 1) = diffs l l' n ++ [qsub (gq l n) (gq l' n)] := by unfold diffs; rw [List.range_succ, List.map_append]; rfl
theorem diffs_get (l l' : List Rat) {n i : Nat} (h : i < n) : gq (diffs l l' n) i = qsub (gq l i) (gq l' i) := by
 have : (diffs l l' n)[i]? = some (qsub (gq l i) (gq l' i)) := by unfold diffs; simp [h]
 show ((diffs l l' n)[i]?).getD 0 = _
 rw [this]
 rfl
theorem diffs_sz {l l' : List Rat} {n s : Nat} (hn : n = l.length) (hn' : n = l'.length) (hs : ∀ x ∈ l, qs x ≤ s) (hs' : ∀ x ∈ l', qs x ≤ s) : ∀ x ∈ diffs l l' n, qs x ≤ 2 * s + 1 := fun x hx => by
 unfold diffs at hx
 obtain ⟨i, hi, rfl⟩ := List.mem_map.1 hx
 have hi := List.mem_range.1 hi
 have h1 := hs _ (gq_mem (l := l) (i := i) (by omega))
 have h2 := hs' _ (gq_mem (l := l') (i := i) (by omega))
 have := qs_sub (gq l i) (gq l' i)
 unfold qsub
 omega
set_option maxHeartbeats 2000000 in
set_option maxRecDepth 100000 in
theorem ref6_far_ok (A B : Option Addr) (l l' : List Rat) (c d n : Nat) (hn : n = l.length) (hn' : n = l'.length) (hn0 : 0 < n) (hm : n ≤ 1048576) (s : Nat) (hs : ∀ x ∈ l, qs x ≤ s) (hs' : ∀ x ∈ l', qs x ≤ s) (hB : 2 * s + 10 ≤ BIG) (w : World) (h : Lz w A l) (h' : Lz w B l') :
  Calls Tryz.prog 89 #[.slice A n c, .slice B n d] w fun e w' => ∃ (A' : Option Addr) (c' : Nat), e = .returned (.tuple #[.slice A' n c', .int .i64 0]) ∧ (Lz w' A' (diffs l l' n) ∧ ∀ b off, A' = some ⟨b, off, none⟩ → w.heap.size ≤ b) ∧ Grow w w' := by
 have H := Lib.hid h
 have H' := Lib.hid h'
 have Hs := Lib.hid hs
 have Hs' := Lib.hid hs'
 have Hn := Lib.hid hn
 have Hn' := Lib.hid hn'
 have hnz : ((n : Int) == 0) = false := by simp; omega
 have hne : ((n : Int) != (n : Int)) = false := by simp
 clear h hs hn h' hs' hn'
 go_enter Tryz.func89, Tryz.ntmps89
 refine wp_seq (wp_r0 ?_)
 intro K hN
 go_wp2_with fail
 obtain ⟨u, hu⟩ : ∃ x, x = w := ⟨_, rfl⟩
 have hB := Bx.nil u
 have hG : Grow w u := hu ▸ Grow.refl u
 have hF := Fr.nil w
 rw [← hu]
 clear hu
 refine NoK.norm (hN _ _ ?_)
 clear hN K
 refine then_norm ?_
 refine wp_seq ?_
 refine wp_seq ?_
 refine wp_r0 ?_
 intro K hN
 go_wp2_with fail
 refine NoK.norm (hN _ _ ?_)
 clear hN K
 refine then_norm ?_
 refine wp_cond_false (rfl) ?_
 refine wp_skip ?_
 refine then_norm ?_
 refine wp_seq ?_
 refine wp_r0 ?_
 intro K hN
 go_wp2_with fail
 refine NoK.norm (hN _ _ ?_)
 clear hN K
 refine then_norm ?_
 refine wp_seq ?_
 refine wp_seq ?_
 refine wp_r0 ?_
 intro K hN
 go_wp2_with fail
 refine NoK.norm (hN _ _ ?_)
 clear hN K
 refine then_norm ?_
 refine wp_block ?_
 clear hB hF
 go_loopw [7, 6] (fun s0 s1 wr => ∃ (i : Nat) (ps : List Zr), i ≤ n ∧ s0 = .int .i64 i ∧ ps.map (·.2) = diffs l l' i ∧ AllZ wr ps ∧ wr.ownsRow w.heap.size 41 3 s1 i (ps.flatMap zrL) ∧ Grow w wr) (fun s0 _ _ => n - (intOf s0).toNat)
 case atStart => exact ⟨0, [], Nat.zero_le _, rfl, rfl, AllZ.nil _, World.ownsRow_nil _ _ _ _, hG⟩
 case round =>
  clear hG
  obtain ⟨i, ps, hi, rfl, hps, hA, ho, hG⟩ := hrel
  obtain ⟨u, rfl⟩ : ∃ x, x = wr := ⟨_, rfl⟩
  have hB := Bx.nil u
  have hF := Fr.nil w
  have Ho := Lib.hid ho
  have Hps := Lib.hid hps
  clear ho hps
  rcases Nat.lt_or_ge i n with hlt | hge
  ·have hdec : decide ((i : Int) < (n : Int)) = true := by simp; omega
   have hsu := diffs_succ l l' i
   have hil : i < l.length := by rw [← Hn.out]; exact hlt
   have hil' : i < l'.length := by rw [← Hn'.out]; exact hlt
   have z2 := Hs.out _ (gq_mem hil)
   have z3 := Hs'.out _ (gq_mem hil')
   obtain ⟨ba, oa, rfl⟩ := H.out.addr (by omega)
   obtain ⟨bb, ob, rfl⟩ := H'.out.addr (by omega)
   obtain ⟨r, hrd⟩ := H.out.read hil
   obtain ⟨r', hrd'⟩ := H'.out.read hil'
   obtain ⟨X, hX⟩ : ∃ F, F = gq l i := ⟨_, rfl⟩
   obtain ⟨Y, hY⟩ : ∃ F, F = gq l' i := ⟨_, rfl⟩
   rw [← hX] at z2
   rw [← hY] at z3
   rw [← hX, ← hY] at hsu
   simp only [← hX] at hrd
   simp only [← hY] at hrd'
   obtain ⟨D, hD⟩ : ∃ D, D = qsub X Y := ⟨_, rfl⟩
   have hsb := fun W e1 e2 e3 e4 => ref1_Sub r.1 r.2 r'.1 r'.2 X Y W e1 e2 e3 e4 (by omega)
   rw [← hD] at hsu hsb
   have Hsb := Lib.hid hsb
   have Hrd := Lib.hid hrd
   have Hrd' := Lib.hid hrd'
   have Hsu := Lib.hid hsu
   clear hsu hrd hrd' hX hY hD hsb hil hil'
   refine wp_seq ?_
   refine wp_seq ?_
   refine wp_r0 ?_
   intro K hN
   go_wp2_with fail
   refine NoK.norm (hN _ _ ?_)
   clear hN K
   refine then_norm ?_
   refine wp_cond_true (rfl) ?_
   refine wp_skip ?_
   refine then_norm ?_
   refine wp_seq ?_
   refine wp_block ?_
   refine wp_rd (w := w) allocs 10 [0] [(0, 0), (0, 1), (0, 2), (0, 3), (0, 4), (0, 5), (0, 6), (0, 7), (0, 8), (1, 9)] (by kernel_rfl) (by kernel_rfl) (by simp only [List.drop_succ_cons, List.drop_zero]; exact rfl) (fun _ => True) noG hB hG trivial ?_
   intro K L hN hL
   simp only [pickOps, List.getElem?_toArray, List.getElem?_cons_zero, List.getElem?_cons_succ]
   refine gya ?_
   refine gya ?_
   refine gya ?_
   refine gya ?_
   refine gyb (by (rintro v ⟨hgu, hB, hG, -⟩ N hN; have r := hB.r; simp only [BxR] at r; obtain ⟨-, c1, c2, c3⟩ := Hrd.out v hG; obtain ⟨-, d1, d2, d3⟩ := Hrd'.out v hG; go_simp; exact hN)) ?_
   refine gya ?_
   refine gya ?_
   refine gya ?_
   refine gyb (by (rintro v ⟨hgu, hB, hG, -⟩ N hN; have r := hB.r; simp only [BxR] at r; obtain ⟨-, c1, c2, c3⟩ := Hrd.out v hG; obtain ⟨-, d1, d2, d3⟩ := Hrd'.out v hG; go_simp; exact hN)) ?_
   refine gr (ratR D) rfl ?_ (fun (x33 : Ax × Ax) => ?_)
   ·(rintro v ⟨hgu, hB, hG, -⟩ N hN; go_simp; ((with_reducible refine (Hsb.out _ (Hrd.out _ hG).1.a (Hrd.out _ hG).1.b (Hrd'.out _ hG).1.a (Hrd'.out _ hG).1.b).mono ?_); rintro e w1 ⟨x, rfl, hx, hg⟩; exact ⟨_, rfl, hN x w1 hx hg⟩))
   refine okf (by simp only [natR, intR, ratR, nnR, Act.put, List.setIfInBounds_toArray, List.set_cons_succ, List.set_cons_zero]; exact rfl) ?_
   refine gend ?_
   rintro v ⟨⟨hgu, hB1, hG1, -⟩, hx33⟩
   replace hA := hA.grow hgu
   obtain ⟨hx33a, hx33b⟩ : Rn v x33.1 _ ∧ Rn v x33.2 _ := hx33
   have ROWn := Lib.hid (own_grow' Ho.out hgu)
   clear Ho
   have Ho := ROWn
   clear ROWn
   clear hB hG
   have hB := hB1
   have hG := hG1
   clear hB1 hG1
   refine hL _ _ ?_
   clear hL L hgu
   obtain ⟨u, rfl⟩ : ∃ x, x = v := ⟨_, rfl⟩
   refine app_tailG ei_RQ w.heap.size _ _ _ _ (zL x33 D) rfl rfl (bs_RQ x33.1 x33.2 D u) rfl (fun _ => rfl) (fun _ => rfl) (fun _ _ => rfl) Ho.out (by omega) (by omega) hG.sz fun p v' w' g1 g2 g3 => ?_
   have hBn := Bx.nil w'
   have hGn := own_growth Ho.out hG g2
   replace hA := hA.own Ho.out (by decide) g2
   replace hx33a := hx33a.own Ho.out (by decide) g2
   replace hx33b := hx33b.own Ho.out (by decide) g2
   clear Ho hB hG
   have Ho := Lib.hid g1
   have hB := hBn
   have hG := hGn
   clear g1 g2 g3 hBn hGn
   obtain ⟨u, rfl⟩ : ∃ x, x = w' := ⟨_, rfl⟩
   simp only [Act.put, List.setIfInBounds_toArray, List.set_cons_succ, List.set_cons_zero]
   refine NoK.norm (hN _ _ ?_)
   clear hN K
   refine blk_norm ?_
   refine then_norm ?_
   refine wp_r0 ?_
   intro K hN
   go_wp2_with fail
   refine NoK.norm (hN _ _ ?_)
   clear hN K
   refine then_norm ?_
   go_roundw
   case rel => exact ⟨i + 1, ps ++ [(x33, D)], by omega, by go_num, by rw [List.map_append, Hps.out, Hsu.out]; rfl, hA.snoc hx33a hx33b, by have := Ho.out; rw [List.flatMap_append]; simpa [zrL] using this, hG⟩
   case measure => simp [intOf]; omega
  ·obtain rfl : n = i := by omega
   have hdec : decide ((n : Int) < (n : Int)) = false := by simp
   obtain ⟨A', cc, rfl, hcc1, hcc2, hL, hkl⟩ := own_lz Ho.out hA
   rw [Hps.out] at hL
   have HL := Lib.hid hL
   clear hL hkl
   refine wp_seq ?_
   refine wp_seq ?_
   refine wp_r0 ?_
   intro K hN
   go_wp2_with fail
   refine NoK.norm (hN _ _ ?_)
   clear hN K
   refine then_norm ?_
   refine wp_cond_false (rfl) ?_
   refine wp_exit ?_
   refine then_exit ?_
   refine then_exit ?_
   refine blk_exit ?_
   refine then_norm ?_
   refine wp_seq ?_
   refine wp_r0 ?_
   intro K hN
   go_wp2_with fail
   refine NoK.norm (hN _ _ ?_)
   clear hN K
   refine then_norm ?_
   refine wp_ret ?_
   refine ret_b rfl ?_
   intro N hN
   have r := hB.r
   simp only [BxR] at r
   simp only [results, Tryz.results89]
   go_simp
   refine hN _ ?_
   clear hN N r
   exact ⟨A', cc, rfl, ⟨HL.out, hcc1⟩, hG⟩
set_option maxHeartbeats 1000000 in
set_option maxRecDepth 100000 in
theorem ref6_far_no (A B : Option Addr) (m n c d : Nat) (h : pairedB m n = false) (w : World) :
  Calls Tryz.prog 89 #[.slice A m c, .slice B n d] w fun e w' => e = .returned (.tuple #[.slice none 0 0, .int .i64 5]) ∧ Grow w w' := by
 by_cases hmn : m = n
 ·subst hmn
  have h0 : m = 0 := by
   unfold pairedB at h
   simp at h
   omega
  subst h0
  clear h
  go_enter Tryz.func89, Tryz.ntmps89
  refine wp_seq (wp_r0 ?_)
  intro K hN
  go_wp2_with fail
  obtain ⟨u, hu⟩ : ∃ x, x = w := ⟨_, rfl⟩
  have hB := Bx.nil u
  have hG : Grow w u := hu ▸ Grow.refl u
  have hF := Fr.nil w
  rw [← hu]
  clear hu
  refine NoK.norm (hN _ _ ?_)
  clear hN K
  refine then_norm ?_
  refine wp_seq ?_
  refine wp_seq ?_
  refine wp_r0 ?_
  intro K hN
  go_wp2_with fail
  refine NoK.norm (hN _ _ ?_)
  clear hN K
  refine then_norm ?_
  refine wp_cond_true (rfl) ?_
  refine wp_seq ?_
  refine wp_r0 ?_
  intro K hN
  go_wp2_with fail
  refine NoK.norm (hN _ _ ?_)
  clear hN K
  refine then_norm ?_
  refine wp_ret ?_
  refine then_ret ?_
  refine ret_b rfl ?_
  intro N hN
  have r := hB.r
  simp only [BxR] at r
  simp only [results, Tryz.results89]
  go_simp
  refine hN _ ?_
  clear hN N r
  exact ⟨rfl, hG⟩
 ·have hb : ((m : Int) != (n : Int)) = true := by simp; omega
  clear h
  go_enter Tryz.func89, Tryz.ntmps89
  refine wp_seq (wp_r0 ?_)
  intro K hN
  go_wp2_with fail
  obtain ⟨u, hu⟩ : ∃ x, x = w := ⟨_, rfl⟩
  have hB := Bx.nil u
  have hG : Grow w u := hu ▸ Grow.refl u
  have hF := Fr.nil w
  rw [← hu]
  clear hu
  refine NoK.norm (hN _ _ ?_)
  clear hN K
  refine then_norm ?_
  refine wp_seq ?_
  refine wp_seq ?_
  refine wp_r0 ?_
  intro K hN
  go_wp2_with fail
  refine NoK.norm (hN _ _ ?_)
  clear hN K
  refine then_norm ?_
  refine wp_cond_true (rfl) ?_
  refine wp_seq ?_
  refine wp_r0 ?_
  intro K hN
  go_wp2_with fail
  refine NoK.norm (hN _ _ ?_)
  clear hN K
  refine then_norm ?_
  refine wp_ret ?_
  refine then_ret ?_
  refine ret_b rfl ?_
  intro N hN
  have r := hB.r
  simp only [BxR] at r
  simp only [results, Tryz.results89]
  go_simp
  refine hN _ ?_
  clear hN N r
  exact ⟨rfl, hG⟩
end Go.Proofs.YtimjnkfcnpfoeaaGreatDoor
