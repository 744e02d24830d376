/-
  ScoreKnown: for every input the law answers true, and its arguments stay as they were. No condition but the card's own.
-/
import Derived.Test.YtimjnkfcnpfoeaaGreatDoorK1
import Derived.Test.YtimjnkfcnpfoeaaGreatDoorK2
import Derived.Test.YtimjnkfcnpfoeaaGreatDoorK3
import Derived.Test.YtimjnkfcnpfoeaaGreatDoorK4
import Derived.Test.YtimjnkfcnpfoeaaGreatDoorK5
import Derived.Test.YtimjnkfcnpfoeaaGreatDoorK6
set_option linter.unusedSimpArgs false
set_option linter.unusedVariables false
/-
  score.Rates where all is well: the walk.
-/
namespace Go.Proofs.YtimjnkfcnpfoeaaGreatDoor
open Go.RowKit
set_option maxHeartbeats 8000000 in
set_option maxRecDepth 100000 in
theorem score_Rates_ok (bt ot k c : Nat) (rb ro rc : Nat → Nat) (T : Nat → Nat → Int) (s : Nat) (hk : 0 < k) (hk2 : k ≤ 1048576) (hT : ∀ a, a < k → ∀ t, t < k → 0 ≤ T a t) (hsum : sumTo (fun a => sumTo (T a) k) k ≤ 2147483647) (hss : sumTo (fun a => sumTo (T a) k) k < 2 ^ s) (hs1 : 1 ≤ s) (hsB : 6 * s + 2 ≤ BIG)
    (w : World) (ht : Tb w bt ot k rb ro rc T) (HT : Tab w) :
    Calls Tryz.prog 20 #[.slice (some ⟨bt, ot, none⟩) k c] w fun e w' => ∃ bo : Nat, w.heap.size ≤ bo ∧ e = .returned (.tuple #[.slice (some ⟨bo, 0, none⟩) k k, .int .i64 0]) ∧ Blk w' bo 58 (cellsR (rateTo k T k)) ∧ Grow w w' := by
  have Ht := Lib.hid ht
  have HT0 := Lib.hid hT
  have hmk2 := make_int k (by omega) (k : Int) rfl
  have hmk3 := make_Rate k (by omega) (k : Int) rfl
  have hk0 : ((k : Int) == 0) = false := by simp; omega
  obtain ⟨S, hS⟩ : ∃ S, S = sumTo (fun a => sumTo (T a) k) k := ⟨_, rfl⟩
  rw [← hS] at hsum hss
  have HS := Lib.hid hS
  clear ht hT hS
  go_enter Tryz.func20, Tryz.ntmps20
  refine wp_seq (wp_r0 ?_)
  intro K hN
  go_wp2_with fail
  obtain ⟨u, hu⟩ : ∃ x, x = w := ⟨_, rfl⟩
  have hB := Bx.nil u
  have hG : Grow w u := hu ▸ Grow.refl u
  have hF := Fr.nil w
  rw [← hu]
  clear hu
  refine NoK.norm (hN _ _ ?_)
  clear hN K
  refine then_norm ?_
  refine wp_seq ?_
  refine wp_seq ?_
  refine wp_r0 ?_
  intro K hN
  go_wp2_with fail
  refine NoK.norm (hN _ _ ?_)
  clear hN K
  refine then_norm ?_
  refine wp_cond_false (rfl) ?_
  refine wp_skip ?_
  refine then_norm ?_
  refine wp_seq ?_
  refine wp_seq ?_
  refine wp_r0 ?_
  intro K hN
  go_wp2_with fail
  refine NoK.norm (hN _ _ ?_)
  clear hN K
  refine then_norm ?_
  refine wp_block ?_
  go_loopw [22] (fun z wr => ∃ i : Nat, i ≤ k ∧ z = .int .i64 i ∧ Grow w wr) (fun z _ => k - (intOf z).toNat)
  case atStart => exact ⟨0, Nat.zero_le _, rfl, hG⟩
  case round =>
    obtain ⟨i, hi, rfl, hG⟩ := hrel
    obtain ⟨u, rfl⟩ : ∃ x, x = wr := ⟨_, rfl⟩
    have hB := Bx.nil u
    rcases Nat.lt_or_ge i k with hlt | hge
    · have q1 := ((Ht.out.grow hG).2 i hlt).1
      have hne : ((k : Int) != (k : Int)) = false := by simp
      refine wp_seq ?_
      refine wp_r0 ?_
      intro K hN
      go_wp2_with fail
      refine NoK.norm (hN _ _ ?_)
      clear hN K
      refine then_norm ?_
      refine wp_seq ?_
      refine wp_cond_true (rfl) ?_
      refine wp_skip ?_
      refine then_norm ?_
      refine wp_seq ?_
      refine wp_block ?_
      refine wp_seq ?_
      refine wp_r0 ?_
      intro K hN
      have r := hB.r
      simp only [BxR] at r
      go_wp2_with fail
      clear r
      refine NoK.norm (hN _ _ ?_)
      clear hN K
      refine then_norm ?_
      refine wp_seq ?_
      refine wp_r0 ?_
      intro K hN
      go_wp2_with fail
      refine NoK.norm (hN _ _ ?_)
      clear hN K
      refine then_norm ?_
      refine wp_cond_false (rfl) ?_
      refine wp_skip ?_
      refine blk_norm ?_
      refine then_norm ?_
      refine wp_r0 ?_
      intro K hN
      go_wp2_with fail
      refine NoK.norm (hN _ _ ?_)
      clear hN K
      refine then_norm ?_
      go_roundw
      case rel => exact ⟨i + 1, by omega, by go_num, hG⟩
      case measure => simp [intOf]; omega
    · obtain rfl : k = i := by omega
      refine wp_seq ?_
      refine wp_r0 ?_
      intro K hN
      go_wp2_with fail
      refine NoK.norm (hN _ _ ?_)
      clear hN K
      refine then_norm ?_
      refine wp_seq ?_
      refine wp_cond_false (rfl) ?_
      refine wp_exit ?_
      refine then_exit ?_
      refine then_exit ?_
      refine blk_exit ?_
      refine then_norm ?_
      refine wp_seq ?_
      refine wp_r0 ?_
      intro K hN
      go_wp2_with fail
      refine NoK.norm (hN _ _ ?_)
      clear hN K
      refine then_norm ?_
      refine wp_seq ?_
      refine Code.wp_mono NoP.up ?_
      go_region
      have hT2 := two_newB hB hF hG 3 (cellsI (List.replicate k 0)) 3 (cellsI (List.replicate k 0))
      clear hB hF hG
      obtain ⟨hB, hF, hG⟩ := hT2
      generalize World.drew _ = v at hB hG ⊢
      generalize u.heap.size + 1 = b8 at hB hF ⊢
      generalize u.heap.size = b7 at hB hF ⊢
      obtain ⟨u, rfl⟩ : ∃ x, x = v := ⟨_, rfl⟩
      refine NoP.norm ?_
      rotate_left
      have hT2 := two_newA hB hF hG 3 (cellsI (List.replicate k 0)) 3 (cellsI (List.replicate k 0))
      clear hB hF hG
      obtain ⟨hB, hF, hG⟩ := hT2
      generalize World.drew _ = v at hB hG ⊢
      generalize u.heap.size + 1 = b7 at hB hF ⊢
      generalize u.heap.size = b8 at hB hF ⊢
      obtain ⟨u, rfl⟩ : ∃ x, x = v := ⟨_, rfl⟩
      refine NoP.norm ?_
      rotate_left
      all_goals
        refine then_norm ?_
        refine wp_seq ?_
        refine wp_seq ?_
        refine wp_r0 ?_
        intro K hN
        go_wp2_with fail
        refine NoK.norm (hN _ _ ?_)
        clear hN K
        refine then_norm ?_
        refine wp_block ?_
        go_loopw [6, 40] (fun z t wr => ∃ i : Nat, i ≤ k ∧ t = .int .i64 i ∧ z = .int .i64 (allS k T i 0) ∧ Bx wr [(b7, 3, cellsI (rowL k T i 0)), (b8, 3, cellsI (colL k T i 0))] ∧ Grow w wr) (fun _ t _ => k - (intOf t).toNat)
        case atStart => exact ⟨0, Nat.zero_le _, rfl, rfl, by rw [rowL_start, colL_start]; exact hB, hG⟩
        case round =>
          clear hB hG
          obtain ⟨i, hi, rfl, rfl, hB, hG⟩ := hrel
          obtain ⟨u, rfl⟩ : ∃ x, x = wr := ⟨_, rfl⟩
          rcases Nat.lt_or_ge i k with hlt | hge
          · have q1 := ((Ht.out.grow hG).2 i hlt).1
            refine wp_seq ?_
            refine wp_r0 ?_
            intro K hN
            go_wp2_with fail
            refine NoK.norm (hN _ _ ?_)
            clear hN K
            refine then_norm ?_
            refine wp_seq ?_
            refine wp_cond_true (rfl) ?_
            refine wp_skip ?_
            refine then_norm ?_
            refine wp_seq ?_
            refine wp_block ?_
            refine wp_seq ?_
            refine wp_r0 ?_
            intro K hN
            have r := hB.r
            simp only [BxR] at r
            go_wp2_with fail
            clear r
            refine NoK.norm (hN _ _ ?_)
            clear hN K
            refine then_norm ?_
            refine wp_seq ?_
            refine wp_r0 ?_
            intro K hN
            go_wp2_with fail
            refine NoK.norm (hN _ _ ?_)
            clear hN K
            refine then_norm ?_
            refine wp_block ?_
            go_loopw [6, 47] (fun z t wr => ∃ j : Nat, j ≤ k ∧ t = .int .i64 j ∧ z = .int .i64 (allS k T i j) ∧ Bx wr [(b7, 3, cellsI (rowL k T i j)), (b8, 3, cellsI (colL k T i j))] ∧ Grow w wr) (fun _ t _ => k - (intOf t).toNat)
            case atStart => exact ⟨0, Nat.zero_le _, rfl, rfl, hB, hG⟩
            case round =>
              clear hB hG q1
              obtain ⟨j, hj, rfl, rfl, hB, hG⟩ := hrel
              obtain ⟨u, rfl⟩ : ∃ x, x = wr := ⟨_, rfl⟩
              rcases Nat.lt_or_ge j k with hjk | hjk
              · have q2 := ((Ht.out.grow hG).2 i hlt).2.2 j hjk
                have g1 : (cellsI (rowL k T i j))[i]? = some (.int .i64 (sumTo (T i) j)) := by rw [cellsI_get, rowL_get hlt]; rfl
                have g2 : (cellsI (colL k T i j))[j]? = some (.int .i64 (sumTo (fun a => T a j) i)) := by rw [cellsI_get, colL_get hjk]; rfl
                have g3 : (cellsI (rowL k T i j)).setIfInBounds i (.int .i64 (sumTo (T i) j + T i j)) = cellsI (rowL k T i (j + 1)) := by rw [cellsI_set, rowL_set hlt]
                have g4 : (cellsI (colL k T i j)).setIfInBounds j (.int .i64 (sumTo (fun a => T a j) i + T i j)) = cellsI (colL k T i (j + 1)) := by rw [cellsI_set, colL_set hjk]
                obtain ⟨e1, e2, e3⟩ := allS_le (k := k) (T := T) HT0.out hlt hjk
                obtain ⟨e4, e5⟩ := row_le (k := k) (T := T) HT0.out hlt j (by omega)
                obtain ⟨e6, e7⟩ := col_le (k := k) (T := T) HT0.out hjk i (by omega)
                obtain ⟨N, hN⟩ : ∃ N, N = T i j := ⟨_, rfl⟩
                obtain ⟨X, hX⟩ : ∃ N, N = sumTo (T i) j := ⟨_, rfl⟩
                obtain ⟨Y, hY⟩ : ∃ N, N = sumTo (fun a => T a j) i := ⟨_, rfl⟩
                obtain ⟨L, hL⟩ : ∃ N, N = allS k T i j := ⟨_, rfl⟩
                rw [← HS.out] at e2 e5 e7
                rw [← hN] at q2 g3 g4 e2 e3
                rw [← hX] at g1 g3 e4 e5
                rw [← hY] at g2 g4 e6 e7
                rw [← hL] at e1 e2 ⊢
                have hL2 : allS k T i (j + 1) = L + N := by rw [allS_succ, hL, hN]
                have HL2 := Lib.hid hL2
                have G3 := Lib.hid g3
                have G4 := Lib.hid g4
                clear hN hX hY hL hL2 g3 g4
                have c1 : decide (N < 0) = false := by simp; omega
                have c2 : decide (2147483647 - L < N) = false := by simp; omega
                refine wp_seq ?_
                refine wp_r0 ?_
                intro K hN
                go_wp2_with fail
                refine NoK.norm (hN _ _ ?_)
                clear hN K
                refine then_norm ?_
                refine wp_seq ?_
                refine wp_cond_true (rfl) ?_
                refine wp_skip ?_
                refine then_norm ?_
                refine wp_seq ?_
                refine wp_block ?_
                refine wp_seq ?_
                refine wp_r0 ?_
                intro K hN
                have r := hB.r
                simp only [BxR] at r
                go_wp2_with fail
                clear r
                refine NoK.norm (hN _ _ ?_)
                clear hN K
                refine then_norm ?_
                refine wp_seq ?_
                refine wp_seq ?_
                refine wp_r0 ?_
                intro K hN
                go_wp2_with fail
                refine NoK.norm (hN _ _ ?_)
                clear hN K
                refine then_norm ?_
                refine wp_cond_false (rfl) ?_
                refine wp_skip ?_
                refine then_norm ?_
                refine wp_seq ?_
                refine wp_r0 ?_
                intro K hN
                go_wp2_with fail
                refine NoK.norm (hN _ _ ?_)
                clear hN K
                refine then_norm ?_
                refine wp_seq ?_
                refine wp_r0 ?_
                intro K hN
                have r := hB.r
                simp only [BxR] at r
                go_wp2_with fail
                clear r
                generalize hu0 : World.setCell u _ _ = u0
                have hBG := hB.over hF hG 0 rfl i [_] hu0
                clear hB hG
                simp only [List.modify_zero_cons, wrAll, G3.out] at hBG
                obtain ⟨hB, hG⟩ := hBG
                obtain ⟨u, rfl⟩ : ∃ x, x = u0 := ⟨_, rfl⟩
                refine NoK.norm (hN _ _ ?_)
                clear hN K
                refine then_norm ?_
                refine wp_r0 ?_
                intro K hN
                have r := hB.r
                simp only [BxR] at r
                go_wp2_with fail
                clear r
                generalize hu1 : World.setCell u _ _ = u1
                have hBG := hB.over hF hG 1 rfl j [_] hu1
                clear hB hG
                simp only [List.modify_succ_cons, List.modify_zero_cons, wrAll, G4.out] at hBG
                obtain ⟨hB, hG⟩ := hBG
                obtain ⟨u, rfl⟩ : ∃ x, x = u1 := ⟨_, rfl⟩
                refine NoK.norm (hN _ _ ?_)
                clear hN K
                refine blk_norm ?_
                refine then_norm ?_
                refine wp_r0 ?_
                intro K hN
                go_wp2_with fail
                refine NoK.norm (hN _ _ ?_)
                clear hN K
                refine then_norm ?_
                go_roundw
                case rel => exact ⟨j + 1, by omega, by go_num, by rw [HL2.out], hB, hG⟩
                case measure => simp [intOf]; omega
              · obtain rfl : k = j := by omega
                refine wp_seq ?_
                refine wp_r0 ?_
                intro K hN
                go_wp2_with fail
                refine NoK.norm (hN _ _ ?_)
                clear hN K
                refine then_norm ?_
                refine wp_seq ?_
                refine wp_cond_false (rfl) ?_
                refine wp_exit ?_
                refine then_exit ?_
                refine then_exit ?_
                refine blk_exit ?_
                refine blk_norm ?_
                refine then_norm ?_
                refine wp_r0 ?_
                intro K hN
                go_wp2_with fail
                refine NoK.norm (hN _ _ ?_)
                clear hN K
                refine then_norm ?_
                go_roundw
                case rel => exact ⟨i + 1, by omega, by go_num, by rw [← allS_next], by rw [← rowL_next hlt, ← colL_next]; exact hB, hG⟩
                case measure => simp [intOf]; omega
          · obtain rfl : k = i := by omega
            refine wp_seq ?_
            refine wp_r0 ?_
            intro K hN
            go_wp2_with fail
            refine NoK.norm (hN _ _ ?_)
            clear hN K
            refine then_norm ?_
            refine wp_seq ?_
            refine wp_cond_false (rfl) ?_
            refine wp_exit ?_
            refine then_exit ?_
            refine then_exit ?_
            refine blk_exit ?_
            refine then_norm ?_
            refine wp_seq ?_
            refine wp_r0 ?_
            intro K hN
            have r := hB.r
            simp only [BxR] at r
            go_wp2_with fail
            clear r
            refine NoK.norm (hN _ _ ?_)
            clear hN K
            have hbo := Blk.new u 58 (cellsR (List.replicate k (0, 0, 0)))
            have hF3 := Fr.new (tk := []) hF hB hG (Nat.le_refl u.heap.size) (by simp)
            have hB3 := Bx.cons hbo (hB.grow (Grow.alloc u (.cells (cellsR (List.replicate k (0, 0, 0))) 58)))
            have hG3 := hG.trans (Grow.alloc u (.cells (cellsR (List.replicate k (0, 0, 0))) 58))
            simp only [List.cons_append, List.nil_append, List.map_cons, List.map_nil] at hF3
            clear hB hF hG hbo
            generalize World.alloc u _ = v at hB3 hG3 ⊢
            generalize u.heap.size = b13 at hB3 hF3 ⊢
            have hB := hB3
            have hF := hF3
            have hG := hG3
            clear hB3 hF3 hG3
            obtain ⟨u, rfl⟩ : ∃ x, x = v := ⟨_, rfl⟩
            refine then_norm ?_
            refine wp_seq ?_
            refine wp_seq ?_
            refine wp_r0 ?_
            intro K hN
            go_wp2_with fail
            refine NoK.norm (hN _ _ ?_)
            clear hN K
            refine then_norm ?_
            refine wp_block ?_
            go_loopw [84] (fun t wr => ∃ a : Nat, a ≤ k ∧ t = .int .i64 a ∧ Bx wr [(b13, 58, cellsR (rateTo k T a)), (b7, 3, cellsI (rowL k T k 0)), (b8, 3, cellsI (colL k T k 0))] ∧ Grow w wr) (fun t _ => k - (intOf t).toNat)
            case atStart => exact ⟨0, Nat.zero_le _, rfl, by rw [rateTo_start]; exact hB, hG⟩
            case round =>
              clear hB hG
              obtain ⟨a, ha, rfl, hB, hG⟩ := hrel
              obtain ⟨u, rfl⟩ : ∃ x, x = wr := ⟨_, rfl⟩
              rcases Nat.lt_or_ge a k with hlt | hge
              · have g1 : (cellsI (rowL k T k 0))[a]? = some (.int .i64 (sumTo (T a) k)) := by rw [cellsI_get, rowL_end hlt]; rfl
                have g2 : (cellsI (colL k T k 0))[a]? = some (.int .i64 (sumTo (fun i => T i a) k)) := by rw [cellsI_get, colL_end hlt]; rfl
                obtain ⟨e4, e5⟩ := row_le (k := k) (T := T) HT0.out hlt k (Nat.le_refl _)
                obtain ⟨e6, e7⟩ := col_le (k := k) (T := T) HT0.out hlt k (Nat.le_refl _)
                have e8 := HT0.out a hlt a hlt
                have e9 := le_sumTo hlt (fun j hj => HT0.out a hlt j hj)
                have hte : ∀ W, Grow w W → W.cell? ⟨bt, ot + a, none⟩ = some (.slice (some ⟨rb a, ro a, none⟩) k (rc a)) ∧ W.cell? ⟨rb a, ro a + a, none⟩ = some (.int .i64 (T a a)) := fun W hg => ⟨((Ht.out.grow hg).2 a hlt).1, ((Ht.out.grow hg).2 a hlt).2.2 a hlt⟩
                have hra : rateAt k T a = (qover (T a a) (sumTo (fun i => T i a) k), qover (T a a) (sumTo (T a) k), qdiv (qadd (qmul (qover (T a a) (sumTo (fun i => T i a) k)) (qover (T a a) (sumTo (T a) k))) (qmul (qover (T a a) (sumTo (fun i => T i a) k)) (qover (T a a) (sumTo (T a) k)))) (qadd (qover (T a a) (sumTo (fun i => T i a) k)) (qover (T a a) (sumTo (T a) k)))) := rfl
                rw [← HS.out] at e5 e7
                obtain ⟨N, hN⟩ : ∃ N, N = T a a := ⟨_, rfl⟩
                obtain ⟨X, hX⟩ : ∃ N, N = sumTo (fun i => T i a) k := ⟨_, rfl⟩
                obtain ⟨Y, hY⟩ : ∃ N, N = sumTo (T a) k := ⟨_, rfl⟩
                rw [← hN] at e8 e9 hte hra
                rw [← hX] at g2 e6 e7 hra
                rw [← hY] at g1 e4 e5 e9 hra
                have hpw : ((2 ^ s : Nat) : Int) = 2 ^ s := by simp
                have z1 : qs (qover N X) ≤ s := over_sub 0 0 N X s (by omega) (by omega) hs1
                have z2 : qs (qover N Y) ≤ s := over_sub 0 0 N Y s (by omega) (by omega) hs1
                have z3 : qs (qmul (qover N X) (qover N Y)) ≤ 2 * s := by have := qs_mul (qover N X) (qover N Y); unfold qmul; omega
                have z4 : qs (qadd (qmul (qover N X) (qover N Y)) (qmul (qover N X) (qover N Y))) ≤ 4 * s + 1 := by have := qs_add (qmul (qover N X) (qover N Y)) (qmul (qover N X) (qover N Y)); unfold qadd; omega
                have z5 : qs (qadd (qover N X) (qover N Y)) ≤ 2 * s + 1 := by have := qs_add (qover N X) (qover N Y); unfold qadd; omega
                have Hra := Lib.hid hra
                have Hte := Lib.hid hte
                clear hra hte hN hX hY hpw
                refine wp_seq ?_
                refine wp_r0 ?_
                intro K hN
                go_wp2_with fail
                refine NoK.norm (hN _ _ ?_)
                clear hN K
                refine then_norm ?_
                refine wp_seq ?_
                refine wp_cond_true (rfl) ?_
                refine wp_skip ?_
                refine then_norm ?_
                refine wp_seq ?_
                refine wp_block ?_
                refine wp_seq ?_
                refine wp_r0 ?_
                intro K hN
                go_wp2_with fail
                refine NoK.norm (hN _ _ ?_)
                clear hN K
                refine then_norm ?_
                refine wp_seq ?_
                refine wp_rd (w := w) allocs3 26 [] [(0, 0), (0, 1), (0, 2), (0, 3), (0, 4), (0, 5), (0, 6), (0, 7), (0, 8), (0, 9), (0, 10), (0, 12), (0, 13), (0, 14), (0, 15), (0, 16), (0, 17), (0, 18), (0, 19), (0, 20), (0, 21), (0, 22), (1, 11), (1, 23), (0, 24), (2, 25)] (by kernel_rfl) (by kernel_rfl) (by simp only [List.drop_succ_cons, List.drop_zero]; exact rfl) (fun _ => True) noG hB hG trivial ?_
                intro K L hN hL
                simp only [pickOps, List.getElem?_toArray, List.getElem?_cons_zero, List.getElem?_cons_succ]
                apply gy
                · exact rfl
                · (rintro v - N hN; go_simp; exact hN)
                refine okf (by simp only [Act.put, List.setIfInBounds_toArray, List.set_cons_succ, List.set_cons_zero]; exact rfl) ?_
                apply gy
                · exact rfl
                · (rintro v - N hN; go_simp; exact hN)
                refine okf (by simp only [Act.put, List.setIfInBounds_toArray, List.set_cons_succ, List.set_cons_zero]; exact rfl) ?_
                apply gy
                · exact rfl
                · (rintro v - N hN; go_simp; exact hN)
                refine okf (by simp only [Act.put, List.setIfInBounds_toArray, List.set_cons_succ, List.set_cons_zero]; exact rfl) ?_
                apply gy
                · exact rfl
                · (rintro v ⟨hgu, hB, hG, -⟩ N hN; have r := hB.r; simp only [BxR] at r; obtain ⟨q1, q2⟩ := Hte.out v hG; go_simp; exact hN)
                refine okf (by simp only [Act.put, List.setIfInBounds_toArray, List.set_cons_succ, List.set_cons_zero]; exact rfl) ?_
                apply gy
                · exact rfl
                · (rintro v - N hN; go_simp; exact hN)
                refine okf (by simp only [Act.put, List.setIfInBounds_toArray, List.set_cons_succ, List.set_cons_zero]; exact rfl) ?_
                apply gy
                · exact rfl
                · (rintro v - N hN; go_simp; exact hN)
                refine okf (by simp only [Act.put, List.setIfInBounds_toArray, List.set_cons_succ, List.set_cons_zero]; exact rfl) ?_
                apply gy
                · exact rfl
                · (rintro v ⟨hgu, hB, hG, -⟩ N hN; have r := hB.r; simp only [BxR] at r; obtain ⟨q1, q2⟩ := Hte.out v hG; go_simp; exact hN)
                refine okf (by simp only [Act.put, List.setIfInBounds_toArray, List.set_cons_succ, List.set_cons_zero]; exact rfl) ?_
                apply gy
                · exact rfl
                · (rintro v - N hN; go_simp; exact hN)
                refine okf (by simp only [Act.put, List.setIfInBounds_toArray, List.set_cons_succ, List.set_cons_zero]; exact rfl) ?_
                apply gy
                · exact rfl
                · (rintro v - N hN; go_simp; exact hN)
                refine okf (by simp only [Act.put, List.setIfInBounds_toArray, List.set_cons_succ, List.set_cons_zero]; exact rfl) ?_
                apply gy
                · exact rfl
                · (rintro v - N hN; go_simp; exact hN)
                refine okf (by simp only [Act.put, List.setIfInBounds_toArray, List.set_cons_succ, List.set_cons_zero]; exact rfl) ?_
                apply gy
                · exact rfl
                · (rintro v ⟨hgu, hB, hG, -⟩ N hN; have r := hB.r; simp only [BxR] at r; obtain ⟨q1, q2⟩ := Hte.out v hG; go_simp; exact hN)
                refine okf (by simp only [Act.put, List.setIfInBounds_toArray, List.set_cons_succ, List.set_cons_zero]; exact rfl) ?_
                apply gy
                · exact rfl
                · (rintro v - N hN; go_simp; exact hN)
                refine okf (by simp only [Act.put, List.setIfInBounds_toArray, List.set_cons_succ, List.set_cons_zero]; exact rfl) ?_
                apply gy
                · exact rfl
                · (rintro v - N hN; go_simp; exact hN)
                refine okf (by simp only [Act.put, List.setIfInBounds_toArray, List.set_cons_succ, List.set_cons_zero]; exact rfl) ?_
                apply gy
                · exact rfl
                · (rintro v - N hN; go_simp; exact hN)
                refine okf (by simp only [Act.put, List.setIfInBounds_toArray, List.set_cons_succ, List.set_cons_zero]; exact rfl) ?_
                apply gy
                · exact rfl
                · (rintro v ⟨hgu, hB, hG, -⟩ N hN; have r := hB.r; simp only [BxR] at r; obtain ⟨q1, q2⟩ := Hte.out v hG; go_simp; exact hN)
                refine okf (by simp only [Act.put, List.setIfInBounds_toArray, List.set_cons_succ, List.set_cons_zero]; exact rfl) ?_
                apply gy
                · exact rfl
                · (rintro v - N hN; go_simp; exact hN)
                refine okf (by simp only [Act.put, List.setIfInBounds_toArray, List.set_cons_succ, List.set_cons_zero]; exact rfl) ?_
                apply gy
                · exact rfl
                · (rintro v - N hN; go_simp; exact hN)
                refine okf (by simp only [Act.put, List.setIfInBounds_toArray, List.set_cons_succ, List.set_cons_zero]; exact rfl) ?_
                apply gy
                · exact rfl
                · (rintro v ⟨hgu, hB, hG, -⟩ N hN; have r := hB.r; simp only [BxR] at r; obtain ⟨q1, q2⟩ := Hte.out v hG; go_simp; exact hN)
                refine okf (by simp only [Act.put, List.setIfInBounds_toArray, List.set_cons_succ, List.set_cons_zero]; exact rfl) ?_
                apply gy
                · exact rfl
                · (rintro v - N hN; go_simp; exact hN)
                refine okf (by simp only [Act.put, List.setIfInBounds_toArray, List.set_cons_succ, List.set_cons_zero]; exact rfl) ?_
                apply gy
                · exact rfl
                · (rintro v - N hN; go_simp; exact hN)
                refine okf (by simp only [Act.put, List.setIfInBounds_toArray, List.set_cons_succ, List.set_cons_zero]; exact rfl) ?_
                apply gy
                · exact rfl
                · (rintro v - N hN; go_simp; exact hN)
                refine okf (by simp only [Act.put, List.setIfInBounds_toArray, List.set_cons_succ, List.set_cons_zero]; exact rfl) ?_
                apply gy
                · exact rfl
                · (rintro v ⟨hgu, hB, hG, -⟩ N hN; have r := hB.r; simp only [BxR] at r; obtain ⟨q1, q2⟩ := Hte.out v hG; go_simp; exact hN)
                refine okf (by simp only [Act.put, List.setIfInBounds_toArray, List.set_cons_succ, List.set_cons_zero]; exact rfl) ?_
                apply gm
                · exact rfl
                · (rintro v ⟨hgu, hB, hG, -⟩ N hN; go_simp; ((with_reducible refine (score_ratio _ _ (by omega) (by omega) (by omega) (by omega) _ (HT.grow hG)).mono ?_); rintro e w1 ⟨rfl, hb⟩; exact ⟨_, rfl, hN _ hb⟩))
                refine okf (by simp only [Act.put, List.setIfInBounds_toArray, List.set_cons_succ, List.set_cons_zero]; exact rfl) ?_
                apply gm
                · exact rfl
                · (rintro v ⟨hgu, hB, hG, -⟩ N hN; go_simp; ((with_reducible refine (score_ratio _ _ (by omega) (by omega) (by omega) (by omega) _ (HT.grow hG)).mono ?_); rintro e w1 ⟨rfl, hb⟩; exact ⟨_, rfl, hN _ hb⟩))
                refine okf (by simp only [Act.put, List.setIfInBounds_toArray, List.set_cons_succ, List.set_cons_zero]; exact rfl) ?_
                apply gy
                · exact rfl
                · (rintro v - N hN; go_simp; exact hN)
                refine okf (by simp only [Act.put, List.setIfInBounds_toArray, List.set_cons_succ, List.set_cons_zero]; exact rfl) ?_
                refine ga (newObj_Rate _ _ _ _ _) fun b15 hb15 hn15 => ?_
                refine okf (by simp only [Act.put, List.setIfInBounds_toArray, List.set_cons_succ, List.set_cons_zero]; exact rfl) ?_
                refine gend ?_
                rintro v ⟨⟨hgu, hB1, hG1, -⟩, h15⟩
                have hF := Fr.new (tk := []) hF hB hG hb15 hn15
                simp only [List.cons_append, List.nil_append, List.map_cons, List.map_nil] at hF
                clear hB hG
                have hB := (Bx.cons h15 hB1)
                have hG := hG1
                clear hB1 hG1 h15
                refine hL _ _ ?_
                clear hL L hgu
                obtain ⟨u, rfl⟩ : ∃ x, x = v := ⟨_, rfl⟩
                have r := hB.r
                simp only [BxR] at r
                go_wp2_with fail
                clear r
                generalize hu0 : World.setCell (World.setCell (World.setCell (World.setCell (World.setCell (World.setCell (World.setCell (World.setCell (World.setCell (World.setCell (World.setCell (World.setCell (World.setCell (World.setCell (World.setCell u _ _) _ _) _ _) _ _) _ _) _ _) _ _) _ _) _ _) _ _) _ _) _ _) _ _) _ _) _ _ = u0
                have hBG := hB.over hF hG 0 rfl 0 [_, _, _, _, _, _, _, _, _, _, _, _, _, _, _] hu0
                clear hB hG hu0
                simp only [List.modify_succ_cons, List.modify_zero_cons, wrAll, List.setIfInBounds_toArray, List.set_cons_zero, List.set_cons_succ, Nat.zero_add, Nat.reduceAdd] at hBG
                obtain ⟨hB, hG⟩ := hBG
                clear u
                obtain ⟨u, rfl⟩ : ∃ x, x = u0 := ⟨_, rfl⟩
                refine NoK.norm (hN _ _ ?_)
                clear hN K
                refine then_norm ?_
                refine wp_seq ?_
                refine wp_rs (w := w) allocs3 6 [0, 0, 0, 0, 1, 2] (by kernel_rfl) (by simp only [List.drop_succ_cons, List.drop_zero]; exact rfl) (fun _ => True) noG hB hG trivial ?_
                intro K L hN hL
                simp only [List.zip_cons_cons, List.zip_nil_left]
                apply gy
                · exact rfl
                · (rintro v - N hN; go_simp; exact hN)
                refine okf (by simp only [Act.put, List.setIfInBounds_toArray, List.set_cons_succ, List.set_cons_zero]; exact rfl) ?_
                apply gy
                · exact rfl
                · (rintro v ⟨hgu, hB, hG, -⟩ N hN; have r := hB.r; simp only [BxR] at r; obtain ⟨q1, q2⟩ := Hte.out v hG; go_simp; exact hN)
                refine okf (by simp only [Act.put, List.setIfInBounds_toArray, List.set_cons_succ, List.set_cons_zero]; exact rfl) ?_
                apply gy
                · exact rfl
                · (rintro v - N hN; go_simp; exact hN)
                refine okf (by simp only [Act.put, List.setIfInBounds_toArray, List.set_cons_succ, List.set_cons_zero]; exact rfl) ?_
                apply gy
                · exact rfl
                · (rintro v ⟨hgu, hB, hG, -⟩ N hN; have r := hB.r; simp only [BxR] at r; obtain ⟨q1, q2⟩ := Hte.out v hG; go_simp; exact hN)
                refine okf (by simp only [Act.put, List.setIfInBounds_toArray, List.set_cons_succ, List.set_cons_zero]; exact rfl) ?_
                apply gm
                · exact rfl
                · (rintro v ⟨hgu, hB, hG, -⟩ N hN; go_simp; ((with_reducible refine (frac_Mul _ _ _ (by omega) (HT.grow hG)).mono ?_); rintro e w1 ⟨rfl, hb⟩; exact ⟨_, rfl, hN _ hb⟩))
                refine okf (by simp only [Act.put, List.setIfInBounds_toArray, List.set_cons_succ, List.set_cons_zero]; exact rfl) ?_
                refine ga (newObj_Q _ _ _ _ _) fun b16 hb16 hn16 => ?_
                refine okf (by simp only [Act.put, List.setIfInBounds_toArray, List.set_cons_succ, List.set_cons_zero]; exact rfl) ?_
                refine gend ?_
                rintro v ⟨⟨hgu, hB1, hG1, -⟩, h16⟩
                have hF := Fr.new (tk := []) hF hB hG hb16 hn16
                simp only [List.cons_append, List.nil_append, List.map_cons, List.map_nil] at hF
                clear hB hG
                have hB := (Bx.cons h16 hB1)
                have hG := hG1
                clear hB1 hG1 h16
                refine hL _ _ ?_
                clear hL L hgu
                obtain ⟨u, rfl⟩ : ∃ x, x = v := ⟨_, rfl⟩
                have r := hB.r
                simp only [BxR] at r
                go_wp2_with fail
                clear r
                generalize hu0 : World.setCell (World.setCell (World.setCell (World.setCell (World.setCell u _ _) _ _) _ _) _ _) _ _ = u0
                have hBG := hB.over hF hG 0 rfl 0 [_, _, _, _, _] hu0
                clear hB hG hu0
                simp only [List.modify_succ_cons, List.modify_zero_cons, wrAll, List.setIfInBounds_toArray, List.set_cons_zero, List.set_cons_succ, Nat.zero_add, Nat.reduceAdd] at hBG
                obtain ⟨hB, hG⟩ := hBG
                clear u
                obtain ⟨u, rfl⟩ : ∃ x, x = u0 := ⟨_, rfl⟩
                refine NoK.norm (hN _ _ ?_)
                clear hN K
                refine then_norm ?_
                refine wp_seq ?_
                refine wp_rd (w := w) allocs3 13 [11] [(0, 0), (0, 1), (0, 3), (0, 4), (0, 5), (0, 6), (1, 2), (1, 7), (1, 8), (0, 9), (0, 10), (0, 11), (0, 12)] (by kernel_rfl) (by kernel_rfl) (by simp only [List.drop_succ_cons, List.drop_zero]; exact rfl) (fun _ => True) noG hB hG trivial ?_
                intro K L hN hL
                simp only [pickOps, List.getElem?_toArray, List.getElem?_cons_zero, List.getElem?_cons_succ]
                apply gy
                · exact rfl
                · (rintro v ⟨hgu, hB, hG, -⟩ N hN; have r := hB.r; simp only [BxR] at r; obtain ⟨q1, q2⟩ := Hte.out v hG; go_simp; exact hN)
                refine okf (by simp only [Act.put, List.setIfInBounds_toArray, List.set_cons_succ, List.set_cons_zero]; exact rfl) ?_
                apply gy
                · exact rfl
                · (rintro v ⟨hgu, hB, hG, -⟩ N hN; have r := hB.r; simp only [BxR] at r; obtain ⟨q1, q2⟩ := Hte.out v hG; go_simp; exact hN)
                refine okf (by simp only [Act.put, List.setIfInBounds_toArray, List.set_cons_succ, List.set_cons_zero]; exact rfl) ?_
                apply gy
                · exact rfl
                · (rintro v - N hN; go_simp; exact hN)
                refine okf (by simp only [Act.put, List.setIfInBounds_toArray, List.set_cons_succ, List.set_cons_zero]; exact rfl) ?_
                apply gy
                · exact rfl
                · (rintro v ⟨hgu, hB, hG, -⟩ N hN; have r := hB.r; simp only [BxR] at r; obtain ⟨q1, q2⟩ := Hte.out v hG; go_simp; exact hN)
                refine okf (by simp only [Act.put, List.setIfInBounds_toArray, List.set_cons_succ, List.set_cons_zero]; exact rfl) ?_
                apply gy
                · exact rfl
                · (rintro v - N hN; go_simp; exact hN)
                refine okf (by simp only [Act.put, List.setIfInBounds_toArray, List.set_cons_succ, List.set_cons_zero]; exact rfl) ?_
                apply gy
                · exact rfl
                · (rintro v ⟨hgu, hB, hG, -⟩ N hN; have r := hB.r; simp only [BxR] at r; obtain ⟨q1, q2⟩ := Hte.out v hG; go_simp; exact hN)
                refine okf (by simp only [Act.put, List.setIfInBounds_toArray, List.set_cons_succ, List.set_cons_zero]; exact rfl) ?_
                apply gm
                · exact rfl
                · (rintro v ⟨hgu, hB, hG, -⟩ N hN; go_simp; ((with_reducible refine (frac_Add _ _ _ (by omega) (HT.grow hG)).mono ?_); rintro e w1 ⟨rfl, hb⟩; exact ⟨_, rfl, hN _ hb⟩))
                refine okf (by simp only [Act.put, List.setIfInBounds_toArray, List.set_cons_succ, List.set_cons_zero]; exact rfl) ?_
                apply gm
                · exact rfl
                · (rintro v ⟨hgu, hB, hG, -⟩ N hN; go_simp; ((with_reducible refine (frac_Add _ _ _ (by omega) (HT.grow hG)).mono ?_); rintro e w1 ⟨rfl, hb⟩; exact ⟨_, rfl, hN _ hb⟩))
                refine okf (by simp only [Act.put, List.setIfInBounds_toArray, List.set_cons_succ, List.set_cons_zero]; exact rfl) ?_
                apply gm
                · exact rfl
                · (rintro v ⟨hgu, hB, hG, -⟩ N hN; go_simp; ((with_reducible refine (frac_Div _ _ _ (by omega) (HT.grow hG)).mono ?_); rintro e w1 ⟨rfl, hb⟩; exact ⟨_, rfl, hN _ hb⟩))
                refine okf (by simp only [Act.put, List.setIfInBounds_toArray, List.set_cons_succ, List.set_cons_zero]; exact rfl) ?_
                apply gy
                · exact rfl
                · (rintro v - N hN; go_simp; exact hN)
                refine okf (by simp only [Act.put, List.setIfInBounds_toArray, List.set_cons_succ, List.set_cons_zero]; exact rfl) ?_
                apply gy
                · exact rfl
                · (rintro v - N hN; go_simp; exact hN)
                refine okf (by simp only [Act.put, List.setIfInBounds_toArray, List.set_cons_succ, List.set_cons_zero]; exact rfl) ?_
                apply gy
                · exact rfl
                · (rintro v - N hN; go_simp; exact hN)
                refine okf (by simp only [Act.put, List.setIfInBounds_toArray, List.set_cons_succ, List.set_cons_zero]; exact rfl) ?_
                apply gy
                · exact rfl
                · (rintro v - N hN; go_simp; exact hN)
                refine okf (by simp only [Act.put, List.setIfInBounds_toArray, List.set_cons_succ, List.set_cons_zero]; exact rfl) ?_
                refine gend ?_
                rintro v ⟨hgu, hB1, hG1, -⟩
                clear hB hG
                have hB := hB1
                have hG := hG1
                clear hB1 hG1
                refine hL _ _ ?_
                clear hL L hgu
                obtain ⟨u, rfl⟩ : ∃ x, x = v := ⟨_, rfl⟩
                have r := hB.r
                simp only [BxR] at r
                go_wp2_with fail
                clear r
                generalize hu0 : World.setCell (World.setCell (World.setCell (World.setCell (World.setCell u _ _) _ _) _ _) _ _) _ _ = u0
                have hBG := hB.over hF hG 1 rfl 10 [_, _, _, _, _] hu0
                clear hB hG hu0
                simp only [List.modify_succ_cons, List.modify_zero_cons, wrAll, List.setIfInBounds_toArray, List.set_cons_zero, List.set_cons_succ, Nat.zero_add, Nat.reduceAdd] at hBG
                obtain ⟨hB, hG⟩ := hBG
                clear u
                obtain ⟨u, rfl⟩ : ∃ x, x = u0 := ⟨_, rfl⟩
                refine NoK.norm (hN _ _ ?_)
                clear hN K
                refine then_norm ?_
                generalize qdiv _ _ = bo at hB Hra
                generalize qover N X = po at hB Hra
                generalize qover N Y = ro1 at hB Hra
                obtain ⟨o0, y0⟩ := old_cell k T a a hlt 0 (by omega)
                obtain ⟨o1, y1⟩ := old_cell k T a a hlt 1 (by omega)
                obtain ⟨o2, y2⟩ := old_cell k T a a hlt 2 (by omega)
                obtain ⟨o3, y3⟩ := old_cell k T a a hlt 3 (by omega)
                obtain ⟨o4, y4⟩ := old_cell k T a a hlt 4 (by omega)
                obtain ⟨o5, y5⟩ := old_cell k T a a hlt 5 (by omega)
                obtain ⟨o6, y6⟩ := old_cell k T a a hlt 6 (by omega)
                obtain ⟨o7, y7⟩ := old_cell k T a a hlt 7 (by omega)
                obtain ⟨o8, y8⟩ := old_cell k T a a hlt 8 (by omega)
                obtain ⟨o9, y9⟩ := old_cell k T a a hlt 9 (by omega)
                obtain ⟨o10, y10⟩ := old_cell k T a a hlt 10 (by omega)
                obtain ⟨o11, y11⟩ := old_cell k T a a hlt 11 (by omega)
                obtain ⟨o12, y12⟩ := old_cell k T a a hlt 12 (by omega)
                obtain ⟨o13, y13⟩ := old_cell k T a a hlt 13 (by omega)
                obtain ⟨o14, y14⟩ := old_cell k T a a hlt 14 (by omega)
                rw [Nat.add_zero] at y0
                have hD : b15 ≠ b13 ∧ b13 ≠ b15 := ⟨hF.ne 1 2 rfl rfl (by decide), hF.ne 2 1 rfl rfl (by decide)⟩
                refine wp_r0 ?_
                intro K hN
                have r := hB.r
                simp only [BxR] at r
                go_wp2_with fail
                clear r
                generalize hu0 : World.setCell (World.setCell (World.setCell (World.setCell (World.setCell (World.setCell (World.setCell (World.setCell (World.setCell (World.setCell (World.setCell (World.setCell (World.setCell (World.setCell (World.setCell u _ _) _ _) _ _) _ _) _ _) _ _) _ _) _ _) _ _) _ _) _ _) _ _) _ _) _ _) _ _ = u0
                have hBG := hB.over hF hG 2 rfl (a * 15) (qL po ++ qL ro1 ++ qL bo) hu0
                clear hB hG hu0
                simp only [List.modify_succ_cons, List.modify_zero_cons, wr_rate k T hlt po ro1 bo Hra.out] at hBG
                obtain ⟨hB, hG⟩ := hBG
                obtain ⟨u, rfl⟩ : ∃ x, x = u0 := ⟨_, rfl⟩
                refine NoK.norm (hN _ _ ?_)
                clear hN K
                clear y0 y1 y2 y3 y4 y5 y6 y7 y8 y9 y10 y11 y12 y13 y14
                refine blk_norm ?_
                refine then_norm ?_
                refine wp_r0 ?_
                intro K hN
                go_wp2_with fail
                refine NoK.norm (hN _ _ ?_)
                clear hN K
                refine then_norm ?_
                go_roundw
                case rel => exact ⟨a + 1, by omega, by go_num, hB.tail.tail, hG⟩
                case measure => simp [intOf]; omega
              · obtain rfl : k = a := by omega
                refine wp_seq ?_
                refine wp_r0 ?_
                intro K hN
                go_wp2_with fail
                refine NoK.norm (hN _ _ ?_)
                clear hN K
                refine then_norm ?_
                refine wp_seq ?_
                refine wp_cond_false (rfl) ?_
                refine wp_exit ?_
                refine then_exit ?_
                refine then_exit ?_
                refine blk_exit ?_
                refine then_norm ?_
                refine wp_seq ?_
                refine wp_r0 ?_
                intro K hN
                go_wp2_with fail
                refine NoK.norm (hN _ _ ?_)
                clear hN K
                refine then_norm ?_
                refine wp_ret ?_
                refine ret_b rfl ?_
                intro N hN
                have r := hB.r
                simp only [BxR] at r
                simp only [results, Tryz.results20]
                go_simp
                refine hN _ ?_
                clear hN N r
                exact ⟨b13, hF.1 b13 (by simp), rfl, hB.head, hG⟩
end Go.Proofs.YtimjnkfcnpfoeaaGreatDoor

/-
  law9.ScoreKnown: the walk.
-/
namespace Go.Proofs.YtimjnkfcnpfoeaaGreatDoor
open Go.RowKit
theorem lb_new (w : World) (l : List Bool) : Lb (w.alloc (.cells (l.map fun x => Value.bool x).toArray 4)) (some ⟨w.heap.size, 0, none⟩) l := fun _ =>
  ⟨w.heap.size, 0, rfl, by rw [alloc_size]; omega, fun i x hi => by
    rw [Nat.zero_add, Blk.cell (Blk.new w 4 _) i]
    simp [hi]⟩
theorem qL_len (q : Rat) : (qL q).length = 5 := rfl
theorem flatq_get (l : List Rat) {i : Nat} {q : Rat} (hi : l[i]? = some q) {j : Nat} (hj : j < 5) : (l.flatMap qL)[i * 5 + j]? = (qL q)[j]? := by
  induction l generalizing i with
  | nil => simp at hi
  | cons x l ih =>
    rw [List.flatMap_cons]
    cases i with
    | zero =>
      simp at hi
      subst hi
      rw [List.getElem?_append_left (by rw [qL_len]; omega)]
      simp
    | succ i =>
      rw [List.getElem?_append_right (by rw [qL_len]; omega), qL_len, show (i + 1) * 5 + j - 5 = i * 5 + j by omega]
      exact ih (by simpa using hi)
theorem lq_new (w : World) (l : List Rat) : Lq (w.alloc (.cells (l.flatMap qL).toArray 32)) (some ⟨w.heap.size, 0, none⟩) l := fun _ =>
  ⟨w.heap.size, 0, rfl, by rw [alloc_size]; omega, fun i q hi j v hj => by
    have hj5 : j < 5 := (List.getElem?_eq_some_iff.1 hj).1
    rw [Nat.zero_add, Blk.cell (Blk.new w 32 _), List.getElem?_toArray, flatq_get l hi hj5, hj]⟩
theorem lrows_new (w : World) (rs : List Rw) (h : ∀ r ∈ rs, Li w r.1 r.2.2) : Lrows (w.alloc (.cells (rs.map fun r => Value.slice r.1 r.2.2.length r.2.1).toArray 22)) (some ⟨w.heap.size, 0, none⟩) rs := fun _ =>
  ⟨w.heap.size, 0, rfl, by rw [alloc_size]; omega, fun i r hi => ⟨by
    rw [Nat.zero_add, Blk.cell (Blk.new w 22 _) i]
    simp [hi], (h r (List.mem_of_getElem? hi)).grow (Grow.alloc _ _)⟩⟩
theorem lrq_new (w : World) (rs : List Rq) (h : ∀ r ∈ rs, Lq w r.1 r.2.2) : Lrq (w.alloc (.cells (rs.map fun r => Value.slice r.1 r.2.2.length r.2.1).toArray 67)) (some ⟨w.heap.size, 0, none⟩) rs := fun _ =>
  ⟨w.heap.size, 0, rfl, by rw [alloc_size]; omega, fun i r hi => ⟨by
    rw [Nat.zero_add, Blk.cell (Blk.new w 67 _) i]
    simp [hi], (h r (List.mem_of_getElem? hi)).grow (Grow.alloc _ _)⟩⟩
def adB : Option Addr → Nat
  | some a => a.block
  | none => 0
def adO : Option Addr → Nat
  | some a => a.off
  | none => 0
def rowAt (rs : List Rw) (i : Nat) : Rw := (rs[i]?).getD (none, 0, [])
/-- a square table out of its rows -/
theorem tb_of_rows {w : World} {bt ot k : Nat} {rs : List Rw} (h : Lrows w (some ⟨bt, ot, none⟩) rs) (hk : rs.length = k) (hk0 : 0 < k) (hr : ∀ r ∈ rs, r.2.2.length = k) :
    Tb w bt ot k (fun i => adB (rowAt rs i).1) (fun i => adO (rowAt rs i).1) (fun i => (rowAt rs i).2.1) (fun i j => gi (rowAt rs i).2.2 j) := by
  obtain ⟨b', off', e, hb, hc⟩ := h (fun h0 => by rw [h0] at hk; simp at hk; omega)
  cases e
  refine ⟨hb, fun i hi => ?_⟩
  have hil : i < rs.length := by omega
  obtain ⟨r, hri⟩ : ∃ r, rs[i]? = some r := ⟨_, List.getElem?_eq_getElem hil⟩
  have hra : rowAt rs i = r := by unfold rowAt; rw [hri]; rfl
  simp only [hra]
  obtain ⟨h1, h2⟩ := hc i r hri
  have hrl := hr r (List.mem_of_getElem? hri)
  obtain ⟨b, o, e, hb2, hc2⟩ := h2 (fun h0 => by rw [h0] at hrl; simp at hrl; omega)
  rw [e, hrl] at h1
  rw [e]
  exact ⟨h1, hb2, fun j hj => hc2 j _ (gi_eq (by omega))⟩
def knownT : Nat → Nat → Int := fun i j => gi (rowAt [(none, 2, [0, 0]), (none, 2, [1, 1])] i).2.2 j
theorem known_rates : rateTo 2 knownT 2 = [(qover 0 1, 0, 0), (1, qover 1 2, qover 2 3)] := by decide +kernel
theorem known_area : areaQ [true, false, true] [qint 3, qint 2, qint 2] 3 = qover 3 4 := by decide +kernel
theorem known_off : qOff [qint 1] (qMean [qint 1] 1) 1 = 0 := by decide +kernel
theorem known_yes : 0 < yesN [true, false, true] 3 ∧ yesN [true, false, true] 3 < 3 := by decide
theorem known_is (n d : Int) (h0 : 0 ≤ n) (h1 : n ≤ 4) (h2 : 1 ≤ d) (h3 : d ≤ 4) (W : World) : Calls Tryz.prog 26 #[qV (qover n d), .int .i64 n, .int .i64 d] W fun e w' => e = .returned (.bool true) ∧ Grow W w' :=
  hand_Is n d (by omega) (by omega) (by omega) (by omega) (by omega) (sm32 (by omega) (by omega)) (Nat.le_trans (over_sub 0 0 n d 3 (by omega) (by omega) (by omega)) (by unfold LIM; omega)) W
theorem known_table (W : World) (a b : Nat) (h1 : Li W (some ⟨a, 0, none⟩) [0]) (h2 : Li W (some ⟨b, 0, none⟩) [2]) : Calls Tryz.prog 14 #[.slice (some ⟨a, 0, none⟩) 1 1, .slice (some ⟨b, 0, none⟩) 1 1, .int .i64 2] W fun e w' => e = .returned (.tuple #[.slice none 0 0, .int .i64 1]) ∧ Grow W w' :=
  score_Table_arg _ _ 1 1 1 2 [0] [2] rfl rfl (by omega) (by omega) (by omega) (by omega) 0 (by omega) (fun i hi => by omega) (.inr (.inr (.inr (by decide)))) W h1 h2
theorem known_shape (W : World) (a b : Nat) (h : Lrows W (some ⟨b, 0, none⟩) [(some ⟨a, 0, none⟩, 2, [1, 2])]) : Calls Tryz.prog 20 #[.slice (some ⟨b, 0, none⟩) 1 1] W fun e w' => e = .returned (.tuple #[.slice none 0 0, .int .i64 5]) ∧ Grow W w' :=
  score_Rates_shape _ [(some ⟨a, 0, none⟩, 2, [1, 2])] 1 1 rfl 0 (by omega) (fun i r hi => by omega) (some ⟨a, 0, none⟩, 2, [1, 2]) rfl (by simp) (by omega) W h
theorem one_size (x : Rat) (hx : x ∈ [qint 1]) : qs x ≤ 41 := by
  simp only [List.mem_cons, List.not_mem_nil, or_false] at hx
  subst hx
  exact qint_sz 1 (by omega)
theorem known_told (W : World) (a b : Nat) (h1 : Lq W (some ⟨a, 0, none⟩) [qint 1]) (h2 : Lq W (some ⟨b, 0, none⟩) [qint 1]) (HT : Tab W) : Calls Tryz.prog 36 #[.slice (some ⟨a, 0, none⟩) 1 1, .slice (some ⟨b, 0, none⟩) 1 1] W fun e w' => e = .returned (.tuple #[qV 0, .int .i64 6]) ∧ Grow W w' := by
  have := score_Told_ok (some ⟨a, 0, none⟩) (some ⟨b, 0, none⟩) 1 1 1 [qint 1] [qint 1] rfl rfl (by omega) (by omega) 41 100 one_size one_size (by omega) (by omega) (by unfold BIG; omega) W h1 h2 HT
  rw [if_pos known_off] at this
  exact this
theorem known_tilt (W : World) (a b : Nat) (HT : Tab W) : Calls Tryz.prog 38 #[.slice (some ⟨a, 0, none⟩) 1 1, .slice (some ⟨b, 0, none⟩) 1 1, qV (qint 2)] W fun e w' => e = .returned (.tuple #[qV 0, .int .i64 1]) ∧ Grow W w' :=
  score_Tilt_arg _ _ 1 1 1 (qint 2) (by omega) (.inr (by decide)) (by have := qint_sz 2 (by omega); unfold BIG; show qs (qint ((2 : Nat) : Int)) + 50 ≤ _; omega) W HT
theorem known_none (W : World) (a b : Nat) (h1 : Lb W (some ⟨a, 0, none⟩) [true]) : Calls Tryz.prog 41 #[.slice (some ⟨a, 0, none⟩) 1 1, .slice (some ⟨b, 0, none⟩) 1 1] W fun e w' => e = .returned (.tuple #[qV 0, .int .i64 7]) ∧ Grow W w' :=
  score_Area_err _ _ 1 1 1 1 7 rfl W fun V hg => by
    have := score_sides_ok (some ⟨a, 0, none⟩) (some ⟨b, 0, none⟩) 1 1 1 [true] rfl (by omega) (by omega) V (h1.grow hg)
    rw [show sidesV [true] 1 = .tuple #[.int .i64 0, .int .i64 0, .int .i64 7] from if_pos (.inr rfl)] at this
    exact this
theorem three_size (x : Rat) (hx : x ∈ [qint 3, qint 2, qint 2]) : qs x ≤ 41 := by
  simp only [List.mem_cons, List.not_mem_nil, or_false] at hx
  rcases hx with rfl | rfl | rfl
  · exact qint_sz 3 (by omega)
  · exact qint_sz 2 (by omega)
  · exact qint_sz 2 (by omega)
theorem known_areas (W : World) (a b : Nat) (h1 : Lb W (some ⟨a, 0, none⟩) [true, false, true]) (h2 : Lq W (some ⟨b, 0, none⟩) [qint 3, qint 2, qint 2]) (HT : Tab W) : Calls Tryz.prog 41 #[.slice (some ⟨a, 0, none⟩) 3 3, .slice (some ⟨b, 0, none⟩) 3 3] W fun e w' => e = .returned (.tuple #[qV (qover 3 4), .int .i64 0]) ∧ Grow W w' := by
  have := score_Area_ok (some ⟨a, 0, none⟩) (some ⟨b, 0, none⟩) 3 3 3 [true, false, true] [qint 3, qint 2, qint 2] rfl rfl known_yes.1 known_yes.2 (by omega) 41 three_size (by unfold BIG; omega) W h1 h2 HT
  rw [known_area] at this
  exact this
def KR (B : Nat) (b : Nat) (W : World) : Prop := B ≤ b ∧ Blk W b 58 (cellsR [(qover 0 1, 0, 0), (1, qover 1 2, qover 2 3)])
theorem KR.grow {B b : Nat} {W W' : World} (hg : Grow W W') (h : KR B b W) : KR B b W' := ⟨h.1, h.2.grow hg⟩
theorem known_ratesY (B : Nat) (W : World) (a b c : Nat) (hB : B ≤ W.heap.size) (h : Lrows W (some ⟨c, 0, none⟩) [(some ⟨a, 0, none⟩, 2, [0, 0]), (some ⟨b, 0, none⟩, 2, [1, 1])]) (HT : Tab W) :
    Calls Tryz.prog 20 #[.slice (some ⟨c, 0, none⟩) 2 2] W (RetY (fun x : Nat => .tuple #[.slice (some ⟨x, 0, none⟩) 2 2, .int .i64 0]) (KR B) W) := by
  have ht := tb_of_rows (k := 2) h rfl (by omega) (fun r hr => by simp only [List.mem_cons, List.not_mem_nil, or_false] at hr; rcases hr with rfl | rfl <;> rfl)
  have e : ∀ i j, gi (rowAt [(some ⟨a, 0, none⟩, 2, [0, 0]), (some ⟨b, 0, none⟩, 2, [1, 1])] i).2.2 j = knownT i j := fun i j => by
    unfold knownT
    match i with
    | 0 => rfl
    | 1 => rfl
    | n + 2 => rfl
  simp only [e] at ht
  refine (score_Rates_ok c 0 2 2 _ _ _ knownT 2 (by omega) (by omega) (by decide) (by decide) (by decide) (by omega) (by unfold BIG; omega) W ht HT).mono fun e w' ⟨bo, h1, h2, h3, h4⟩ => ⟨bo, h2, ⟨Nat.le_trans hB h1, ?_⟩, h4⟩
  rw [← known_rates]
  exact h3
theorem known_brier (W : World) (a b c : Nat) (h1 : Li W (some ⟨a, 0, none⟩) [2]) (h2 : Lrq W (some ⟨c, 0, none⟩) [(some ⟨b, 0, none⟩, 2, [qint 1, qint 0])]) : Calls Tryz.prog 42 #[.slice (some ⟨a, 0, none⟩) 1 1, .slice (some ⟨c, 0, none⟩) 1 1] W fun e w' => e = .returned (.tuple #[qV 0, .int .i64 1]) ∧ Grow W w' :=
  score_Brier_arg _ _ 1 1 1 2 [2] [(some ⟨b, 0, none⟩, 2, [qint 1, qint 0])] rfl rfl (by omega) (fun i r hr => by
    match i with
    | 0 => simp at hr; subst hr; rfl
    | n + 1 => simp at hr) 0 (by omega) (fun i hi => by omega) (.inr (by decide)) W h1 h2
set_option maxHeartbeats 8000000 in
set_option maxRecDepth 100000 in
theorem law9_ScoreKnown (w : World) (HT : Tab w) : Calls Tryz.prog 6 #[] w fun e w' => e = .returned (.bool true) ∧ Grow w w' := by
  have hno : pairedB 0 0 = false := rfl
  obtain ⟨w00, hw00⟩ : ∃ x, x = w := ⟨_, rfl⟩
  go_enter Tryz.func6, Tryz.ntmps6
  refine wp_seq (wp_r0 ?_)
  intro K hN
  go_wp2_with fail
  obtain ⟨u, hu⟩ : ∃ x, x = w := ⟨_, rfl⟩
  have hB := Bx.nil u
  have hG : Grow w u := hu ▸ Grow.refl u
  have hF := Fr.nil w
  rw [← hu]
  clear hu
  refine NoK.norm (hN _ _ ?_)
  clear hN K
  refine then_norm ?_
  refine wp_seq ?_
  refine wp_rs (w := w) allocs 5 [1, 0, 0, 0, 2] (by kernel_rfl) (by simp only [List.drop_succ_cons, List.drop_zero]; exact rfl) (fun _ => True) noG hB hG trivial ?_
  intro K L hN hL
  simp only [List.zip_cons_cons, List.zip_nil_left]
  apply gm
  · exact rfl
  · (rintro v ⟨hgu, hB, hG, -⟩ N hN; go_simp; ((with_reducible refine (score_Right_no none none 0 0 0 0 hno _).mono ?_); rintro e w1 ⟨rfl, hb⟩; exact ⟨_, rfl, hN _ hb⟩))
  refine okf (by simp only [Act.put, List.setIfInBounds_toArray, List.set_cons_succ, List.set_cons_zero]; exact rfl) ?_
  apply gy
  · exact rfl
  · (rintro v - N hN; go_simp; exact hN)
  refine okf (by simp only [Act.put, List.setIfInBounds_toArray, List.set_cons_succ, List.set_cons_zero]; exact rfl) ?_
  apply gy
  · exact rfl
  · (rintro v - N hN; go_simp; exact hN)
  refine okf (by simp only [Act.put, List.setIfInBounds_toArray, List.set_cons_succ, List.set_cons_zero]; exact rfl) ?_
  apply gy
  · exact rfl
  · (rintro v - N hN; go_simp; exact hN)
  refine okf (by simp only [Act.put, List.setIfInBounds_toArray, List.set_cons_succ, List.set_cons_zero]; exact rfl) ?_
  refine ga (newObj_Q _ _ _ _ _) fun b1 hb1 hn1 => ?_
  refine okf (by simp only [Act.put, List.setIfInBounds_toArray, List.set_cons_succ, List.set_cons_zero]; exact rfl) ?_
  refine gend ?_
  rintro v ⟨⟨hgu, hB1, hG1, -⟩, h1⟩
  have hF := Fr.new (tk := []) hF hB hG hb1 hn1
  simp only [List.cons_append, List.nil_append, List.map_cons, List.map_nil] at hF
  clear hB hG
  have hB := (Bx.cons h1 hB1)
  have hG := hG1
  clear hB1 hG1 h1
  refine hL _ _ ?_
  clear hL L hgu
  obtain ⟨u, rfl⟩ : ∃ x, x = v := ⟨_, rfl⟩
  have r := hB.r
  simp only [BxR] at r
  go_wp2_with fail
  clear r
  generalize hu0 : World.setCell (World.setCell (World.setCell (World.setCell (World.setCell u _ _) _ _) _ _) _ _) _ _ = u0
  have hBG := hB.over hF hG 0 rfl 0 [_, _, _, _, _] hu0
  clear hB hG hu0
  simp only [List.modify_succ_cons, List.modify_zero_cons, wrAll, List.setIfInBounds_toArray, List.set_cons_zero, List.set_cons_succ, Nat.zero_add, Nat.reduceAdd] at hBG
  obtain ⟨hB, hG⟩ := hBG
  clear u
  obtain ⟨u, rfl⟩ : ∃ x, x = u0 := ⟨_, rfl⟩
  refine NoK.norm (hN _ _ ?_)
  clear hN K
  refine then_norm ?_
  refine wp_seq ?_
  refine wp_rs (w := w) allocs 8 [1, 1, 1, 0, 0, 0, 0, 0] (by kernel_rfl) (by simp only [List.drop_succ_cons, List.drop_nil]; exact rfl) (fun _ => True) noG hB hG trivial ?_
  intro K L hN hL
  simp only [List.zip_cons_cons, List.zip_nil_left]
  refine gx Nat (fun b => .slice (some ⟨b, 0, none⟩) 1 1) (fun b W => Li W (some ⟨b, 0, none⟩) [0]) (fun _ _ _ hg h => h.grow hg) rfl ?_ (fun x24 => ?_)
  · (rintro v ⟨hgu, hB, hG, -⟩ N hN; go_simp; exact hN v.heap.size _ (li_new v [0]) (Grow.alloc _ _))
  refine okf (by simp only [Act.put, List.setIfInBounds_toArray, List.set_cons_succ, List.set_cons_zero]; exact rfl) ?_
  refine gx Nat (fun b => .slice (some ⟨b, 0, none⟩) 1 1) (fun b W => Li W (some ⟨b, 0, none⟩) [2]) (fun _ _ _ hg h => h.grow hg) rfl ?_ (fun x25 => ?_)
  · (rintro v ⟨⟨hgu, hB, hG, -⟩, hx24⟩ N hN; go_simp; exact hN v.heap.size _ (li_new v [2]) (Grow.alloc _ _))
  refine okf (by simp only [Act.put, List.setIfInBounds_toArray, List.set_cons_succ, List.set_cons_zero]; exact rfl) ?_
  apply gm
  · exact rfl
  · (rintro v ⟨⟨⟨hgu, hB, hG, -⟩, hx24⟩, hx25⟩ N hN; go_simp; ((with_reducible refine (known_table _ _ _ hx24 hx25).mono ?_); rintro e w1 ⟨rfl, hb⟩; exact ⟨_, rfl, hN _ hb⟩))
  refine okf (by simp only [Act.put, List.setIfInBounds_toArray, List.set_cons_succ, List.set_cons_zero]; exact rfl) ?_
  apply gy
  · exact rfl
  · (rintro v - N hN; go_simp; exact hN)
  refine okf (by simp only [Act.put, List.setIfInBounds_toArray, List.set_cons_succ, List.set_cons_zero]; exact rfl) ?_
  apply gy
  · exact rfl
  · (rintro v - N hN; go_simp; exact hN)
  refine okf (by simp only [Act.put, List.setIfInBounds_toArray, List.set_cons_succ, List.set_cons_zero]; exact rfl) ?_
  apply gy
  · exact rfl
  · (rintro v - N hN; go_simp; exact hN)
  refine okf (by simp only [Act.put, List.setIfInBounds_toArray, List.set_cons_succ, List.set_cons_zero]; exact rfl) ?_
  apply gy
  · exact rfl
  · (rintro v - N hN; go_simp; exact hN)
  refine okf (by simp only [Act.put, List.setIfInBounds_toArray, List.set_cons_succ, List.set_cons_zero]; exact rfl) ?_
  apply gy
  · exact rfl
  · (rintro v - N hN; go_simp; exact hN)
  refine okf (by simp only [Act.put, List.setIfInBounds_toArray, List.set_cons_succ, List.set_cons_zero]; exact rfl) ?_
  refine gend ?_
  rintro v ⟨⟨⟨hgu, hB1, hG1, -⟩, hx24⟩, hx25⟩
  clear hB hG
  have hB := hB1
  have hG := hG1
  clear hB1 hG1
  refine hL _ _ ?_
  clear hL L hgu
  obtain ⟨u, rfl⟩ : ∃ x, x = v := ⟨_, rfl⟩
  refine wpList_nil ?_
  refine NoK.norm (hN _ _ ?_)
  clear hN K
  refine then_norm ?_
  refine wp_seq ?_
  refine wp_rs (w := w) allocs 8 [1, 1, 1, 0, 0, 0, 0, 0] (by kernel_rfl) (by simp only [List.drop_succ_cons, List.drop_nil]; exact rfl) (fun _ => True) noG hB hG trivial ?_
  intro K L hN hL
  simp only [List.zip_cons_cons, List.zip_nil_left]
  refine gx Nat (fun b => .slice (some ⟨b, 0, none⟩) 2 2) (fun b W => Li W (some ⟨b, 0, none⟩) [1, 2]) (fun _ _ _ hg h => h.grow hg) rfl ?_ (fun x30 => ?_)
  · (rintro v ⟨hgu, hB, hG, -⟩ N hN; go_simp; exact hN v.heap.size _ (li_new v [1, 2]) (Grow.alloc _ _))
  refine okf (by simp only [Act.put, List.setIfInBounds_toArray, List.set_cons_succ, List.set_cons_zero]; exact rfl) ?_
  refine gx Nat (fun b => .slice (some ⟨b, 0, none⟩) 1 1) (fun b W => Lrows W (some ⟨b, 0, none⟩) [(some ⟨x30, 0, none⟩, 2, [1, 2])]) (fun _ _ _ hg h => h.grow hg) rfl ?_ (fun x31 => ?_)
  · (rintro v ⟨⟨hgu, hB, hG, -⟩, hx30⟩ N hN; go_simp; exact hN v.heap.size _ (lrows_new v [(some ⟨x30, 0, none⟩, 2, [1, 2])] (fun r hr => by simp only [List.mem_cons, List.not_mem_nil, or_false] at hr; subst hr; exact hx30)) (Grow.alloc _ _))
  refine okf (by simp only [Act.put, List.setIfInBounds_toArray, List.set_cons_succ, List.set_cons_zero]; exact rfl) ?_
  apply gm
  · exact rfl
  · (rintro v ⟨⟨⟨hgu, hB, hG, -⟩, hx30⟩, hx31⟩ N hN; go_simp; ((with_reducible refine (known_shape _ _ _ hx31).mono ?_); rintro e w1 ⟨rfl, hb⟩; exact ⟨_, rfl, hN _ hb⟩))
  refine okf (by simp only [Act.put, List.setIfInBounds_toArray, List.set_cons_succ, List.set_cons_zero]; exact rfl) ?_
  apply gy
  · exact rfl
  · (rintro v - N hN; go_simp; exact hN)
  refine okf (by simp only [Act.put, List.setIfInBounds_toArray, List.set_cons_succ, List.set_cons_zero]; exact rfl) ?_
  apply gy
  · exact rfl
  · (rintro v - N hN; go_simp; exact hN)
  refine okf (by simp only [Act.put, List.setIfInBounds_toArray, List.set_cons_succ, List.set_cons_zero]; exact rfl) ?_
  apply gy
  · exact rfl
  · (rintro v - N hN; go_simp; exact hN)
  refine okf (by simp only [Act.put, List.setIfInBounds_toArray, List.set_cons_succ, List.set_cons_zero]; exact rfl) ?_
  apply gy
  · exact rfl
  · (rintro v - N hN; go_simp; exact hN)
  refine okf (by simp only [Act.put, List.setIfInBounds_toArray, List.set_cons_succ, List.set_cons_zero]; exact rfl) ?_
  apply gy
  · exact rfl
  · (rintro v - N hN; go_simp; exact hN)
  refine okf (by simp only [Act.put, List.setIfInBounds_toArray, List.set_cons_succ, List.set_cons_zero]; exact rfl) ?_
  refine gend ?_
  rintro v ⟨⟨⟨hgu, hB1, hG1, -⟩, hx30⟩, hx31⟩
  clear hB hG
  have hB := hB1
  have hG := hG1
  clear hB1 hG1
  refine hL _ _ ?_
  clear hL L hgu
  obtain ⟨u, rfl⟩ : ∃ x, x = v := ⟨_, rfl⟩
  refine wpList_nil ?_
  refine NoK.norm (hN _ _ ?_)
  clear hN K
  refine then_norm ?_
  refine wp_seq ?_
  refine wp_rs (w := w) allocs 9 [1, 1, 1, 1, 1, 0, 0, 0, 2] (by kernel_rfl) (by simp only [List.drop_succ_cons, List.drop_zero]; exact rfl) (fun _ => True) noG hB hG trivial ?_
  intro K L hN hL
  simp only [List.zip_cons_cons, List.zip_nil_left]
  apply gm
  · exact rfl
  · (rintro v ⟨hgu, hB, hG, -⟩ N hN; go_simp; ((with_reducible refine (frac_Of 1 (by omega) (by omega) _).mono ?_); rintro e w1 ⟨rfl, hb⟩; exact ⟨_, rfl, hN _ hb⟩))
  refine okf (by simp only [Act.put, List.setIfInBounds_toArray, List.set_cons_succ, List.set_cons_zero]; exact rfl) ?_
  refine gx Nat (fun b => .slice (some ⟨b, 0, none⟩) 1 1) (fun b W => Lq W (some ⟨b, 0, none⟩) [qint 1]) (fun _ _ _ hg h => h.grow hg) rfl ?_ (fun x37 => ?_)
  · (rintro v ⟨hgu, hB, hG, -⟩ N hN; go_simp; exact hN v.heap.size _ (lq_new v [qint 1]) (Grow.alloc _ _))
  refine okf (by simp only [Act.put, List.setIfInBounds_toArray, List.set_cons_succ, List.set_cons_zero]; exact rfl) ?_
  apply gm
  · exact rfl
  · (rintro v ⟨⟨hgu, hB, hG, -⟩, hx37⟩ N hN; go_simp; ((with_reducible refine (frac_Of 1 (by omega) (by omega) _).mono ?_); rintro e w1 ⟨rfl, hb⟩; exact ⟨_, rfl, hN _ hb⟩))
  refine okf (by simp only [Act.put, List.setIfInBounds_toArray, List.set_cons_succ, List.set_cons_zero]; exact rfl) ?_
  refine gx Nat (fun b => .slice (some ⟨b, 0, none⟩) 1 1) (fun b W => Lq W (some ⟨b, 0, none⟩) [qint 1]) (fun _ _ _ hg h => h.grow hg) rfl ?_ (fun x39 => ?_)
  · (rintro v ⟨⟨hgu, hB, hG, -⟩, hx37⟩ N hN; go_simp; exact hN v.heap.size _ (lq_new v [qint 1]) (Grow.alloc _ _))
  refine okf (by simp only [Act.put, List.setIfInBounds_toArray, List.set_cons_succ, List.set_cons_zero]; exact rfl) ?_
  apply gm
  · exact rfl
  · (rintro v ⟨⟨⟨hgu, hB, hG, -⟩, hx37⟩, hx39⟩ N hN; go_simp; ((with_reducible refine (known_told _ _ _ hx37 hx39 (HT.grow hG)).mono ?_); rintro e w1 ⟨rfl, hb⟩; exact ⟨_, rfl, hN _ hb⟩))
  refine okf (by simp only [Act.put, List.setIfInBounds_toArray, List.set_cons_succ, List.set_cons_zero]; exact rfl) ?_
  apply gy
  · exact rfl
  · (rintro v - N hN; go_simp; exact hN)
  refine okf (by simp only [Act.put, List.setIfInBounds_toArray, List.set_cons_succ, List.set_cons_zero]; exact rfl) ?_
  apply gy
  · exact rfl
  · (rintro v - N hN; go_simp; exact hN)
  refine okf (by simp only [Act.put, List.setIfInBounds_toArray, List.set_cons_succ, List.set_cons_zero]; exact rfl) ?_
  apply gy
  · exact rfl
  · (rintro v - N hN; go_simp; exact hN)
  refine okf (by simp only [Act.put, List.setIfInBounds_toArray, List.set_cons_succ, List.set_cons_zero]; exact rfl) ?_
  refine ga (newObj_Q _ _ _ _ _) fun b7 hb7 hn7 => ?_
  refine okf (by simp only [Act.put, List.setIfInBounds_toArray, List.set_cons_succ, List.set_cons_zero]; exact rfl) ?_
  refine gend ?_
  rintro v ⟨⟨⟨⟨hgu, hB1, hG1, -⟩, hx37⟩, hx39⟩, h7⟩
  have hF := Fr.new (tk := []) hF hB hG hb7 hn7
  simp only [List.cons_append, List.nil_append, List.map_cons, List.map_nil] at hF
  clear hx37 hx39
  clear hB hG
  have hB := (Bx.cons h7 hB1)
  have hG := hG1
  clear hB1 hG1 h7
  refine hL _ _ ?_
  clear hL L hgu
  obtain ⟨u, rfl⟩ : ∃ x, x = v := ⟨_, rfl⟩
  have r := hB.r
  simp only [BxR] at r
  go_wp2_with fail
  clear r
  generalize hu0 : World.setCell (World.setCell (World.setCell (World.setCell (World.setCell u _ _) _ _) _ _) _ _) _ _ = u0
  have hBG := hB.over hF hG 0 rfl 0 [_, _, _, _, _] hu0
  clear hB hG hu0
  simp only [List.modify_succ_cons, List.modify_zero_cons, wrAll, List.setIfInBounds_toArray, List.set_cons_zero, List.set_cons_succ, Nat.zero_add, Nat.reduceAdd] at hBG
  obtain ⟨hB, hG⟩ := hBG
  clear u
  obtain ⟨u, rfl⟩ : ∃ x, x = u0 := ⟨_, rfl⟩
  refine NoK.norm (hN _ _ ?_)
  clear hN K
  refine then_norm ?_
  refine wp_seq ?_
  refine wp_rs (w := w) allocs 10 [1, 1, 1, 1, 1, 1, 0, 0, 0, 2] (by kernel_rfl) (by simp only [List.drop_succ_cons, List.drop_zero]; exact rfl) (fun _ => True) noG hB hG trivial ?_
  intro K L hN hL
  simp only [List.zip_cons_cons, List.zip_nil_left]
  apply gm
  · exact rfl
  · (rintro v ⟨hgu, hB, hG, -⟩ N hN; go_simp; ((with_reducible refine (frac_Of 1 (by omega) (by omega) _).mono ?_); rintro e w1 ⟨rfl, hb⟩; exact ⟨_, rfl, hN _ hb⟩))
  refine okf (by simp only [Act.put, List.setIfInBounds_toArray, List.set_cons_succ, List.set_cons_zero]; exact rfl) ?_
  refine gx Nat (fun b => .slice (some ⟨b, 0, none⟩) 1 1) (fun b W => Lq W (some ⟨b, 0, none⟩) [qint 1]) (fun _ _ _ hg h => h.grow hg) rfl ?_ (fun x45 => ?_)
  · (rintro v ⟨hgu, hB, hG, -⟩ N hN; go_simp; exact hN v.heap.size _ (lq_new v [qint 1]) (Grow.alloc _ _))
  refine okf (by simp only [Act.put, List.setIfInBounds_toArray, List.set_cons_succ, List.set_cons_zero]; exact rfl) ?_
  apply gm
  · exact rfl
  · (rintro v ⟨⟨hgu, hB, hG, -⟩, hx45⟩ N hN; go_simp; ((with_reducible refine (frac_Of 1 (by omega) (by omega) _).mono ?_); rintro e w1 ⟨rfl, hb⟩; exact ⟨_, rfl, hN _ hb⟩))
  refine okf (by simp only [Act.put, List.setIfInBounds_toArray, List.set_cons_succ, List.set_cons_zero]; exact rfl) ?_
  refine gx Nat (fun b => .slice (some ⟨b, 0, none⟩) 1 1) (fun b W => Lq W (some ⟨b, 0, none⟩) [qint 1]) (fun _ _ _ hg h => h.grow hg) rfl ?_ (fun x47 => ?_)
  · (rintro v ⟨⟨hgu, hB, hG, -⟩, hx45⟩ N hN; go_simp; exact hN v.heap.size _ (lq_new v [qint 1]) (Grow.alloc _ _))
  refine okf (by simp only [Act.put, List.setIfInBounds_toArray, List.set_cons_succ, List.set_cons_zero]; exact rfl) ?_
  apply gm
  · exact rfl
  · (rintro v ⟨⟨⟨hgu, hB, hG, -⟩, hx45⟩, hx47⟩ N hN; go_simp; ((with_reducible refine (frac_Of 2 (by omega) (by omega) _).mono ?_); rintro e w1 ⟨rfl, hb⟩; exact ⟨_, rfl, hN _ hb⟩))
  refine okf (by simp only [Act.put, List.setIfInBounds_toArray, List.set_cons_succ, List.set_cons_zero]; exact rfl) ?_
  apply gm
  · exact rfl
  · (rintro v ⟨⟨⟨hgu, hB, hG, -⟩, hx45⟩, hx47⟩ N hN; go_simp; ((with_reducible refine (known_tilt _ _ _ (HT.grow hG)).mono ?_); rintro e w1 ⟨rfl, hb⟩; exact ⟨_, rfl, hN _ hb⟩))
  refine okf (by simp only [Act.put, List.setIfInBounds_toArray, List.set_cons_succ, List.set_cons_zero]; exact rfl) ?_
  apply gy
  · exact rfl
  · (rintro v - N hN; go_simp; exact hN)
  refine okf (by simp only [Act.put, List.setIfInBounds_toArray, List.set_cons_succ, List.set_cons_zero]; exact rfl) ?_
  apply gy
  · exact rfl
  · (rintro v - N hN; go_simp; exact hN)
  refine okf (by simp only [Act.put, List.setIfInBounds_toArray, List.set_cons_succ, List.set_cons_zero]; exact rfl) ?_
  apply gy
  · exact rfl
  · (rintro v - N hN; go_simp; exact hN)
  refine okf (by simp only [Act.put, List.setIfInBounds_toArray, List.set_cons_succ, List.set_cons_zero]; exact rfl) ?_
  refine ga (newObj_Q _ _ _ _ _) fun b9 hb9 hn9 => ?_
  refine okf (by simp only [Act.put, List.setIfInBounds_toArray, List.set_cons_succ, List.set_cons_zero]; exact rfl) ?_
  refine gend ?_
  rintro v ⟨⟨⟨⟨hgu, hB1, hG1, -⟩, hx45⟩, hx47⟩, h9⟩
  have hF := Fr.new (tk := []) hF hB hG hb9 hn9
  simp only [List.cons_append, List.nil_append, List.map_cons, List.map_nil] at hF
  clear hx45 hx47
  clear hB hG
  have hB := (Bx.cons h9 hB1)
  have hG := hG1
  clear hB1 hG1 h9
  refine hL _ _ ?_
  clear hL L hgu
  obtain ⟨u, rfl⟩ : ∃ x, x = v := ⟨_, rfl⟩
  have r := hB.r
  simp only [BxR] at r
  go_wp2_with fail
  clear r
  generalize hu0 : World.setCell (World.setCell (World.setCell (World.setCell (World.setCell u _ _) _ _) _ _) _ _) _ _ = u0
  have hBG := hB.over hF hG 0 rfl 0 [_, _, _, _, _] hu0
  clear hB hG hu0
  simp only [List.modify_succ_cons, List.modify_zero_cons, wrAll, List.setIfInBounds_toArray, List.set_cons_zero, List.set_cons_succ, Nat.zero_add, Nat.reduceAdd] at hBG
  obtain ⟨hB, hG⟩ := hBG
  clear u
  obtain ⟨u, rfl⟩ : ∃ x, x = u0 := ⟨_, rfl⟩
  refine NoK.norm (hN _ _ ?_)
  clear hN K
  refine then_norm ?_
  refine wp_seq ?_
  refine wp_rs (w := w) allocs 8 [1, 1, 1, 1, 0, 0, 0, 2] (by kernel_rfl) (by simp only [List.drop_succ_cons, List.drop_zero]; exact rfl) (fun _ => True) noG hB hG trivial ?_
  intro K L hN hL
  simp only [List.zip_cons_cons, List.zip_nil_left]
  refine gx Nat (fun b => .slice (some ⟨b, 0, none⟩) 1 1) (fun b W => Lb W (some ⟨b, 0, none⟩) [true]) (fun _ _ _ hg h => h.grow hg) rfl ?_ (fun x53 => ?_)
  · (rintro v ⟨hgu, hB, hG, -⟩ N hN; go_simp; exact hN v.heap.size _ (lb_new v [true]) (Grow.alloc _ _))
  refine okf (by simp only [Act.put, List.setIfInBounds_toArray, List.set_cons_succ, List.set_cons_zero]; exact rfl) ?_
  apply gm
  · exact rfl
  · (rintro v ⟨⟨hgu, hB, hG, -⟩, hx53⟩ N hN; go_simp; ((with_reducible refine (frac_Of 1 (by omega) (by omega) _).mono ?_); rintro e w1 ⟨rfl, hb⟩; exact ⟨_, rfl, hN _ hb⟩))
  refine okf (by simp only [Act.put, List.setIfInBounds_toArray, List.set_cons_succ, List.set_cons_zero]; exact rfl) ?_
  refine gx Nat (fun b => .slice (some ⟨b, 0, none⟩) 1 1) (fun b W => Lq W (some ⟨b, 0, none⟩) [qint 1]) (fun _ _ _ hg h => h.grow hg) rfl ?_ (fun x55 => ?_)
  · (rintro v ⟨⟨hgu, hB, hG, -⟩, hx53⟩ N hN; go_simp; exact hN v.heap.size _ (lq_new v [qint 1]) (Grow.alloc _ _))
  refine okf (by simp only [Act.put, List.setIfInBounds_toArray, List.set_cons_succ, List.set_cons_zero]; exact rfl) ?_
  apply gm
  · exact rfl
  · (rintro v ⟨⟨⟨hgu, hB, hG, -⟩, hx53⟩, hx55⟩ N hN; go_simp; ((with_reducible refine (known_none _ _ _ hx53).mono ?_); rintro e w1 ⟨rfl, hb⟩; exact ⟨_, rfl, hN _ hb⟩))
  refine okf (by simp only [Act.put, List.setIfInBounds_toArray, List.set_cons_succ, List.set_cons_zero]; exact rfl) ?_
  apply gy
  · exact rfl
  · (rintro v - N hN; go_simp; exact hN)
  refine okf (by simp only [Act.put, List.setIfInBounds_toArray, List.set_cons_succ, List.set_cons_zero]; exact rfl) ?_
  apply gy
  · exact rfl
  · (rintro v - N hN; go_simp; exact hN)
  refine okf (by simp only [Act.put, List.setIfInBounds_toArray, List.set_cons_succ, List.set_cons_zero]; exact rfl) ?_
  apply gy
  · exact rfl
  · (rintro v - N hN; go_simp; exact hN)
  refine okf (by simp only [Act.put, List.setIfInBounds_toArray, List.set_cons_succ, List.set_cons_zero]; exact rfl) ?_
  refine ga (newObj_Q _ _ _ _ _) fun b11 hb11 hn11 => ?_
  refine okf (by simp only [Act.put, List.setIfInBounds_toArray, List.set_cons_succ, List.set_cons_zero]; exact rfl) ?_
  refine gend ?_
  rintro v ⟨⟨⟨⟨hgu, hB1, hG1, -⟩, hx53⟩, hx55⟩, h11⟩
  have hF := Fr.new (tk := []) hF hB hG hb11 hn11
  simp only [List.cons_append, List.nil_append, List.map_cons, List.map_nil] at hF
  clear hx53 hx55
  clear hB hG
  have hB := (Bx.cons h11 hB1)
  have hG := hG1
  clear hB1 hG1 h11
  refine hL _ _ ?_
  clear hL L hgu
  obtain ⟨u, rfl⟩ : ∃ x, x = v := ⟨_, rfl⟩
  have r := hB.r
  simp only [BxR] at r
  go_wp2_with fail
  clear r
  generalize hu0 : World.setCell (World.setCell (World.setCell (World.setCell (World.setCell u _ _) _ _) _ _) _ _) _ _ = u0
  have hBG := hB.over hF hG 0 rfl 0 [_, _, _, _, _] hu0
  clear hB hG hu0
  simp only [List.modify_succ_cons, List.modify_zero_cons, wrAll, List.setIfInBounds_toArray, List.set_cons_zero, List.set_cons_succ, Nat.zero_add, Nat.reduceAdd] at hBG
  obtain ⟨hB, hG⟩ := hBG
  clear u
  obtain ⟨u, rfl⟩ : ∃ x, x = u0 := ⟨_, rfl⟩
  refine NoK.norm (hN _ _ ?_)
  clear hN K
  refine then_norm ?_
  refine wp_seq ?_
  refine wp_rs (w := w) allocs 10 [1, 1, 1, 1, 1, 1, 0, 0, 0, 2] (by kernel_rfl) (by simp only [List.drop_succ_cons, List.drop_zero]; exact rfl) (fun _ => True) noG hB hG trivial ?_
  intro K L hN hL
  simp only [List.zip_cons_cons, List.zip_nil_left]
  refine gx Nat (fun b => .slice (some ⟨b, 0, none⟩) 3 3) (fun b W => Lb W (some ⟨b, 0, none⟩) [true, false, true]) (fun _ _ _ hg h => h.grow hg) rfl ?_ (fun x60 => ?_)
  · (rintro v ⟨hgu, hB, hG, -⟩ N hN; go_simp; exact hN v.heap.size _ (lb_new v [true, false, true]) (Grow.alloc _ _))
  refine okf (by simp only [Act.put, List.setIfInBounds_toArray, List.set_cons_succ, List.set_cons_zero]; exact rfl) ?_
  apply gm
  · exact rfl
  · (rintro v ⟨⟨hgu, hB, hG, -⟩, hx60⟩ N hN; go_simp; ((with_reducible refine (frac_Of 3 (by omega) (by omega) _).mono ?_); rintro e w1 ⟨rfl, hb⟩; exact ⟨_, rfl, hN _ hb⟩))
  refine okf (by simp only [Act.put, List.setIfInBounds_toArray, List.set_cons_succ, List.set_cons_zero]; exact rfl) ?_
  apply gm
  · exact rfl
  · (rintro v ⟨⟨hgu, hB, hG, -⟩, hx60⟩ N hN; go_simp; ((with_reducible refine (frac_Of 2 (by omega) (by omega) _).mono ?_); rintro e w1 ⟨rfl, hb⟩; exact ⟨_, rfl, hN _ hb⟩))
  refine okf (by simp only [Act.put, List.setIfInBounds_toArray, List.set_cons_succ, List.set_cons_zero]; exact rfl) ?_
  apply gm
  · exact rfl
  · (rintro v ⟨⟨hgu, hB, hG, -⟩, hx60⟩ N hN; go_simp; ((with_reducible refine (frac_Of 2 (by omega) (by omega) _).mono ?_); rintro e w1 ⟨rfl, hb⟩; exact ⟨_, rfl, hN _ hb⟩))
  refine okf (by simp only [Act.put, List.setIfInBounds_toArray, List.set_cons_succ, List.set_cons_zero]; exact rfl) ?_
  refine gx Nat (fun b => .slice (some ⟨b, 0, none⟩) 3 3) (fun b W => Lq W (some ⟨b, 0, none⟩) [qint 3, qint 2, qint 2]) (fun _ _ _ hg h => h.grow hg) rfl ?_ (fun x64 => ?_)
  · (rintro v ⟨⟨hgu, hB, hG, -⟩, hx60⟩ N hN; go_simp; exact hN v.heap.size _ (lq_new v [qint 3, qint 2, qint 2]) (Grow.alloc _ _))
  refine okf (by simp only [Act.put, List.setIfInBounds_toArray, List.set_cons_succ, List.set_cons_zero]; exact rfl) ?_
  apply gm
  · exact rfl
  · (rintro v ⟨⟨⟨hgu, hB, hG, -⟩, hx60⟩, hx64⟩ N hN; go_simp; ((with_reducible refine (known_areas _ _ _ hx60 hx64 (HT.grow hG)).mono ?_); rintro e w1 ⟨rfl, hb⟩; exact ⟨_, rfl, hN _ hb⟩))
  refine okf (by simp only [Act.put, List.setIfInBounds_toArray, List.set_cons_succ, List.set_cons_zero]; exact rfl) ?_
  apply gy
  · exact rfl
  · (rintro v - N hN; go_simp; exact hN)
  refine okf (by simp only [Act.put, List.setIfInBounds_toArray, List.set_cons_succ, List.set_cons_zero]; exact rfl) ?_
  apply gy
  · exact rfl
  · (rintro v - N hN; go_simp; exact hN)
  refine okf (by simp only [Act.put, List.setIfInBounds_toArray, List.set_cons_succ, List.set_cons_zero]; exact rfl) ?_
  apply gy
  · exact rfl
  · (rintro v - N hN; go_simp; exact hN)
  refine okf (by simp only [Act.put, List.setIfInBounds_toArray, List.set_cons_succ, List.set_cons_zero]; exact rfl) ?_
  refine ga (newObj_Q _ _ _ _ _) fun b13 hb13 hn13 => ?_
  refine okf (by simp only [Act.put, List.setIfInBounds_toArray, List.set_cons_succ, List.set_cons_zero]; exact rfl) ?_
  refine gend ?_
  rintro v ⟨⟨⟨⟨hgu, hB1, hG1, -⟩, hx60⟩, hx64⟩, h13⟩
  have hF := Fr.new (tk := []) hF hB hG hb13 hn13
  simp only [List.cons_append, List.nil_append, List.map_cons, List.map_nil] at hF
  clear hx60 hx64
  clear hB hG
  have hB := (Bx.cons h13 hB1)
  have hG := hG1
  clear hB1 hG1 h13
  refine hL _ _ ?_
  clear hL L hgu
  obtain ⟨u, rfl⟩ : ∃ x, x = v := ⟨_, rfl⟩
  have r := hB.r
  simp only [BxR] at r
  go_wp2_with fail
  clear r
  generalize hu0 : World.setCell (World.setCell (World.setCell (World.setCell (World.setCell u _ _) _ _) _ _) _ _) _ _ = u0
  have hBG := hB.over hF hG 0 rfl 0 [_, _, _, _, _] hu0
  clear hB hG hu0
  simp only [List.modify_succ_cons, List.modify_zero_cons, wrAll, List.setIfInBounds_toArray, List.set_cons_zero, List.set_cons_succ, Nat.zero_add, Nat.reduceAdd] at hBG
  obtain ⟨hB, hG⟩ := hBG
  clear u
  obtain ⟨u, rfl⟩ : ∃ x, x = u0 := ⟨_, rfl⟩
  refine NoK.norm (hN _ _ ?_)
  clear hN K
  refine then_norm ?_
  refine wp_seq ?_
  refine wp_rs (w := w) allocs 9 [1, 1, 1, 1, 0, 0, 0, 0, 0] (by kernel_rfl) (by simp only [List.drop_succ_cons, List.drop_nil]; exact rfl) (fun _ => True) noG hB hG trivial ?_
  intro K L hN hL
  simp only [List.zip_cons_cons, List.zip_nil_left]
  refine gx Nat (fun b => .slice (some ⟨b, 0, none⟩) 2 2) (fun b W => Li W (some ⟨b, 0, none⟩) [0, 0]) (fun _ _ _ hg h => h.grow hg) rfl ?_ (fun x69 => ?_)
  · (rintro v ⟨hgu, hB, hG, -⟩ N hN; go_simp; exact hN v.heap.size _ (li_new v [0, 0]) (Grow.alloc _ _))
  refine okf (by simp only [Act.put, List.setIfInBounds_toArray, List.set_cons_succ, List.set_cons_zero]; exact rfl) ?_
  refine gx Nat (fun b => .slice (some ⟨b, 0, none⟩) 2 2) (fun b W => Li W (some ⟨b, 0, none⟩) [1, 1]) (fun _ _ _ hg h => h.grow hg) rfl ?_ (fun x70 => ?_)
  · (rintro v ⟨⟨hgu, hB, hG, -⟩, hx69⟩ N hN; go_simp; exact hN v.heap.size _ (li_new v [1, 1]) (Grow.alloc _ _))
  refine okf (by simp only [Act.put, List.setIfInBounds_toArray, List.set_cons_succ, List.set_cons_zero]; exact rfl) ?_
  refine gx Nat (fun b => .slice (some ⟨b, 0, none⟩) 2 2) (fun b W => Lrows W (some ⟨b, 0, none⟩) [(some ⟨x69, 0, none⟩, 2, [0, 0]), (some ⟨x70, 0, none⟩, 2, [1, 1])]) (fun _ _ _ hg h => h.grow hg) rfl ?_ (fun x71 => ?_)
  · (rintro v ⟨⟨⟨hgu, hB, hG, -⟩, hx69⟩, hx70⟩ N hN; go_simp; exact hN v.heap.size _ (lrows_new v [(some ⟨x69, 0, none⟩, 2, [0, 0]), (some ⟨x70, 0, none⟩, 2, [1, 1])] (fun r hr => by simp only [List.mem_cons, List.not_mem_nil, or_false] at hr; rcases hr with rfl | rfl <;> first | exact hx69 | exact hx70)) (Grow.alloc _ _))
  refine okf (by simp only [Act.put, List.setIfInBounds_toArray, List.set_cons_succ, List.set_cons_zero]; exact rfl) ?_
  refine gx (Nat) (fun x => .tuple #[.slice (some ⟨x, 0, none⟩) 2 2, .int .i64 0]) (KR u.heap.size) (fun _ _ _ hg h => h.grow hg) rfl ?_ (fun x72 => ?_)
  · (rintro v ⟨⟨⟨⟨hgu, hB, hG, -⟩, hx69⟩, hx70⟩, hx71⟩ N hN; go_simp; ((with_reducible refine (known_ratesY _ _ _ _ _ hgu.sz hx71 (HT.grow hG)).mono ?_); rintro e w1 ⟨x, rfl, hx, hg⟩; exact ⟨_, rfl, hN x w1 hx hg⟩))
  refine okf (by simp only [Act.put, List.setIfInBounds_toArray, List.set_cons_succ, List.set_cons_zero]; exact rfl) ?_
  apply gy
  · exact rfl
  · (rintro v - N hN; go_simp; exact hN)
  refine okf (by simp only [Act.put, List.setIfInBounds_toArray, List.set_cons_succ, List.set_cons_zero]; exact rfl) ?_
  apply gy
  · exact rfl
  · (rintro v - N hN; go_simp; exact hN)
  refine okf (by simp only [Act.put, List.setIfInBounds_toArray, List.set_cons_succ, List.set_cons_zero]; exact rfl) ?_
  apply gy
  · exact rfl
  · (rintro v - N hN; go_simp; exact hN)
  refine okf (by simp only [Act.put, List.setIfInBounds_toArray, List.set_cons_succ, List.set_cons_zero]; exact rfl) ?_
  apply gy
  · exact rfl
  · (rintro v - N hN; go_simp; exact hN)
  refine okf (by simp only [Act.put, List.setIfInBounds_toArray, List.set_cons_succ, List.set_cons_zero]; exact rfl) ?_
  apply gy
  · exact rfl
  · (rintro v - N hN; go_simp; exact hN)
  refine okf (by simp only [Act.put, List.setIfInBounds_toArray, List.set_cons_succ, List.set_cons_zero]; exact rfl) ?_
  refine gend ?_
  rintro v ⟨⟨⟨⟨⟨hgu, hB1, hG1, -⟩, hx69⟩, hx70⟩, hx71⟩, hx72⟩
  obtain ⟨b72, rfl⟩ : ∃ b, b = x72 := ⟨_, rfl⟩
  have hF := Fr.new (tk := []) hF hB hG hx72.1 (by simp)
  simp only [List.cons_append, List.nil_append, List.map_cons, List.map_nil] at hF
  have hB1 := Bx.cons hx72.2 hB1
  clear hB hG
  have hB := hB1
  have hG := hG1
  clear hB1 hG1
  refine hL _ _ ?_
  clear hL L hgu
  obtain ⟨u, rfl⟩ : ∃ x, x = v := ⟨_, rfl⟩
  refine wpList_nil ?_
  refine NoK.norm (hN _ _ ?_)
  clear hN K
  refine then_norm ?_
  refine wp_seq ?_
  refine wp_rs (w := w) allocs 10 [1, 1, 1, 1, 1, 1, 0, 0, 0, 2] (by kernel_rfl) (by simp only [List.drop_succ_cons, List.drop_zero]; exact rfl) (fun _ => True) noG hB hG trivial ?_
  intro K L hN hL
  simp only [List.zip_cons_cons, List.zip_nil_left]
  refine gx Nat (fun b => .slice (some ⟨b, 0, none⟩) 1 1) (fun b W => Li W (some ⟨b, 0, none⟩) [2]) (fun _ _ _ hg h => h.grow hg) rfl ?_ (fun x76 => ?_)
  · (rintro v ⟨hgu, hB, hG, -⟩ N hN; go_simp; exact hN v.heap.size _ (li_new v [2]) (Grow.alloc _ _))
  refine okf (by simp only [Act.put, List.setIfInBounds_toArray, List.set_cons_succ, List.set_cons_zero]; exact rfl) ?_
  apply gm
  · exact rfl
  · (rintro v ⟨⟨hgu, hB, hG, -⟩, hx76⟩ N hN; go_simp; ((with_reducible refine (frac_Of 1 (by omega) (by omega) _).mono ?_); rintro e w1 ⟨rfl, hb⟩; exact ⟨_, rfl, hN _ hb⟩))
  refine okf (by simp only [Act.put, List.setIfInBounds_toArray, List.set_cons_succ, List.set_cons_zero]; exact rfl) ?_
  apply gm
  · exact rfl
  · (rintro v ⟨⟨hgu, hB, hG, -⟩, hx76⟩ N hN; go_simp; ((with_reducible refine (frac_Of 0 (by omega) (by omega) _).mono ?_); rintro e w1 ⟨rfl, hb⟩; exact ⟨_, rfl, hN _ hb⟩))
  refine okf (by simp only [Act.put, List.setIfInBounds_toArray, List.set_cons_succ, List.set_cons_zero]; exact rfl) ?_
  refine gx Nat (fun b => .slice (some ⟨b, 0, none⟩) 2 2) (fun b W => Lq W (some ⟨b, 0, none⟩) [qint 1, qint 0]) (fun _ _ _ hg h => h.grow hg) rfl ?_ (fun x79 => ?_)
  · (rintro v ⟨⟨hgu, hB, hG, -⟩, hx76⟩ N hN; go_simp; exact hN v.heap.size _ (lq_new v [qint 1, qint 0]) (Grow.alloc _ _))
  refine okf (by simp only [Act.put, List.setIfInBounds_toArray, List.set_cons_succ, List.set_cons_zero]; exact rfl) ?_
  refine gx Nat (fun b => .slice (some ⟨b, 0, none⟩) 1 1) (fun b W => Lrq W (some ⟨b, 0, none⟩) [(some ⟨x79, 0, none⟩, 2, [qint 1, qint 0])]) (fun _ _ _ hg h => h.grow hg) rfl ?_ (fun x80 => ?_)
  · (rintro v ⟨⟨⟨hgu, hB, hG, -⟩, hx76⟩, hx79⟩ N hN; go_simp; exact hN v.heap.size _ (lrq_new v [(some ⟨x79, 0, none⟩, 2, [qint 1, qint 0])] (fun r hr => by simp only [List.mem_cons, List.not_mem_nil, or_false] at hr; subst hr; exact hx79)) (Grow.alloc _ _))
  refine okf (by simp only [Act.put, List.setIfInBounds_toArray, List.set_cons_succ, List.set_cons_zero]; exact rfl) ?_
  apply gm
  · exact rfl
  · (rintro v ⟨⟨⟨⟨hgu, hB, hG, -⟩, hx76⟩, hx79⟩, hx80⟩ N hN; go_simp; ((with_reducible refine (known_brier _ _ _ _ hx76 hx80).mono ?_); rintro e w1 ⟨rfl, hb⟩; exact ⟨_, rfl, hN _ hb⟩))
  refine okf (by simp only [Act.put, List.setIfInBounds_toArray, List.set_cons_succ, List.set_cons_zero]; exact rfl) ?_
  apply gy
  · exact rfl
  · (rintro v - N hN; go_simp; exact hN)
  refine okf (by simp only [Act.put, List.setIfInBounds_toArray, List.set_cons_succ, List.set_cons_zero]; exact rfl) ?_
  apply gy
  · exact rfl
  · (rintro v - N hN; go_simp; exact hN)
  refine okf (by simp only [Act.put, List.setIfInBounds_toArray, List.set_cons_succ, List.set_cons_zero]; exact rfl) ?_
  apply gy
  · exact rfl
  · (rintro v - N hN; go_simp; exact hN)
  refine okf (by simp only [Act.put, List.setIfInBounds_toArray, List.set_cons_succ, List.set_cons_zero]; exact rfl) ?_
  refine ga (newObj_Q _ _ _ _ _) fun b17 hb17 hn17 => ?_
  refine okf (by simp only [Act.put, List.setIfInBounds_toArray, List.set_cons_succ, List.set_cons_zero]; exact rfl) ?_
  refine gend ?_
  rintro v ⟨⟨⟨⟨⟨hgu, hB1, hG1, -⟩, hx76⟩, hx79⟩, hx80⟩, h17⟩
  have hF := Fr.new (tk := []) hF hB hG hb17 hn17
  simp only [List.cons_append, List.nil_append, List.map_cons, List.map_nil] at hF
  clear hx76 hx79 hx80
  clear hB hG
  have hB := (Bx.cons h17 hB1)
  have hG := hG1
  clear hB1 hG1 h17
  refine hL _ _ ?_
  clear hL L hgu
  obtain ⟨u, rfl⟩ : ∃ x, x = v := ⟨_, rfl⟩
  have r := hB.r
  simp only [BxR] at r
  go_wp2_with fail
  clear r
  generalize hu0 : World.setCell (World.setCell (World.setCell (World.setCell (World.setCell u _ _) _ _) _ _) _ _) _ _ = u0
  have hBG := hB.over hF hG 0 rfl 0 [_, _, _, _, _] hu0
  clear hB hG hu0
  simp only [List.modify_succ_cons, List.modify_zero_cons, wrAll, List.setIfInBounds_toArray, List.set_cons_zero, List.set_cons_succ, Nat.zero_add, Nat.reduceAdd] at hBG
  obtain ⟨hB, hG⟩ := hBG
  clear u
  obtain ⟨u, rfl⟩ : ∃ x, x = u0 := ⟨_, rfl⟩
  refine NoK.norm (hN _ _ ?_)
  clear hN K
  refine then_norm ?_
  refine wp_seq ?_
  simp only [List.append_eq, List.cons_append, List.nil_append]
  obtain ⟨KC, hKC⟩ : ∃ x, x = cellsR [(qover 0 1, 0, 0), (1, qover 1 2, qover 2 3)] := ⟨_, rfl⟩
  rw [← hKC] at hB
  have k0 : KC[0]? = some (.bool (intNeg (qover 0 1).num)) := by rw [hKC]; rfl
  have k1 : KC[1]? = some (.int .u64 (natLo (qover 0 1).num.natAbs)) := by rw [hKC]; rfl
  have k2 : KC[2]? = some (.string (natMo (qover 0 1).num.natAbs)) := by rw [hKC]; rfl
  have k3 : KC[3]? = some (.int .u64 (natLo (keptDen (qover 0 1).den))) := by rw [hKC]; rfl
  have k4 : KC[4]? = some (.string (natMo (keptDen (qover 0 1).den))) := by rw [hKC]; rfl
  have k20 : KC[20]? = some (.bool (intNeg (qover 1 2).num)) := by rw [hKC]; rfl
  have k21 : KC[21]? = some (.int .u64 (natLo (qover 1 2).num.natAbs)) := by rw [hKC]; rfl
  have k22 : KC[22]? = some (.string (natMo (qover 1 2).num.natAbs)) := by rw [hKC]; rfl
  have k23 : KC[23]? = some (.int .u64 (natLo (keptDen (qover 1 2).den))) := by rw [hKC]; rfl
  have k24 : KC[24]? = some (.string (natMo (keptDen (qover 1 2).den))) := by rw [hKC]; rfl
  have k25 : KC[25]? = some (.bool (intNeg (qover 2 3).num)) := by rw [hKC]; rfl
  have k26 : KC[26]? = some (.int .u64 (natLo (qover 2 3).num.natAbs)) := by rw [hKC]; rfl
  have k27 : KC[27]? = some (.string (natMo (qover 2 3).num.natAbs)) := by rw [hKC]; rfl
  have k28 : KC[28]? = some (.int .u64 (natLo (keptDen (qover 2 3).den))) := by rw [hKC]; rfl
  have k29 : KC[29]? = some (.string (natMo (keptDen (qover 2 3).den))) := by rw [hKC]; rfl
  clear hKC
  refine wp_rs (w := w) allocs 68 [1, 0, 0, 0, 0, 0, 0, 0, 0, 0, 0, 0, 0, 0, 0, 0, 0, 0, 0, 0, 0, 0, 0, 0, 0, 0, 0, 0, 0, 0, 0, 1, 0, 0, 0, 0, 0, 0, 0, 0, 0, 0, 0, 0, 0, 0, 0, 1, 0, 0, 0, 0, 0, 0, 1, 0, 0, 0, 0, 0, 0, 1, 0, 0, 0, 0, 0, 0] (by kernel_rfl) (by simp only [List.drop_succ_cons, List.drop_nil]; exact rfl) (fun _ => True) noG hB hG trivial ?_
  intro K L hN hL
  simp only [List.zip_cons_cons, List.zip_nil_left]
  apply gm
  · exact rfl
  · (rintro v ⟨hgu, hB, hG, -⟩ N hN; go_simp; ((with_reducible refine (law9_known _ (HT.grow hG)).mono ?_); rintro e w1 ⟨rfl, hb⟩; exact ⟨_, rfl, hN _ hb⟩))
  refine okf (by simp only [Act.put, List.setIfInBounds_toArray, List.set_cons_succ, List.set_cons_zero]; exact rfl) ?_
  apply gy
  · exact rfl
  · (rintro v - N hN; go_simp; exact hN)
  refine okf (by simp only [Act.put, List.setIfInBounds_toArray, List.set_cons_succ, List.set_cons_zero]; exact rfl) ?_
  first
    | (apply gy
       · exact rfl
       · (rintro v - N hN; go_simp; exact hN))
    | (apply gn; exact rfl)
  refine okf (by simp only [Act.put, List.setIfInBounds_toArray, List.set_cons_succ, List.set_cons_zero]; exact rfl) ?_
  first
    | (apply gy
       · exact rfl
       · (rintro v - N hN; go_simp; exact hN))
    | (apply gn; exact rfl)
  refine okf (by simp only [Act.put, List.setIfInBounds_toArray, List.set_cons_succ, List.set_cons_zero]; exact rfl) ?_
  apply gy
  · exact rfl
  · (rintro v - N hN; go_simp; exact hN)
  refine okf (by simp only [Act.put, List.setIfInBounds_toArray, List.set_cons_succ, List.set_cons_zero]; exact rfl) ?_
  apply gy
  · exact rfl
  · (rintro v - N hN; go_simp; exact hN)
  refine okf (by simp only [Act.put, List.setIfInBounds_toArray, List.set_cons_succ, List.set_cons_zero]; exact rfl) ?_
  first
    | (apply gy
       · exact rfl
       · (rintro v - N hN; go_simp; exact hN))
    | (apply gn; exact rfl)
  refine okf (by simp only [Act.put, List.setIfInBounds_toArray, List.set_cons_succ, List.set_cons_zero]; exact rfl) ?_
  first
    | (apply gy
       · exact rfl
       · (rintro v - N hN; go_simp; exact hN))
    | (apply gn; exact rfl)
  refine okf (by simp only [Act.put, List.setIfInBounds_toArray, List.set_cons_succ, List.set_cons_zero]; exact rfl) ?_
  apply gy
  · exact rfl
  · (rintro v - N hN; go_simp; exact hN)
  refine okf (by simp only [Act.put, List.setIfInBounds_toArray, List.set_cons_succ, List.set_cons_zero]; exact rfl) ?_
  apply gy
  · exact rfl
  · (rintro v - N hN; go_simp; exact hN)
  refine okf (by simp only [Act.put, List.setIfInBounds_toArray, List.set_cons_succ, List.set_cons_zero]; exact rfl) ?_
  first
    | (apply gy
       · exact rfl
       · (rintro v - N hN; go_simp; exact hN))
    | (apply gn; exact rfl)
  refine okf (by simp only [Act.put, List.setIfInBounds_toArray, List.set_cons_succ, List.set_cons_zero]; exact rfl) ?_
  first
    | (apply gy
       · exact rfl
       · (rintro v - N hN; go_simp; exact hN))
    | (apply gn; exact rfl)
  refine okf (by simp only [Act.put, List.setIfInBounds_toArray, List.set_cons_succ, List.set_cons_zero]; exact rfl) ?_
  apply gy
  · exact rfl
  · (rintro v - N hN; go_simp; exact hN)
  refine okf (by simp only [Act.put, List.setIfInBounds_toArray, List.set_cons_succ, List.set_cons_zero]; exact rfl) ?_
  apply gy
  · exact rfl
  · (rintro v - N hN; go_simp; exact hN)
  refine okf (by simp only [Act.put, List.setIfInBounds_toArray, List.set_cons_succ, List.set_cons_zero]; exact rfl) ?_
  first
    | (apply gy
       · exact rfl
       · (rintro v - N hN; go_simp; exact hN))
    | (apply gn; exact rfl)
  refine okf (by simp only [Act.put, List.setIfInBounds_toArray, List.set_cons_succ, List.set_cons_zero]; exact rfl) ?_
  first
    | (apply gy
       · exact rfl
       · (rintro v - N hN; go_simp; exact hN))
    | (apply gn; exact rfl)
  refine okf (by simp only [Act.put, List.setIfInBounds_toArray, List.set_cons_succ, List.set_cons_zero]; exact rfl) ?_
  apply gy
  · exact rfl
  · (rintro v - N hN; go_simp; exact hN)
  refine okf (by simp only [Act.put, List.setIfInBounds_toArray, List.set_cons_succ, List.set_cons_zero]; exact rfl) ?_
  apply gy
  · exact rfl
  · (rintro v - N hN; go_simp; exact hN)
  refine okf (by simp only [Act.put, List.setIfInBounds_toArray, List.set_cons_succ, List.set_cons_zero]; exact rfl) ?_
  first
    | (apply gy
       · exact rfl
       · (rintro v - N hN; go_simp; exact hN))
    | (apply gn; exact rfl)
  refine okf (by simp only [Act.put, List.setIfInBounds_toArray, List.set_cons_succ, List.set_cons_zero]; exact rfl) ?_
  first
    | (apply gy
       · exact rfl
       · (rintro v - N hN; go_simp; exact hN))
    | (apply gn; exact rfl)
  refine okf (by simp only [Act.put, List.setIfInBounds_toArray, List.set_cons_succ, List.set_cons_zero]; exact rfl) ?_
  apply gy
  · exact rfl
  · (rintro v - N hN; go_simp; exact hN)
  refine okf (by simp only [Act.put, List.setIfInBounds_toArray, List.set_cons_succ, List.set_cons_zero]; exact rfl) ?_
  apply gy
  · exact rfl
  · (rintro v - N hN; go_simp; exact hN)
  refine okf (by simp only [Act.put, List.setIfInBounds_toArray, List.set_cons_succ, List.set_cons_zero]; exact rfl) ?_
  first
    | (apply gy
       · exact rfl
       · (rintro v - N hN; go_simp; exact hN))
    | (apply gn; exact rfl)
  refine okf (by simp only [Act.put, List.setIfInBounds_toArray, List.set_cons_succ, List.set_cons_zero]; exact rfl) ?_
  first
    | (apply gy
       · exact rfl
       · (rintro v - N hN; go_simp; exact hN))
    | (apply gn; exact rfl)
  refine okf (by simp only [Act.put, List.setIfInBounds_toArray, List.set_cons_succ, List.set_cons_zero]; exact rfl) ?_
  apply gy
  · exact rfl
  · (rintro v - N hN; go_simp; exact hN)
  refine okf (by simp only [Act.put, List.setIfInBounds_toArray, List.set_cons_succ, List.set_cons_zero]; exact rfl) ?_
  apply gy
  · exact rfl
  · (rintro v - N hN; go_simp; exact hN)
  refine okf (by simp only [Act.put, List.setIfInBounds_toArray, List.set_cons_succ, List.set_cons_zero]; exact rfl) ?_
  first
    | (apply gy
       · exact rfl
       · (rintro v - N hN; go_simp; exact hN))
    | (apply gn; exact rfl)
  refine okf (by simp only [Act.put, List.setIfInBounds_toArray, List.set_cons_succ, List.set_cons_zero]; exact rfl) ?_
  first
    | (apply gy
       · exact rfl
       · (rintro v - N hN; go_simp; exact hN))
    | (apply gn; exact rfl)
  refine okf (by simp only [Act.put, List.setIfInBounds_toArray, List.set_cons_succ, List.set_cons_zero]; exact rfl) ?_
  apply gy
  · exact rfl
  · (rintro v - N hN; go_simp; exact hN)
  refine okf (by simp only [Act.put, List.setIfInBounds_toArray, List.set_cons_succ, List.set_cons_zero]; exact rfl) ?_
  apply gy
  · exact rfl
  · (rintro v - N hN; go_simp; exact hN)
  refine okf (by simp only [Act.put, List.setIfInBounds_toArray, List.set_cons_succ, List.set_cons_zero]; exact rfl) ?_
  first
    | (apply gy
       · exact rfl
       · (rintro v ⟨hgu, hB, hG, -⟩ N hN; have r := hB.r; simp only [BxR] at r; go_simp; exact hN))
    | (apply gn; exact rfl)
  refine okf (by simp only [Act.put, List.setIfInBounds_toArray, List.set_cons_succ, List.set_cons_zero]; exact rfl) ?_
  first
    | (apply gm
       · exact rfl
       · (rintro v ⟨hgu, hB, hG, -⟩ N hN; go_simp; ((with_reducible refine (known_is 3 4 (by omega) (by omega) (by omega) (by omega) _).mono ?_); rintro e w1 ⟨rfl, hb⟩; exact ⟨_, rfl, hN _ hb⟩)))
    | (apply gmn; exact rfl)
  refine okf (by simp only [Act.put, List.setIfInBounds_toArray, List.set_cons_succ, List.set_cons_zero]; exact rfl) ?_
  apply gy
  · exact rfl
  · (rintro v - N hN; go_simp; exact hN)
  refine okf (by simp only [Act.put, List.setIfInBounds_toArray, List.set_cons_succ, List.set_cons_zero]; exact rfl) ?_
  apply gy
  · exact rfl
  · (rintro v - N hN; go_simp; exact hN)
  refine okf (by simp only [Act.put, List.setIfInBounds_toArray, List.set_cons_succ, List.set_cons_zero]; exact rfl) ?_
  first
    | (apply gy
       · exact rfl
       · (rintro v - N hN; go_simp; exact hN))
    | (apply gn; exact rfl)
  refine okf (by simp only [Act.put, List.setIfInBounds_toArray, List.set_cons_succ, List.set_cons_zero]; exact rfl) ?_
  first
    | (apply gy
       · exact rfl
       · (rintro v - N hN; go_simp; exact hN))
    | (apply gn; exact rfl)
  refine okf (by simp only [Act.put, List.setIfInBounds_toArray, List.set_cons_succ, List.set_cons_zero]; exact rfl) ?_
  apply gy
  · exact rfl
  · (rintro v - N hN; go_simp; exact hN)
  refine okf (by simp only [Act.put, List.setIfInBounds_toArray, List.set_cons_succ, List.set_cons_zero]; exact rfl) ?_
  apply gy
  · exact rfl
  · (rintro v - N hN; go_simp; exact hN)
  refine okf (by simp only [Act.put, List.setIfInBounds_toArray, List.set_cons_succ, List.set_cons_zero]; exact rfl) ?_
  first
    | (apply gy
       · exact rfl
       · (rintro v - N hN; go_simp; exact hN))
    | (apply gn; exact rfl)
  refine okf (by simp only [Act.put, List.setIfInBounds_toArray, List.set_cons_succ, List.set_cons_zero]; exact rfl) ?_
  first
    | (apply gy
       · exact rfl
       · (rintro v - N hN; go_simp; exact hN))
    | (apply gn; exact rfl)
  refine okf (by simp only [Act.put, List.setIfInBounds_toArray, List.set_cons_succ, List.set_cons_zero]; exact rfl) ?_
  first
    | (apply gy
       · exact rfl
       · (rintro v - N hN; go_simp; exact hN))
    | (apply gn; exact rfl)
  refine okf (by simp only [Act.put, List.setIfInBounds_toArray, List.set_cons_succ, List.set_cons_zero]; exact rfl) ?_
  apply gy
  · exact rfl
  · (rintro v - N hN; go_simp; exact hN)
  refine okf (by simp only [Act.put, List.setIfInBounds_toArray, List.set_cons_succ, List.set_cons_zero]; exact rfl) ?_
  apply gy
  · exact rfl
  · (rintro v - N hN; go_simp; exact hN)
  refine okf (by simp only [Act.put, List.setIfInBounds_toArray, List.set_cons_succ, List.set_cons_zero]; exact rfl) ?_
  first
    | (apply gy
       · exact rfl
       · (rintro v - N hN; go_simp; exact hN))
    | (apply gn; exact rfl)
  refine okf (by simp only [Act.put, List.setIfInBounds_toArray, List.set_cons_succ, List.set_cons_zero]; exact rfl) ?_
  first
    | (apply gy
       · exact rfl
       · (rintro v - N hN; go_simp; exact hN))
    | (apply gn; exact rfl)
  refine okf (by simp only [Act.put, List.setIfInBounds_toArray, List.set_cons_succ, List.set_cons_zero]; exact rfl) ?_
  first
    | (apply gy
       · exact rfl
       · (rintro v - N hN; go_simp; exact hN))
    | (apply gn; exact rfl)
  refine okf (by simp only [Act.put, List.setIfInBounds_toArray, List.set_cons_succ, List.set_cons_zero]; exact rfl) ?_
  first
    | (apply gy
       · exact rfl
       · (rintro v ⟨hgu, hB, hG, -⟩ N hN; have r := hB.r; simp only [BxR] at r; go_simp; exact hN))
    | (apply gn; exact rfl)
  refine okf (by simp only [Act.put, List.setIfInBounds_toArray, List.set_cons_succ, List.set_cons_zero]; exact rfl) ?_
  first
    | (apply gm
       · exact rfl
       · (rintro v ⟨hgu, hB, hG, -⟩ N hN; go_simp; ((with_reducible refine (known_is 0 1 (by omega) (by omega) (by omega) (by omega) _).mono ?_); rintro e w1 ⟨rfl, hb⟩; exact ⟨_, rfl, hN _ hb⟩)))
    | (apply gmn; exact rfl)
  refine okf (by simp only [Act.put, List.setIfInBounds_toArray, List.set_cons_succ, List.set_cons_zero]; exact rfl) ?_
  apply gy
  · exact rfl
  · (rintro v - N hN; go_simp; exact hN)
  refine okf (by simp only [Act.put, List.setIfInBounds_toArray, List.set_cons_succ, List.set_cons_zero]; exact rfl) ?_
  apply gy
  · exact rfl
  · (rintro v - N hN; go_simp; exact hN)
  refine okf (by simp only [Act.put, List.setIfInBounds_toArray, List.set_cons_succ, List.set_cons_zero]; exact rfl) ?_
  first
    | (apply gy
       · exact rfl
       · (rintro v - N hN; go_simp; exact hN))
    | (apply gn; exact rfl)
  refine okf (by simp only [Act.put, List.setIfInBounds_toArray, List.set_cons_succ, List.set_cons_zero]; exact rfl) ?_
  first
    | (apply gy
       · exact rfl
       · (rintro v - N hN; go_simp; exact hN))
    | (apply gn; exact rfl)
  refine okf (by simp only [Act.put, List.setIfInBounds_toArray, List.set_cons_succ, List.set_cons_zero]; exact rfl) ?_
  first
    | (apply gy
       · exact rfl
       · (rintro v - N hN; go_simp; exact hN))
    | (apply gn; exact rfl)
  refine okf (by simp only [Act.put, List.setIfInBounds_toArray, List.set_cons_succ, List.set_cons_zero]; exact rfl) ?_
  first
    | (apply gy
       · exact rfl
       · (rintro v ⟨hgu, hB, hG, -⟩ N hN; have r := hB.r; simp only [BxR] at r; go_simp; exact hN))
    | (apply gn; exact rfl)
  refine okf (by simp only [Act.put, List.setIfInBounds_toArray, List.set_cons_succ, List.set_cons_zero]; exact rfl) ?_
  first
    | (apply gm
       · exact rfl
       · (rintro v ⟨hgu, hB, hG, -⟩ N hN; go_simp; ((with_reducible refine (known_is 1 2 (by omega) (by omega) (by omega) (by omega) _).mono ?_); rintro e w1 ⟨rfl, hb⟩; exact ⟨_, rfl, hN _ hb⟩)))
    | (apply gmn; exact rfl)
  refine okf (by simp only [Act.put, List.setIfInBounds_toArray, List.set_cons_succ, List.set_cons_zero]; exact rfl) ?_
  apply gy
  · exact rfl
  · (rintro v - N hN; go_simp; exact hN)
  refine okf (by simp only [Act.put, List.setIfInBounds_toArray, List.set_cons_succ, List.set_cons_zero]; exact rfl) ?_
  apply gy
  · exact rfl
  · (rintro v - N hN; go_simp; exact hN)
  refine okf (by simp only [Act.put, List.setIfInBounds_toArray, List.set_cons_succ, List.set_cons_zero]; exact rfl) ?_
  first
    | (apply gy
       · exact rfl
       · (rintro v - N hN; go_simp; exact hN))
    | (apply gn; exact rfl)
  refine okf (by simp only [Act.put, List.setIfInBounds_toArray, List.set_cons_succ, List.set_cons_zero]; exact rfl) ?_
  first
    | (apply gy
       · exact rfl
       · (rintro v - N hN; go_simp; exact hN))
    | (apply gn; exact rfl)
  refine okf (by simp only [Act.put, List.setIfInBounds_toArray, List.set_cons_succ, List.set_cons_zero]; exact rfl) ?_
  first
    | (apply gy
       · exact rfl
       · (rintro v - N hN; go_simp; exact hN))
    | (apply gn; exact rfl)
  refine okf (by simp only [Act.put, List.setIfInBounds_toArray, List.set_cons_succ, List.set_cons_zero]; exact rfl) ?_
  first
    | (apply gy
       · exact rfl
       · (rintro v ⟨hgu, hB, hG, -⟩ N hN; have r := hB.r; simp only [BxR] at r; go_simp; exact hN))
    | (apply gn; exact rfl)
  refine okf (by simp only [Act.put, List.setIfInBounds_toArray, List.set_cons_succ, List.set_cons_zero]; exact rfl) ?_
  first
    | (apply gm
       · exact rfl
       · (rintro v ⟨hgu, hB, hG, -⟩ N hN; go_simp; ((with_reducible refine (known_is 2 3 (by omega) (by omega) (by omega) (by omega) _).mono ?_); rintro e w1 ⟨rfl, hb⟩; exact ⟨_, rfl, hN _ hb⟩)))
    | (apply gmn; exact rfl)
  refine okf (by simp only [Act.put, List.setIfInBounds_toArray, List.set_cons_succ, List.set_cons_zero]; exact rfl) ?_
  apply gy
  · exact rfl
  · (rintro v - N hN; go_simp; exact hN)
  refine okf (by simp only [Act.put, List.setIfInBounds_toArray, List.set_cons_succ, List.set_cons_zero]; exact rfl) ?_
  apply gy
  · exact rfl
  · (rintro v - N hN; go_simp; exact hN)
  refine okf (by simp only [Act.put, List.setIfInBounds_toArray, List.set_cons_succ, List.set_cons_zero]; exact rfl) ?_
  first
    | (apply gy
       · exact rfl
       · (rintro v - N hN; go_simp; exact hN))
    | (apply gn; exact rfl)
  refine okf (by simp only [Act.put, List.setIfInBounds_toArray, List.set_cons_succ, List.set_cons_zero]; exact rfl) ?_
  first
    | (apply gy
       · exact rfl
       · (rintro v - N hN; go_simp; exact hN))
    | (apply gn; exact rfl)
  refine okf (by simp only [Act.put, List.setIfInBounds_toArray, List.set_cons_succ, List.set_cons_zero]; exact rfl) ?_
  apply gy
  · exact rfl
  · (rintro v - N hN; go_simp; exact hN)
  refine okf (by simp only [Act.put, List.setIfInBounds_toArray, List.set_cons_succ, List.set_cons_zero]; exact rfl) ?_
  apply gy
  · exact rfl
  · (rintro v - N hN; go_simp; exact hN)
  refine okf (by simp only [Act.put, List.setIfInBounds_toArray, List.set_cons_succ, List.set_cons_zero]; exact rfl) ?_
  refine gend ?_
  rintro v ⟨hgu, hB1, hG1, -⟩
  clear hB hG
  have hB := hB1
  have hG := hG1
  clear hB1 hG1
  refine hL _ _ ?_
  clear hL L hgu
  obtain ⟨u, rfl⟩ : ∃ x, x = v := ⟨_, rfl⟩
  refine wpList_nil ?_
  refine NoK.norm (hN _ _ ?_)
  clear hN K
  refine then_norm ?_
  refine wp_ret ?_
  refine ret_b rfl ?_
  intro N hN
  have r := hB.r
  simp only [BxR] at r
  simp only [results, Tryz.results6]
  go_simp
  refine hN _ ?_
  clear hN N r
  exact ⟨rfl, hG⟩
end Go.Proofs.YtimjnkfcnpfoeaaGreatDoor

/-
  ScoreKnown: for every input the law answers true, and its arguments stay as they were. No condition but the card's own.
-/
namespace Go.Proofs.YtimjnkfcnpfoeaaGreatDoor.scoreKnown
open Go.ChangeShapes Go.WideShapes Go.ChangeAt Go.RowKit
theorem params_ok : ∀ t ∈ Tryz.f6.params.toList, Tryz.prog.readableRec t = true ∧ t < Tryz.prog.types.size := by
  have h : (Tryz.f6.params.toList.all fun t => Tryz.prog.readableRec t && decide (t < Tryz.prog.types.size)) = true := by kernel_rfl
  intro t ht
  have := List.all_eq_true.1 h t ht
  simpa using this
set_option maxRecDepth 100000 in
theorem contract (H : Type) (enc : TypeId × Value → H) (W : World) (base : Nat) (args : Array Value) (ds gs : List (DataW H)) (before : List MemPlace)
    (hval : ∀ (j : Nat) t v, Tryz.f6.params[j]? = some t → args[j]? = some v → Value.okWide Tryz.prog W .any base t v)
    (hW : DataW.Whole enc Tryz.prog Tryz.f6.params.toList Rows.scoreKnownSpec.vars false W args.toList ds gs before) (hL : laidMetH Tryz.prog Rows.scoreKnownRow.laid W) :
    Calls Tryz.prog 6 args W fun e W' => ∃ v, e = .returned v ∧ Rows.scoreKnownSpec.post enc Tryz.prog Tryz.f6 false true false false W args v W' := by
  have hW' := hW
  obtain ⟨p, q, hA0, hV, rfl, hfz, hnd⟩ := hW
  have hA : DataW.TrodAll enc Tryz.prog W 0 (fun _ => true) true Tryz.f6.params.toList args.toList ds p := hA0
  rw [Tryz.params6] at hA
  obtain ⟨hargs, rfl, rfl⟩ := trodAll_nil hA
  obtain rfl : args = #[] := by cases args; simp_all
  obtain ⟨rfl, rfl⟩ := trodVars_none hV
  refine (law9_ScoreKnown W (tab_laid (by kernel_rfl) hL)).mono fun e W' ⟨he, hg⟩ => ?_
  exact ⟨_, he, law_post hW' rfl rfl rfl rfl (by kernel_rfl) params_ok hg⟩
def wit : Array Value := #[]
theorem laid_met (os : Os) : laidMet Tryz.prog Rows.scoreKnownRow.laid ((laidWorld os).forCall (fun _ _ => 0) ⟨#[], wit, []⟩).memory :=
  laidMet_of_run' 8 (by kernel_rfl) (by kernel_rfl)
theorem reads (os : Os) {H : Type} (enc : TypeId × Value → H) : ∃ places, DataW.whole enc Tryz.prog ((laidWorld os).forCall (fun _ _ => 0) ⟨#[], wit, []⟩).memory Tryz.f6.params.toList Rows.scoreKnownSpec.vars false wit.toList 8 = some ([], [], places) :=
  ⟨[], by kernel_rfl⟩
set_option maxRecDepth 100000 in
theorem lifted (os : Os) (started : os.Started) (H : Type) (enc : TypeId × Value → H) (F : Stop.Interp) :
    ReturnsInHanded {} Tryz.checked os 6 .any ((OpenSpec.ofChange Rows.scoreKnownSpec).preRow enc Tryz.prog Tryz.f6 Rows.scoreKnownRow.domain false Rows.scoreKnownRow.laid) (((OpenSpec.ofChange Rows.scoreKnownSpec).at F).post enc Tryz.prog Tryz.f6 false true false false) := by
  obtain ⟨places, hx⟩ := reads os enc
  refine returnsInHanded_of_row (C := Tryz.checked) (s := OpenSpec.ofChange Rows.scoreKnownSpec) ownK started (by kernel_rfl) Tryz.func6
    (witness_row_at (enc := enc) (C := Tryz.checked) false (laidWorld os) wit rfl (by kernel_rfl) (by kernel_rfl) (by kernel_rfl)
      (OpenSpec.preRow_of_cond 8 hx (by kernel_rfl) (fun k hk => by cases hk) (by kernel_rfl) (laid_met os))) ?_
  intro W base args ds gs before hval hW _ _ _ hL _ _
  exact contract H enc W base args ds gs before hval hW hL
theorem said : Rows.ScoreKnownSaid :=
  OpenClaim.holds_of_cond 6 Tryz.f6 rfl rfl rfl rfl rfl rfl rfl ⟨rfl, rfl, rfl, rfl, rfl⟩ rfl rfl rfl rfl rfl (by kernel_rfl) Tryz.func6 (by kernel_rfl)
    (of_decide_eq_true (by kernel_rfl)) (by unfold Func.isWrapper; first | (rw [if_pos (by decide +kernel)]; kernel_rfl) | (rw [if_neg (by decide +kernel)]; exact ⟨rfl, rfl⟩))
    (fun os started H enc _ F => by rw [OpenClaim.pre_eq_preRow]; exact lifted os started H enc F)
theorem plain (f : FuncId) (fn : Func) (hf : Tryz.pinned.checked.prog.funcNamed Rows.scoreKnownRow.func = some f) (hfn : Tryz.pinned.checked.prog.funcs[f]? = some fn) :
    false = Tryz.pinned.checked.prog.looks [] ∧ ∀ (j : Nat) t, fn.params[j]? = some t → Tryz.pinned.checked.prog.wantsStandIn t = false := by
  obtain rfl : f = 6 := Option.some.inj ((show Tryz.prog.funcNamed Rows.scoreKnownRow.func = some 6 by kernel_rfl).symm.trans hf) |>.symm
  obtain rfl : fn = Tryz.f6 := (Option.some.inj (Tryz.func6.symm.trans hfn)).symm
  refine ⟨by kernel_rfl, fun j t ht => ?_⟩
  have h : (Tryz.f6.params.toList.all fun t => !Tryz.prog.wantsStandIn t) = true := by kernel_rfl
  have := List.all_eq_true.1 h t (Array.mem_toList_iff.2 (Array.mem_of_getElem? ht))
  have h2 : Tryz.prog.wantsStandIn t = false := by simpa using this
  exact h2
theorem card : Rows.ScoreKnownCardSaid :=
  Claim7.holds_tied_plain_at .later [] _ _ _ _ said (fun _ h => by cases h) (by kernel_rfl) (fun _ h => by cases h) scoreKnown_row_tie rfl ⟨rfl, rfl⟩ (by kernel_rfl) rfl plain (by kernel_rfl)
end Go.Proofs.YtimjnkfcnpfoeaaGreatDoor.scoreKnown
namespace Go.Proofs.YtimjnkfcnpfoeaaGreatDoor
theorem scoreKnown_holds : Rows.ScoreKnownCardSaid := scoreKnown.card
#print axioms scoreKnown_holds
end Go.Proofs.YtimjnkfcnpfoeaaGreatDoor
