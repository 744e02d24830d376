/-
  Contracts and laws: RateB.
-/
import Derived.Test.YtimjnkfcnpfoeaaGreatDoorC42
set_option linter.unusedSimpArgs false
set_option linter.unusedVariables false
namespace Go.Proofs.YtimjnkfcnpfoeaaGreatDoor
open Go.RowKit
set_option maxHeartbeats 8000000 in
set_option maxRecDepth 100000 in
theorem score_Rates_ok (bt ot k c : Nat) (rb ro rc : Nat → Nat) (T : Nat → Nat → Int) (s : Nat) (hk : 0 < k) (hk2 : k ≤ 1048576) (hT : ∀ a, a < k → ∀ t, t < k → 0 ≤ T a t) (hsum : sumTo (fun a => sumTo (T a) k) k ≤ 2147483647) (hss : sumTo (fun a => sumTo (T a) k) k < 2 ^ s) (hs1 : 1 ≤ s) (hsB : 6 * s + 2 ≤ BIG)
  (w : World) (ht : Tb w bt ot k rb ro rc T) (HT : Tab w) :
  Calls Tryz.prog 20 #[.slice (some ⟨bt, ot, none⟩) k c] w fun e w' => ∃ bo : Nat, w.heap.size ≤ bo ∧ e = .returned (.tuple #[.slice (some ⟨bo, 0, none⟩) k k, .int .i64 0]) ∧ Blk w' bo 58 (cellsR (rateTo k T k)) ∧ Grow w w' := by
 have Ht := Lib.hid ht
 have HT0 := Lib.hid hT
 have hmk2 := make_int k (by omega) (k : Int) rfl
 have hmk3 := make_Rate k (by omega) (k : Int) rfl
 have hk0 : ((k : Int) == 0) = false := by simp; omega
 obtain ⟨S, hS⟩ : ∃ S, S = sumTo (fun a => sumTo (T a) k) k := ⟨_, rfl⟩
 rw [← hS] at hsum hss
 have HS := Lib.hid hS
 clear ht hT hS
 go_enter Tryz.func20, Tryz.ntmps20
 refine en0 ?_
 intro u hG hB hF
 refine wp_seq ?_
 refine r0T ?_
 refine wp_cond_false (rfl) ?_
 refine wp_skip ?_
 refine then_norm ?_
 refine wp_seq ?_
 refine r0T ?_
 refine wp_block ?_
 go_loopw [22] (fun z wr => ∃ i : Nat, i ≤ k ∧ z = .int .i64 i ∧ Grow w wr) (fun z _ => k - (intOf z).toNat)
 case atStart => exact ⟨0, Nat.zero_le _, rfl, hG⟩
 case round =>
  obtain ⟨i, hi, rfl, hG⟩ := hrel
  obtain ⟨u, rfl⟩ : ∃ x, x = wr := ⟨_, rfl⟩
  have hB := Bx.nil u
  rcases Nat.lt_or_ge i k with hlt | hge
  ·have q1 := ((Ht.out.grow hG).2 i hlt).1
   have hne : ((k : Int) != (k : Int)) = false := by simp
   refine r0T ?_
   refine wp_seq ?_
   refine wp_cond_true (rfl) ?_
   refine wp_skip ?_
   refine then_norm ?_
   refine wp_seq ?_
   refine wp_block ?_
   refine r0T ?_
   refine r0T ?_
   refine wp_cond_false (rfl) ?_
   refine wp_skip ?_
   refine blk_norm ?_
   refine then_norm ?_
   refine r0E ?_
   refine then_norm ?_
   go_roundw
   case rel => exact ⟨i + 1, by omega, by go_num, hG⟩
   case measure => simp [intOf]; omega
  ·obtain rfl : k = i := by omega
   refine r0T ?_
   refine wp_seq ?_
   refine wp_cond_false (rfl) ?_
   refine wp_exit ?_
   refine then_exit ?_
   refine then_exit ?_
   refine blk_exit ?_
   refine then_norm ?_
   refine r0T ?_
   refine wp_seq ?_
   refine Code.wp_mono NoP.up ?_
   go_region
   have hT2 := two_newB hB hF hG 3 (cellsI (List.replicate k 0)) 3 (cellsI (List.replicate k 0))
   clear hB hF hG
   obtain ⟨hB, hF, hG⟩ := hT2
   generalize World.drew _ = v at hB hG ⊢
   generalize u.heap.size + 1 = b8 at hB hF ⊢
   generalize u.heap.size = b7 at hB hF ⊢
   obtain ⟨u, rfl⟩ : ∃ x, x = v := ⟨_, rfl⟩
   refine NoP.norm ?_
   rotate_left
   have hT2 := two_newA hB hF hG 3 (cellsI (List.replicate k 0)) 3 (cellsI (List.replicate k 0))
   clear hB hF hG
   obtain ⟨hB, hF, hG⟩ := hT2
   generalize World.drew _ = v at hB hG ⊢
   generalize u.heap.size + 1 = b7 at hB hF ⊢
   generalize u.heap.size = b8 at hB hF ⊢
   obtain ⟨u, rfl⟩ : ∃ x, x = v := ⟨_, rfl⟩
   refine NoP.norm ?_
   rotate_left
   all_goals
    refine then_norm ?_
    refine wp_seq ?_
    refine r0T ?_
    refine wp_block ?_
    go_loopw [6, 40] (fun z t wr => ∃ i : Nat, i ≤ k ∧ t = .int .i64 i ∧ z = .int .i64 (allS k T i 0) ∧ Bx wr [(b7, 3, cellsI (rowL k T i 0)), (b8, 3, cellsI (colL k T i 0))] ∧ Grow w wr) (fun _ t _ => k - (intOf t).toNat)
    case atStart => exact ⟨0, Nat.zero_le _, rfl, rfl, by rw [rowL_start, colL_start]; exact hB, hG⟩
    case round =>
     clear hB hG
     obtain ⟨i, hi, rfl, rfl, hB, hG⟩ := hrel
     obtain ⟨u, rfl⟩ : ∃ x, x = wr := ⟨_, rfl⟩
     rcases Nat.lt_or_ge i k with hlt | hge
     ·have q1 := ((Ht.out.grow hG).2 i hlt).1
      refine r0T ?_
      refine wp_seq ?_
      refine wp_cond_true (rfl) ?_
      refine wp_skip ?_
      refine then_norm ?_
      refine wp_seq ?_
      refine wp_block ?_
      refine r0T ?_
      refine r0T ?_
      refine wp_block ?_
      go_loopw [6, 47] (fun z t wr => ∃ j : Nat, j ≤ k ∧ t = .int .i64 j ∧ z = .int .i64 (allS k T i j) ∧ Bx wr [(b7, 3, cellsI (rowL k T i j)), (b8, 3, cellsI (colL k T i j))] ∧ Grow w wr) (fun _ t _ => k - (intOf t).toNat)
      case atStart => exact ⟨0, Nat.zero_le _, rfl, rfl, hB, hG⟩
      case round =>
       clear hB hG q1
       obtain ⟨j, hj, rfl, rfl, hB, hG⟩ := hrel
       obtain ⟨u, rfl⟩ : ∃ x, x = wr := ⟨_, rfl⟩
       rcases Nat.lt_or_ge j k with hjk | hjk
       ·have q2 := ((Ht.out.grow hG).2 i hlt).2.2 j hjk
        have g1 : (cellsI (rowL k T i j))[i]? = some (.int .i64 (sumTo (T i) j)) := by rw [cellsI_get, rowL_get hlt]; rfl
        have g2 : (cellsI (colL k T i j))[j]? = some (.int .i64 (sumTo (fun a => T a j) i)) := by rw [cellsI_get, colL_get hjk]; rfl
        have g3 : (cellsI (rowL k T i j)).setIfInBounds i (.int .i64 (sumTo (T i) j + T i j)) = cellsI (rowL k T i (j + 1)) := by rw [cellsI_set, rowL_set hlt]
        have g4 : (cellsI (colL k T i j)).setIfInBounds j (.int .i64 (sumTo (fun a => T a j) i + T i j)) = cellsI (colL k T i (j + 1)) := by rw [cellsI_set, colL_set hjk]
        obtain ⟨e1, e2, e3⟩ := allS_le (k := k) (T := T) HT0.out hlt hjk
        obtain ⟨e4, e5⟩ := row_le (k := k) (T := T) HT0.out hlt j (by omega)
        obtain ⟨e6, e7⟩ := col_le (k := k) (T := T) HT0.out hjk i (by omega)
        obtain ⟨N, hN⟩ : ∃ N, N = T i j := ⟨_, rfl⟩
        obtain ⟨X, hX⟩ : ∃ N, N = sumTo (T i) j := ⟨_, rfl⟩
        obtain ⟨Y, hY⟩ : ∃ N, N = sumTo (fun a => T a j) i := ⟨_, rfl⟩
        obtain ⟨L, hL⟩ : ∃ N, N = allS k T i j := ⟨_, rfl⟩
        rw [← HS.out] at e2 e5 e7
        rw [← hN] at q2 g3 g4 e2 e3
        rw [← hX] at g1 g3 e4 e5
        rw [← hY] at g2 g4 e6 e7
        rw [← hL] at e1 e2 ⊢
        have hL2 : allS k T i (j + 1) = L + N := by rw [allS_succ, hL, hN]
        have HL2 := Lib.hid hL2
        have G3 := Lib.hid g3
        have G4 := Lib.hid g4
        clear hN hX hY hL hL2 g3 g4
        have c1 : decide (N < 0) = false := by simp; omega
        have c2 : decide (2147483647 - L < N) = false := by simp; omega
        refine r0T ?_
        refine wp_seq ?_
        refine wp_cond_true (rfl) ?_
        refine wp_skip ?_
        refine then_norm ?_
        refine wp_seq ?_
        refine wp_block ?_
        refine r0T ?_
        refine wp_seq ?_
        refine r0T ?_
        refine wp_cond_false (rfl) ?_
        refine wp_skip ?_
        refine then_norm ?_
        refine r0T ?_
        refine r0T ?_
        generalize hu0 : World.setCell u _ _ = u0
        have hBG := hB.over hF hG 0 rfl i [_] hu0
        clear hB hG
        simp only [List.modify_zero_cons, wrAll, G3.out] at hBG
        obtain ⟨hB, hG⟩ := hBG
        obtain ⟨u, rfl⟩ : ∃ x, x = u0 := ⟨_, rfl⟩
        refine r0E ?_
        generalize hu1 : World.setCell u _ _ = u1
        have hBG := hB.over hF hG 1 rfl j [_] hu1
        clear hB hG
        simp only [List.modify_succ_cons, List.modify_zero_cons, wrAll, G4.out] at hBG
        obtain ⟨hB, hG⟩ := hBG
        obtain ⟨u, rfl⟩ : ∃ x, x = u1 := ⟨_, rfl⟩
        refine blk_norm ?_
        refine then_norm ?_
        refine r0E ?_
        refine then_norm ?_
        go_roundw
        case rel => exact ⟨j + 1, by omega, by go_num, by rw [HL2.out], hB, hG⟩
        case measure => simp [intOf]; omega
       ·obtain rfl : k = j := by omega
        refine r0T ?_
        refine wp_seq ?_
        refine wp_cond_false (rfl) ?_
        refine wp_exit ?_
        refine then_exit ?_
        refine then_exit ?_
        refine blk_exit ?_
        refine blk_norm ?_
        refine then_norm ?_
        refine r0E ?_
        refine then_norm ?_
        go_roundw
        case rel => exact ⟨i + 1, by omega, by go_num, by rw [← allS_next], by rw [← rowL_next hlt, ← colL_next]; exact hB, hG⟩
        case measure => simp [intOf]; omega
     ·obtain rfl : k = i := by omega
      refine r0T ?_
      refine wp_seq ?_
      refine wp_cond_false (rfl) ?_
      refine wp_exit ?_
      refine then_exit ?_
      refine then_exit ?_
      refine blk_exit ?_
      refine then_norm ?_
      refine r0T ?_
      have hbo := Blk.new u 58 (cellsR (List.replicate k (0, 0, 0)))
      have hF3 := Fr.new (tk := []) hF hB hG (Nat.le_refl u.heap.size) (by simp)
      have hB3 := Bx.cons hbo (hB.grow (Grow.alloc u (.cells (cellsR (List.replicate k (0, 0, 0))) 58)))
      have hG3 := hG.trans (Grow.alloc u (.cells (cellsR (List.replicate k (0, 0, 0))) 58))
      simp only [List.cons_append, List.nil_append, List.map_cons, List.map_nil] at hF3
      clear hB hF hG hbo
      generalize World.alloc u _ = v at hB3 hG3 ⊢
      generalize u.heap.size = b13 at hB3 hF3 ⊢
      have hB := hB3
      have hF := hF3
      have hG := hG3
      clear hB3 hF3 hG3
      obtain ⟨u, rfl⟩ : ∃ x, x = v := ⟨_, rfl⟩
      refine wp_seq ?_
      refine r0T ?_
      refine wp_block ?_
      go_loopw [84] (fun t wr => ∃ a : Nat, a ≤ k ∧ t = .int .i64 a ∧ Bx wr [(b13, 58, cellsR (rateTo k T a)), (b7, 3, cellsI (rowL k T k 0)), (b8, 3, cellsI (colL k T k 0))] ∧ Grow w wr) (fun t _ => k - (intOf t).toNat)
      case atStart => exact ⟨0, Nat.zero_le _, rfl, by rw [rateTo_start]; exact hB, hG⟩
      case round =>
       clear hB hG
       obtain ⟨a, ha, rfl, hB, hG⟩ := hrel
       obtain ⟨u, rfl⟩ : ∃ x, x = wr := ⟨_, rfl⟩
       rcases Nat.lt_or_ge a k with hlt | hge
       ·have g1 : (cellsI (rowL k T k 0))[a]? = some (.int .i64 (sumTo (T a) k)) := by rw [cellsI_get, rowL_end hlt]; rfl
        have g2 : (cellsI (colL k T k 0))[a]? = some (.int .i64 (sumTo (fun i => T i a) k)) := by rw [cellsI_get, colL_end hlt]; rfl
        obtain ⟨e4, e5⟩ := row_le (k := k) (T := T) HT0.out hlt k (Nat.le_refl _)
        obtain ⟨e6, e7⟩ := col_le (k := k) (T := T) HT0.out hlt k (Nat.le_refl _)
        have e8 := HT0.out a hlt a hlt
        have e9 := le_sumTo hlt (fun j hj => HT0.out a hlt j hj)
        have hte : ∀ W, Grow w W → W.cell? ⟨bt, ot + a, none⟩ = some (.slice (some ⟨rb a, ro a, none⟩) k (rc a)) ∧ W.cell? ⟨rb a, ro a + a, none⟩ = some (.int .i64 (T a a)) := fun W hg => ⟨((Ht.out.grow hg).2 a hlt).1, ((Ht.out.grow hg).2 a hlt).2.2 a hlt⟩
        have hra : rateAt k T a = (qover (T a a) (sumTo (fun i => T i a) k), qover (T a a) (sumTo (T a) k), qdiv (qadd (qmul (qover (T a a) (sumTo (fun i => T i a) k)) (qover (T a a) (sumTo (T a) k))) (qmul (qover (T a a) (sumTo (fun i => T i a) k)) (qover (T a a) (sumTo (T a) k)))) (qadd (qover (T a a) (sumTo (fun i => T i a) k)) (qover (T a a) (sumTo (T a) k)))) := rfl
        rw [← HS.out] at e5 e7
        obtain ⟨N, hN⟩ : ∃ N, N = T a a := ⟨_, rfl⟩
        obtain ⟨X, hX⟩ : ∃ N, N = sumTo (fun i => T i a) k := ⟨_, rfl⟩
        obtain ⟨Y, hY⟩ : ∃ N, N = sumTo (T a) k := ⟨_, rfl⟩
        rw [← hN] at e8 e9 hte hra
        rw [← hX] at g2 e6 e7 hra
        rw [← hY] at g1 e4 e5 e9 hra
        have hpw : ((2 ^ s : Nat) : Int) = 2 ^ s := by simp
        have z1 : qs (qover N X) ≤ s := over_sub 0 0 N X s (by omega) (by omega) hs1
        have z2 : qs (qover N Y) ≤ s := over_sub 0 0 N Y s (by omega) (by omega) hs1
        have z3 : qs (qmul (qover N X) (qover N Y)) ≤ 2 * s := by have := qs_mul (qover N X) (qover N Y); unfold qmul; omega
        have z4 : qs (qadd (qmul (qover N X) (qover N Y)) (qmul (qover N X) (qover N Y))) ≤ 4 * s + 1 := by have := qs_add (qmul (qover N X) (qover N Y)) (qmul (qover N X) (qover N Y)); unfold qadd; omega
        have z5 : qs (qadd (qover N X) (qover N Y)) ≤ 2 * s + 1 := by have := qs_add (qover N X) (qover N Y); unfold qadd; omega
        have Hra := Lib.hid hra
        have Hte := Lib.hid hte
        clear hra hte hN hX hY hpw
        refine r0T ?_
        refine wp_seq ?_
        refine wp_cond_true (rfl) ?_
        refine wp_skip ?_
        refine then_norm ?_
        refine wp_seq ?_
        refine wp_block ?_
        refine r0T ?_
        refine wp_seq (rdC allocs3 [] [(0, 0), (0, 1), (0, 2), (0, 3), (0, 4), (0, 5), (0, 6), (0, 7), (0, 8), (0, 9), (0, 10), (0, 12), (0, 13), (0, 14), (0, 15), (0, 16), (0, 17), (0, 18), (0, 19), (0, 20), (0, 21), (0, 22), (1, 11), (1, 23), (0, 24), (2, 25)] hB hG fun K L hN hL => ?_)
        repeat first | refine gya ?_ | refine gyr ?_ | refine gna ?_ | refine gyb (by (rintro v ⟨hgu, hB, hG, -⟩ N hN; have r := hB.r; simp only [BxR] at r; obtain ⟨q1, q2⟩ := Hte.out v hG; go_simp; exact hN)) ?_
        refine gmd (C := fun v ⟨hgu, hB, hG, _⟩ => score_ratio _ _ (by omega) (by omega) (by omega) (by omega) _ (HT.grow hG)) ?_
        refine gmd (C := fun v ⟨hgu, hB, hG, _⟩ => score_ratio _ _ (by omega) (by omega) (by omega) (by omega) _ (HT.grow hG)) ?_
        refine gs ?_
        refine gaa (newObj_Rate _ _ _ _ _) fun b15 hb15 hn15 => ?_
        replace hF := hF.n1 [] hB hG hb15 hn15
        refine geC hL ?_
        clear hB hG hL L
        rintro u ⟨⟨-, hB, hG, -⟩, h15⟩
        replace hB := hB.cons' h15
        clear h15
        clear hb15 hn15
        refine gtT ?_
        clear hN K
        refine st hB hF hG 0 0 [_, _, _, _, _, _, _, _, _, _, _, _, _, _, _] ?_
        clear hB hG
        intro u hB hG
        refine wp_seq (rsC allocs3 [0, 0, 0, 0, 1, 2] hB hG fun K L hN hL => ?_)
        repeat first | refine gya ?_ | refine gyr ?_ | refine gna ?_ | refine gyb (by (rintro v ⟨hgu, hB, hG, -⟩ N hN; have r := hB.r; simp only [BxR] at r; obtain ⟨q1, q2⟩ := Hte.out v hG; go_simp; exact hN)) ?_
        refine gmd (C := fun v ⟨hgu, hB, hG, _⟩ => frac_Mul _ _ _ (by omega) (HT.grow hG)) ?_
        refine gaa (newObj_Q _ _ _ _ _) fun b16 hb16 hn16 => ?_
        replace hF := hF.n1 [] hB hG hb16 hn16
        refine geC hL ?_
        clear hB hG hL L
        rintro u ⟨⟨-, hB, hG, -⟩, h16⟩
        replace hB := hB.cons' h16
        clear h16
        clear hb16 hn16
        refine gtT ?_
        clear hN K
        refine st hB hF hG 0 0 [_, _, _, _, _] ?_
        clear hB hG
        intro u hB hG
        refine wp_seq (rdC allocs3 [11] [(0, 0), (0, 1), (0, 3), (0, 4), (0, 5), (0, 6), (1, 2), (1, 7), (1, 8), (0, 9), (0, 10), (0, 11), (0, 12)] hB hG fun K L hN hL => ?_)
        repeat first | refine gya ?_ | refine gyr ?_ | refine gna ?_ | refine gyb (by (rintro v ⟨hgu, hB, hG, -⟩ N hN; have r := hB.r; simp only [BxR] at r; obtain ⟨q1, q2⟩ := Hte.out v hG; go_simp; exact hN)) ?_
        refine gmd (C := fun v ⟨hgu, hB, hG, _⟩ => frac_Add _ _ _ (by omega) (HT.grow hG)) ?_
        refine gmd (C := fun v ⟨hgu, hB, hG, _⟩ => frac_Add _ _ _ (by omega) (HT.grow hG)) ?_
        refine gmd (C := fun v ⟨hgu, hB, hG, _⟩ => frac_Div _ _ _ (by omega) (HT.grow hG)) ?_
        refine gs ?_
        refine geC hL ?_
        clear hB hG hL L
        rintro u ⟨-, hB, hG, -⟩
        refine gtT ?_
        clear hN K
        refine st hB hF hG 1 10 [_, _, _, _, _] ?_
        clear hB hG
        intro u hB hG
        generalize qdiv _ _ = bo at hB Hra
        generalize qover N X = po at hB Hra
        generalize qover N Y = ro1 at hB Hra
        obtain ⟨o0, y0⟩ := old_cell k T a a hlt 0 (by omega)
        obtain ⟨o1, y1⟩ := old_cell k T a a hlt 1 (by omega)
        obtain ⟨o2, y2⟩ := old_cell k T a a hlt 2 (by omega)
        obtain ⟨o3, y3⟩ := old_cell k T a a hlt 3 (by omega)
        obtain ⟨o4, y4⟩ := old_cell k T a a hlt 4 (by omega)
        obtain ⟨o5, y5⟩ := old_cell k T a a hlt 5 (by omega)
        obtain ⟨o6, y6⟩ := old_cell k T a a hlt 6 (by omega)
        obtain ⟨o7, y7⟩ := old_cell k T a a hlt 7 (by omega)
        obtain ⟨o8, y8⟩ := old_cell k T a a hlt 8 (by omega)
        obtain ⟨o9, y9⟩ := old_cell k T a a hlt 9 (by omega)
        obtain ⟨o10, y10⟩ := old_cell k T a a hlt 10 (by omega)
        obtain ⟨o11, y11⟩ := old_cell k T a a hlt 11 (by omega)
        obtain ⟨o12, y12⟩ := old_cell k T a a hlt 12 (by omega)
        obtain ⟨o13, y13⟩ := old_cell k T a a hlt 13 (by omega)
        obtain ⟨o14, y14⟩ := old_cell k T a a hlt 14 (by omega)
        rw [Nat.add_zero] at y0
        have hD : b15 ≠ b13 ∧ b13 ≠ b15 := ⟨hF.ne 1 2 rfl rfl (by decide), hF.ne 2 1 rfl rfl (by decide)⟩
        refine r0E ?_
        generalize hu0 : World.setCell (World.setCell (World.setCell (World.setCell (World.setCell (World.setCell (World.setCell (World.setCell (World.setCell (World.setCell (World.setCell (World.setCell (World.setCell (World.setCell (World.setCell u _ _) _ _) _ _) _ _) _ _) _ _) _ _) _ _) _ _) _ _) _ _) _ _) _ _) _ _) _ _ = u0
        have hBG := hB.over hF hG 2 rfl (a * 15) (qL po ++ qL ro1 ++ qL bo) hu0
        clear hB hG hu0
        simp only [List.modify_succ_cons, List.modify_zero_cons, wr_rate k T hlt po ro1 bo Hra.out] at hBG
        obtain ⟨hB, hG⟩ := hBG
        obtain ⟨u, rfl⟩ : ∃ x, x = u0 := ⟨_, rfl⟩
        clear y0 y1 y2 y3 y4 y5 y6 y7 y8 y9 y10 y11 y12 y13 y14
        refine blk_norm ?_
        refine then_norm ?_
        refine r0E ?_
        refine then_norm ?_
        go_roundw
        case rel => exact ⟨a + 1, by omega, by go_num, hB.tail.tail, hG⟩
        case measure => simp [intOf]; omega
       ·obtain rfl : k = a := by omega
        refine r0T ?_
        refine wp_seq ?_
        refine wp_cond_false (rfl) ?_
        refine wp_exit ?_
        refine then_exit ?_
        refine then_exit ?_
        refine blk_exit ?_
        refine then_norm ?_
        refine r0T ?_
        refine rt Tryz.results20 ?_
        exact ⟨b13, hF.1 b13 (by simp), rfl, hB.head, hG⟩
end Go.Proofs.YtimjnkfcnpfoeaaGreatDoor
