/-
  Contracts and plain laws, part 5: lemmas for the claim; each says its own conditions.
-/
import Derived.Test.YtimjnkfcnpfoeaaGreatDoorK1
import Derived.Test.YtimjnkfcnpfoeaaGreatDoorK2
import Derived.Test.YtimjnkfcnpfoeaaGreatDoorK3
import Derived.Test.YtimjnkfcnpfoeaaGreatDoorK4
import Derived.StillTailTactics
import Derived.Test.YtimjnkfcnpfoeaaGreatDoorCards
import Derived.Test.YtimjnkfcnpfoeaaGreatDoorTie
import Derived.WalkKit
import Derived.ProofKit
import Derived.OpenShut
import Derived.Carry
import Derived.ChangeOld
import Derived.ChangeSlices
import Derived.Deep.DeepHandedRow
import Derived.Lib.LaidTab
import Derived.RegionTactic
set_option linter.unusedSimpArgs false
set_option linter.unusedVariables false
/-
  Contracts of package frac: Add, Sub, Mul, Div.
-/
namespace Go.Proofs.YtimjnkfcnpfoeaaGreatDoor
open Go.RowKit
section
variable (a b : Rat) (w : World)
set_option maxHeartbeats 4000000 in
set_option maxRecDepth 100000 in
theorem frac_Add_nn (HT : Tab w) (h : qs a + qs b + 1 ≤ BIG) (x y : Bool) (hx : ∀ W, Calls Tryz.prog 65 #[qV a] W fun e w' => e = .returned (.bool x) ∧ Grow W w') (hy : ∀ W, Calls Tryz.prog 65 #[qV b] W fun e w' => e = .returned (.bool y) ∧ Grow W w') (hxy : (x && y) = false) :
    Calls Tryz.prog 21 #[qV a, qV b] w fun e w' => e = .returned (qV (qadd a b)) ∧ Grow w w' := by
  have hB40 := BIG_le
  obtain ⟨g1, g0, d1, d2, t1, t2, m1, m2, u1, k1, k0⟩ := add_sizes a b h
  have d1' := fits_most d1
  have d2' := fits_most d2
  have g1' := fits_most g1
  have He := Lib.hid (And.intro (num_add_ a b) (den_add_ a b))
  obtain ⟨G, hG0⟩ : ∃ G, G = Nat.gcd a.den b.den := ⟨_, rfl⟩
  obtain ⟨U, hU0⟩ : ∃ U, U = zadd (ztm a.num (b.den / G)) (ztm b.num (a.den / G)) := ⟨_, rfl⟩
  obtain ⟨H, hH0⟩ : ∃ H, H = Nat.gcd U.natAbs G := ⟨_, rfl⟩
  rw [← hG0] at g1 g0 t1 t2 m1 m2 u1 k1 k0 g1'
  rw [← hU0] at u1 k1 k0
  rw [← hH0] at k1 k0
  have hgc : ∀ W, Tab W → Calls Tryz.prog 67 #[intV (sgn false a.den), intV (sgn false b.den)] W fun e w' => e = .returned (natV G) ∧ Grow W w' := fun W ht => hG0 ▸ gcd_dd a.den b.den d1 d2 W ht
  have hgu : ∀ W, Tab W → Calls Tryz.prog 67 #[intV U, intV (sgn false G)] W fun e w' => e = .returned (natV H) ∧ Grow W w' := fun W ht => hH0 ▸ gcd_nd U G u1 g1 W ht
  have hau : ∀ W, Calls Tryz.prog 66 #[intV (ztm a.num (b.den / G)), intV (ztm b.num (a.den / G))] W fun e w' => e = .returned (intV U) ∧ Grow W w' := fun W => hU0 ▸ whole_Add _ _ m1 m2 W
  have e1 : (qadd a b).num = ztd U H := by
    have := He.out.1
    unfold upOf hOf upOf at this
    rw [← hG0] at this
    rw [hH0, hU0]
    exact this
  have e2 : (qadd a b).den = a.den / G * (b.den / H) := by
    have := He.out.2
    unfold hOf upOf at this
    rw [← hG0] at this
    rw [hH0, hU0]
    exact this
  have He2 := Lib.hid (And.intro e1 e2)
  have f1 : bl (a.den / G) ≤ 1099511627776 := Nat.le_trans (bl_div_le _ _) d1'
  have f2 : bl (b.den / H) ≤ 1099511627776 := Nat.le_trans (bl_div_le _ _) d2'
  have f3 : bl (a.den / G * (b.den / H)) ≤ 1099511627776 := by
    have s1 := bl_mul_le (a.den / G) (b.den / H)
    have s2 := bl_div_le a.den G
    have s3 := bl_div_le b.den H
    have s4 := qs_den a
    have s5 := qs_den b
    omega
  have Hx := Lib.hid hx
  have Hy := Lib.hid hy
  have Hgc := Lib.hid hgc
  have Hgu := Lib.hid hgu
  have Hau := Lib.hid hau
  clear hx hy hgc hgu hau e1 e2 He hG0 hU0 hH0
  cases x <;> cases y <;> first | (exact absurd hxy (by decide)) | skip
  all_goals clear hxy
  all_goals
    go_enter Tryz.func21, Tryz.ntmps21
    refine wp_seq (wp_r0 ?_)
    intro K hN
    go_wp2_with fail
    generalize hu : World.alloc (World.alloc (World.alloc w _) _) _ = u
    obtain ⟨hB, hG⟩ := bx_first [(_, _), (_, _), (_, _)] w u hu
    have hF := fr_first w [(32, #[]), (32, #[]), (32, #[])]
    simp only [numbered, List.map_cons, List.map_nil] at hB hF
    clear hu
    generalize w.heap.size + 1 + 1 = b4 at hB hF ⊢
    generalize w.heap.size + 1 = b3 at hB hF ⊢
    generalize w.heap.size = b2 at hB hF ⊢
    refine NoK.norm (hN _ _ ?_)
    clear hN K
    refine then_norm ?_
    refine wp_seq ?_
    refine wp_seq ?_
    refine wp_rs (w := w) allocs 6 [0, 1, 0, 0, 1, 0] (by kernel_rfl) (by simp only [List.drop_succ_cons, List.drop_nil]; exact rfl) (fun _ => True) noG hB hG trivial ?_
    intro K L hN hL
    simp only [List.zip_cons_cons, List.zip_nil_left]
    apply gy
    · exact rfl
    · (rintro v ⟨hgu, hB, hG, -⟩ N hN; have r := hB.r; simp only [BxR] at r; go_simp; exact hN)
    refine okf (by simp only [Act.put, List.setIfInBounds_toArray, List.set_cons_succ, List.set_cons_zero]; exact rfl) ?_
    apply gm
    · exact rfl
    · (rintro v ⟨hgu, hB, hG, -⟩ N hN; go_simp; ((with_reducible refine (Hx.out _).mono ?_); rintro e w1 ⟨rfl, hb⟩; exact ⟨_, rfl, hN _ hb⟩))
    refine okf (by simp only [Act.put, List.setIfInBounds_toArray, List.set_cons_succ, List.set_cons_zero]; exact rfl) ?_
    apply gy
    · exact rfl
    · (rintro v - N hN; go_simp; exact hN)
    refine okf (by simp only [Act.put, List.setIfInBounds_toArray, List.set_cons_succ, List.set_cons_zero]; exact rfl) ?_
    first
      | (apply gy
         · exact rfl
         · (rintro v ⟨hgu, hB, hG, -⟩ N hN; have r := hB.r; simp only [BxR] at r; go_simp; exact hN))
      | (apply gn; exact rfl)
    refine okf (by simp only [Act.put, List.setIfInBounds_toArray, List.set_cons_succ, List.set_cons_zero]; exact rfl) ?_
    first
      | (apply gm
         · exact rfl
         · (rintro v ⟨hgu, hB, hG, -⟩ N hN; go_simp; ((with_reducible refine (Hy.out _).mono ?_); rintro e w1 ⟨rfl, hb⟩; exact ⟨_, rfl, hN _ hb⟩)))
      | (apply gmn; exact rfl)
    refine okf (by simp only [Act.put, List.setIfInBounds_toArray, List.set_cons_succ, List.set_cons_zero]; exact rfl) ?_
    apply gy
    · exact rfl
    · (rintro v - N hN; go_simp; exact hN)
    refine okf (by simp only [Act.put, List.setIfInBounds_toArray, List.set_cons_succ, List.set_cons_zero]; exact rfl) ?_
    refine gend ?_
    rintro v ⟨hgu, hB1, hG1, -⟩
    clear hB hG
    have hB := hB1
    have hG := hG1
    clear hB1 hG1
    refine hL _ _ ?_
    clear hL L hgu
    obtain ⟨u, rfl⟩ : ∃ x, x = v := ⟨_, rfl⟩
    refine wpList_nil ?_
    refine NoK.norm (hN _ _ ?_)
    clear hN K
    refine then_norm ?_
    refine wp_cond_false (rfl) ?_
    refine wp_skip ?_
    refine then_norm ?_
    refine wp_seq ?_
    refine wp_rd (w := w) allocs 8 [] [(0, 0), (0, 3), (1, 1), (1, 2), (1, 4), (1, 5), (1, 6), (2, 7)] (by kernel_rfl) (by kernel_rfl) (by simp only [List.drop_succ_cons, List.drop_zero]; exact rfl) (fun _ => True) noG hB hG trivial ?_
    intro K L hN hL
    simp only [pickOps, List.getElem?_toArray, List.getElem?_cons_zero, List.getElem?_cons_succ]
    apply gy
    · exact rfl
    · (rintro v ⟨hgu, hB, hG, -⟩ N hN; have r := hB.r; simp only [BxR] at r; go_simp; exact hN)
    refine okf (by simp only [Act.put, List.setIfInBounds_toArray, List.set_cons_succ, List.set_cons_zero]; exact rfl) ?_
    apply gy
    · exact rfl
    · (rintro v ⟨hgu, hB, hG, -⟩ N hN; have r := hB.r; simp only [BxR] at r; go_simp; exact hN)
    refine okf (by simp only [Act.put, List.setIfInBounds_toArray, List.set_cons_succ, List.set_cons_zero]; exact rfl) ?_
    apply gm
    · exact rfl
    · (rintro v ⟨hgu, hB, hG, -⟩ N hN; go_simp; ((with_reducible refine (frac_Den _ (by assumption) _).mono ?_); rintro e w1 ⟨rfl, hb⟩; exact ⟨_, rfl, hN _ hb⟩))
    refine okf (by simp only [Act.put, List.setIfInBounds_toArray, List.set_cons_succ, List.set_cons_zero]; exact rfl) ?_
    apply gm
    · exact rfl
    · (rintro v ⟨hgu, hB, hG, -⟩ N hN; go_simp; ((with_reducible refine (whole_From _ _ (by assumption) _).mono ?_); rintro e w1 ⟨rfl, hb⟩; exact ⟨_, rfl, hN _ hb⟩))
    refine okf (by simp only [Act.put, List.setIfInBounds_toArray, List.set_cons_succ, List.set_cons_zero]; exact rfl) ?_
    apply gm
    · exact rfl
    · (rintro v ⟨hgu, hB, hG, -⟩ N hN; go_simp; ((with_reducible refine (frac_Den _ (by assumption) _).mono ?_); rintro e w1 ⟨rfl, hb⟩; exact ⟨_, rfl, hN _ hb⟩))
    refine okf (by simp only [Act.put, List.setIfInBounds_toArray, List.set_cons_succ, List.set_cons_zero]; exact rfl) ?_
    apply gm
    · exact rfl
    · (rintro v ⟨hgu, hB, hG, -⟩ N hN; go_simp; ((with_reducible refine (whole_From _ _ (by assumption) _).mono ?_); rintro e w1 ⟨rfl, hb⟩; exact ⟨_, rfl, hN _ hb⟩))
    refine okf (by simp only [Act.put, List.setIfInBounds_toArray, List.set_cons_succ, List.set_cons_zero]; exact rfl) ?_
    apply gm
    · exact rfl
    · (rintro v ⟨hgu, hB, hG, -⟩ N hN; go_simp; ((with_reducible refine (Hgc.out _ (HT.grow hG)).mono ?_); rintro e w1 ⟨rfl, hb⟩; exact ⟨_, rfl, hN _ hb⟩))
    refine okf (by simp only [Act.put, List.setIfInBounds_toArray, List.set_cons_succ, List.set_cons_zero]; exact rfl) ?_
    refine ga (newObj_Nat _ _ _ _ _) fun b5 hb5 hn5 => ?_
    refine okf (by simp only [Act.put, List.setIfInBounds_toArray, List.set_cons_succ, List.set_cons_zero]; exact rfl) ?_
    refine gend ?_
    rintro v ⟨⟨hgu, hB1, hG1, -⟩, h5⟩
    have hF := Fr.new (tk := []) hF hB hG hb5 hn5
    simp only [List.cons_append, List.nil_append, List.map_cons, List.map_nil] at hF
    clear hB hG
    have hB := (Bx.cons h5 hB1)
    have hG := hG1
    clear hB1 hG1 h5
    refine hL _ _ ?_
    clear hL L hgu
    obtain ⟨u, rfl⟩ : ∃ x, x = v := ⟨_, rfl⟩
    have r := hB.r
    simp only [BxR] at r
    go_wp2_with fail
    clear r
    generalize hu0 : World.setCell (World.setCell u _ _) _ _ = u0
    have hBG := hB.over hF hG 0 rfl 0 [_, _] hu0
    clear hB hG hu0
    simp only [List.modify_succ_cons, List.modify_zero_cons, wrAll, List.setIfInBounds_toArray, List.set_cons_zero, List.set_cons_succ, Nat.zero_add, Nat.reduceAdd] at hBG
    obtain ⟨hB, hG⟩ := hBG
    clear u
    obtain ⟨u, rfl⟩ : ∃ x, x = u0 := ⟨_, rfl⟩
    refine NoK.norm (hN _ _ ?_)
    clear hN K
    refine then_norm ?_
    refine wp_seq ?_
    refine wp_rd (w := w) allocs 10 [] [(0, 0), (0, 2), (0, 4), (0, 6), (1, 1), (1, 3), (1, 5), (1, 7), (2, 8), (2, 9)] (by kernel_rfl) (by kernel_rfl) (by simp only [List.drop_succ_cons, List.drop_zero]; exact rfl) (fun _ => True) noG hB hG trivial ?_
    intro K L hN hL
    simp only [pickOps, List.getElem?_toArray, List.getElem?_cons_zero, List.getElem?_cons_succ]
    apply gy
    · exact rfl
    · (rintro v ⟨hgu, hB, hG, -⟩ N hN; have r := hB.r; simp only [BxR] at r; go_simp; exact hN)
    refine okf (by simp only [Act.put, List.setIfInBounds_toArray, List.set_cons_succ, List.set_cons_zero]; exact rfl) ?_
    apply gy
    · exact rfl
    · (rintro v ⟨hgu, hB, hG, -⟩ N hN; have r := hB.r; simp only [BxR] at r; go_simp; exact hN)
    refine okf (by simp only [Act.put, List.setIfInBounds_toArray, List.set_cons_succ, List.set_cons_zero]; exact rfl) ?_
    apply gy
    · exact rfl
    · (rintro v ⟨hgu, hB, hG, -⟩ N hN; have r := hB.r; simp only [BxR] at r; go_simp; exact hN)
    refine okf (by simp only [Act.put, List.setIfInBounds_toArray, List.set_cons_succ, List.set_cons_zero]; exact rfl) ?_
    apply gy
    · exact rfl
    · (rintro v ⟨hgu, hB, hG, -⟩ N hN; have r := hB.r; simp only [BxR] at r; go_simp; exact hN)
    refine okf (by simp only [Act.put, List.setIfInBounds_toArray, List.set_cons_succ, List.set_cons_zero]; exact rfl) ?_
    apply gm
    · exact rfl
    · (rintro v ⟨hgu, hB, hG, -⟩ N hN; go_simp; ((with_reducible refine (frac_Den _ (by assumption) _).mono ?_); rintro e w1 ⟨rfl, hb⟩; exact ⟨_, rfl, hN _ hb⟩))
    refine okf (by simp only [Act.put, List.setIfInBounds_toArray, List.set_cons_succ, List.set_cons_zero]; exact rfl) ?_
    apply gm
    · exact rfl
    · (rintro v ⟨hgu, hB, hG, -⟩ N hN; go_simp; ((with_reducible refine (frac_over a.den G d1 g1 g0 _).mono ?_); rintro e w1 ⟨rfl, hb⟩; exact ⟨_, rfl, hN _ hb⟩))
    refine okf (by simp only [Act.put, List.setIfInBounds_toArray, List.set_cons_succ, List.set_cons_zero]; exact rfl) ?_
    apply gm
    · exact rfl
    · (rintro v ⟨hgu, hB, hG, -⟩ N hN; go_simp; ((with_reducible refine (frac_Den _ (by assumption) _).mono ?_); rintro e w1 ⟨rfl, hb⟩; exact ⟨_, rfl, hN _ hb⟩))
    refine okf (by simp only [Act.put, List.setIfInBounds_toArray, List.set_cons_succ, List.set_cons_zero]; exact rfl) ?_
    apply gm
    · exact rfl
    · (rintro v ⟨hgu, hB, hG, -⟩ N hN; go_simp; ((with_reducible refine (frac_over b.den G d2 g1 g0 _).mono ?_); rintro e w1 ⟨rfl, hb⟩; exact ⟨_, rfl, hN _ hb⟩))
    refine okf (by simp only [Act.put, List.setIfInBounds_toArray, List.set_cons_succ, List.set_cons_zero]; exact rfl) ?_
    refine ga (newObj_Nat _ _ _ _ _) fun b6 hb6 hn6 => ?_
    refine okf (by simp only [Act.put, List.setIfInBounds_toArray, List.set_cons_succ, List.set_cons_zero]; exact rfl) ?_
    refine ga (newObj_Nat _ _ _ _ _) fun b7 hb7 hn7 => ?_
    refine okf (by simp only [Act.put, List.setIfInBounds_toArray, List.set_cons_succ, List.set_cons_zero]; exact rfl) ?_
    refine gend ?_
    rintro v ⟨⟨⟨hgu, hB1, hG1, -⟩, h6⟩, h7⟩
    have hF := Fr.new (tk := []) hF hB hG hb6 hn6
    have hF := Fr.new (tk := [b6]) hF hB hG hb7 hn7
    simp only [List.cons_append, List.nil_append, List.map_cons, List.map_nil] at hF
    clear hB hG
    have hB := (Bx.cons h7 (Bx.cons h6 hB1))
    have hG := hG1
    clear hB1 hG1 h6 h7
    refine hL _ _ ?_
    clear hL L hgu
    obtain ⟨u, rfl⟩ : ∃ x, x = v := ⟨_, rfl⟩
    have hD : b6 ≠ b7 ∧ b7 ≠ b6 := ⟨hF.ne 1 0 rfl rfl (by decide), hF.ne 0 1 rfl rfl (by decide)⟩
    have r := hB.r
    simp only [BxR] at r
    go_wp2_with fail
    clear r
    clear hD
    generalize hu0 : World.setCell (World.setCell u _ _) _ _ = u0
    have hBG := hB.over hF hG 1 rfl 0 [_, _] hu0
    clear hB hG hu0
    simp only [List.modify_succ_cons, List.modify_zero_cons, wrAll, List.setIfInBounds_toArray, List.set_cons_zero, List.set_cons_succ, Nat.zero_add, Nat.reduceAdd] at hBG
    obtain ⟨hB, hG⟩ := hBG
    clear u
    generalize hu1 : World.setCell (World.setCell u0 _ _) _ _ = u1
    have hBG := hB.over hF hG 0 rfl 0 [_, _] hu1
    clear hB hG hu1
    simp only [List.modify_succ_cons, List.modify_zero_cons, wrAll, List.setIfInBounds_toArray, List.set_cons_zero, List.set_cons_succ, Nat.zero_add, Nat.reduceAdd] at hBG
    obtain ⟨hB, hG⟩ := hBG
    clear u0
    obtain ⟨u, rfl⟩ : ∃ x, x = u1 := ⟨_, rfl⟩
    refine NoK.norm (hN _ _ ?_)
    clear hN K
    refine then_norm ?_
    refine wp_seq ?_
    refine wp_rd (w := w) allocs 10 [] [(0, 0), (0, 1), (0, 2), (0, 4), (0, 5), (0, 6), (1, 3), (1, 7), (1, 8), (2, 9)] (by kernel_rfl) (by kernel_rfl) (by simp only [List.drop_succ_cons, List.drop_zero]; exact rfl) (fun _ => True) noG hB hG trivial ?_
    intro K L hN hL
    simp only [pickOps, List.getElem?_toArray, List.getElem?_cons_zero, List.getElem?_cons_succ]
    apply gy
    · exact rfl
    · (rintro v - N hN; go_simp; exact hN)
    refine okf (by simp only [Act.put, List.setIfInBounds_toArray, List.set_cons_succ, List.set_cons_zero]; exact rfl) ?_
    apply gy
    · exact rfl
    · (rintro v ⟨hgu, hB, hG, -⟩ N hN; have r := hB.r; simp only [BxR] at r; go_simp; exact hN)
    refine okf (by simp only [Act.put, List.setIfInBounds_toArray, List.set_cons_succ, List.set_cons_zero]; exact rfl) ?_
    apply gy
    · exact rfl
    · (rintro v ⟨hgu, hB, hG, -⟩ N hN; have r := hB.r; simp only [BxR] at r; go_simp; exact hN)
    refine okf (by simp only [Act.put, List.setIfInBounds_toArray, List.set_cons_succ, List.set_cons_zero]; exact rfl) ?_
    apply gy
    · exact rfl
    · (rintro v - N hN; go_simp; exact hN)
    refine okf (by simp only [Act.put, List.setIfInBounds_toArray, List.set_cons_succ, List.set_cons_zero]; exact rfl) ?_
    apply gy
    · exact rfl
    · (rintro v ⟨hgu, hB, hG, -⟩ N hN; have r := hB.r; simp only [BxR] at r; go_simp; exact hN)
    refine okf (by simp only [Act.put, List.setIfInBounds_toArray, List.set_cons_succ, List.set_cons_zero]; exact rfl) ?_
    apply gy
    · exact rfl
    · (rintro v ⟨hgu, hB, hG, -⟩ N hN; have r := hB.r; simp only [BxR] at r; go_simp; exact hN)
    refine okf (by simp only [Act.put, List.setIfInBounds_toArray, List.set_cons_succ, List.set_cons_zero]; exact rfl) ?_
    apply gm
    · exact rfl
    · (rintro v ⟨hgu, hB, hG, -⟩ N hN; go_simp; ((with_reducible refine (frac_times _ _ (by assumption) _).mono ?_); rintro e w1 ⟨rfl, hb⟩; exact ⟨_, rfl, hN _ hb⟩))
    refine okf (by simp only [Act.put, List.setIfInBounds_toArray, List.set_cons_succ, List.set_cons_zero]; exact rfl) ?_
    apply gm
    · exact rfl
    · (rintro v ⟨hgu, hB, hG, -⟩ N hN; go_simp; ((with_reducible refine (frac_times _ _ (by assumption) _).mono ?_); rintro e w1 ⟨rfl, hb⟩; exact ⟨_, rfl, hN _ hb⟩))
    refine okf (by simp only [Act.put, List.setIfInBounds_toArray, List.set_cons_succ, List.set_cons_zero]; exact rfl) ?_
    apply gm
    · exact rfl
    · (rintro v ⟨hgu, hB, hG, -⟩ N hN; go_simp; ((with_reducible refine (Hau.out _).mono ?_); rintro e w1 ⟨rfl, hb⟩; exact ⟨_, rfl, hN _ hb⟩))
    refine okf (by simp only [Act.put, List.setIfInBounds_toArray, List.set_cons_succ, List.set_cons_zero]; exact rfl) ?_
    refine ga (newObj_Int _ _ _ _ _) fun b8 hb8 hn8 => ?_
    refine okf (by simp only [Act.put, List.setIfInBounds_toArray, List.set_cons_succ, List.set_cons_zero]; exact rfl) ?_
    refine gend ?_
    rintro v ⟨⟨hgu, hB1, hG1, -⟩, h8⟩
    have hF := Fr.new (tk := []) hF hB hG hb8 hn8
    simp only [List.cons_append, List.nil_append, List.map_cons, List.map_nil] at hF
    clear hB hG
    have hB := (Bx.cons h8 hB1)
    have hG := hG1
    clear hB1 hG1 h8
    refine hL _ _ ?_
    clear hL L hgu
    obtain ⟨u, rfl⟩ : ∃ x, x = v := ⟨_, rfl⟩
    have r := hB.r
    simp only [BxR] at r
    go_wp2_with fail
    clear r
    generalize hu0 : World.setCell (World.setCell (World.setCell u _ _) _ _) _ _ = u0
    have hBG := hB.over hF hG 0 rfl 0 [_, _, _] hu0
    clear hB hG hu0
    simp only [List.modify_succ_cons, List.modify_zero_cons, wrAll, List.setIfInBounds_toArray, List.set_cons_zero, List.set_cons_succ, Nat.zero_add, Nat.reduceAdd] at hBG
    obtain ⟨hB, hG⟩ := hBG
    clear u
    obtain ⟨u, rfl⟩ : ∃ x, x = u0 := ⟨_, rfl⟩
    refine NoK.norm (hN _ _ ?_)
    clear hN K
    refine then_norm ?_
    refine wp_seq ?_
    refine wp_rd (w := w) allocs 5 [] [(0, 0), (0, 1), (1, 2), (1, 3), (2, 4)] (by kernel_rfl) (by kernel_rfl) (by simp only [List.drop_succ_cons, List.drop_zero]; exact rfl) (fun _ => True) noG hB hG trivial ?_
    intro K L hN hL
    simp only [pickOps, List.getElem?_toArray, List.getElem?_cons_zero, List.getElem?_cons_succ]
    apply gy
    · exact rfl
    · (rintro v ⟨hgu, hB, hG, -⟩ N hN; have r := hB.r; simp only [BxR] at r; go_simp; exact hN)
    refine okf (by simp only [Act.put, List.setIfInBounds_toArray, List.set_cons_succ, List.set_cons_zero]; exact rfl) ?_
    apply gy
    · exact rfl
    · (rintro v ⟨hgu, hB, hG, -⟩ N hN; have r := hB.r; simp only [BxR] at r; go_simp; exact hN)
    refine okf (by simp only [Act.put, List.setIfInBounds_toArray, List.set_cons_succ, List.set_cons_zero]; exact rfl) ?_
    apply gm
    · exact rfl
    · (rintro v ⟨hgu, hB, hG, -⟩ N hN; go_simp; ((with_reducible refine (whole_From _ _ (by assumption) _).mono ?_); rintro e w1 ⟨rfl, hb⟩; exact ⟨_, rfl, hN _ hb⟩))
    refine okf (by simp only [Act.put, List.setIfInBounds_toArray, List.set_cons_succ, List.set_cons_zero]; exact rfl) ?_
    apply gm
    · exact rfl
    · (rintro v ⟨hgu, hB, hG, -⟩ N hN; go_simp; ((with_reducible refine (Hgu.out _ (HT.grow hG)).mono ?_); rintro e w1 ⟨rfl, hb⟩; exact ⟨_, rfl, hN _ hb⟩))
    refine okf (by simp only [Act.put, List.setIfInBounds_toArray, List.set_cons_succ, List.set_cons_zero]; exact rfl) ?_
    refine ga (newObj_Nat _ _ _ _ _) fun b9 hb9 hn9 => ?_
    refine okf (by simp only [Act.put, List.setIfInBounds_toArray, List.set_cons_succ, List.set_cons_zero]; exact rfl) ?_
    refine gend ?_
    rintro v ⟨⟨hgu, hB1, hG1, -⟩, h9⟩
    have hF := Fr.new (tk := []) hF hB hG hb9 hn9
    simp only [List.cons_append, List.nil_append, List.map_cons, List.map_nil] at hF
    clear hB hG
    have hB := (Bx.cons h9 hB1)
    have hG := hG1
    clear hB1 hG1 h9
    refine hL _ _ ?_
    clear hL L hgu
    obtain ⟨u, rfl⟩ : ∃ x, x = v := ⟨_, rfl⟩
    have r := hB.r
    simp only [BxR] at r
    go_wp2_with fail
    clear r
    generalize hu0 : World.setCell (World.setCell u _ _) _ _ = u0
    have hBG := hB.over hF hG 0 rfl 0 [_, _] hu0
    clear hB hG hu0
    simp only [List.modify_succ_cons, List.modify_zero_cons, wrAll, List.setIfInBounds_toArray, List.set_cons_zero, List.set_cons_succ, Nat.zero_add, Nat.reduceAdd] at hBG
    obtain ⟨hB, hG⟩ := hBG
    clear u
    obtain ⟨u, rfl⟩ : ∃ x, x = u0 := ⟨_, rfl⟩
    refine NoK.norm (hN _ _ ?_)
    clear hN K
    refine then_norm ?_
    refine wp_seq ?_
    refine wp_rd (w := w) allocs 10 [] [(0, 0), (0, 1), (0, 3), (0, 4), (0, 6), (1, 2), (1, 5), (1, 7), (1, 8), (1, 9)] (by kernel_rfl) (by kernel_rfl) (by simp only [List.drop_succ_cons, List.drop_zero]; exact rfl) (fun _ => True) noG hB hG trivial ?_
    intro K L hN hL
    simp only [pickOps, List.getElem?_toArray, List.getElem?_cons_zero, List.getElem?_cons_succ]
    apply gy
    · exact rfl
    · (rintro v ⟨hgu, hB, hG, -⟩ N hN; have r := hB.r; simp only [BxR] at r; go_simp; exact hN)
    refine okf (by simp only [Act.put, List.setIfInBounds_toArray, List.set_cons_succ, List.set_cons_zero]; exact rfl) ?_
    apply gy
    · exact rfl
    · (rintro v ⟨hgu, hB, hG, -⟩ N hN; have r := hB.r; simp only [BxR] at r; go_simp; exact hN)
    refine okf (by simp only [Act.put, List.setIfInBounds_toArray, List.set_cons_succ, List.set_cons_zero]; exact rfl) ?_
    apply gy
    · exact rfl
    · (rintro v ⟨hgu, hB, hG, -⟩ N hN; have r := hB.r; simp only [BxR] at r; go_simp; exact hN)
    refine okf (by simp only [Act.put, List.setIfInBounds_toArray, List.set_cons_succ, List.set_cons_zero]; exact rfl) ?_
    apply gy
    · exact rfl
    · (rintro v ⟨hgu, hB, hG, -⟩ N hN; have r := hB.r; simp only [BxR] at r; go_simp; exact hN)
    refine okf (by simp only [Act.put, List.setIfInBounds_toArray, List.set_cons_succ, List.set_cons_zero]; exact rfl) ?_
    apply gy
    · exact rfl
    · (rintro v ⟨hgu, hB, hG, -⟩ N hN; have r := hB.r; simp only [BxR] at r; go_simp; exact hN)
    refine okf (by simp only [Act.put, List.setIfInBounds_toArray, List.set_cons_succ, List.set_cons_zero]; exact rfl) ?_
    apply gm
    · exact rfl
    · (rintro v ⟨hgu, hB, hG, -⟩ N hN; go_simp; ((with_reducible refine (frac_part U H u1 k1 k0 _).mono ?_); rintro e w1 ⟨rfl, hb⟩; exact ⟨_, rfl, hN _ hb⟩))
    refine okf (by simp only [Act.put, List.setIfInBounds_toArray, List.set_cons_succ, List.set_cons_zero]; exact rfl) ?_
    apply gm
    · exact rfl
    · (rintro v ⟨hgu, hB, hG, -⟩ N hN; go_simp; ((with_reducible refine (frac_Den _ (by assumption) _).mono ?_); rintro e w1 ⟨rfl, hb⟩; exact ⟨_, rfl, hN _ hb⟩))
    refine okf (by simp only [Act.put, List.setIfInBounds_toArray, List.set_cons_succ, List.set_cons_zero]; exact rfl) ?_
    apply gm
    · exact rfl
    · (rintro v ⟨hgu, hB, hG, -⟩ N hN; go_simp; ((with_reducible refine (frac_over b.den H d2 k1 k0 _).mono ?_); rintro e w1 ⟨rfl, hb⟩; exact ⟨_, rfl, hN _ hb⟩))
    refine okf (by simp only [Act.put, List.setIfInBounds_toArray, List.set_cons_succ, List.set_cons_zero]; exact rfl) ?_
    apply gm
    · exact rfl
    · (rintro v ⟨hgu, hB, hG, -⟩ N hN; go_simp; ((with_reducible refine (nat_Mul _ _ (by assumption) (by assumption) _).mono ?_); rintro e w1 ⟨rfl, hb⟩; exact ⟨_, rfl, hN _ hb⟩))
    refine okf (by simp only [Act.put, List.setIfInBounds_toArray, List.set_cons_succ, List.set_cons_zero]; exact rfl) ?_
    apply gm
    · exact rfl
    · (rintro v ⟨hgu, hB, hG, -⟩ N hN; go_simp; ((with_reducible refine (frac_pack _ _ (by assumption) _).mono ?_); rintro e w1 ⟨rfl, hb⟩; exact ⟨_, rfl, hN _ hb⟩))
    refine okf (by simp only [Act.put, List.setIfInBounds_toArray, List.set_cons_succ, List.set_cons_zero]; exact rfl) ?_
    refine gend ?_
    rintro v ⟨hgu, hB1, hG1, -⟩
    clear hB hG
    have hB := hB1
    have hG := hG1
    clear hB1 hG1
    refine hL _ _ ?_
    clear hL L hgu
    obtain ⟨u, rfl⟩ : ∃ x, x = v := ⟨_, rfl⟩
    have r := hB.r
    simp only [BxR] at r
    go_wp2_with fail
    clear r
    generalize hu0 : World.setCell (World.setCell (World.setCell (World.setCell (World.setCell u _ _) _ _) _ _) _ _) _ _ = u0
    have hBG := hB.over hF hG 7 rfl 0 [_, _, _, _, _] hu0
    clear hB hG hu0
    simp only [List.modify_succ_cons, List.modify_zero_cons, wrAll, List.setIfInBounds_toArray, List.set_cons_zero, List.set_cons_succ, Nat.zero_add, Nat.reduceAdd] at hBG
    obtain ⟨hB, hG⟩ := hBG
    clear u
    obtain ⟨u, rfl⟩ : ∃ x, x = u0 := ⟨_, rfl⟩
    refine NoK.norm (hN _ _ ?_)
    clear hN K
    refine then_norm ?_
    refine wp_ret ?_
    refine ret_b rfl ?_
    intro N hN
    have r := hB.r
    simp only [BxR] at r
    simp only [results, Tryz.results21]
    go_simp
    refine hN _ ?_
    clear hN N r
    exact ⟨ret_nqV He2.out.1 He2.out.2, hG⟩
--! frac_Add = frac_Add _ _ _ SIDE (HT.grow hG)
theorem frac_Add (h : qs a + qs b + 1 ≤ BIG) (HT : Tab w) : Calls Tryz.prog 21 #[qV a, qV b] w fun e w' => e = .returned (qV (qadd a b)) ∧ Grow w w' := by
  have hB40 := BIG_le
  have h3 : bl a.den ≤ 1099511627776 := by have := qs_den a; omega
  have h4 : bl b.den ≤ 1099511627776 := by have := qs_den b; omega
  by_cases ha1 : a.den = 1
  · by_cases hb1 : b.den = 1
    · exact frac_Add_ww a b w h ha1 hb1
    · exact frac_Add_nn a b w HT h true false (isWhole_t a h3 ha1) (isWhole_f b h4 hb1) rfl
  · by_cases hb1 : b.den = 1
    · exact frac_Add_nn a b w HT h false true (isWhole_f a h3 ha1) (isWhole_t b h4 hb1) rfl
    · exact frac_Add_nn a b w HT h false false (isWhole_f a h3 ha1) (isWhole_f b h4 hb1) rfl
theorem qs_qneg : qs (qneg a) = qs a := qs_neg a
theorem qsub_eq : qadd a (qneg b) = qsub a b := (Rat.sub_eq_add_neg a b).symm
set_option maxHeartbeats 400000 in
set_option maxRecDepth 100000 in
--! frac_Sub = frac_Sub _ _ _ SIDE (HT.grow hG)
theorem frac_Sub (h : qs a + qs b + 1 ≤ BIG) (HT : Tab w) : Calls Tryz.prog 47 #[qV a, qV b] w fun e w' => e = .returned (qV (qsub a b)) ∧ Grow w w' := by
  have hB40 := BIG_le
  have h2 : bl b.num.natAbs ≤ 1099511627776 := by have := qs_num b; omega
  have h3 : qs a + qs (qneg b) + 1 ≤ BIG := by rw [qs_qneg]; exact h
  go_enter Tryz.func47, Tryz.ntmps47
  refine wp_seq (wp_r0 ?_)
  intro K hN
  go_wp2_with fail
  generalize hu : World.alloc (World.alloc (World.alloc w _) _) _ = u
  obtain ⟨hB, hG⟩ := bx_first [(_, _), (_, _), (_, _)] w u hu
  have hF := fr_first w [(32, #[]), (32, #[]), (32, #[])]
  simp only [numbered, List.map_cons, List.map_nil] at hB hF
  clear hu
  generalize w.heap.size + 1 + 1 = b4 at hB hF ⊢
  generalize w.heap.size + 1 = b3 at hB hF ⊢
  generalize w.heap.size = b2 at hB hF ⊢
  refine NoK.norm (hN _ _ ?_)
  clear hN K
  refine then_norm ?_
  refine wp_seq ?_
  refine wp_rd (w := w) allocs 4 [] [(0, 0), (0, 1), (1, 2), (1, 3)] (by kernel_rfl) (by kernel_rfl) (by simp only [List.drop_succ_cons, List.drop_zero]; exact rfl) (fun _ => True) noG hB hG trivial ?_
  intro K L hN hL
  simp only [pickOps, List.getElem?_toArray, List.getElem?_cons_zero, List.getElem?_cons_succ]
  apply gy
  · exact rfl
  · (rintro v ⟨hgu, hB, hG, -⟩ N hN; have r := hB.r; simp only [BxR] at r; go_simp; exact hN)
  refine okf (by simp only [Act.put, List.setIfInBounds_toArray, List.set_cons_succ, List.set_cons_zero]; exact rfl) ?_
  apply gy
  · exact rfl
  · (rintro v ⟨hgu, hB, hG, -⟩ N hN; have r := hB.r; simp only [BxR] at r; go_simp; exact hN)
  refine okf (by simp only [Act.put, List.setIfInBounds_toArray, List.set_cons_succ, List.set_cons_zero]; exact rfl) ?_
  apply gm
  · exact rfl
  · (rintro v ⟨hgu, hB, hG, -⟩ N hN; go_simp; ((with_reducible refine (frac_Neg _ (by assumption) _).mono ?_); rintro e w1 ⟨rfl, hb⟩; exact ⟨_, rfl, hN _ hb⟩))
  refine okf (by simp only [Act.put, List.setIfInBounds_toArray, List.set_cons_succ, List.set_cons_zero]; exact rfl) ?_
  apply gm
  · exact rfl
  · (rintro v ⟨hgu, hB, hG, -⟩ N hN; go_simp; ((with_reducible refine (frac_Add _ _ _ (by assumption) (HT.grow hG)).mono ?_); rintro e w1 ⟨rfl, hb⟩; exact ⟨_, rfl, hN _ hb⟩))
  refine okf (by simp only [Act.put, List.setIfInBounds_toArray, List.set_cons_succ, List.set_cons_zero]; exact rfl) ?_
  refine gend ?_
  rintro v ⟨hgu, hB1, hG1, -⟩
  clear hB hG
  have hB := hB1
  have hG := hG1
  clear hB1 hG1
  refine hL _ _ ?_
  clear hL L hgu
  obtain ⟨u, rfl⟩ : ∃ x, x = v := ⟨_, rfl⟩
  have r := hB.r
  simp only [BxR] at r
  go_wp2_with fail
  clear r
  generalize hu0 : World.setCell (World.setCell (World.setCell (World.setCell (World.setCell u _ _) _ _) _ _) _ _) _ _ = u0
  have hBG := hB.over hF hG 2 rfl 0 [_, _, _, _, _] hu0
  clear hB hG hu0
  simp only [List.modify_succ_cons, List.modify_zero_cons, wrAll, List.setIfInBounds_toArray, List.set_cons_zero, List.set_cons_succ, Nat.zero_add, Nat.reduceAdd] at hBG
  obtain ⟨hB, hG⟩ := hBG
  clear u
  obtain ⟨u, rfl⟩ : ∃ x, x = u0 := ⟨_, rfl⟩
  refine NoK.norm (hN _ _ ?_)
  clear hN K
  refine then_norm ?_
  refine wp_ret ?_
  refine ret_b rfl ?_
  intro N hN
  have r := hB.r
  simp only [BxR] at r
  simp only [results, Tryz.results47]
  go_simp
  refine hN _ ?_
  clear hN N r
  exact ⟨ret_qV (qsub_eq a b), hG⟩
set_option maxHeartbeats 1000000 in
set_option maxRecDepth 100000 in
theorem frac_Mul_ww (h : qs a + qs b ≤ BIG) (ha1 : a.den = 1) (hb1 : b.den = 1) : Calls Tryz.prog 22 #[qV a, qV b] w fun e w' => e = .returned (qV (qmul a b)) ∧ Grow w w' := by
  have hB40 := BIG_le
  have h1 : bl a.num.natAbs + bl b.num.natAbs ≤ 1099511627776 := by have := qs_num a; have := qs_num b; omega
  have h3 : bl a.den ≤ 1099511627776 := by have := qs_den a; omega
  have h4 : bl b.den ≤ 1099511627776 := by have := qs_den b; omega
  have e : qmul a b = ((a.num * b.num : Int) : Rat) := by
    unfold qmul
    rw [Rat.intCast_mul, ← whole_is a ha1, ← whole_is b hb1]
  have e1 : (qmul a b).num = zmul a.num b.num := by rw [e, Rat.num_intCast]; rfl
  have e2 : (qmul a b).den = 1 := by rw [e, Rat.den_intCast]
  have He := Lib.hid (And.intro e1 e2)
  have Ha1 := Lib.hid ha1
  have Hb1 := Lib.hid hb1
  clear e e1 e2 ha1 hb1
  go_enter Tryz.func22, Tryz.ntmps22
  refine wp_seq (wp_r0 ?_)
  intro K hN
  go_wp2_with fail
  generalize hu : World.alloc (World.alloc (World.alloc w _) _) _ = u
  obtain ⟨hB, hG⟩ := bx_first [(_, _), (_, _), (_, _)] w u hu
  have hF := fr_first w [(32, #[]), (32, #[]), (32, #[])]
  simp only [numbered, List.map_cons, List.map_nil] at hB hF
  clear hu
  generalize w.heap.size + 1 + 1 = b4 at hB hF ⊢
  generalize w.heap.size + 1 = b3 at hB hF ⊢
  generalize w.heap.size = b2 at hB hF ⊢
  refine NoK.norm (hN _ _ ?_)
  clear hN K
  refine then_norm ?_
  refine wp_seq ?_
  refine wp_seq ?_
  refine wp_rs (w := w) allocs 6 [0, 1, 0, 0, 1, 0] (by kernel_rfl) (by simp only [List.drop_succ_cons, List.drop_nil]; exact rfl) (fun _ => True) noG hB hG trivial ?_
  intro K L hN hL
  simp only [List.zip_cons_cons, List.zip_nil_left]
  apply gy
  · exact rfl
  · (rintro v ⟨hgu, hB, hG, -⟩ N hN; have r := hB.r; simp only [BxR] at r; go_simp; exact hN)
  refine okf (by simp only [Act.put, List.setIfInBounds_toArray, List.set_cons_succ, List.set_cons_zero]; exact rfl) ?_
  apply gm
  · exact rfl
  · (rintro v ⟨hgu, hB, hG, -⟩ N hN; go_simp; ((with_reducible refine (isWhole_t a h3 Ha1.out _).mono ?_); rintro e w1 ⟨rfl, hb⟩; exact ⟨_, rfl, hN _ hb⟩))
  refine okf (by simp only [Act.put, List.setIfInBounds_toArray, List.set_cons_succ, List.set_cons_zero]; exact rfl) ?_
  apply gy
  · exact rfl
  · (rintro v - N hN; go_simp; exact hN)
  refine okf (by simp only [Act.put, List.setIfInBounds_toArray, List.set_cons_succ, List.set_cons_zero]; exact rfl) ?_
  first
    | (apply gy
       · exact rfl
       · (rintro v ⟨hgu, hB, hG, -⟩ N hN; have r := hB.r; simp only [BxR] at r; go_simp; exact hN))
    | (apply gn; exact rfl)
  refine okf (by simp only [Act.put, List.setIfInBounds_toArray, List.set_cons_succ, List.set_cons_zero]; exact rfl) ?_
  first
    | (apply gm
       · exact rfl
       · (rintro v ⟨hgu, hB, hG, -⟩ N hN; go_simp; ((with_reducible refine (isWhole_t b h4 Hb1.out _).mono ?_); rintro e w1 ⟨rfl, hb⟩; exact ⟨_, rfl, hN _ hb⟩)))
    | (apply gmn; exact rfl)
  refine okf (by simp only [Act.put, List.setIfInBounds_toArray, List.set_cons_succ, List.set_cons_zero]; exact rfl) ?_
  apply gy
  · exact rfl
  · (rintro v - N hN; go_simp; exact hN)
  refine okf (by simp only [Act.put, List.setIfInBounds_toArray, List.set_cons_succ, List.set_cons_zero]; exact rfl) ?_
  refine gend ?_
  rintro v ⟨hgu, hB1, hG1, -⟩
  clear hB hG
  have hB := hB1
  have hG := hG1
  clear hB1 hG1
  refine hL _ _ ?_
  clear hL L hgu
  obtain ⟨u, rfl⟩ : ∃ x, x = v := ⟨_, rfl⟩
  refine wpList_nil ?_
  refine NoK.norm (hN _ _ ?_)
  clear hN K
  refine then_norm ?_
  refine wp_cond_true (rfl) ?_
  refine wp_seq ?_
  refine wp_rs (w := w) allocs 6 [0, 0, 0, 0, 1, 0] (by kernel_rfl) (by simp only [List.drop_succ_cons, List.drop_zero]; exact rfl) (fun _ => True) noG hB hG trivial ?_
  intro K L hN hL
  simp only [List.zip_cons_cons, List.zip_nil_left]
  apply gy
  · exact rfl
  · (rintro v - N hN; go_simp; exact hN)
  refine okf (by simp only [Act.put, List.setIfInBounds_toArray, List.set_cons_succ, List.set_cons_zero]; exact rfl) ?_
  apply gy
  · exact rfl
  · (rintro v ⟨hgu, hB, hG, -⟩ N hN; have r := hB.r; simp only [BxR] at r; go_simp; exact hN)
  refine okf (by simp only [Act.put, List.setIfInBounds_toArray, List.set_cons_succ, List.set_cons_zero]; exact rfl) ?_
  apply gy
  · exact rfl
  · (rintro v - N hN; go_simp; exact hN)
  refine okf (by simp only [Act.put, List.setIfInBounds_toArray, List.set_cons_succ, List.set_cons_zero]; exact rfl) ?_
  apply gy
  · exact rfl
  · (rintro v ⟨hgu, hB, hG, -⟩ N hN; have r := hB.r; simp only [BxR] at r; go_simp; exact hN)
  refine okf (by simp only [Act.put, List.setIfInBounds_toArray, List.set_cons_succ, List.set_cons_zero]; exact rfl) ?_
  apply gm
  · exact rfl
  · (rintro v ⟨hgu, hB, hG, -⟩ N hN; go_simp; ((with_reducible refine (whole_Mul _ _ (by assumption) _).mono ?_); rintro e w1 ⟨rfl, hb⟩; exact ⟨_, rfl, hN _ hb⟩))
  refine okf (by simp only [Act.put, List.setIfInBounds_toArray, List.set_cons_succ, List.set_cons_zero]; exact rfl) ?_
  apply gy
  · exact rfl
  · (rintro v - N hN; go_simp; exact hN)
  refine okf (by simp only [Act.put, List.setIfInBounds_toArray, List.set_cons_succ, List.set_cons_zero]; exact rfl) ?_
  refine gend ?_
  rintro v ⟨hgu, hB1, hG1, -⟩
  clear hB hG
  have hB := hB1
  have hG := hG1
  clear hB1 hG1
  refine hL _ _ ?_
  clear hL L hgu
  obtain ⟨u, rfl⟩ : ∃ x, x = v := ⟨_, rfl⟩
  have r := hB.r
  simp only [BxR] at r
  go_wp2_with fail
  clear r
  generalize hu0 : World.setCell (World.setCell (World.setCell (World.setCell (World.setCell u _ _) _ _) _ _) _ _) _ _ = u0
  have hBG := hB.over hF hG 2 rfl 0 [_, _, _, _, _] hu0
  clear hB hG hu0
  simp only [List.modify_succ_cons, List.modify_zero_cons, wrAll, List.setIfInBounds_toArray, List.set_cons_zero, List.set_cons_succ, Nat.zero_add, Nat.reduceAdd] at hBG
  obtain ⟨hB, hG⟩ := hBG
  clear u
  obtain ⟨u, rfl⟩ : ∃ x, x = u0 := ⟨_, rfl⟩
  refine NoK.norm (hN _ _ ?_)
  clear hN K
  refine then_norm ?_
  refine wp_ret ?_
  refine then_ret ?_
  refine ret_b rfl ?_
  intro N hN
  have r := hB.r
  simp only [BxR] at r
  simp only [results, Tryz.results22]
  go_simp
  refine hN _ ?_
  clear hN N r
  exact ⟨ret_nqV He.out.1 He.out.2, hG⟩
set_option maxHeartbeats 4000000 in
set_option maxRecDepth 100000 in
theorem frac_Mul_nn (HT : Tab w) (h : qs a + qs b ≤ BIG) (x y : Bool) (hx : ∀ W, Calls Tryz.prog 65 #[qV a] W fun e w' => e = .returned (.bool x) ∧ Grow W w') (hy : ∀ W, Calls Tryz.prog 65 #[qV b] W fun e w' => e = .returned (.bool y) ∧ Grow W w') (hxy : (x && y) = false) :
    Calls Tryz.prog 22 #[qV a, qV b] w fun e w' => e = .returned (qV (qmul a b)) ∧ Grow w w' := by
  have hB40 := BIG_le
  have s1 := qs_num a
  have s2 := qs_den a
  have s3 := qs_num b
  have s4 := qs_den b
  have n1 : bl a.num.natAbs ≤ BIG := by omega
  have n2 : bl b.num.natAbs ≤ BIG := by omega
  have d1 : bl a.den ≤ BIG := by omega
  have d2 : bl b.den ≤ BIG := by omega
  have d1' := fits_most d1
  have d2' := fits_most d2
  have He := Lib.hid (And.intro (num_mul_ a b) (den_mul_ a b))
  obtain ⟨G, hG0⟩ : ∃ G, G = Nat.gcd a.num.natAbs b.den := ⟨_, rfl⟩
  obtain ⟨H, hH0⟩ : ∃ H, H = Nat.gcd b.num.natAbs a.den := ⟨_, rfl⟩
  have g0 : G ≠ 0 := fun e => b.den_nz (Nat.eq_zero_of_gcd_eq_zero_right (hG0 ▸ e))
  have k0 : H ≠ 0 := fun e => a.den_nz (Nat.eq_zero_of_gcd_eq_zero_right (hH0 ▸ e))
  have g1 : bl G ≤ BIG := by rw [hG0]; exact Nat.le_trans (bl_gcd_le' _ _ b.den_nz) d2
  have k1 : bl H ≤ BIG := by rw [hH0]; exact Nat.le_trans (bl_gcd_le' _ _ a.den_nz) d1
  have hgc : ∀ W, Tab W → Calls Tryz.prog 67 #[intV a.num, intV (sgn false b.den)] W fun e w' => e = .returned (natV G) ∧ Grow W w' := fun W ht => hG0 ▸ gcd_nd a.num b.den n1 d2 W ht
  have hgu : ∀ W, Tab W → Calls Tryz.prog 67 #[intV b.num, intV (sgn false a.den)] W fun e w' => e = .returned (natV H) ∧ Grow W w' := fun W ht => hH0 ▸ gcd_nd b.num a.den n2 d1 W ht
  have e1 : (qmul a b).num = zmul (ztd a.num G) (ztd b.num H) := by rw [hG0, hH0]; exact He.out.1
  have e2 : (qmul a b).den = a.den / H * (b.den / G) := by rw [hG0, hH0]; exact He.out.2
  have He2 := Lib.hid (And.intro e1 e2)
  have f1 : bl (a.den / H) ≤ 1099511627776 := Nat.le_trans (bl_div_le _ _) d1'
  have f2 : bl (b.den / G) ≤ 1099511627776 := Nat.le_trans (bl_div_le _ _) d2'
  have f3 : bl (a.den / H * (b.den / G)) ≤ 1099511627776 := by
    have s1 := bl_mul_le (a.den / H) (b.den / G)
    have s2 := bl_div_le a.den H
    have s3 := bl_div_le b.den G
    omega
  have f4 : bl (ztd a.num G).natAbs + bl (ztd b.num H).natAbs ≤ 1099511627776 := by
    have s1 := bl_mono (natAbs_tdiv_le a.num G)
    have s2 := bl_mono (natAbs_tdiv_le b.num H)
    unfold ztd
    omega
  have Hx := Lib.hid hx
  have Hy := Lib.hid hy
  have Hgc := Lib.hid hgc
  have Hgu := Lib.hid hgu
  clear hx hy hgc hgu e1 e2 He hG0 hH0
  cases x <;> cases y <;> first | (exact absurd hxy (by decide)) | skip
  all_goals clear hxy
  all_goals
    go_enter Tryz.func22, Tryz.ntmps22
    refine wp_seq (wp_r0 ?_)
    intro K hN
    go_wp2_with fail
    generalize hu : World.alloc (World.alloc (World.alloc w _) _) _ = u
    obtain ⟨hB, hG⟩ := bx_first [(_, _), (_, _), (_, _)] w u hu
    have hF := fr_first w [(32, #[]), (32, #[]), (32, #[])]
    simp only [numbered, List.map_cons, List.map_nil] at hB hF
    clear hu
    generalize w.heap.size + 1 + 1 = b4 at hB hF ⊢
    generalize w.heap.size + 1 = b3 at hB hF ⊢
    generalize w.heap.size = b2 at hB hF ⊢
    refine NoK.norm (hN _ _ ?_)
    clear hN K
    refine then_norm ?_
    refine wp_seq ?_
    refine wp_seq ?_
    refine wp_rs (w := w) allocs 6 [0, 1, 0, 0, 1, 0] (by kernel_rfl) (by simp only [List.drop_succ_cons, List.drop_nil]; exact rfl) (fun _ => True) noG hB hG trivial ?_
    intro K L hN hL
    simp only [List.zip_cons_cons, List.zip_nil_left]
    apply gy
    · exact rfl
    · (rintro v ⟨hgu, hB, hG, -⟩ N hN; have r := hB.r; simp only [BxR] at r; go_simp; exact hN)
    refine okf (by simp only [Act.put, List.setIfInBounds_toArray, List.set_cons_succ, List.set_cons_zero]; exact rfl) ?_
    apply gm
    · exact rfl
    · (rintro v ⟨hgu, hB, hG, -⟩ N hN; go_simp; ((with_reducible refine (Hx.out _).mono ?_); rintro e w1 ⟨rfl, hb⟩; exact ⟨_, rfl, hN _ hb⟩))
    refine okf (by simp only [Act.put, List.setIfInBounds_toArray, List.set_cons_succ, List.set_cons_zero]; exact rfl) ?_
    apply gy
    · exact rfl
    · (rintro v - N hN; go_simp; exact hN)
    refine okf (by simp only [Act.put, List.setIfInBounds_toArray, List.set_cons_succ, List.set_cons_zero]; exact rfl) ?_
    first
      | (apply gy
         · exact rfl
         · (rintro v ⟨hgu, hB, hG, -⟩ N hN; have r := hB.r; simp only [BxR] at r; go_simp; exact hN))
      | (apply gn; exact rfl)
    refine okf (by simp only [Act.put, List.setIfInBounds_toArray, List.set_cons_succ, List.set_cons_zero]; exact rfl) ?_
    first
      | (apply gm
         · exact rfl
         · (rintro v ⟨hgu, hB, hG, -⟩ N hN; go_simp; ((with_reducible refine (Hy.out _).mono ?_); rintro e w1 ⟨rfl, hb⟩; exact ⟨_, rfl, hN _ hb⟩)))
      | (apply gmn; exact rfl)
    refine okf (by simp only [Act.put, List.setIfInBounds_toArray, List.set_cons_succ, List.set_cons_zero]; exact rfl) ?_
    apply gy
    · exact rfl
    · (rintro v - N hN; go_simp; exact hN)
    refine okf (by simp only [Act.put, List.setIfInBounds_toArray, List.set_cons_succ, List.set_cons_zero]; exact rfl) ?_
    refine gend ?_
    rintro v ⟨hgu, hB1, hG1, -⟩
    clear hB hG
    have hB := hB1
    have hG := hG1
    clear hB1 hG1
    refine hL _ _ ?_
    clear hL L hgu
    obtain ⟨u, rfl⟩ : ∃ x, x = v := ⟨_, rfl⟩
    refine wpList_nil ?_
    refine NoK.norm (hN _ _ ?_)
    clear hN K
    refine then_norm ?_
    refine wp_cond_false (rfl) ?_
    refine wp_skip ?_
    refine then_norm ?_
    refine wp_seq ?_
    refine wp_rd (w := w) allocs 7 [] [(0, 0), (0, 1), (0, 2), (1, 3), (1, 4), (1, 5), (2, 6)] (by kernel_rfl) (by kernel_rfl) (by simp only [List.drop_succ_cons, List.drop_zero]; exact rfl) (fun _ => True) noG hB hG trivial ?_
    intro K L hN hL
    simp only [pickOps, List.getElem?_toArray, List.getElem?_cons_zero, List.getElem?_cons_succ]
    apply gy
    · exact rfl
    · (rintro v - N hN; go_simp; exact hN)
    refine okf (by simp only [Act.put, List.setIfInBounds_toArray, List.set_cons_succ, List.set_cons_zero]; exact rfl) ?_
    apply gy
    · exact rfl
    · (rintro v ⟨hgu, hB, hG, -⟩ N hN; have r := hB.r; simp only [BxR] at r; go_simp; exact hN)
    refine okf (by simp only [Act.put, List.setIfInBounds_toArray, List.set_cons_succ, List.set_cons_zero]; exact rfl) ?_
    apply gy
    · exact rfl
    · (rintro v ⟨hgu, hB, hG, -⟩ N hN; have r := hB.r; simp only [BxR] at r; go_simp; exact hN)
    refine okf (by simp only [Act.put, List.setIfInBounds_toArray, List.set_cons_succ, List.set_cons_zero]; exact rfl) ?_
    apply gm
    · exact rfl
    · (rintro v ⟨hgu, hB, hG, -⟩ N hN; go_simp; ((with_reducible refine (frac_Den _ (by assumption) _).mono ?_); rintro e w1 ⟨rfl, hb⟩; exact ⟨_, rfl, hN _ hb⟩))
    refine okf (by simp only [Act.put, List.setIfInBounds_toArray, List.set_cons_succ, List.set_cons_zero]; exact rfl) ?_
    apply gm
    · exact rfl
    · (rintro v ⟨hgu, hB, hG, -⟩ N hN; go_simp; ((with_reducible refine (whole_From _ _ (by assumption) _).mono ?_); rintro e w1 ⟨rfl, hb⟩; exact ⟨_, rfl, hN _ hb⟩))
    refine okf (by simp only [Act.put, List.setIfInBounds_toArray, List.set_cons_succ, List.set_cons_zero]; exact rfl) ?_
    apply gm
    · exact rfl
    · (rintro v ⟨hgu, hB, hG, -⟩ N hN; go_simp; ((with_reducible refine (Hgc.out _ (HT.grow hG)).mono ?_); rintro e w1 ⟨rfl, hb⟩; exact ⟨_, rfl, hN _ hb⟩))
    refine okf (by simp only [Act.put, List.setIfInBounds_toArray, List.set_cons_succ, List.set_cons_zero]; exact rfl) ?_
    refine ga (newObj_Nat _ _ _ _ _) fun b5 hb5 hn5 => ?_
    refine okf (by simp only [Act.put, List.setIfInBounds_toArray, List.set_cons_succ, List.set_cons_zero]; exact rfl) ?_
    refine gend ?_
    rintro v ⟨⟨hgu, hB1, hG1, -⟩, h5⟩
    have hF := Fr.new (tk := []) hF hB hG hb5 hn5
    simp only [List.cons_append, List.nil_append, List.map_cons, List.map_nil] at hF
    clear hB hG
    have hB := (Bx.cons h5 hB1)
    have hG := hG1
    clear hB1 hG1 h5
    refine hL _ _ ?_
    clear hL L hgu
    obtain ⟨u, rfl⟩ : ∃ x, x = v := ⟨_, rfl⟩
    have r := hB.r
    simp only [BxR] at r
    go_wp2_with fail
    clear r
    generalize hu0 : World.setCell (World.setCell u _ _) _ _ = u0
    have hBG := hB.over hF hG 0 rfl 0 [_, _] hu0
    clear hB hG hu0
    simp only [List.modify_succ_cons, List.modify_zero_cons, wrAll, List.setIfInBounds_toArray, List.set_cons_zero, List.set_cons_succ, Nat.zero_add, Nat.reduceAdd] at hBG
    obtain ⟨hB, hG⟩ := hBG
    clear u
    obtain ⟨u, rfl⟩ : ∃ x, x = u0 := ⟨_, rfl⟩
    refine NoK.norm (hN _ _ ?_)
    clear hN K
    refine then_norm ?_
    refine wp_seq ?_
    refine wp_rd (w := w) allocs 7 [] [(0, 0), (0, 1), (0, 2), (1, 3), (1, 4), (1, 5), (2, 6)] (by kernel_rfl) (by kernel_rfl) (by simp only [List.drop_succ_cons, List.drop_zero]; exact rfl) (fun _ => True) noG hB hG trivial ?_
    intro K L hN hL
    simp only [pickOps, List.getElem?_toArray, List.getElem?_cons_zero, List.getElem?_cons_succ]
    apply gy
    · exact rfl
    · (rintro v - N hN; go_simp; exact hN)
    refine okf (by simp only [Act.put, List.setIfInBounds_toArray, List.set_cons_succ, List.set_cons_zero]; exact rfl) ?_
    apply gy
    · exact rfl
    · (rintro v ⟨hgu, hB, hG, -⟩ N hN; have r := hB.r; simp only [BxR] at r; go_simp; exact hN)
    refine okf (by simp only [Act.put, List.setIfInBounds_toArray, List.set_cons_succ, List.set_cons_zero]; exact rfl) ?_
    apply gy
    · exact rfl
    · (rintro v ⟨hgu, hB, hG, -⟩ N hN; have r := hB.r; simp only [BxR] at r; go_simp; exact hN)
    refine okf (by simp only [Act.put, List.setIfInBounds_toArray, List.set_cons_succ, List.set_cons_zero]; exact rfl) ?_
    apply gm
    · exact rfl
    · (rintro v ⟨hgu, hB, hG, -⟩ N hN; go_simp; ((with_reducible refine (frac_Den _ (by assumption) _).mono ?_); rintro e w1 ⟨rfl, hb⟩; exact ⟨_, rfl, hN _ hb⟩))
    refine okf (by simp only [Act.put, List.setIfInBounds_toArray, List.set_cons_succ, List.set_cons_zero]; exact rfl) ?_
    apply gm
    · exact rfl
    · (rintro v ⟨hgu, hB, hG, -⟩ N hN; go_simp; ((with_reducible refine (whole_From _ _ (by assumption) _).mono ?_); rintro e w1 ⟨rfl, hb⟩; exact ⟨_, rfl, hN _ hb⟩))
    refine okf (by simp only [Act.put, List.setIfInBounds_toArray, List.set_cons_succ, List.set_cons_zero]; exact rfl) ?_
    apply gm
    · exact rfl
    · (rintro v ⟨hgu, hB, hG, -⟩ N hN; go_simp; ((with_reducible refine (Hgu.out _ (HT.grow hG)).mono ?_); rintro e w1 ⟨rfl, hb⟩; exact ⟨_, rfl, hN _ hb⟩))
    refine okf (by simp only [Act.put, List.setIfInBounds_toArray, List.set_cons_succ, List.set_cons_zero]; exact rfl) ?_
    refine ga (newObj_Nat _ _ _ _ _) fun b6 hb6 hn6 => ?_
    refine okf (by simp only [Act.put, List.setIfInBounds_toArray, List.set_cons_succ, List.set_cons_zero]; exact rfl) ?_
    refine gend ?_
    rintro v ⟨⟨hgu, hB1, hG1, -⟩, h6⟩
    have hF := Fr.new (tk := []) hF hB hG hb6 hn6
    simp only [List.cons_append, List.nil_append, List.map_cons, List.map_nil] at hF
    clear hB hG
    have hB := (Bx.cons h6 hB1)
    have hG := hG1
    clear hB1 hG1 h6
    refine hL _ _ ?_
    clear hL L hgu
    obtain ⟨u, rfl⟩ : ∃ x, x = v := ⟨_, rfl⟩
    have r := hB.r
    simp only [BxR] at r
    go_wp2_with fail
    clear r
    generalize hu0 : World.setCell (World.setCell u _ _) _ _ = u0
    have hBG := hB.over hF hG 0 rfl 0 [_, _] hu0
    clear hB hG hu0
    simp only [List.modify_succ_cons, List.modify_zero_cons, wrAll, List.setIfInBounds_toArray, List.set_cons_zero, List.set_cons_succ, Nat.zero_add, Nat.reduceAdd] at hBG
    obtain ⟨hB, hG⟩ := hBG
    clear u
    obtain ⟨u, rfl⟩ : ∃ x, x = u0 := ⟨_, rfl⟩
    refine NoK.norm (hN _ _ ?_)
    clear hN K
    refine then_norm ?_
    refine wp_seq ?_
    refine wp_rd (w := w) allocs 19 [] [(0, 0), (0, 1), (0, 2), (0, 4), (0, 5), (0, 6), (0, 9), (0, 11), (0, 13), (0, 15), (1, 3), (1, 7), (1, 8), (1, 10), (1, 12), (1, 14), (1, 16), (1, 17), (1, 18)] (by kernel_rfl) (by kernel_rfl) (by simp only [List.drop_succ_cons, List.drop_zero]; exact rfl) (fun _ => True) noG hB hG trivial ?_
    intro K L hN hL
    simp only [pickOps, List.getElem?_toArray, List.getElem?_cons_zero, List.getElem?_cons_succ]
    apply gy
    · exact rfl
    · (rintro v - N hN; go_simp; exact hN)
    refine okf (by simp only [Act.put, List.setIfInBounds_toArray, List.set_cons_succ, List.set_cons_zero]; exact rfl) ?_
    apply gy
    · exact rfl
    · (rintro v ⟨hgu, hB, hG, -⟩ N hN; have r := hB.r; simp only [BxR] at r; go_simp; exact hN)
    refine okf (by simp only [Act.put, List.setIfInBounds_toArray, List.set_cons_succ, List.set_cons_zero]; exact rfl) ?_
    apply gy
    · exact rfl
    · (rintro v ⟨hgu, hB, hG, -⟩ N hN; have r := hB.r; simp only [BxR] at r; go_simp; exact hN)
    refine okf (by simp only [Act.put, List.setIfInBounds_toArray, List.set_cons_succ, List.set_cons_zero]; exact rfl) ?_
    apply gy
    · exact rfl
    · (rintro v - N hN; go_simp; exact hN)
    refine okf (by simp only [Act.put, List.setIfInBounds_toArray, List.set_cons_succ, List.set_cons_zero]; exact rfl) ?_
    apply gy
    · exact rfl
    · (rintro v ⟨hgu, hB, hG, -⟩ N hN; have r := hB.r; simp only [BxR] at r; go_simp; exact hN)
    refine okf (by simp only [Act.put, List.setIfInBounds_toArray, List.set_cons_succ, List.set_cons_zero]; exact rfl) ?_
    apply gy
    · exact rfl
    · (rintro v ⟨hgu, hB, hG, -⟩ N hN; have r := hB.r; simp only [BxR] at r; go_simp; exact hN)
    refine okf (by simp only [Act.put, List.setIfInBounds_toArray, List.set_cons_succ, List.set_cons_zero]; exact rfl) ?_
    apply gy
    · exact rfl
    · (rintro v ⟨hgu, hB, hG, -⟩ N hN; have r := hB.r; simp only [BxR] at r; go_simp; exact hN)
    refine okf (by simp only [Act.put, List.setIfInBounds_toArray, List.set_cons_succ, List.set_cons_zero]; exact rfl) ?_
    apply gy
    · exact rfl
    · (rintro v ⟨hgu, hB, hG, -⟩ N hN; have r := hB.r; simp only [BxR] at r; go_simp; exact hN)
    refine okf (by simp only [Act.put, List.setIfInBounds_toArray, List.set_cons_succ, List.set_cons_zero]; exact rfl) ?_
    apply gy
    · exact rfl
    · (rintro v ⟨hgu, hB, hG, -⟩ N hN; have r := hB.r; simp only [BxR] at r; go_simp; exact hN)
    refine okf (by simp only [Act.put, List.setIfInBounds_toArray, List.set_cons_succ, List.set_cons_zero]; exact rfl) ?_
    apply gy
    · exact rfl
    · (rintro v ⟨hgu, hB, hG, -⟩ N hN; have r := hB.r; simp only [BxR] at r; go_simp; exact hN)
    refine okf (by simp only [Act.put, List.setIfInBounds_toArray, List.set_cons_succ, List.set_cons_zero]; exact rfl) ?_
    apply gm
    · exact rfl
    · (rintro v ⟨hgu, hB, hG, -⟩ N hN; go_simp; ((with_reducible refine (frac_part a.num G n1 g1 g0 _).mono ?_); rintro e w1 ⟨rfl, hb⟩; exact ⟨_, rfl, hN _ hb⟩))
    refine okf (by simp only [Act.put, List.setIfInBounds_toArray, List.set_cons_succ, List.set_cons_zero]; exact rfl) ?_
    apply gm
    · exact rfl
    · (rintro v ⟨hgu, hB, hG, -⟩ N hN; go_simp; ((with_reducible refine (frac_part b.num H n2 k1 k0 _).mono ?_); rintro e w1 ⟨rfl, hb⟩; exact ⟨_, rfl, hN _ hb⟩))
    refine okf (by simp only [Act.put, List.setIfInBounds_toArray, List.set_cons_succ, List.set_cons_zero]; exact rfl) ?_
    apply gm
    · exact rfl
    · (rintro v ⟨hgu, hB, hG, -⟩ N hN; go_simp; ((with_reducible refine (whole_Mul _ _ (by assumption) _).mono ?_); rintro e w1 ⟨rfl, hb⟩; exact ⟨_, rfl, hN _ hb⟩))
    refine okf (by simp only [Act.put, List.setIfInBounds_toArray, List.set_cons_succ, List.set_cons_zero]; exact rfl) ?_
    apply gm
    · exact rfl
    · (rintro v ⟨hgu, hB, hG, -⟩ N hN; go_simp; ((with_reducible refine (frac_Den _ (by assumption) _).mono ?_); rintro e w1 ⟨rfl, hb⟩; exact ⟨_, rfl, hN _ hb⟩))
    refine okf (by simp only [Act.put, List.setIfInBounds_toArray, List.set_cons_succ, List.set_cons_zero]; exact rfl) ?_
    apply gm
    · exact rfl
    · (rintro v ⟨hgu, hB, hG, -⟩ N hN; go_simp; ((with_reducible refine (frac_over a.den H d1 k1 k0 _).mono ?_); rintro e w1 ⟨rfl, hb⟩; exact ⟨_, rfl, hN _ hb⟩))
    refine okf (by simp only [Act.put, List.setIfInBounds_toArray, List.set_cons_succ, List.set_cons_zero]; exact rfl) ?_
    apply gm
    · exact rfl
    · (rintro v ⟨hgu, hB, hG, -⟩ N hN; go_simp; ((with_reducible refine (frac_Den _ (by assumption) _).mono ?_); rintro e w1 ⟨rfl, hb⟩; exact ⟨_, rfl, hN _ hb⟩))
    refine okf (by simp only [Act.put, List.setIfInBounds_toArray, List.set_cons_succ, List.set_cons_zero]; exact rfl) ?_
    apply gm
    · exact rfl
    · (rintro v ⟨hgu, hB, hG, -⟩ N hN; go_simp; ((with_reducible refine (frac_over b.den G d2 g1 g0 _).mono ?_); rintro e w1 ⟨rfl, hb⟩; exact ⟨_, rfl, hN _ hb⟩))
    refine okf (by simp only [Act.put, List.setIfInBounds_toArray, List.set_cons_succ, List.set_cons_zero]; exact rfl) ?_
    apply gm
    · exact rfl
    · (rintro v ⟨hgu, hB, hG, -⟩ N hN; go_simp; ((with_reducible refine (nat_Mul _ _ (by assumption) (by assumption) _).mono ?_); rintro e w1 ⟨rfl, hb⟩; exact ⟨_, rfl, hN _ hb⟩))
    refine okf (by simp only [Act.put, List.setIfInBounds_toArray, List.set_cons_succ, List.set_cons_zero]; exact rfl) ?_
    apply gm
    · exact rfl
    · (rintro v ⟨hgu, hB, hG, -⟩ N hN; go_simp; ((with_reducible refine (frac_pack _ _ (by assumption) _).mono ?_); rintro e w1 ⟨rfl, hb⟩; exact ⟨_, rfl, hN _ hb⟩))
    refine okf (by simp only [Act.put, List.setIfInBounds_toArray, List.set_cons_succ, List.set_cons_zero]; exact rfl) ?_
    refine gend ?_
    rintro v ⟨hgu, hB1, hG1, -⟩
    clear hB hG
    have hB := hB1
    have hG := hG1
    clear hB1 hG1
    refine hL _ _ ?_
    clear hL L hgu
    obtain ⟨u, rfl⟩ : ∃ x, x = v := ⟨_, rfl⟩
    have r := hB.r
    simp only [BxR] at r
    go_wp2_with fail
    clear r
    generalize hu0 : World.setCell (World.setCell (World.setCell (World.setCell (World.setCell u _ _) _ _) _ _) _ _) _ _ = u0
    have hBG := hB.over hF hG 4 rfl 0 [_, _, _, _, _] hu0
    clear hB hG hu0
    simp only [List.modify_succ_cons, List.modify_zero_cons, wrAll, List.setIfInBounds_toArray, List.set_cons_zero, List.set_cons_succ, Nat.zero_add, Nat.reduceAdd] at hBG
    obtain ⟨hB, hG⟩ := hBG
    clear u
    obtain ⟨u, rfl⟩ : ∃ x, x = u0 := ⟨_, rfl⟩
    refine NoK.norm (hN _ _ ?_)
    clear hN K
    refine then_norm ?_
    refine wp_ret ?_
    refine ret_b rfl ?_
    intro N hN
    have r := hB.r
    simp only [BxR] at r
    simp only [results, Tryz.results22]
    go_simp
    refine hN _ ?_
    clear hN N r
    exact ⟨ret_nqV He2.out.1 He2.out.2, hG⟩
--! frac_Mul = frac_Mul _ _ _ SIDE (HT.grow hG)
theorem frac_Mul (h : qs a + qs b ≤ BIG) (HT : Tab w) : Calls Tryz.prog 22 #[qV a, qV b] w fun e w' => e = .returned (qV (qmul a b)) ∧ Grow w w' := by
  have hB40 := BIG_le
  have h3 : bl a.den ≤ 1099511627776 := by have := qs_den a; omega
  have h4 : bl b.den ≤ 1099511627776 := by have := qs_den b; omega
  by_cases ha1 : a.den = 1
  · by_cases hb1 : b.den = 1
    · exact frac_Mul_ww a b w h ha1 hb1
    · exact frac_Mul_nn a b w HT h true false (isWhole_t a h3 ha1) (isWhole_f b h4 hb1) rfl
  · by_cases hb1 : b.den = 1
    · exact frac_Mul_nn a b w HT h false true (isWhole_f a h3 ha1) (isWhole_t b h4 hb1) rfl
    · exact frac_Mul_nn a b w HT h false false (isWhole_f a h3 ha1) (isWhole_f b h4 hb1) rfl
theorem inv_num (h : b ≠ 0) : b⁻¹.num = sgn (intNeg b.num) b.den := by
  rw [Rat.num_inv]
  have h0 : b.num ≠ 0 := fun e => h (Rat.num_eq_zero.1 e)
  unfold sgn intNeg
  by_cases hn : b.num < 0
  · rw [if_pos (decide_eq_true hn), Int.sign_eq_neg_one_of_neg hn]; omega
  · rw [if_neg (by simpa using hn), Int.sign_eq_one_of_pos (by omega)]; omega
theorem inv_den (h : b ≠ 0) : b⁻¹.den = b.num.natAbs := by
  rw [Rat.den_inv, if_neg (fun e => h (Rat.num_eq_zero.1 e))]
def qinv (b : Rat) : Rat := b⁻¹
theorem pack_inv (h : b ≠ 0) (hb : bl b.num.natAbs ≤ 1099511627776) : Calls Tryz.prog 72 #[intV (sgn (decide (b.num < 0)) b.den), natV b.num.natAbs] w fun e w' => e = .returned (qV (qinv b)) ∧ Grow w w' := by
  have := frac_pack (sgn (intNeg b.num) b.den) b.num.natAbs hb w
  rw [nqV_eq (q := b⁻¹) (inv_num b h) (inv_den b h)] at this
  exact this
set_option maxHeartbeats 1000000 in
set_option maxRecDepth 100000 in
theorem frac_Div_zero (h : bl b.num.natAbs ≤ 1099511627776) (h0 : b = 0) : Calls Tryz.prog 24 #[qV a, qV b] w fun e w' => e = .returned (.tuple #[qV (qdiv a b), .bool (nzq b)]) ∧ Grow w w' := by
  have hs : (b.num.sign == 0) = true := by rw [h0]; rfl
  have h1 : qdiv a b = 0 := by rw [h0]; unfold qdiv; rw [Rat.div_def, Rat.inv_zero, Rat.mul_zero]
  have h2 : nzq b = false := by rw [h0]; rfl
  rw [h1, h2]
  have Hh := Lib.hid h0
  clear h0 h1 h2
  go_enter Tryz.func24, Tryz.ntmps24
  refine wp_seq (wp_r0 ?_)
  intro K hN
  go_wp2_with fail
  generalize hu : World.alloc (World.alloc (World.alloc w _) _) _ = u
  obtain ⟨hB, hG⟩ := bx_first [(_, _), (_, _), (_, _)] w u hu
  have hF := fr_first w [(32, #[]), (32, #[]), (32, #[])]
  simp only [numbered, List.map_cons, List.map_nil] at hB hF
  clear hu
  generalize w.heap.size + 1 + 1 = b4 at hB hF ⊢
  generalize w.heap.size + 1 = b3 at hB hF ⊢
  generalize w.heap.size = b2 at hB hF ⊢
  refine NoK.norm (hN _ _ ?_)
  clear hN K
  refine then_norm ?_
  refine wp_seq ?_
  refine wp_seq ?_
  refine wp_rs (w := w) allocs 3 [0, 1, 0] (by kernel_rfl) (by simp only [List.drop_succ_cons, List.drop_nil]; exact rfl) (fun _ => True) noG hB hG trivial ?_
  intro K L hN hL
  simp only [List.zip_cons_cons, List.zip_nil_left]
  apply gy
  · exact rfl
  · (rintro v ⟨hgu, hB, hG, -⟩ N hN; have r := hB.r; simp only [BxR] at r; go_simp; exact hN)
  refine okf (by simp only [Act.put, List.setIfInBounds_toArray, List.set_cons_succ, List.set_cons_zero]; exact rfl) ?_
  apply gm
  · exact rfl
  · (rintro v ⟨hgu, hB, hG, -⟩ N hN; go_simp; ((with_reducible refine (frac_Sign _ (by assumption) _).mono ?_); rintro e w1 ⟨rfl, hb⟩; exact ⟨_, rfl, hN _ hb⟩))
  refine okf (by simp only [Act.put, List.setIfInBounds_toArray, List.set_cons_succ, List.set_cons_zero]; exact rfl) ?_
  apply gy
  · exact rfl
  · (rintro v - N hN; go_simp; exact hN)
  refine okf (by simp only [Act.put, List.setIfInBounds_toArray, List.set_cons_succ, List.set_cons_zero]; exact rfl) ?_
  refine gend ?_
  rintro v ⟨hgu, hB1, hG1, -⟩
  clear hB hG
  have hB := hB1
  have hG := hG1
  clear hB1 hG1
  refine hL _ _ ?_
  clear hL L hgu
  obtain ⟨u, rfl⟩ : ∃ x, x = v := ⟨_, rfl⟩
  refine wpList_nil ?_
  refine NoK.norm (hN _ _ ?_)
  clear hN K
  refine then_norm ?_
  refine wp_cond_true (rfl) ?_
  refine wp_seq ?_
  refine wp_r0 ?_
  intro K hN
  have r := hB.r
  simp only [BxR] at r
  go_wp2_with fail
  clear r
  generalize hu0 : World.setCell (World.setCell (World.setCell (World.setCell (World.setCell u _ _) _ _) _ _) _ _) _ _ = u0
  have hBG := hB.over hF hG 2 rfl 0 [_, _, _, _, _] hu0
  clear hB hG hu0
  simp only [List.modify_succ_cons, List.modify_zero_cons, wrAll, List.setIfInBounds_toArray, List.set_cons_zero, List.set_cons_succ, Nat.zero_add, Nat.reduceAdd] at hBG
  obtain ⟨hB, hG⟩ := hBG
  clear u
  obtain ⟨u, rfl⟩ : ∃ x, x = u0 := ⟨_, rfl⟩
  refine NoK.norm (hN _ _ ?_)
  clear hN K
  refine then_norm ?_
  refine wp_ret ?_
  refine then_ret ?_
  refine ret_b rfl ?_
  intro N hN
  have r := hB.r
  simp only [BxR] at r
  simp only [results, Tryz.results24]
  go_simp
  refine hN _ ?_
  clear hN N r
  exact ⟨rfl, hG⟩
set_option maxHeartbeats 1000000 in
set_option maxRecDepth 100000 in
theorem frac_Div_nz (h : qs a + qs b ≤ BIG) (h0 : b ≠ 0) (HT : Tab w) : Calls Tryz.prog 24 #[qV a, qV b] w fun e w' => e = .returned (.tuple #[qV (qdiv a b), .bool (nzq b)]) ∧ Grow w w' := by
  have hB40 := BIG_le
  have n2 : bl b.num.natAbs ≤ 1099511627776 := by have := qs_num b; omega
  have d2 : bl b.den ≤ 1099511627776 := by have := qs_den b; omega
  have hb0 : b.num ≠ 0 := fun e => h0 (Rat.num_eq_zero.1 e)
  have hs : (b.num.sign == 0) = false := by simpa using hb0
  have h2 : nzq b = true := decide_eq_true h0
  have hi : qs a + qs (qinv b) ≤ BIG := by unfold qinv; rw [qs_inv b h0]; exact h
  have hd : qmul a (qinv b) = qdiv a b := (Rat.div_def a b).symm
  have Hd := Lib.hid hd
  rw [h2]
  clear h2 hd
  go_enter Tryz.func24, Tryz.ntmps24
  refine wp_seq (wp_r0 ?_)
  intro K hN
  go_wp2_with fail
  generalize hu : World.alloc (World.alloc (World.alloc w _) _) _ = u
  obtain ⟨hB, hG⟩ := bx_first [(_, _), (_, _), (_, _)] w u hu
  have hF := fr_first w [(32, #[]), (32, #[]), (32, #[])]
  simp only [numbered, List.map_cons, List.map_nil] at hB hF
  clear hu
  generalize w.heap.size + 1 + 1 = b4 at hB hF ⊢
  generalize w.heap.size + 1 = b3 at hB hF ⊢
  generalize w.heap.size = b2 at hB hF ⊢
  refine NoK.norm (hN _ _ ?_)
  clear hN K
  refine then_norm ?_
  refine wp_seq ?_
  refine wp_seq ?_
  refine wp_rs (w := w) allocs 3 [0, 1, 0] (by kernel_rfl) (by simp only [List.drop_succ_cons, List.drop_nil]; exact rfl) (fun _ => True) noG hB hG trivial ?_
  intro K L hN hL
  simp only [List.zip_cons_cons, List.zip_nil_left]
  apply gy
  · exact rfl
  · (rintro v ⟨hgu, hB, hG, -⟩ N hN; have r := hB.r; simp only [BxR] at r; go_simp; exact hN)
  refine okf (by simp only [Act.put, List.setIfInBounds_toArray, List.set_cons_succ, List.set_cons_zero]; exact rfl) ?_
  apply gm
  · exact rfl
  · (rintro v ⟨hgu, hB, hG, -⟩ N hN; go_simp; ((with_reducible refine (frac_Sign _ (by assumption) _).mono ?_); rintro e w1 ⟨rfl, hb⟩; exact ⟨_, rfl, hN _ hb⟩))
  refine okf (by simp only [Act.put, List.setIfInBounds_toArray, List.set_cons_succ, List.set_cons_zero]; exact rfl) ?_
  apply gy
  · exact rfl
  · (rintro v - N hN; go_simp; exact hN)
  refine okf (by simp only [Act.put, List.setIfInBounds_toArray, List.set_cons_succ, List.set_cons_zero]; exact rfl) ?_
  refine gend ?_
  rintro v ⟨hgu, hB1, hG1, -⟩
  clear hB hG
  have hB := hB1
  have hG := hG1
  clear hB1 hG1
  refine hL _ _ ?_
  clear hL L hgu
  obtain ⟨u, rfl⟩ : ∃ x, x = v := ⟨_, rfl⟩
  refine wpList_nil ?_
  refine NoK.norm (hN _ _ ?_)
  clear hN K
  refine then_norm ?_
  refine wp_cond_false (rfl) ?_
  refine wp_skip ?_
  refine then_norm ?_
  refine wp_seq ?_
  refine wp_rd (w := w) allocs 12 [] [(0, 0), (0, 1), (0, 4), (0, 7), (0, 8), (1, 2), (0, 3), (1, 5), (1, 6), (1, 9), (1, 10), (1, 11)] (by kernel_rfl) (by kernel_rfl) (by simp only [List.drop_succ_cons, List.drop_zero]; exact rfl) (fun _ => True) noG hB hG trivial ?_
  intro K L hN hL
  simp only [pickOps, List.getElem?_toArray, List.getElem?_cons_zero, List.getElem?_cons_succ]
  apply gy
  · exact rfl
  · (rintro v ⟨hgu, hB, hG, -⟩ N hN; have r := hB.r; simp only [BxR] at r; go_simp; exact hN)
  refine okf (by simp only [Act.put, List.setIfInBounds_toArray, List.set_cons_succ, List.set_cons_zero]; exact rfl) ?_
  apply gy
  · exact rfl
  · (rintro v ⟨hgu, hB, hG, -⟩ N hN; have r := hB.r; simp only [BxR] at r; go_simp; exact hN)
  refine okf (by simp only [Act.put, List.setIfInBounds_toArray, List.set_cons_succ, List.set_cons_zero]; exact rfl) ?_
  apply gy
  · exact rfl
  · (rintro v ⟨hgu, hB, hG, -⟩ N hN; have r := hB.r; simp only [BxR] at r; go_simp; exact hN)
  refine okf (by simp only [Act.put, List.setIfInBounds_toArray, List.set_cons_succ, List.set_cons_zero]; exact rfl) ?_
  apply gy
  · exact rfl
  · (rintro v - N hN; go_simp; exact hN)
  refine okf (by simp only [Act.put, List.setIfInBounds_toArray, List.set_cons_succ, List.set_cons_zero]; exact rfl) ?_
  apply gy
  · exact rfl
  · (rintro v ⟨hgu, hB, hG, -⟩ N hN; have r := hB.r; simp only [BxR] at r; go_simp; exact hN)
  refine okf (by simp only [Act.put, List.setIfInBounds_toArray, List.set_cons_succ, List.set_cons_zero]; exact rfl) ?_
  apply gm
  · exact rfl
  · (rintro v ⟨hgu, hB, hG, -⟩ N hN; go_simp; ((with_reducible refine (frac_Sign _ (by assumption) _).mono ?_); rintro e w1 ⟨rfl, hb⟩; exact ⟨_, rfl, hN _ hb⟩))
  refine okf (by simp only [Act.put, List.setIfInBounds_toArray, List.set_cons_succ, List.set_cons_zero]; exact rfl) ?_
  apply gy
  · exact rfl
  · (rintro v - N hN; go_simp; exact hN)
  refine okf (by simp only [Act.put, List.setIfInBounds_toArray, List.set_cons_succ, List.set_cons_zero]; exact rfl) ?_
  apply gm
  · exact rfl
  · (rintro v ⟨hgu, hB, hG, -⟩ N hN; go_simp; ((with_reducible refine (frac_Den _ (by assumption) _).mono ?_); rintro e w1 ⟨rfl, hb⟩; exact ⟨_, rfl, hN _ hb⟩))
  refine okf (by simp only [Act.put, List.setIfInBounds_toArray, List.set_cons_succ, List.set_cons_zero]; exact rfl) ?_
  apply gm
  · exact rfl
  · (rintro v ⟨hgu, hB, hG, -⟩ N hN; go_simp; ((with_reducible refine (whole_From _ _ (by assumption) _).mono ?_); rintro e w1 ⟨rfl, hb⟩; exact ⟨_, rfl, hN _ hb⟩))
  refine okf (by simp only [Act.put, List.setIfInBounds_toArray, List.set_cons_succ, List.set_cons_zero]; exact rfl) ?_
  apply gm
  · exact rfl
  · (rintro v ⟨hgu, hB, hG, -⟩ N hN; go_simp; ((with_reducible refine (whole_Abs _ _).mono ?_); rintro e w1 ⟨rfl, hb⟩; exact ⟨_, rfl, hN _ hb⟩))
  refine okf (by simp only [Act.put, List.setIfInBounds_toArray, List.set_cons_succ, List.set_cons_zero]; exact rfl) ?_
  apply gm
  · exact rfl
  · (rintro v ⟨hgu, hB, hG, -⟩ N hN; go_simp; ((with_reducible refine (pack_inv b _ h0 n2).mono ?_); rintro e w1 ⟨rfl, hb⟩; exact ⟨_, rfl, hN _ hb⟩))
  refine okf (by simp only [Act.put, List.setIfInBounds_toArray, List.set_cons_succ, List.set_cons_zero]; exact rfl) ?_
  apply gm
  · exact rfl
  · (rintro v ⟨hgu, hB, hG, -⟩ N hN; go_simp; ((with_reducible refine (frac_Mul _ _ _ (by assumption) (HT.grow hG)).mono ?_); rintro e w1 ⟨rfl, hb⟩; exact ⟨_, rfl, hN _ hb⟩))
  refine okf (by simp only [Act.put, List.setIfInBounds_toArray, List.set_cons_succ, List.set_cons_zero]; exact rfl) ?_
  refine gend ?_
  rintro v ⟨hgu, hB1, hG1, -⟩
  clear hB hG
  have hB := hB1
  have hG := hG1
  clear hB1 hG1
  refine hL _ _ ?_
  clear hL L hgu
  obtain ⟨u, rfl⟩ : ∃ x, x = v := ⟨_, rfl⟩
  have r := hB.r
  simp only [BxR] at r
  go_wp2_with fail
  clear r
  generalize hu0 : World.setCell (World.setCell (World.setCell (World.setCell (World.setCell u _ _) _ _) _ _) _ _) _ _ = u0
  have hBG := hB.over hF hG 2 rfl 0 [_, _, _, _, _] hu0
  clear hB hG hu0
  simp only [List.modify_succ_cons, List.modify_zero_cons, wrAll, List.setIfInBounds_toArray, List.set_cons_zero, List.set_cons_succ, Nat.zero_add, Nat.reduceAdd] at hBG
  obtain ⟨hB, hG⟩ := hBG
  clear u
  obtain ⟨u, rfl⟩ : ∃ x, x = u0 := ⟨_, rfl⟩
  refine NoK.norm (hN _ _ ?_)
  clear hN K
  refine then_norm ?_
  refine wp_ret ?_
  refine ret_b rfl ?_
  intro N hN
  have r := hB.r
  simp only [BxR] at r
  simp only [results, Tryz.results24]
  go_simp
  refine hN _ ?_
  clear hN N r
  exact ⟨ret_qb (Hd.out) rfl, hG⟩
--! frac_Div = frac_Div _ _ _ SIDE (HT.grow hG)
theorem frac_Div (h : qs a + qs b ≤ BIG) (HT : Tab w) : Calls Tryz.prog 24 #[qV a, qV b] w fun e w' => e = .returned (.tuple #[qV (qdiv a b), .bool (nzq b)]) ∧ Grow w w' := by
  by_cases h0 : b = 0
  · exact frac_Div_zero a b w (by have := qs_num b; have := BIG_le; omega) h0
  · exact frac_Div_nz a b w h h0 HT
end
end Go.Proofs.YtimjnkfcnpfoeaaGreatDoor

/-
  The document's numbers: limbs of 32 bits in memory; trim.
-/
namespace Go.Proofs.YtimjnkfcnpfoeaaGreatDoor
open Go.RowKit

def W32 : Nat := 4294967296
theorem W32_ge : 2 ≤ W32 := by unfold W32; omega
theorem W32_pos : 0 < W32 := by unfold W32; omega
/-- how many limbs -/
def ln (a : Nat) : Nat := (digs W32 a).length
theorem ln_zero : ln 0 = 0 := rfl
theorem ln_eq_zero {a : Nat} : ln a = 0 ↔ a = 0 := by
  constructor
  · intro h
    have h1 := val_digs W32_ge a
    rw [List.eq_nil_of_length_eq_zero h] at h1
    exact h1.symm
  · rintro rfl; rfl
theorem ln_pos {a : Nat} : 0 < ln a ↔ a ≠ 0 := by have := @ln_eq_zero a; omega
/-- these limbs lie from the address on; nothing is asked of none -/
def Lim (u : World) (A : Option Addr) (l : List Nat) : Prop :=
  l ≠ [] → ∃ b off cs fr, A = some ⟨b, off, none⟩ ∧ u.heap[b]? = some (.cells cs 157 fr) ∧ ∀ i x, l[i]? = some x → cs[off + i]? = some (.int .u32 (x : Nat))
theorem Lim.nil (u : World) (A : Option Addr) : Lim u A [] := fun h => absurd rfl h
theorem Lim.grow {u u' : World} {A : Option Addr} {l : List Nat} (h : Lim u A l) (hg : Grow u u') : Lim u' A l := fun hn => by
  obtain ⟨b, off, cs, fr, e, hb, hc⟩ := h hn
  exact ⟨b, off, cs, fr, e, (hg.block b (heap_lt hb)).trans hb, hc⟩
theorem Lim.take {u : World} {A : Option Addr} {l : List Nat} (h : Lim u A l) (n : Nat) : Lim u A (l.take n) := fun hn => by
  obtain ⟨b, off, cs, fr, e, hb, hc⟩ := h (fun h0 => hn (by rw [h0]; simp))
  refine ⟨b, off, cs, fr, e, hb, fun i x hi => hc i x ?_⟩
  rw [List.getElem?_take] at hi
  split at hi
  · exact hi
  · cases hi
theorem Lim.cell {u : World} {A : Option Addr} {l : List Nat} (h : Lim u A l) {i : Nat} (hi : i < l.length) : ∃ b off, A = some ⟨b, off, none⟩ ∧ u.cell? ⟨b, off + i, none⟩ = some (.int .u32 (dg l i : Nat)) := by
  obtain ⟨b, off, cs, fr, e, hb, hc⟩ := h (fun h0 => by rw [h0] at hi; cases hi)
  refine ⟨b, off, e, ?_⟩
  rw [dg_eq hi, ← hc i _ (List.getElem?_eq_getElem hi)]
  exact cell_of_row u b (off + i) cs 157 fr hb
/-- a store into a box, which is of another type -/
theorem Lim.put {u u' : World} {A : Option Addr} {l : List Nat} (h : Lim u A l) {bl : List (Nat × TypeId × Array Value)} (hB : Bx u bl) (k : Nat) {b : Nat} {t : TypeId} {cs : Array Value} (hk : bl[k]? = some (b, t, cs)) (ht : t ≠ 157) (i : Nat) (vs : List Value) (hu : putAll u b i vs = u') : Lim u' A l := fun hn => by
  obtain ⟨b', off, cs', fr, e, hb, hc⟩ := h hn
  refine ⟨b', off, cs', fr, e, ?_, hc⟩
  have hbk : Blk u b t cs := hB (b, t, cs) (List.mem_of_getElem? hk)
  have hne : b' ≠ b := fun e => by
    subst e
    have := hbk.symm.trans hb
    injection this with this
    injection this with _ h2 _
    exact ht h2
  clear hbk hB hk hc h
  subst hu
  induction vs generalizing u i with
  | nil => exact hb
  | cons v vs ih => exact ih _ ((Below.heap_setCell u ⟨b, i, none⟩ v b' hne).trans hb)

set_option maxHeartbeats 1000000 in
theorem ref1_trim (A : Option Addr) (l : List Nat) (c : Nat) (w : World) (h : Lim w A l) (hc : l.length ≤ c) (hm : c ≤ 9223372036854775807) :
    Calls Tryz.prog 135 #[.slice A l.length c] w fun e w' => e = .returned (.slice A (trimL l).length c) ∧ Grow w w' := by
  have H := Lib.hid h
  clear h
  obtain ⟨n, hn⟩ : ∃ n, n = l.length := ⟨_, rfl⟩
  rw [← hn]
  rw [← hn] at hc
  have Hn := Lib.hid hn
  clear hn
  go_enter Tryz.func135, Tryz.ntmps135
  go_wp2
  go_loop [3] (fun s => ∃ k : Nat, k ≤ n ∧ s = .int .i64 k ∧ trimL (l.take k) = trimL l) (fun s => (intOf s).toNat)
  case atStart => exact ⟨n, Nat.le_refl _, rfl, by rw [List.take_of_length_le (by rw [Hn.out]; exact Nat.le_refl _)]⟩
  case round =>
    obtain ⟨k, hk, rfl, ht⟩ := hrel
    have Ht := Lib.hid ht
    clear ht
    rcases Nat.eq_zero_or_pos k with rfl | hpos
    · go_wp2
      go_ret
      refine ⟨?_, Grow.refl _⟩
      have : trimL l = [] := by rw [← Ht.out]; rfl
      rw [this]
      rfl
    · have hkl : k - 1 < l.length := by rw [← Hn.out]; omega
      obtain ⟨b, off, rfl, hcell⟩ := H.out.cell hkl
      have hsn : l.take k = l.take (k - 1) ++ [dg l (k - 1)] := by
        have := List.take_succ_eq_append_getElem hkl
        rw [show k - 1 + 1 = k by omega] at this
        rw [dg_eq hkl]
        exact this
      have Hsn := Lib.hid hsn
      clear hsn
      obtain ⟨x, hx⟩ : ∃ x, x = dg l (k - 1) := ⟨_, rfl⟩
      rw [← hx] at hcell
      have Hx := Lib.hid hx
      clear hx
      have hidx : (0 : Int) ≤ (k : Int) - 1 := by omega
      by_cases h0 : x = 0
      · subst h0
        go_wp2
        go_round
        case rel => exact ⟨k - 1, by omega, by go_num, by rw [← Ht.out, Hsn.out, ← Hx.out, trimL_snoc_zero]⟩
        case measure => simp [intOf]; omega
      · have hb : ((x : Int) == 0) = false := by simpa using h0
        go_wp2
        go_ret
        refine ⟨?_, Grow.refl _⟩
        have : trimL l = l.take k := by rw [← Ht.out, Hsn.out, trimL_snoc _ (by rw [← Hx.out]; exact h0)]
        rw [this, List.length_take, Nat.min_eq_left (by omega)]
        rfl
end Go.Proofs.YtimjnkfcnpfoeaaGreatDoor

/-
  The document's numbers: contracts that hand back numbers in memory; NatOf, NatCmp, at, one, I, IntOf.
-/
namespace Go.Proofs.YtimjnkfcnpfoeaaGreatDoor
open Go.RowKit

abbrev Ax := Option Addr × Nat
/-- the limbs of a, with room for them -/
def Rn (u : World) (x : Ax) (a : Nat) : Prop := Lim u x.1 (digs W32 a) ∧ ln a ≤ x.2 ∧ x.2 ≤ 1099511627776
theorem Rn.grow {u u' : World} {x : Ax} {a : Nat} (h : Rn u x a) (hg : Grow u u') : Rn u' x a := ⟨h.1.grow hg, h.2⟩
theorem Rn.put {u u' : World} {x : Ax} {a : Nat} (h : Rn u x a) {bl : List (Nat × TypeId × Array Value)} (hB : Bx u bl) (k : Nat) {b : Nat} {t : TypeId} {cs : Array Value} (hk : bl[k]? = some (b, t, cs)) (ht : t ≠ 157) (i : Nat) (vs : List Value) (hu : putAll u b i vs = u') : Rn u' x a := ⟨h.1.put hB k hk ht i vs hu, h.2⟩
abbrev nvV (x : Ax) (a : Nat) : Value := .slice x.1 (ln a) x.2
abbrev riV (x : Ax) (z : Int) : Value := .agg #[.bool (intNeg z), .slice x.1 (ln z.natAbs) x.2]
abbrev rqV (x y : Ax) (q : Rat) : Value := .agg #[.bool (intNeg q.num), .slice x.1 (ln q.num.natAbs) x.2, .slice y.1 (ln q.den) y.2]
/-- what a call hands back: a value with facts that stay -/
structure Rp where
  X : Type
  f : X → Value
  T : X → World → Prop
  mono : ∀ x w w', Grow w w' → T x w → T x w'
def natR (a : Nat) : Rp := ⟨Ax, fun x => nvV x a, fun x v => Rn v x a, fun _ _ _ hg h => h.grow hg⟩
def intR (z : Int) : Rp := ⟨Ax, fun x => riV x z, fun x v => Rn v x z.natAbs, fun _ _ _ hg h => h.grow hg⟩
def ratR (q : Rat) : Rp := ⟨Ax × Ax, fun x => rqV x.1 x.2 q, fun x v => Rn v x.1 q.num.natAbs ∧ Rn v x.2 q.den, fun _ _ _ hg h => ⟨h.1.grow hg, h.2.grow hg⟩⟩
def nnR (a b : Nat) : Rp := ⟨Ax × Ax, fun x => .tuple #[nvV x.1 a, nvV x.2 b], fun x v => Rn v x.1 a ∧ Rn v x.2 b, fun _ _ _ hg h => ⟨h.1.grow hg, h.2.grow hg⟩⟩
def Ret (R : Rp) (w : World) (e : Ending) (w' : World) : Prop := ∃ x, e = .returned (R.f x) ∧ R.T x w' ∧ Grow w w'
theorem gr {P : Program} {ops : Array Oper} {L : Act → World → Prop} {o : Oper} {r : List (Nat × Oper)} {B : Nat} {tk : List Nat} {a : Act} {F : World → Prop} (R : Rp) (hw : Region.wanted o (yielded ops a.tmps) = true)
    (h : ∀ w, F w → ∀ N : Value → World → Prop, (∀ x w', R.T x w' → Grow w w' → N (R.f x) w') → Move P o a w N) (hr : ∀ x, OKs P ops L B r tk (a.put o.dst (R.f x)) (fun w => F w ∧ R.T x w)) : OKs P ops L B ((1, o) :: r) tk a F :=
  gx R.X R.f R.T R.mono hw h hr

theorem heap_new (w : World) (o : Obj) : (w.alloc o).heap[w.heap.size]? = some o := by
  show (w.heap.push _)[w.heap.size]? = _
  simp
theorem lim_new (w : World) (l : List Nat) : Lim (w.alloc (.cells (l.map fun x => Value.int .u32 (x : Nat)).toArray 157)) (some ⟨w.heap.size, 0, none⟩) l := fun _ =>
  ⟨w.heap.size, 0, (l.map fun x => Value.int .u32 (x : Nat)).toArray, (0, 0), rfl, heap_new w _, fun i x hi => by simp [hi]⟩
theorem rn_trim {u : World} {A : Option Addr} {l : List Nat} {c : Nat} {a : Nat} (h : Lim u A l) (hd : Dig W32 l) (hv : val W32 l = a) (hc : l.length ≤ c) (hm : c ≤ 1099511627776) : Rn u (A, c) a ∧ (trimL l).length = ln a := by
  have e : trimL l = digs W32 a := by rw [← hv]; exact trimL_digs W32_ge hd
  refine ⟨⟨?_, ?_, hm⟩, by rw [e]; rfl⟩
  · rw [← e, trimL_eq_take]; exact h.take _
  · show ln a ≤ c
    unfold ln
    rw [← e]
    exact Nat.le_trans (trimL_le l) hc

set_option maxHeartbeats 400000 in
theorem ref1_NatOf (n : Nat) (hn : n < W64) (w : World) : Calls Tryz.prog 84 #[.int .u64 n] w (Ret (natR n) w) := by
  have h1 : n % 4294967296 < 4294967296 := Nat.mod_lt _ (by omega)
  have h2 : n / 4294967296 < 4294967296 := by unfold W64 at hn; omega
  have htr : Calls Tryz.prog 135 #[.slice (some ⟨w.heap.size, 0, none⟩) 2 2] (w.alloc (.cells #[.int .u32 ((n : Int) % 4294967296), .int .u32 ((n : Int) / 4294967296)] 157)) fun e w' => e = .returned (.slice (some ⟨w.heap.size, 0, none⟩) (ln n) 2) ∧ Rn w' (some ⟨w.heap.size, 0, none⟩, 2) n ∧ Grow w w' := by
    have hl := lim_new w [n % 4294967296, n / 4294967296]
    have e1 : ((n % 4294967296 : Nat) : Int) = (n : Int) % 4294967296 := by omega
    have e2 : ((n / 4294967296 : Nat) : Int) = (n : Int) / 4294967296 := by omega
    simp only [List.map_cons, List.map_nil, e1, e2] at hl
    refine (ref1_trim _ _ 2 _ hl (Nat.le_refl _) (by omega)).mono fun e w' ⟨he, hg⟩ => ?_
    obtain ⟨hr, hlen⟩ := rn_trim (a := n) (c := 2) (hl.grow hg) (fun x hx => by
      simp only [List.mem_cons, List.not_mem_nil, or_false] at hx
      unfold W32
      omega) (by simp [val, W32]; omega) (Nat.le_refl _) (by omega)
    rw [hlen] at he
    exact ⟨he, hr, (Grow.alloc _ _).trans hg⟩
  have Htr := Lib.hid htr
  clear htr
  go_enter Tryz.func84, Tryz.ntmps84
  go_wp2_with (go_at_call 135; ((with_reducible refine (Htr.out).mono ?_); rintro e w1 ⟨rfl, hr, hg⟩))
  go_ret
  exact ⟨(some ⟨w.heap.size, 0, none⟩, 2), rfl, hr, hg⟩

theorem ln_lt {a b : Nat} (h : ln a < ln b) : a < b := by
  have := val_lt_len W32_ge (dig_digs W32_ge a) (tight_digs W32_ge b) (dig_digs W32_ge b) h
  rwa [val_digs W32_ge, val_digs W32_ge] at this
theorem ln_mono {a b : Nat} (h : a ≤ b) : ln a ≤ ln b := by
  rcases Nat.lt_or_ge (ln b) (ln a) with h' | h'
  · have := ln_lt h'; omega
  · exact h'
set_option maxHeartbeats 1000000 in
set_option maxRecDepth 100000 in
theorem ref1_NatCmp_same (x y : Ax) (a b : Nat) (w : World) (hx : Rn w x a) (hy : Rn w y b) (hl : ln a = ln b) :
    Calls Tryz.prog 63 #[nvV x a, nvV y b] w fun e w' => e = .returned (.int .i64 (cmpN a b)) ∧ Grow w w' := by
  obtain ⟨A1, c1⟩ := x
  obtain ⟨A2, c2⟩ := y
  have Hx := Lib.hid hx.1
  have Hy := Lib.hid hy.1
  have hm := hx.2
  simp only at hm
  obtain ⟨n, hn⟩ : ∃ n, n = ln a := ⟨_, rfl⟩
  rw [← hn] at hm
  show Calls Tryz.prog 63 #[.slice A1 (ln a) c1, .slice A2 (ln b) c2] w _
  rw [← hl, ← hn]
  have Hn1 := Lib.hid hn
  have Hn2 := Lib.hid (hn.trans hl)
  clear hx hy hl hn
  go_enter Tryz.func63, Tryz.ntmps63
  go_wp2_with fail
  go_loopw [5] (fun s wr => ∃ k : Nat, k ≤ n ∧ s = .int .i64 ((k : Int) - 1) ∧ (digs W32 a).drop k = (digs W32 b).drop k ∧ Grow w wr) (fun s _ => (intOf s + 1).toNat)
  case atStart => exact ⟨n, Nat.le_refl _, rfl, by rw [List.drop_of_length_le (Nat.le_of_eq Hn1.out.symm), List.drop_of_length_le (Nat.le_of_eq Hn2.out.symm)], Grow.refl _⟩
  case round =>
    obtain ⟨k, hk, rfl, hd, hG⟩ := hrel
    have Hd := Lib.hid hd
    clear hd
    rcases Nat.eq_zero_or_pos k with rfl | hpos
    · have hc : decide ((0 : Int) ≤ ((0 : Nat) : Int) - 1) = false := by decide
      go_wp2_with fail
      go_ret
      refine ⟨ret_i64 ?_, hG⟩
      have := Hd.out
      simp only [List.drop_zero] at this
      rw [cmpN_eq (digs_inj W32_ge this)]
    · obtain ⟨j, rfl⟩ : ∃ j, k = j + 1 := ⟨k - 1, by omega⟩
      have e1 : ((j + 1 : Nat) : Int) - 1 = (j : Nat) := by omega
      rw [e1]
      have hj1 : j < (digs W32 a).length := by have := Hn1.out; unfold ln at this; omega
      have hj2 : j < (digs W32 b).length := by have := Hn2.out; unfold ln at this; omega
      obtain ⟨b1, o1, rfl, hc1⟩ := (Hx.out.grow hG).cell hj1
      obtain ⟨b2, o2, rfl, hc2⟩ := (Hy.out.grow hG).cell hj2
      obtain ⟨p, hp⟩ : ∃ p, p = dg (digs W32 a) j := ⟨_, rfl⟩
      obtain ⟨q, hq⟩ : ∃ q, q = dg (digs W32 b) j := ⟨_, rfl⟩
      rw [← hp] at hc1
      rw [← hq] at hc2
      have Hp := Lib.hid hp
      have Hq := Lib.hid hq
      clear hp hq e1
      have hc0 : decide ((0 : Int) ≤ (j : Int)) = true := by simp
      rcases Nat.lt_trichotomy p q with hlt | heq | hgt
      · have hb1 : ((p : Int) != (q : Int)) = true := by simp; omega
        have hb2 : decide ((p : Int) < (q : Int)) = true := by simp; omega
        go_wp2_with fail
        go_quiet (fail)
        go_wp2_with fail
        go_quiet (fail)
        go_wp2_with fail
        go_ret
        refine ⟨ret_i64 ?_, hG.trans ((grow_drewN _ _).trans (grow_drewN _ _))⟩
        have h1 := val_lt_of_digit (dig_digs W32_ge a) (Hn1.out.symm.trans Hn2.out) hj1 Hd.out (by rw [← Hp.out, ← Hq.out]; exact hlt)
        rw [val_digs W32_ge, val_digs W32_ge] at h1
        rw [cmpN_lt h1]
      · subst heq
        go_wp2_with fail
        go_quiet (fail)
        go_wp2_with fail
        exact ⟨⟨j, by omega, rfl, by rw [drop_dg hj1, drop_dg hj2, Hd.out, ← Hp.out, ← Hq.out], hG.trans (grow_drewN _ _)⟩, by simp [intOf]⟩
      · have hb1 : ((p : Int) != (q : Int)) = true := by simp; omega
        have hb2 : decide ((p : Int) < (q : Int)) = false := by simp; omega
        go_wp2_with fail
        go_quiet (fail)
        go_wp2_with fail
        go_quiet (fail)
        go_wp2_with fail
        go_ret
        refine ⟨ret_i64 ?_, hG.trans ((grow_drewN _ _).trans (grow_drewN _ _))⟩
        have h1 := val_lt_of_digit (dig_digs W32_ge b) (Hn2.out.symm.trans Hn1.out) hj2 Hd.out.symm (by rw [← Hp.out, ← Hq.out]; exact hgt)
        rw [val_digs W32_ge, val_digs W32_ge] at h1
        rw [cmpN_gt h1]
set_option maxHeartbeats 1000000 in
set_option maxRecDepth 100000 in
theorem ref1_NatCmp_ne (x y : Ax) (a b : Nat) (w : World) (hl : ln a ≠ ln b) :
    Calls Tryz.prog 63 #[nvV x a, nvV y b] w fun e w' => e = .returned (.int .i64 (cmpN a b)) ∧ Grow w w' := by
  rcases Nat.lt_or_gt_of_ne hl with h | h
  · rw [cmpN_lt (ln_lt h)]
    go_enter Tryz.func63, Tryz.ntmps63
    go_wp2_with fail
    go_ret
    exact ⟨rfl, Grow.refl _⟩
  · rw [cmpN_gt (ln_lt h)]
    have h' : ¬ ln a < ln b := by omega
    go_enter Tryz.func63, Tryz.ntmps63
    go_wp2_with fail
    go_ret
    exact ⟨rfl, Grow.refl _⟩
theorem ref1_NatCmp (x y : Ax) (a b : Nat) (w : World) (hx : Rn w x a) (hy : Rn w y b) :
    Calls Tryz.prog 63 #[nvV x a, nvV y b] w fun e w' => e = .returned (.int .i64 (cmpN a b)) ∧ Grow w w' := by
  by_cases hl : ln a = ln b
  · exact ref1_NatCmp_same x y a b w hx hy hl
  · exact ref1_NatCmp_ne x y a b w hl
end Go.Proofs.YtimjnkfcnpfoeaaGreatDoor

/-
  The document's numbers: one (division by one limb).
-/
namespace Go.Proofs.YtimjnkfcnpfoeaaGreatDoor
open Go.RowKit

def cells32 (l : List Nat) : Array Value := (l.map fun x => Value.int .u32 (x : Nat)).toArray
theorem cells32_get (l : List Nat) (i : Nat) : (cells32 l)[i]? = (l[i]?).map fun x => Value.int .u32 (x : Nat) := by
  unfold cells32; simp
theorem cells32_set (l : List Nat) (i y : Nat) : (cells32 l).setIfInBounds i (.int .u32 (y : Nat)) = cells32 (l.set i y) := by
  unfold cells32
  rw [List.setIfInBounds_toArray, List.map_set]
/-- a row of the call's own -/
def Row32 (u : World) (b : Nat) (l : List Nat) : Prop := Blk u b 157 (cells32 l)
theorem Row32.grow {u u' : World} {b : Nat} {l : List Nat} (hg : Grow u u') (h : Row32 u b l) : Row32 u' b l := Blk.grow hg h
theorem Row32.cell {u : World} {b : Nat} {l : List Nat} (h : Row32 u b l) {i : Nat} (hi : i < l.length) : u.cell? ⟨b, i, none⟩ = some (.int .u32 (dg l i : Nat)) := by
  rw [Blk.cell h, cells32_get, List.getElem?_eq_getElem hi, dg_eq hi]
  rfl
theorem Row32.frozen {u : World} {b : Nat} {l : List Nat} (h : Row32 u b l) (i : Nat) : u.frozen? ⟨b, i, none⟩ = false := Blk.frozen h i
theorem Row32.set {u : World} {b : Nat} {l : List Nat} (h : Row32 u b l) (i y : Nat) : Row32 (u.setCell ⟨b, i, none⟩ (.int .u32 (y : Nat))) b (l.set i y) := by
  have := Blk.set_ h i (.int .u32 (y : Nat))
  rw [cells32_set] at this
  exact this
theorem Row32.lim {u : World} {b : Nat} {l : List Nat} (h : Row32 u b l) : Lim u (some ⟨b, 0, none⟩) l := fun _ =>
  ⟨b, 0, cells32 l, (0, 0), rfl, h, fun i x hi => by rw [Nat.zero_add, cells32_get, hi]; rfl⟩
theorem info_u32 : (Tryz.prog.info? 157).map (fun i => (i.zero, i.size, i.bytes)) = some (some (.int .u32 0), 1, 4) := by kernel_rfl
theorem cells_made32 (n : Nat) : madeCells (Value.int .u32 0).cells (n * 1) = cells32 (List.replicate n 0) := by
  unfold cells32 madeCells
  refine Array.ext (by simp) fun i h1 h2 => ?_
  simp [Value.cells, Nat.mod_one]
theorem make_u32 (n : Nat) (hn : n ≤ 1099511627776) (x : Int) (hx : x = n) (W : World) : (Instr.makeSlice 37 (.int .i64 x) (.int .i64 x)).run Tryz.prog W =
    .ok (.slice (some ⟨W.heap.size, 0, none⟩) n n) (W.alloc (.cells (cells32 (List.replicate n 0)) 157)) := by
  obtain ⟨i0, hi0, hz0, hz1, hz2⟩ := info_parts info_u32
  have hr := run_make (P := Tryz.prog) W 37 157 i0 (.int .u32 0) Tryz.underlying37 hi0 hz0 .i64 .i64 n n (by omega) (by omega) (by rw [hz2]; omega) (by omega)
  rw [hx]
  rw [hr, hz1]
  simp only [Int.toNat_natCast]
  rw [cells_made32]
/-- where a division by one limb stands: the limbs from k on are done -/
def OneI (W d : Nat) (l : List Nat) (k r : Nat) (zs : List Nat) : Prop :=
  zs.length = l.length ∧ Dig W zs ∧ r < d ∧ val W (zs.drop k) * d + r = val W (l.drop k)
theorem OneI.next {W d : Nat} {l : List Nat} {k r : Nat} {zs : List Nat} (h : OneI W d l (k + 1) r zs) (hk : k < l.length) (hd : Dig W l) (hW : 0 < W) :
    OneI W d l k ((r * W + dg l k) % d) (zs.set k ((r * W + dg l k) / d)) := by
  obtain ⟨h1, h2, h4, h5⟩ := h
  have hk' : k < zs.length := by rw [h1]; exact hk
  have hx := dg_lt hW hd k
  refine ⟨by rw [List.length_set, h1], dig_set h2 _ (digit_lt h4 hx), Nat.mod_lt _ (by omega), ?_⟩
  rw [drop_dg (l := zs.set k _) (by rw [List.length_set]; exact hk'), dg_set_self hk', drop_dg hk, val_cons, val_cons, List.drop_set_of_lt (by omega), ← h5]
  have e := Nat.div_add_mod (r * W + dg l k) d
  generalize (r * W + dg l k) / d = q at *
  generalize (r * W + dg l k) % d = m at *
  generalize val W (zs.drop (k + 1)) = V at *
  grind
set_option maxHeartbeats 1000000 in
set_option maxRecDepth 100000 in
theorem ref1_one (x : Ax) (a d : Nat) (w : World) (hx : Rn w x a) (hd0 : 0 < d) (hdW : d < W32) :
    Calls Tryz.prog 170 #[nvV x a, .int .u32 d] w fun e w' => ∃ y : Ax, e = .returned (.tuple #[nvV y (a / d), .int .u32 (a % d : Nat)]) ∧ Rn w' y (a / d) ∧ Grow w w' := by
  obtain ⟨A, c⟩ := x
  obtain ⟨n, hn⟩ : ∃ n, n = ln a := ⟨_, rfl⟩
  have hm : n ≤ 1099511627776 := by rw [hn]; exact Nat.le_trans hx.2.1 hx.2.2
  show Calls Tryz.prog 170 #[.slice A (ln a) c, .int .u32 d] w _
  rw [← hn]
  have Hx := Lib.hid hx.1
  have Hn := Lib.hid hn
  have hmk := make_u32 n hm (n : Int) rfl
  clear hx hn
  unfold W32 at hdW
  go_enter Tryz.func170, Tryz.ntmps170
  go_wp2_with fail
  clear hmk
  go_loopw [7, 8] (fun r i wr => ∃ (k r' : Nat) (zs : List Nat), k ≤ n ∧ i = .int .i64 ((k : Int) - 1) ∧ r = .int .u64 r' ∧ OneI W32 d (digs W32 a) k r' zs ∧ Row32 wr w.heap.size zs ∧ Grow w wr) (fun _ i _ => (intOf i + 1).toNat)
  case atStart => exact ⟨n, 0, List.replicate n 0, Nat.le_refl _, rfl, rfl, ⟨by rw [List.length_replicate]; exact Hn.out, fun z hz => (by rw [(List.mem_replicate.1 hz).2]; exact W32_pos), hd0, by rw [List.drop_of_length_le (by simp), List.drop_of_length_le (Nat.le_of_eq Hn.out.symm)]; simp [val]⟩, Blk.new w 157 _, Grow.alloc _ _⟩
  case round =>
    obtain ⟨k, r', zs, hk, rfl, rfl, hI, hR, hG⟩ := hrel
    have HI := Lib.hid hI
    have HG := Lib.hid hG
    have HR := Lib.hid hR
    clear hI hG hR
    rcases Nat.eq_zero_or_pos k with rfl | hpos
    · have hval : val W32 zs * d + r' = a := by have := HI.out.2.2.2; rw [List.drop_zero, List.drop_zero, val_digs W32_ge] at this; exact this
      have hr := HI.out.2.2.1
      have hres : a % d = r' ∧ a / d = val W32 zs := by
        rw [← hval, Nat.mul_comm, Nat.mul_add_mod, Nat.mod_eq_of_lt hr, Nat.mul_add_div hd0, Nat.div_eq_of_lt hr]
        simp
      have hzl : zs.length = n := by rw [HI.out.1]; exact Hn.out.symm
      have htr : Calls Tryz.prog 135 #[.slice (some ⟨w.heap.size, 0, none⟩) n n] wr fun e w' => e = .returned (.slice (some ⟨w.heap.size, 0, none⟩) (ln (a / d)) n) ∧ Rn w' (some ⟨w.heap.size, 0, none⟩, n) (a / d) ∧ Grow w w' := by
        have h1 := ref1_trim (some ⟨w.heap.size, 0, none⟩) zs n wr HR.out.lim (Nat.le_of_eq hzl) (by omega)
        rw [hzl] at h1
        refine h1.mono fun e w' ⟨he, hg⟩ => ?_
        obtain ⟨hr1, hlen⟩ := rn_trim (a := a / d) (c := n) (HR.out.lim.grow hg) HI.out.2.1 hres.2.symm (Nat.le_of_eq hzl) hm
        rw [hlen] at he
        exact ⟨he, hr1, HG.out.trans hg⟩
      have Htr := Lib.hid htr
      have Hres := Lib.hid hres
      clear hval hres hzl htr
      have hc : decide ((0 : Int) ≤ ((0 : Nat) : Int) - 1) = false := by decide
      have hwr : ((r' : Int)) % 4294967296 = (r' : Int) := by omega
      go_wp2_with (go_at_call 135; ((with_reducible refine (Htr.out).mono ?_); rintro e w1 ⟨rfl, hr1, hg⟩))
      go_ret2
      exact ⟨(some ⟨w.heap.size, 0, none⟩, n), congrArg (fun z : Nat => Ending.returned (.tuple #[.slice (some ⟨w.heap.size, 0, none⟩) (ln (a / d)) n, .int .u32 (z : Nat)])) Hres.out.1.symm, hr1, hg⟩
    · obtain ⟨j, rfl⟩ : ∃ j, k = j + 1 := ⟨k - 1, by omega⟩
      have e1 : ((j + 1 : Nat) : Int) - 1 = (j : Nat) := by omega
      rw [e1]
      have hjl : j < (digs W32 a).length := by have := Hn.out; unfold ln at this; omega
      have hnx := HI.out.next hjl (dig_digs W32_ge a) W32_pos
      obtain ⟨b1, o1, rfl, hc1⟩ := (Hx.out.grow HG.out).cell hjl
      have hjz : j < zs.length := by rw [HI.out.1]; exact hjl
      have hc2 := HR.out.cell hjz
      have hf2 := HR.out.frozen j
      have hxl := dg_lt W32_pos (dig_digs W32_ge a) j
      obtain ⟨p, hp⟩ : ∃ p, p = dg (digs W32 a) j := ⟨_, rfl⟩
      rw [← hp] at hc1 hnx hxl
      have hr := HI.out.2.2.1
      have Hp := Lib.hid hp
      have Hnx := Lib.hid hnx
      clear hp hnx e1
      have hc0 : decide ((0 : Int) ≤ (j : Int)) = true := by simp
      unfold W32 at hxl
      obtain ⟨X, hX⟩ : ∃ X, X = r' * W32 + p := ⟨_, rfl⟩
      have hXl : X < 18446744073709551616 := by rw [hX]; unfold W32; omega
      have hqW : X / d < 4294967296 := by rw [hX]; exact digit_lt hr (by unfold W32; exact hxl)
      have hmW : X % d < d := Nat.mod_lt _ hd0
      have hor : bits BinOp.or IntKind.u64 ((r' : Int) * 4294967296) (p : Int) = (X : Nat) := by
        have e2 : ((r' : Int) * 4294967296) = ((r' * 4294967296 : Nat) : Int) := by omega
        rw [e2, bits_or_u64_nat _ _ (by omega) (by omega), hX]
        unfold W32
        rw [or_add (s := 32) (by omega) (by omega)]
      have htm : ((X : Nat) : Int).tmod (d : Int) = ((X % d : Nat) : Int) := rfl
      have htd : ((X : Nat) : Int).tdiv (d : Int) = ((X / d : Nat) : Int) := rfl
      rw [← hX] at Hnx
      have HX := Lib.hid hX
      obtain ⟨q, hq⟩ : ∃ q, q = X / d := ⟨_, rfl⟩
      obtain ⟨m, hm'⟩ : ∃ q, q = X % d := ⟨_, rfl⟩
      rw [← hq] at Hnx htd hqW
      rw [← hm'] at Hnx htm hmW
      clear hX hq hm'
      have hwq : ((q : Int)) % 4294967296 = (q : Int) := by omega
      go_wp2_with fail
      exact ⟨⟨j, m, zs.set j q, by omega, rfl, rfl, Hnx.out, HR.out.set j q, HG.out.setCell (p := ⟨w.heap.size, j, none⟩) (Nat.le_refl _) _⟩, by simp [intOf]⟩
end Go.Proofs.YtimjnkfcnpfoeaaGreatDoor

/-
  The document's numbers: NatDiv by one limb, NatGcd.
-/
namespace Go.Proofs.YtimjnkfcnpfoeaaGreatDoor
open Go.RowKit

theorem ln_one {b : Nat} (h0 : b ≠ 0) (h : b < W32) : ln b = 1 ∧ digs W32 b = [b] := by
  have e : digs W32 b = [b] := by
    rw [digs_pos W32_ge h0, Nat.mod_eq_of_lt h, Nat.div_eq_of_lt h]; rfl
  exact ⟨by unfold ln; rw [e]; rfl, e⟩
theorem Rn.nil (u : World) : Rn u (none, 0) 0 := ⟨Lim.nil _ _, Nat.le_refl _, by omega⟩
theorem Ret.nn {a b : Nat} {w : World} {P : Program} {f : FuncId} {args : Array Value} {W : World} (h : Calls P f args W (Ret (nnR a b) w)) : Calls P f args W fun e w' => ∃ x y : Ax, e = .returned (.tuple #[.slice x.1 (ln a) x.2, .slice y.1 (ln b) y.2]) ∧ Rn w' x a ∧ Rn w' y b ∧ Grow w w' :=
  h.mono fun _ _ ⟨x, he, ht, hg⟩ => ⟨x.1, x.2, he, ht.1, ht.2, hg⟩
/-- the divisions that are told -/
def RDiv (b : Nat) : Prop := b < W32
set_option maxHeartbeats 1000000 in
set_option maxRecDepth 100000 in
theorem ref1_NatDiv (x y : Ax) (a b : Nat) (w : World) (hx : Rn w x a) (hy : Rn w y b) (h0 : b ≠ 0) (hs : RDiv b) : Calls Tryz.prog 132 #[nvV x a, nvV y b] w (Ret (nnR (a / b) (a % b)) w) := by
  have hcmp := ref1_NatCmp x y a b w hx hy
  by_cases hlt : a < b
  · rw [cmpN_lt hlt] at hcmp
    have Hcmp := Lib.hid hcmp
    have Hx := Lib.hid hx
    clear hcmp hx hy
    rw [Nat.div_eq_of_lt hlt, Nat.mod_eq_of_lt hlt]
    go_enter Tryz.func132, Tryz.ntmps132
    go_wp2_with (go_at_call 63; ((with_reducible refine (Hcmp.out).mono ?_); rintro e w1 ⟨rfl, hg⟩))
    go_ret2
    exact ⟨((none, 0), x), rfl, ⟨Rn.nil _, Hx.out.grow hg⟩, hg⟩
  · have hcz : decide (cmpN a b < 0) = false := by unfold cmpN; rw [if_neg hlt]; split <;> rfl
    obtain ⟨hl1, hdg⟩ := ln_one h0 hs
    obtain ⟨A2, c2⟩ := y
    have hcell := hy.1.cell (i := 0) (by rw [hdg]; simp)
    rw [hdg] at hcell
    obtain ⟨b2, o2, rfl, hc2⟩ := hcell
    have hc2' : ∀ W, Grow w W → W.cell? ⟨b2, o2, none⟩ = some (.int .u32 (b : Nat)) := fun W hg => by
      have h1 := (hy.1.grow hg).cell (i := 0) (by rw [hdg]; simp)
      rw [hdg] at h1
      obtain ⟨b3, o3, e3, h3⟩ := h1
      injection e3 with e3
      injection e3 with e4 e5
      subst e4; subst e5
      exact h3
    have hone : ∀ W, Grow w W → Calls Tryz.prog 170 #[nvV x a, .int .u32 b] W fun e w' => ∃ y : Ax, e = .returned (.tuple #[nvV y (a / b), .int .u32 (a % b : Nat)]) ∧ Rn w' y (a / b) ∧ Grow W w' := fun W hg => ref1_one x a b W (hx.grow hg) (Nat.pos_of_ne_zero h0) hs
    have hmod : a % b < W64 := Nat.lt_of_lt_of_le (Nat.mod_lt _ (Nat.pos_of_ne_zero h0)) (Nat.le_of_lt (Nat.lt_of_lt_of_le hs (by unfold W32 W64; omega)))
    have hof := ref1_NatOf (a % b) hmod
    obtain ⟨m, hme⟩ : ∃ m, m = a % b := ⟨_, rfl⟩
    rw [← hme] at hone hof hmod ⊢
    unfold W64 at hmod
    show Calls Tryz.prog 132 #[nvV x a, .slice (some ⟨b2, o2, none⟩) (ln b) c2] w _
    rw [hl1]
    have hcmp' : Calls Tryz.prog 63 #[nvV x a, .slice (some ⟨b2, o2, none⟩) 1 c2] w fun e w' => e = .returned (.int .i64 (cmpN a b)) ∧ Grow w w' := by
      rw [← hl1]; exact hcmp
    have Hcmp := Lib.hid hcmp'
    have Hone := Lib.hid hone
    have Hof := Lib.hid hof
    have Hc2 := Lib.hid hc2'
    clear hcmp hcmp' hone hof hc2' hc2 hy hx hdg hl1 hs hme
    go_enter Tryz.func132, Tryz.ntmps132
    go_wp2_with (first
      | (go_at_call 63; ((with_reducible refine (Hcmp.out).mono ?_); rintro e w1 ⟨rfl, hg1⟩; have hcc := Hc2.out w1 hg1))
      | (go_at_call 170; ((with_reducible refine (Hone.out w1 hg1).mono ?_); rintro e w2 ⟨y2, rfl, hy2, hg2⟩))
      | (go_at_call 84; ((with_reducible refine (Hof.out _).mono ?_); rintro e w3 ⟨y3, rfl, hy3, hg3⟩)))
    go_ret2
    exact ⟨(y2, y3), rfl, ⟨hy2.grow hg3, hy3⟩, hg1.trans (hg2.trans hg3)⟩

set_option maxHeartbeats 1000000 in
set_option maxRecDepth 100000 in
theorem ref1_NatGcd (x y : Ax) (a b : Nat) (w : World) (hx : Rn w x a) (hy : Rn w y b) (hs : RDiv b) : Calls Tryz.prog 131 #[nvV x a, nvV y b] w (Ret (natR (Nat.gcd a b)) w) := by
  have Hx := Lib.hid hx
  have Hy := Lib.hid hy
  have Hs := Lib.hid hs
  obtain ⟨g, hg⟩ : ∃ g, g = Nat.gcd a b := ⟨_, rfl⟩
  rw [← hg]
  have Hg := Lib.hid hg.symm
  clear hx hy hs hg
  go_enter Tryz.func131, Tryz.ntmps131
  go_wp2_with fail
  go_loopg [0, 1] b (fun k s t wr => ∃ (x y : Ax) (a : Nat), s = nvV x a ∧ t = nvV y k ∧ Nat.gcd a k = g ∧ RDiv k ∧ Rn wr x a ∧ Rn wr y k ∧ Grow w wr)
  case atStart => exact ⟨x, y, a, rfl, rfl, Hg.out, Hs.out, Hx.out, Hy.out, Grow.refl _⟩
  case round =>
    obtain ⟨x, y, a, rfl, rfl, hgc, hs, hx, hy, hG⟩ := hrel
    rcases Nat.eq_zero_or_pos gk with h0 | h0
    · have hl : ¬ 0 < ln gk := by rw [h0, ln_zero]; omega
      have Hgc : Hid (a = g) := by rw [h0, Nat.gcd_zero_right] at hgc; exact Lib.hid hgc
      have Hr := Lib.hid hx
      clear hgc hs hx hy h0
      go_wp2_with fail
      go_ret
      exact ⟨x, by rw [← Hgc.out]; rfl, by rw [← Hgc.out]; exact Hr.out, hG⟩
    · have hl : 0 < ln gk := ln_pos.2 (by omega)
      have hdv := ref1_NatDiv x y a gk wr hx hy (by omega) hs
      obtain ⟨q, hq⟩ : ∃ q, q = a / gk := ⟨_, rfl⟩
      obtain ⟨m, hm⟩ : ∃ m, m = a % gk := ⟨_, rfl⟩
      have hmlt : m < gk := by rw [hm]; exact Nat.mod_lt _ h0
      have Hgc : Hid (Nat.gcd gk m = g) := by rw [hm]; exact Lib.hid (gcd_step a gk g hgc)
      rw [← hq, ← hm] at hdv
      have Hdv := Lib.hid (Ret.nn hdv)
      have Hy := Lib.hid hy
      have Hs : Hid (RDiv m) := Lib.hid (Nat.lt_trans hmlt hs)
      clear hgc hs hx hy hq hm hdv
      go_wp2_with (go_at_call 132; ((with_reducible refine (Hdv.out).mono ?_); rintro e w1 ⟨y1, y2, rfl, hr1, hr2, hg1⟩))
      go_roundg m
      case rel => exact ⟨y, y2, gk, rfl, rfl, Hgc.out, Hs.out, Hy.out.grow hg1, hr2, hG.trans hg1⟩
      case measure => exact hmlt
end Go.Proofs.YtimjnkfcnpfoeaaGreatDoor

/-
  The document's numbers: I, IntOf, Make, Over, Of.
-/
namespace Go.Proofs.YtimjnkfcnpfoeaaGreatDoor
open Go.RowKit
theorem newObj_RInt (d : Option Tmp) (ty : TypeId) (pos : String) (af : Array Edge) (gd : Option (Nat × Bool)) : newObj Tryz.prog ⟨d, .alloc 39, ty, pos, af, gd⟩ = .cells #[.bool false, .slice none 0 0] 39 := by kernel_rfl
theorem newObj_RQ (d : Option Tmp) (ty : TypeId) (pos : String) (af : Array Edge) (gd : Option (Nat × Bool)) : newObj Tryz.prog ⟨d, .alloc 41, ty, pos, af, gd⟩ = .cells #[.bool false, .slice none 0 0, .slice none 0 0] 41 := by kernel_rfl

theorem riV_sgn (x : Ax) (neg : Bool) (a : Nat) : riV x (sgn neg a) = .agg #[.bool (neg && decide (a ≠ 0)), .slice x.1 (ln a) x.2] := by
  unfold riV; rw [intNeg_sgn, sgn_abs]
set_option maxHeartbeats 400000 in
set_option maxRecDepth 100000 in
theorem ref1_I_no (x : Ax) (a : Nat) (w : World) : Calls Tryz.prog 133 #[.bool false, nvV x a] w fun e w' => e = .returned (riV x (sgn false a)) ∧ Grow w w' := by
  rw [riV_sgn, Bool.false_and]
  go_enter Tryz.func133, Tryz.ntmps133
  refine wp_seq (wp_r0 ?_)
  intro K hN
  go_wp2_with fail
  generalize hu : World.alloc w _ = u
  obtain ⟨hB, hG⟩ := bx_first [(_, _)] w u hu
  have hF := fr_first w [(39, #[])]
  simp only [numbered, List.map_cons, List.map_nil] at hB hF
  clear hu
  generalize w.heap.size = b4 at hB hF ⊢
  refine NoK.norm (hN _ _ ?_)
  clear hN K
  refine then_norm ?_
  refine wp_seq ?_
  refine wp_r0 ?_
  intro K hN
  have r := hB.r
  simp only [BxR] at r
  go_wp2_with fail
  clear r
  generalize hu0 : World.setCell (World.setCell u _ _) _ _ = u0
  have hBG := hB.over hF hG 0 rfl 0 [_, _] hu0
  clear hB hG hu0
  simp only [List.modify_succ_cons, List.modify_zero_cons, wrAll, List.setIfInBounds_toArray, List.set_cons_zero, List.set_cons_succ, Nat.zero_add, Nat.reduceAdd] at hBG
  obtain ⟨hB, hG⟩ := hBG
  clear u
  obtain ⟨u, rfl⟩ : ∃ x, x = u0 := ⟨_, rfl⟩
  refine NoK.norm (hN _ _ ?_)
  clear hN K
  refine then_norm ?_
  refine wp_ret ?_
  refine ret_b rfl ?_
  intro N hN
  have r := hB.r
  simp only [BxR] at r
  simp only [results, Tryz.results133]
  go_simp
  refine hN _ ?_
  clear hN N r
  exact ⟨rfl, hG⟩
set_option maxHeartbeats 400000 in
set_option maxRecDepth 100000 in
theorem ref1_I_yes (x : Ax) (a : Nat) (w : World) : Calls Tryz.prog 133 #[.bool true, nvV x a] w fun e w' => e = .returned (riV x (sgn true a)) ∧ Grow w w' := by
  rw [riV_sgn, Bool.true_and]
  have hd : decide (a ≠ 0) = decide (0 < ln a) := by
    have := @ln_pos a
    rw [decide_eq_decide]; exact this.symm
  rw [hd]
  clear hd
  go_enter Tryz.func133, Tryz.ntmps133
  refine wp_seq (wp_r0 ?_)
  intro K hN
  go_wp2_with fail
  generalize hu : World.alloc w _ = u
  obtain ⟨hB, hG⟩ := bx_first [(_, _)] w u hu
  have hF := fr_first w [(39, #[])]
  simp only [numbered, List.map_cons, List.map_nil] at hB hF
  clear hu
  generalize w.heap.size = b4 at hB hF ⊢
  refine NoK.norm (hN _ _ ?_)
  clear hN K
  refine then_norm ?_
  refine wp_seq ?_
  refine wp_r0 ?_
  intro K hN
  have r := hB.r
  simp only [BxR] at r
  go_wp2_with fail
  clear r
  generalize hu0 : World.setCell (World.setCell u _ _) _ _ = u0
  have hBG := hB.over hF hG 0 rfl 0 [_, _] hu0
  clear hB hG hu0
  simp only [List.modify_succ_cons, List.modify_zero_cons, wrAll, List.setIfInBounds_toArray, List.set_cons_zero, List.set_cons_succ, Nat.zero_add, Nat.reduceAdd] at hBG
  obtain ⟨hB, hG⟩ := hBG
  clear u
  obtain ⟨u, rfl⟩ : ∃ x, x = u0 := ⟨_, rfl⟩
  refine NoK.norm (hN _ _ ?_)
  clear hN K
  refine then_norm ?_
  refine wp_ret ?_
  refine ret_b rfl ?_
  intro N hN
  have r := hB.r
  simp only [BxR] at r
  simp only [results, Tryz.results133]
  go_simp
  refine hN _ ?_
  clear hN N r
  exact ⟨rfl, hG⟩
--! ref1_I = ref1_I _ _ _ _
theorem ref1_I (x : Ax) (neg : Bool) (a : Nat) (w : World) : Calls Tryz.prog 133 #[.bool neg, nvV x a] w fun e w' => e = .returned (riV x (sgn neg a)) ∧ Grow w w' := by
  cases neg
  · exact ref1_I_no x a w
  · exact ref1_I_yes x a w

set_option maxHeartbeats 400000 in
set_option maxRecDepth 100000 in
theorem ref1_IntOf_neg (n : Int) (h0 : n < 0) (h1 : -9223372036854775808 ≤ n) (w : World) : Calls Tryz.prog 83 #[.int .i64 n] w (Ret (intR n) w) := by
  have hw1 : IntKind.u64.wrap n = n + 18446744073709551616 := by
    simp [IntKind.wrap, IntKind.signed, IntKind.bits]; omega
  have hw2 : IntKind.u64.wrap (-(n + 18446744073709551616)) = (n.natAbs : Nat) := by
    simp [IntKind.wrap, IntKind.signed, IntKind.bits]; omega
  have hlt : n.natAbs < W64 := by unfold W64; omega
  have hd : decide (n < 0) = true := by simpa using h0
  have hn : sgn true n.natAbs = n := by rw [sgn_true]; omega
  have Hn := Lib.hid hn
  clear hn
  go_enter Tryz.func83, Tryz.ntmps83
  refine wp_seq (wp_r0 ?_)
  intro K hN
  go_wp2_with fail
  generalize hu : World.alloc w _ = u
  obtain ⟨hB, hG⟩ := bx_first [(_, _)] w u hu
  have hF := fr_first w [(39, #[])]
  simp only [numbered, List.map_cons, List.map_nil] at hB hF
  clear hu
  generalize w.heap.size = b2 at hB hF ⊢
  refine NoK.norm (hN _ _ ?_)
  clear hN K
  refine then_norm ?_
  refine wp_seq ?_
  refine wp_seq ?_
  refine wp_r0 ?_
  intro K hN
  go_wp2_with fail
  refine NoK.norm (hN _ _ ?_)
  clear hN K
  refine then_norm ?_
  refine wp_cond_true (rfl) ?_
  refine wp_seq ?_
  refine wp_rs (w := w) allocs 5 [0, 0, 0, 1, 1] (by kernel_rfl) (by simp only [List.drop_succ_cons, List.drop_zero]; exact rfl) (fun _ => True) noG hB hG trivial ?_
  intro K L hN hL
  simp only [List.zip_cons_cons, List.zip_nil_left]
  apply gy
  · exact rfl
  · (rintro v - N hN; go_simp; exact hN)
  refine okf (by simp only [Act.put, List.setIfInBounds_toArray, List.set_cons_succ, List.set_cons_zero]; exact rfl) ?_
  apply gy
  · exact rfl
  · (rintro v - N hN; go_simp; exact hN)
  refine okf (by simp only [Act.put, List.setIfInBounds_toArray, List.set_cons_succ, List.set_cons_zero]; exact rfl) ?_
  apply gy
  · exact rfl
  · (rintro v - N hN; go_simp; exact hN)
  refine okf (by simp only [Act.put, List.setIfInBounds_toArray, List.set_cons_succ, List.set_cons_zero]; exact rfl) ?_
  refine gr (natR n.natAbs) rfl ?_ (fun (x8 : Ax) => ?_)
  · (rintro v ⟨hgu, hB, hG, -⟩ N hN; go_simp; ((with_reducible refine (ref1_NatOf n.natAbs hlt _).mono ?_); rintro e w1 ⟨x, rfl, hx, hg⟩; exact ⟨_, rfl, hN x w1 hx hg⟩))
  refine okf (by simp only [natR, intR, ratR, nnR, Act.put, List.setIfInBounds_toArray, List.set_cons_succ, List.set_cons_zero]; exact rfl) ?_
  apply gm
  · exact rfl
  · (rintro v ⟨⟨hgu, hB, hG, -⟩, hx8⟩ N hN; have hx8 : Rn v x8 _ := hx8; go_simp; ((with_reducible refine (ref1_I x8 true n.natAbs _).mono ?_); rintro e w1 ⟨rfl, hb⟩; exact ⟨_, rfl, hN _ hb⟩))
  refine okf (by simp only [Act.put, List.setIfInBounds_toArray, List.set_cons_succ, List.set_cons_zero]; exact rfl) ?_
  refine gend ?_
  rintro v ⟨⟨hgu, hB1, hG1, -⟩, hx8⟩
  replace hx8 : Rn v x8 _ := hx8
  clear hB hG
  have hB := hB1
  have hG := hG1
  clear hB1 hG1
  refine hL _ _ ?_
  clear hL L hgu
  obtain ⟨u, rfl⟩ : ∃ x, x = v := ⟨_, rfl⟩
  have r := hB.r
  simp only [BxR] at r
  go_wp2_with fail
  clear r
  generalize hu0 : World.setCell (World.setCell u _ _) _ _ = u0
  have hBG := hB.over hF hG 0 rfl 0 [_, _] hu0
  replace hx8 := hx8.put hB 0 rfl (by decide) 0 [_, _] hu0
  clear hB hG hu0
  simp only [List.modify_succ_cons, List.modify_zero_cons, wrAll, List.setIfInBounds_toArray, List.set_cons_zero, List.set_cons_succ, Nat.zero_add, Nat.reduceAdd] at hBG
  obtain ⟨hB, hG⟩ := hBG
  clear u
  obtain ⟨u, rfl⟩ : ∃ x, x = u0 := ⟨_, rfl⟩
  refine NoK.norm (hN _ _ ?_)
  clear hN K
  refine then_norm ?_
  refine wp_ret ?_
  refine then_ret ?_
  refine ret_b rfl ?_
  intro N hN
  have r := hB.r
  simp only [BxR] at r
  simp only [results, Tryz.results83]
  go_simp
  refine hN _ ?_
  clear hN N r
  exact ⟨x8, congrArg (fun z : Int => Ending.returned (riV x8 z)) Hn.out, hx8, hG⟩
set_option maxHeartbeats 400000 in
set_option maxRecDepth 100000 in
theorem ref1_IntOf_pos (n : Int) (h0 : 0 ≤ n) (h1 : n ≤ 9223372036854775807) (w : World) : Calls Tryz.prog 83 #[.int .i64 n] w (Ret (intR n) w) := by
  have hw1 : IntKind.u64.wrap n = (n.natAbs : Nat) := by
    simp [IntKind.wrap, IntKind.signed, IntKind.bits]; omega
  have hlt : n.natAbs < W64 := by unfold W64; omega
  have hd : decide (n < 0) = false := by simpa using h0
  have hn : sgn false n.natAbs = n := by rw [sgn_false]; omega
  have Hn := Lib.hid hn
  clear hn
  go_enter Tryz.func83, Tryz.ntmps83
  refine wp_seq (wp_r0 ?_)
  intro K hN
  go_wp2_with fail
  generalize hu : World.alloc w _ = u
  obtain ⟨hB, hG⟩ := bx_first [(_, _)] w u hu
  have hF := fr_first w [(39, #[])]
  simp only [numbered, List.map_cons, List.map_nil] at hB hF
  clear hu
  generalize w.heap.size = b2 at hB hF ⊢
  refine NoK.norm (hN _ _ ?_)
  clear hN K
  refine then_norm ?_
  refine wp_seq ?_
  refine wp_seq ?_
  refine wp_r0 ?_
  intro K hN
  go_wp2_with fail
  refine NoK.norm (hN _ _ ?_)
  clear hN K
  refine then_norm ?_
  refine wp_cond_false (rfl) ?_
  refine wp_skip ?_
  refine then_norm ?_
  refine wp_seq ?_
  refine wp_rs (w := w) allocs 4 [0, 0, 1, 1] (by kernel_rfl) (by simp only [List.drop_succ_cons, List.drop_zero]; exact rfl) (fun _ => True) noG hB hG trivial ?_
  intro K L hN hL
  simp only [List.zip_cons_cons, List.zip_nil_left]
  apply gy
  · exact rfl
  · (rintro v - N hN; go_simp; exact hN)
  refine okf (by simp only [Act.put, List.setIfInBounds_toArray, List.set_cons_succ, List.set_cons_zero]; exact rfl) ?_
  apply gy
  · exact rfl
  · (rintro v - N hN; go_simp; exact hN)
  refine okf (by simp only [Act.put, List.setIfInBounds_toArray, List.set_cons_succ, List.set_cons_zero]; exact rfl) ?_
  refine gr (natR n.natAbs) rfl ?_ (fun (x12 : Ax) => ?_)
  · (rintro v ⟨hgu, hB, hG, -⟩ N hN; go_simp; ((with_reducible refine (ref1_NatOf n.natAbs hlt _).mono ?_); rintro e w1 ⟨x, rfl, hx, hg⟩; exact ⟨_, rfl, hN x w1 hx hg⟩))
  refine okf (by simp only [natR, intR, ratR, nnR, Act.put, List.setIfInBounds_toArray, List.set_cons_succ, List.set_cons_zero]; exact rfl) ?_
  apply gm
  · exact rfl
  · (rintro v ⟨⟨hgu, hB, hG, -⟩, hx12⟩ N hN; have hx12 : Rn v x12 _ := hx12; go_simp; ((with_reducible refine (ref1_I x12 false n.natAbs _).mono ?_); rintro e w1 ⟨rfl, hb⟩; exact ⟨_, rfl, hN _ hb⟩))
  refine okf (by simp only [Act.put, List.setIfInBounds_toArray, List.set_cons_succ, List.set_cons_zero]; exact rfl) ?_
  refine gend ?_
  rintro v ⟨⟨hgu, hB1, hG1, -⟩, hx12⟩
  replace hx12 : Rn v x12 _ := hx12
  clear hB hG
  have hB := hB1
  have hG := hG1
  clear hB1 hG1
  refine hL _ _ ?_
  clear hL L hgu
  obtain ⟨u, rfl⟩ : ∃ x, x = v := ⟨_, rfl⟩
  have r := hB.r
  simp only [BxR] at r
  go_wp2_with fail
  clear r
  generalize hu0 : World.setCell (World.setCell u _ _) _ _ = u0
  have hBG := hB.over hF hG 0 rfl 0 [_, _] hu0
  replace hx12 := hx12.put hB 0 rfl (by decide) 0 [_, _] hu0
  clear hB hG hu0
  simp only [List.modify_succ_cons, List.modify_zero_cons, wrAll, List.setIfInBounds_toArray, List.set_cons_zero, List.set_cons_succ, Nat.zero_add, Nat.reduceAdd] at hBG
  obtain ⟨hB, hG⟩ := hBG
  clear u
  obtain ⟨u, rfl⟩ : ∃ x, x = u0 := ⟨_, rfl⟩
  refine NoK.norm (hN _ _ ?_)
  clear hN K
  refine then_norm ?_
  refine wp_ret ?_
  refine ret_b rfl ?_
  intro N hN
  have r := hB.r
  simp only [BxR] at r
  simp only [results, Tryz.results83]
  go_simp
  refine hN _ ?_
  clear hN N r
  exact ⟨x12, congrArg (fun z : Int => Ending.returned (riV x12 z)) Hn.out, hx12, hG⟩
theorem ref1_IntOf (n : Int) (h0 : -9223372036854775808 ≤ n) (h1 : n ≤ 9223372036854775807) (w : World) : Calls Tryz.prog 83 #[.int .i64 n] w (Ret (intR n) w) := by
  by_cases h : n < 0
  · exact ref1_IntOf_neg n h h0 w
  · exact ref1_IntOf_pos n (by omega) h1 w

theorem ret_rq {x y : Ax} {z : Int} {d : Nat} {q : Rat} (h1 : q.num = z) (h2 : q.den = d) : Ending.returned (.agg #[.bool (intNeg z), .slice x.1 (ln z.natAbs) x.2, .slice y.1 (ln d) y.2]) = .returned (rqV x y q) := by subst h1; subst h2; rfl
theorem over_num (n d : Int) (h : d ≠ 0) : (qover n d).num = sgn (intNeg n != intNeg d) (n.natAbs / Nat.gcd n.natAbs d.natAbs) := by
  have hd : d.natAbs ≠ 0 := by omega
  by_cases hn : d < 0
  · rw [over_neg n d hn, num_low _ _ hd, ← sgn_div]
    have e1 : (zneg n).natAbs = n.natAbs := by unfold zneg; exact Int.natAbs_neg n
    rw [e1]
    have e2 : intNeg d = true := decide_eq_true hn
    rw [e2]
    by_cases h0 : n = 0
    · subst h0; simp [sgn]
    · congr 1
      unfold intNeg zneg
      rw [Bool.eq_iff_iff]
      simp
      omega
  · rw [over_pos n d hn, num_low _ _ hd, ← sgn_div]
    have e2 : intNeg d = false := decide_eq_false hn
    rw [e2]
    simp
theorem over_den (n d : Int) (h : d ≠ 0) : (qover n d).den = d.natAbs / Nat.gcd n.natAbs d.natAbs := by
  have hd : d.natAbs ≠ 0 := by omega
  by_cases hn : d < 0
  · rw [over_neg n d hn, den_low _ _ hd]
    unfold zneg; rw [Int.natAbs_neg]
  · rw [over_pos n d hn, den_low _ _ hd]
set_option maxHeartbeats 1000000 in
set_option maxRecDepth 100000 in
theorem ref1_Make (x y : Ax) (n d : Int) (w : World) (hx : Rn w x n.natAbs) (hy : Rn w y d.natAbs) (h0 : d ≠ 0) (hs : RDiv d.natAbs) : Calls Tryz.prog 80 #[riV x n, riV y d] w (Ret (ratR (qover n d)) w) := by
  have He := Lib.hid (And.intro (over_num n d h0) (over_den n d h0))
  have hd0 : d.natAbs ≠ 0 := by omega
  have g0 : Nat.gcd n.natAbs d.natAbs ≠ 0 := fun e => hd0 (Nat.eq_zero_of_gcd_eq_zero_right e)
  have gs : RDiv (Nat.gcd n.natAbs d.natAbs) := Nat.lt_of_le_of_lt (Nat.gcd_le_right _ (by omega)) hs
  go_enter Tryz.func80, Tryz.ntmps80
  refine wp_seq (wp_r0 ?_)
  intro K hN
  go_wp2_with fail
  generalize hu : World.alloc (World.alloc (World.alloc w _) _) _ = u
  obtain ⟨hB, hG⟩ := bx_first [(_, _), (_, _), (_, _)] w u hu
  have hF := fr_first w [(39, #[]), (39, #[]), (41, #[])]
  simp only [numbered, List.map_cons, List.map_nil] at hB hF
  clear hu
  generalize w.heap.size + 1 + 1 = b4 at hB hF ⊢
  generalize w.heap.size + 1 = b3 at hB hF ⊢
  generalize w.heap.size = b2 at hB hF ⊢
  replace hx := hx.grow hG
  replace hy := hy.grow hG
  refine NoK.norm (hN _ _ ?_)
  clear hN K
  refine then_norm ?_
  refine wp_seq ?_
  refine wp_rs (w := w) allocs 6 [0, 0, 0, 0, 1, 0] (by kernel_rfl) (by simp only [List.drop_succ_cons, List.drop_nil]; exact rfl) (fun _ => True) noG hB hG trivial ?_
  intro K L hN hL
  simp only [List.zip_cons_cons, List.zip_nil_left]
  apply gy
  · exact rfl
  · (rintro v - N hN; go_simp; exact hN)
  refine okf (by simp only [Act.put, List.setIfInBounds_toArray, List.set_cons_succ, List.set_cons_zero]; exact rfl) ?_
  apply gy
  · exact rfl
  · (rintro v ⟨hgu, hB, hG, -⟩ N hN; have r := hB.r; simp only [BxR] at r; go_simp; exact hN)
  refine okf (by simp only [Act.put, List.setIfInBounds_toArray, List.set_cons_succ, List.set_cons_zero]; exact rfl) ?_
  apply gy
  · exact rfl
  · (rintro v - N hN; go_simp; exact hN)
  refine okf (by simp only [Act.put, List.setIfInBounds_toArray, List.set_cons_succ, List.set_cons_zero]; exact rfl) ?_
  apply gy
  · exact rfl
  · (rintro v ⟨hgu, hB, hG, -⟩ N hN; have r := hB.r; simp only [BxR] at r; go_simp; exact hN)
  refine okf (by simp only [Act.put, List.setIfInBounds_toArray, List.set_cons_succ, List.set_cons_zero]; exact rfl) ?_
  refine gr (natR (Nat.gcd n.natAbs d.natAbs)) rfl ?_ (fun (x14 : Ax) => ?_)
  · (rintro v ⟨hgu, hB, hG, -⟩ N hN; go_simp; ((with_reducible refine (ref1_NatGcd x y n.natAbs d.natAbs _ (hx.grow hgu) (hy.grow hgu) hs).mono ?_); rintro e w1 ⟨x, rfl, hx, hg⟩; exact ⟨_, rfl, hN x w1 hx hg⟩))
  refine okf (by simp only [natR, intR, ratR, nnR, Act.put, List.setIfInBounds_toArray, List.set_cons_succ, List.set_cons_zero]; exact rfl) ?_
  apply gy
  · exact rfl
  · (rintro v - N hN; go_simp; exact hN)
  refine okf (by simp only [Act.put, List.setIfInBounds_toArray, List.set_cons_succ, List.set_cons_zero]; exact rfl) ?_
  refine gend ?_
  rintro v ⟨⟨hgu, hB1, hG1, -⟩, hx14⟩
  replace hx := hx.grow hgu
  replace hy := hy.grow hgu
  replace hx14 : Rn v x14 _ := hx14
  clear hB hG
  have hB := hB1
  have hG := hG1
  clear hB1 hG1
  refine hL _ _ ?_
  clear hL L hgu
  obtain ⟨u, rfl⟩ : ∃ x, x = v := ⟨_, rfl⟩
  refine wpList_nil ?_
  refine NoK.norm (hN _ _ ?_)
  clear hN K
  refine then_norm ?_
  refine wp_seq ?_
  refine wp_rs (w := w) allocs 9 [0, 0, 0, 1, 0, 0, 0, 0, 0] (by kernel_rfl) (by simp only [List.drop_succ_cons, List.drop_nil]; exact rfl) (fun _ => True) noG hB hG trivial ?_
  intro K L hN hL
  simp only [List.zip_cons_cons, List.zip_nil_left]
  apply gy
  · exact rfl
  · (rintro v - N hN; go_simp; exact hN)
  refine okf (by simp only [Act.put, List.setIfInBounds_toArray, List.set_cons_succ, List.set_cons_zero]; exact rfl) ?_
  apply gy
  · exact rfl
  · (rintro v ⟨hgu, hB, hG, -⟩ N hN; have r := hB.r; simp only [BxR] at r; go_simp; exact hN)
  refine okf (by simp only [Act.put, List.setIfInBounds_toArray, List.set_cons_succ, List.set_cons_zero]; exact rfl) ?_
  apply gy
  · exact rfl
  · (rintro v - N hN; go_simp; exact hN)
  refine okf (by simp only [Act.put, List.setIfInBounds_toArray, List.set_cons_succ, List.set_cons_zero]; exact rfl) ?_
  refine gr (nnR (n.natAbs / Nat.gcd n.natAbs d.natAbs) (n.natAbs % Nat.gcd n.natAbs d.natAbs)) rfl ?_ (fun (x19 : Ax × Ax) => ?_)
  · (rintro v ⟨hgu, hB, hG, -⟩ N hN; go_simp; ((with_reducible refine (ref1_NatDiv x x14 n.natAbs _ _ (hx.grow hgu) (hx14.grow hgu) g0 gs).mono ?_); rintro e w1 ⟨x, rfl, hx, hg⟩; exact ⟨_, rfl, hN x w1 hx hg⟩))
  refine okf (by simp only [natR, intR, ratR, nnR, Act.put, List.setIfInBounds_toArray, List.set_cons_succ, List.set_cons_zero]; exact rfl) ?_
  apply gy
  · exact rfl
  · (rintro v - N hN; go_simp; exact hN)
  refine okf (by simp only [Act.put, List.setIfInBounds_toArray, List.set_cons_succ, List.set_cons_zero]; exact rfl) ?_
  apply gy
  · exact rfl
  · (rintro v - N hN; go_simp; exact hN)
  refine okf (by simp only [Act.put, List.setIfInBounds_toArray, List.set_cons_succ, List.set_cons_zero]; exact rfl) ?_
  apply gy
  · exact rfl
  · (rintro v - N hN; go_simp; exact hN)
  refine okf (by simp only [Act.put, List.setIfInBounds_toArray, List.set_cons_succ, List.set_cons_zero]; exact rfl) ?_
  apply gy
  · exact rfl
  · (rintro v - N hN; go_simp; exact hN)
  refine okf (by simp only [Act.put, List.setIfInBounds_toArray, List.set_cons_succ, List.set_cons_zero]; exact rfl) ?_
  apply gy
  · exact rfl
  · (rintro v - N hN; go_simp; exact hN)
  refine okf (by simp only [Act.put, List.setIfInBounds_toArray, List.set_cons_succ, List.set_cons_zero]; exact rfl) ?_
  refine gend ?_
  rintro v ⟨⟨hgu, hB1, hG1, -⟩, hx19⟩
  replace hx := hx.grow hgu
  replace hy := hy.grow hgu
  replace hx14 := hx14.grow hgu
  obtain ⟨hx19a, hx19b⟩ : Rn v x19.1 _ ∧ Rn v x19.2 _ := hx19
  clear hB hG
  have hB := hB1
  have hG := hG1
  clear hB1 hG1
  refine hL _ _ ?_
  clear hL L hgu
  obtain ⟨u, rfl⟩ : ∃ x, x = v := ⟨_, rfl⟩
  refine wpList_nil ?_
  refine NoK.norm (hN _ _ ?_)
  clear hN K
  refine then_norm ?_
  refine wp_seq ?_
  refine wp_rs (w := w) allocs 9 [0, 0, 0, 1, 0, 0, 0, 0, 0] (by kernel_rfl) (by simp only [List.drop_succ_cons, List.drop_nil]; exact rfl) (fun _ => True) noG hB hG trivial ?_
  intro K L hN hL
  simp only [List.zip_cons_cons, List.zip_nil_left]
  apply gy
  · exact rfl
  · (rintro v - N hN; go_simp; exact hN)
  refine okf (by simp only [Act.put, List.setIfInBounds_toArray, List.set_cons_succ, List.set_cons_zero]; exact rfl) ?_
  apply gy
  · exact rfl
  · (rintro v ⟨hgu, hB, hG, -⟩ N hN; have r := hB.r; simp only [BxR] at r; go_simp; exact hN)
  refine okf (by simp only [Act.put, List.setIfInBounds_toArray, List.set_cons_succ, List.set_cons_zero]; exact rfl) ?_
  apply gy
  · exact rfl
  · (rintro v - N hN; go_simp; exact hN)
  refine okf (by simp only [Act.put, List.setIfInBounds_toArray, List.set_cons_succ, List.set_cons_zero]; exact rfl) ?_
  refine gr (nnR (d.natAbs / Nat.gcd n.natAbs d.natAbs) (d.natAbs % Nat.gcd n.natAbs d.natAbs)) rfl ?_ (fun (x26 : Ax × Ax) => ?_)
  · (rintro v ⟨hgu, hB, hG, -⟩ N hN; go_simp; ((with_reducible refine (ref1_NatDiv y x14 d.natAbs _ _ (hy.grow hgu) (hx14.grow hgu) g0 gs).mono ?_); rintro e w1 ⟨x, rfl, hx, hg⟩; exact ⟨_, rfl, hN x w1 hx hg⟩))
  refine okf (by simp only [natR, intR, ratR, nnR, Act.put, List.setIfInBounds_toArray, List.set_cons_succ, List.set_cons_zero]; exact rfl) ?_
  apply gy
  · exact rfl
  · (rintro v - N hN; go_simp; exact hN)
  refine okf (by simp only [Act.put, List.setIfInBounds_toArray, List.set_cons_succ, List.set_cons_zero]; exact rfl) ?_
  apply gy
  · exact rfl
  · (rintro v - N hN; go_simp; exact hN)
  refine okf (by simp only [Act.put, List.setIfInBounds_toArray, List.set_cons_succ, List.set_cons_zero]; exact rfl) ?_
  apply gy
  · exact rfl
  · (rintro v - N hN; go_simp; exact hN)
  refine okf (by simp only [Act.put, List.setIfInBounds_toArray, List.set_cons_succ, List.set_cons_zero]; exact rfl) ?_
  apply gy
  · exact rfl
  · (rintro v - N hN; go_simp; exact hN)
  refine okf (by simp only [Act.put, List.setIfInBounds_toArray, List.set_cons_succ, List.set_cons_zero]; exact rfl) ?_
  apply gy
  · exact rfl
  · (rintro v - N hN; go_simp; exact hN)
  refine okf (by simp only [Act.put, List.setIfInBounds_toArray, List.set_cons_succ, List.set_cons_zero]; exact rfl) ?_
  refine gend ?_
  rintro v ⟨⟨hgu, hB1, hG1, -⟩, hx26⟩
  replace hx := hx.grow hgu
  replace hy := hy.grow hgu
  replace hx14 := hx14.grow hgu
  replace hx19a := hx19a.grow hgu
  replace hx19b := hx19b.grow hgu
  obtain ⟨hx26a, hx26b⟩ : Rn v x26.1 _ ∧ Rn v x26.2 _ := hx26
  clear hB hG
  have hB := hB1
  have hG := hG1
  clear hB1 hG1
  refine hL _ _ ?_
  clear hL L hgu
  obtain ⟨u, rfl⟩ : ∃ x, x = v := ⟨_, rfl⟩
  refine wpList_nil ?_
  refine NoK.norm (hN _ _ ?_)
  clear hN K
  refine then_norm ?_
  refine wp_seq ?_
  refine wp_rs (w := w) allocs 9 [0, 0, 0, 0, 0, 0, 1, 0, 0] (by kernel_rfl) (by simp only [List.drop_succ_cons, List.drop_zero]; exact rfl) (fun _ => True) noG hB hG trivial ?_
  intro K L hN hL
  simp only [List.zip_cons_cons, List.zip_nil_left]
  apply gy
  · exact rfl
  · (rintro v - N hN; go_simp; exact hN)
  refine okf (by simp only [Act.put, List.setIfInBounds_toArray, List.set_cons_succ, List.set_cons_zero]; exact rfl) ?_
  apply gy
  · exact rfl
  · (rintro v ⟨hgu, hB, hG, -⟩ N hN; have r := hB.r; simp only [BxR] at r; go_simp; exact hN)
  refine okf (by simp only [Act.put, List.setIfInBounds_toArray, List.set_cons_succ, List.set_cons_zero]; exact rfl) ?_
  apply gy
  · exact rfl
  · (rintro v - N hN; go_simp; exact hN)
  refine okf (by simp only [Act.put, List.setIfInBounds_toArray, List.set_cons_succ, List.set_cons_zero]; exact rfl) ?_
  apply gy
  · exact rfl
  · (rintro v ⟨hgu, hB, hG, -⟩ N hN; have r := hB.r; simp only [BxR] at r; go_simp; exact hN)
  refine okf (by simp only [Act.put, List.setIfInBounds_toArray, List.set_cons_succ, List.set_cons_zero]; exact rfl) ?_
  apply gy
  · exact rfl
  · (rintro v - N hN; go_simp; exact hN)
  refine okf (by simp only [Act.put, List.setIfInBounds_toArray, List.set_cons_succ, List.set_cons_zero]; exact rfl) ?_
  apply gy
  · exact rfl
  · (rintro v - N hN; go_simp; exact hN)
  refine okf (by simp only [Act.put, List.setIfInBounds_toArray, List.set_cons_succ, List.set_cons_zero]; exact rfl) ?_
  apply gm
  · exact rfl
  · (rintro v ⟨hgu, hB, hG, -⟩ N hN; go_simp; ((with_reducible refine (ref1_I x19.1 _ (n.natAbs / Nat.gcd n.natAbs d.natAbs) _).mono ?_); rintro e w1 ⟨rfl, hb⟩; exact ⟨_, rfl, hN _ hb⟩))
  refine okf (by simp only [Act.put, List.setIfInBounds_toArray, List.set_cons_succ, List.set_cons_zero]; exact rfl) ?_
  apply gy
  · exact rfl
  · (rintro v - N hN; go_simp; exact hN)
  refine okf (by simp only [Act.put, List.setIfInBounds_toArray, List.set_cons_succ, List.set_cons_zero]; exact rfl) ?_
  apply gy
  · exact rfl
  · (rintro v - N hN; go_simp; exact hN)
  refine okf (by simp only [Act.put, List.setIfInBounds_toArray, List.set_cons_succ, List.set_cons_zero]; exact rfl) ?_
  refine gend ?_
  rintro v ⟨hgu, hB1, hG1, -⟩
  replace hx := hx.grow hgu
  replace hy := hy.grow hgu
  replace hx14 := hx14.grow hgu
  replace hx19a := hx19a.grow hgu
  replace hx19b := hx19b.grow hgu
  replace hx26a := hx26a.grow hgu
  replace hx26b := hx26b.grow hgu
  clear hB hG
  have hB := hB1
  have hG := hG1
  clear hB1 hG1
  refine hL _ _ ?_
  clear hL L hgu
  obtain ⟨u, rfl⟩ : ∃ x, x = v := ⟨_, rfl⟩
  have r := hB.r
  simp only [BxR] at r
  go_wp2_with fail
  clear r
  generalize hu0 : World.setCell (World.setCell (World.setCell u _ _) _ _) _ _ = u0
  have hBG := hB.over hF hG 2 rfl 0 [_, _, _] hu0
  replace hx := hx.put hB 2 rfl (by decide) 0 [_, _, _] hu0
  replace hy := hy.put hB 2 rfl (by decide) 0 [_, _, _] hu0
  replace hx14 := hx14.put hB 2 rfl (by decide) 0 [_, _, _] hu0
  replace hx19a := hx19a.put hB 2 rfl (by decide) 0 [_, _, _] hu0
  replace hx19b := hx19b.put hB 2 rfl (by decide) 0 [_, _, _] hu0
  replace hx26a := hx26a.put hB 2 rfl (by decide) 0 [_, _, _] hu0
  replace hx26b := hx26b.put hB 2 rfl (by decide) 0 [_, _, _] hu0
  clear hB hG hu0
  simp only [List.modify_succ_cons, List.modify_zero_cons, wrAll, List.setIfInBounds_toArray, List.set_cons_zero, List.set_cons_succ, Nat.zero_add, Nat.reduceAdd] at hBG
  obtain ⟨hB, hG⟩ := hBG
  clear u
  obtain ⟨u, rfl⟩ : ∃ x, x = u0 := ⟨_, rfl⟩
  refine NoK.norm (hN _ _ ?_)
  clear hN K
  refine then_norm ?_
  refine wp_ret ?_
  refine ret_b rfl ?_
  intro N hN
  have r := hB.r
  simp only [BxR] at r
  simp only [results, Tryz.results80]
  go_simp
  refine hN _ ?_
  clear hN N r
  exact ⟨(x19.1, x26.1), ret_rq He.out.1 He.out.2, ⟨by rw [He.out.1, sgn_abs]; exact hx19a, by rw [He.out.2]; exact hx26a⟩, hG⟩
theorem sm32 {d : Int} (h1 : -4294967296 < d) (h2 : d < 4294967296) : RDiv d.natAbs := by unfold RDiv W32; omega
set_option maxHeartbeats 1000000 in
set_option maxRecDepth 100000 in
theorem ref1_Over (n d : Int) (h0 : -9223372036854775808 ≤ n) (h1 : n ≤ 9223372036854775807) (h2 : -9223372036854775808 ≤ d) (h3 : d ≤ 9223372036854775807) (hd : d ≠ 0) (hs : RDiv d.natAbs) (w : World) : Calls Tryz.prog 79 #[.int .i64 n, .int .i64 d] w (Ret (ratR (qover n d)) w) := by
  go_enter Tryz.func79, Tryz.ntmps79
  refine wp_seq (wp_r0 ?_)
  intro K hN
  go_wp2_with fail
  generalize hu : World.alloc w _ = u
  obtain ⟨hB, hG⟩ := bx_first [(_, _)] w u hu
  have hF := fr_first w [(41, #[])]
  simp only [numbered, List.map_cons, List.map_nil] at hB hF
  clear hu
  generalize w.heap.size = b4 at hB hF ⊢
  refine NoK.norm (hN _ _ ?_)
  clear hN K
  refine then_norm ?_
  refine wp_seq ?_
  refine wp_rs (w := w) allocs 5 [0, 1, 0, 1, 1] (by kernel_rfl) (by simp only [List.drop_succ_cons, List.drop_zero]; exact rfl) (fun _ => True) noG hB hG trivial ?_
  intro K L hN hL
  simp only [List.zip_cons_cons, List.zip_nil_left]
  apply gy
  · exact rfl
  · (rintro v - N hN; go_simp; exact hN)
  refine okf (by simp only [Act.put, List.setIfInBounds_toArray, List.set_cons_succ, List.set_cons_zero]; exact rfl) ?_
  refine gr (intR n) rfl ?_ (fun (x6 : Ax) => ?_)
  · (rintro v ⟨hgu, hB, hG, -⟩ N hN; go_simp; ((with_reducible refine (ref1_IntOf n h0 h1 _).mono ?_); rintro e w1 ⟨x, rfl, hx, hg⟩; exact ⟨_, rfl, hN x w1 hx hg⟩))
  refine okf (by simp only [natR, intR, ratR, nnR, Act.put, List.setIfInBounds_toArray, List.set_cons_succ, List.set_cons_zero]; exact rfl) ?_
  apply gy
  · exact rfl
  · (rintro v - N hN; go_simp; exact hN)
  refine okf (by simp only [Act.put, List.setIfInBounds_toArray, List.set_cons_succ, List.set_cons_zero]; exact rfl) ?_
  refine gr (intR d) rfl ?_ (fun (x8 : Ax) => ?_)
  · (rintro v ⟨⟨hgu, hB, hG, -⟩, hx6⟩ N hN; have hx6 : Rn v x6 _ := hx6; go_simp; ((with_reducible refine (ref1_IntOf d h2 h3 _).mono ?_); rintro e w1 ⟨x, rfl, hx, hg⟩; exact ⟨_, rfl, hN x w1 hx hg⟩))
  refine okf (by simp only [natR, intR, ratR, nnR, Act.put, List.setIfInBounds_toArray, List.set_cons_succ, List.set_cons_zero]; exact rfl) ?_
  refine gr (ratR (qover n d)) rfl ?_ (fun (x9 : Ax × Ax) => ?_)
  · (rintro v ⟨⟨⟨hgu, hB, hG, -⟩, hx6⟩, hx8⟩ N hN; have hx6 : Rn v x6 _ := hx6; have hx8 : Rn v x8 _ := hx8; go_simp; ((with_reducible refine (ref1_Make x6 x8 n d _ hx6 hx8 hd hs).mono ?_); rintro e w1 ⟨x, rfl, hx, hg⟩; exact ⟨_, rfl, hN x w1 hx hg⟩))
  refine okf (by simp only [natR, intR, ratR, nnR, Act.put, List.setIfInBounds_toArray, List.set_cons_succ, List.set_cons_zero]; exact rfl) ?_
  refine gend ?_
  rintro v ⟨⟨⟨⟨hgu, hB1, hG1, -⟩, hx6⟩, hx8⟩, hx9⟩
  replace hx6 : Rn v x6 _ := hx6
  replace hx8 : Rn v x8 _ := hx8
  obtain ⟨hx9a, hx9b⟩ : Rn v x9.1 _ ∧ Rn v x9.2 _ := hx9
  clear hB hG
  have hB := hB1
  have hG := hG1
  clear hB1 hG1
  refine hL _ _ ?_
  clear hL L hgu
  obtain ⟨u, rfl⟩ : ∃ x, x = v := ⟨_, rfl⟩
  have r := hB.r
  simp only [BxR] at r
  go_wp2_with fail
  clear r
  generalize hu0 : World.setCell (World.setCell (World.setCell u _ _) _ _) _ _ = u0
  have hBG := hB.over hF hG 0 rfl 0 [_, _, _] hu0
  replace hx6 := hx6.put hB 0 rfl (by decide) 0 [_, _, _] hu0
  replace hx8 := hx8.put hB 0 rfl (by decide) 0 [_, _, _] hu0
  replace hx9a := hx9a.put hB 0 rfl (by decide) 0 [_, _, _] hu0
  replace hx9b := hx9b.put hB 0 rfl (by decide) 0 [_, _, _] hu0
  clear hB hG hu0
  simp only [List.modify_succ_cons, List.modify_zero_cons, wrAll, List.setIfInBounds_toArray, List.set_cons_zero, List.set_cons_succ, Nat.zero_add, Nat.reduceAdd] at hBG
  obtain ⟨hB, hG⟩ := hBG
  clear u
  obtain ⟨u, rfl⟩ : ∃ x, x = u0 := ⟨_, rfl⟩
  refine NoK.norm (hN _ _ ?_)
  clear hN K
  refine then_norm ?_
  refine wp_ret ?_
  refine ret_b rfl ?_
  intro N hN
  have r := hB.r
  simp only [BxR] at r
  simp only [results, Tryz.results79]
  go_simp
  refine hN _ ?_
  clear hN N r
  exact ⟨x9, rfl, ⟨hx9a, hx9b⟩, hG⟩
theorem ref1_NatOf_1 (w : World) : Calls Tryz.prog 84 #[.int .u64 1] w (Ret (natR 1) w) := ref1_NatOf 1 (by unfold W64; omega) w
set_option maxHeartbeats 1000000 in
set_option maxRecDepth 100000 in
theorem ref1_Of (n : Int) (h0 : -9223372036854775808 ≤ n) (h1 : n ≤ 9223372036854775807) (w : World) : Calls Tryz.prog 31 #[.int .i64 n] w (Ret (ratR (qint n)) w) := by
  go_enter Tryz.func31, Tryz.ntmps31
  refine wp_seq (wp_r0 ?_)
  intro K hN
  go_wp2_with fail
  generalize hu : World.alloc w _ = u
  obtain ⟨hB, hG⟩ := bx_first [(_, _)] w u hu
  have hF := fr_first w [(41, #[])]
  simp only [numbered, List.map_cons, List.map_nil] at hB hF
  clear hu
  generalize w.heap.size = b2 at hB hF ⊢
  refine NoK.norm (hN _ _ ?_)
  clear hN K
  refine then_norm ?_
  refine wp_seq ?_
  refine wp_rs (w := w) allocs 4 [0, 1, 1, 0] (by kernel_rfl) (by simp only [List.drop_succ_cons, List.drop_zero]; exact rfl) (fun _ => True) noG hB hG trivial ?_
  intro K L hN hL
  simp only [List.zip_cons_cons, List.zip_nil_left]
  apply gy
  · exact rfl
  · (rintro v - N hN; go_simp; exact hN)
  refine okf (by simp only [Act.put, List.setIfInBounds_toArray, List.set_cons_succ, List.set_cons_zero]; exact rfl) ?_
  refine gr (intR n) rfl ?_ (fun (x4 : Ax) => ?_)
  · (rintro v ⟨hgu, hB, hG, -⟩ N hN; go_simp; ((with_reducible refine (ref1_IntOf n h0 h1 _).mono ?_); rintro e w1 ⟨x, rfl, hx, hg⟩; exact ⟨_, rfl, hN x w1 hx hg⟩))
  refine okf (by simp only [natR, intR, ratR, nnR, Act.put, List.setIfInBounds_toArray, List.set_cons_succ, List.set_cons_zero]; exact rfl) ?_
  refine gr (natR 1) rfl ?_ (fun (x5 : Ax) => ?_)
  · (rintro v ⟨⟨hgu, hB, hG, -⟩, hx4⟩ N hN; have hx4 : Rn v x4 _ := hx4; go_simp; ((with_reducible refine (ref1_NatOf_1 _).mono ?_); rintro e w1 ⟨x, rfl, hx, hg⟩; exact ⟨_, rfl, hN x w1 hx hg⟩))
  refine okf (by simp only [natR, intR, ratR, nnR, Act.put, List.setIfInBounds_toArray, List.set_cons_succ, List.set_cons_zero]; exact rfl) ?_
  apply gy
  · exact rfl
  · (rintro v - N hN; go_simp; exact hN)
  refine okf (by simp only [Act.put, List.setIfInBounds_toArray, List.set_cons_succ, List.set_cons_zero]; exact rfl) ?_
  refine gend ?_
  rintro v ⟨⟨⟨hgu, hB1, hG1, -⟩, hx4⟩, hx5⟩
  replace hx4 : Rn v x4 _ := hx4
  replace hx5 : Rn v x5 _ := hx5
  clear hB hG
  have hB := hB1
  have hG := hG1
  clear hB1 hG1
  refine hL _ _ ?_
  clear hL L hgu
  obtain ⟨u, rfl⟩ : ∃ x, x = v := ⟨_, rfl⟩
  have r := hB.r
  simp only [BxR] at r
  go_wp2_with fail
  clear r
  generalize hu0 : World.setCell (World.setCell (World.setCell u _ _) _ _) _ _ = u0
  have hBG := hB.over hF hG 0 rfl 0 [_, _, _] hu0
  replace hx4 := hx4.put hB 0 rfl (by decide) 0 [_, _, _] hu0
  replace hx5 := hx5.put hB 0 rfl (by decide) 0 [_, _, _] hu0
  clear hB hG hu0
  simp only [List.modify_succ_cons, List.modify_zero_cons, wrAll, List.setIfInBounds_toArray, List.set_cons_zero, List.set_cons_succ, Nat.zero_add, Nat.reduceAdd] at hBG
  obtain ⟨hB, hG⟩ := hBG
  clear u
  obtain ⟨u, rfl⟩ : ∃ x, x = u0 := ⟨_, rfl⟩
  refine NoK.norm (hN _ _ ?_)
  clear hN K
  refine then_norm ?_
  refine wp_ret ?_
  refine ret_b rfl ?_
  intro N hN
  have r := hB.r
  simp only [BxR] at r
  simp only [results, Tryz.results31]
  go_simp
  refine hN _ ?_
  clear hN N r
  exact ⟨(x4, x5), ret_rq (qint_num n) (qint_den n), ⟨by rw [qint_num]; exact hx4, by rw [qint_den]; exact hx5⟩, hG⟩
end Go.Proofs.YtimjnkfcnpfoeaaGreatDoor

/-
  Bytes laid into limbs of 32 bits: for the document's NatFrom.
-/
namespace Go.Proofs.YtimjnkfcnpfoeaaGreatDoor
open Go.RowKit
/-- limbs off bytes: the byte number k is laid in, those above it are there, those below are 0 -/
theorem lay_byte (zs : List Nat) (V k y : Nat) (hd : Dig W32 zs) (hk : k / 4 < zs.length) (hv : val W32 zs = V * 256 ^ (k + 1)) (hy : y < 256) :
    dg zs (k / 4) ||| y * 2 ^ (8 * (k % 4)) = dg zs (k / 4) + y * 2 ^ (8 * (k % 4)) ∧ dg zs (k / 4) + y * 2 ^ (8 * (k % 4)) < W32 ∧ val W32 (zs.set (k / 4) (dg zs (k / 4) + y * 2 ^ (8 * (k % 4)))) = (V * 256 + y) * 256 ^ k := by
  have e1 : (256 : Nat) ^ k = W32 ^ (k / 4) * 2 ^ (8 * (k % 4)) := by
    rw [show W32 = 2 ^ 32 from rfl, show (256 : Nat) = 2 ^ 8 from rfl, ← Nat.pow_mul, ← Nat.pow_mul, ← Nat.pow_add]
    congr 1
    omega
  have hdv : 2 ^ (8 * (k % 4) + 8) ∣ dg zs (k / 4) := by
    have h1 : dg zs (k / 4) = val W32 zs / W32 ^ (k / 4) % W32 := by
      have h2 := val_take_dg W32 zs (k / 4)
      have h3 : val W32 zs = val W32 (zs.take (k / 4 + 1)) + W32 ^ (k / 4 + 1) * val W32 (zs.drop (k / 4 + 1)) := by
        have := val_append W32 (zs.take (k / 4 + 1)) (zs.drop (k / 4 + 1))
        rw [List.take_append_drop, List.length_take, Nat.min_eq_left (by omega)] at this
        exact this
      have h4 : val W32 (zs.take (k / 4)) < W32 ^ (k / 4) := by
        have := val_lt (B := W32) (l := zs.take (k / 4)) (fun x hx => hd x (List.mem_of_mem_take hx))
        rwa [List.length_take, Nat.min_eq_left (by omega)] at this
      have h5 := dg_lt W32_pos hd (k / 4)
      rw [h3, h2, Nat.pow_succ, Nat.mul_assoc, Nat.add_assoc, ← Nat.mul_add, Nat.add_mul_div_left _ _ (Nat.pow_pos W32_pos), Nat.div_eq_of_lt h4, Nat.zero_add, Nat.add_mul_mod_self_left, Nat.mod_eq_of_lt h5]
    rw [h1, hv]
    have e2 : V * 256 ^ (k + 1) = W32 ^ (k / 4) * (V * 2 ^ (8 * (k % 4) + 8)) := by
      rw [Nat.pow_succ, e1, Nat.pow_add]
      simp only [show (256 : Nat) = 2 ^ 8 from rfl]
      grind
    rw [e2, Nat.mul_div_cancel_left _ (Nat.pow_pos W32_pos)]
    refine (Nat.dvd_mod_iff ?_).2 (Nat.dvd_mul_left _ _)
    rw [show W32 = 2 ^ 32 from rfl]
    exact Nat.pow_dvd_pow 2 (by omega)
  have hlt : y * 2 ^ (8 * (k % 4)) < 2 ^ (8 * (k % 4) + 8) := by
    rw [Nat.pow_add, Nat.mul_comm]
    exact Nat.mul_lt_mul_of_pos_left hy (Nat.two_pow_pos _)
  refine ⟨or_add hlt hdv, ?_, ?_⟩
  · obtain ⟨c, hc⟩ := hdv
    have h5 := dg_lt W32_pos hd (k / 4)
    rw [hc] at h5 ⊢
    have e3 : W32 = 2 ^ (8 * (k % 4) + 8) * 2 ^ (24 - 8 * (k % 4)) := by
      rw [← Nat.pow_add, show W32 = 2 ^ 32 from rfl]
      congr 1
      omega
    rw [e3] at h5 ⊢
    have h6 := Nat.lt_of_mul_lt_mul_left h5
    calc 2 ^ (8 * (k % 4) + 8) * c + y * 2 ^ (8 * (k % 4)) < 2 ^ (8 * (k % 4) + 8) * c + 2 ^ (8 * (k % 4) + 8) := by omega
      _ = 2 ^ (8 * (k % 4) + 8) * (c + 1) := by rw [Nat.mul_add, Nat.mul_one]
      _ ≤ _ := Nat.mul_le_mul_left _ h6
  · have h7 := val_set W32 zs (k / 4) (dg zs (k / 4) + y * 2 ^ (8 * (k % 4))) hk
    rw [hv, Nat.mul_add] at h7
    have e4 : (V * 256 + y) * 256 ^ k = V * 256 ^ (k + 1) + W32 ^ (k / 4) * (y * 2 ^ (8 * (k % 4))) := by
      rw [Nat.add_mul, Nat.pow_succ, e1]
      grind
    omega
end Go.Proofs.YtimjnkfcnpfoeaaGreatDoor

/-
  The document's NatFrom.
-/
namespace Go.Proofs.YtimjnkfcnpfoeaaGreatDoor
open Go.RowKit
theorem bits_or_u32_nat (a b : Nat) (ha : a < 4294967296) (hb : b < 4294967296) : bits .or .u32 (a : Int) (b : Int) = ((a ||| b : Nat) : Int) := by
  have hx : a ||| b < 2 ^ 32 := Nat.or_lt_two_pow (by omega) (by omega)
  have h1 : (BitVec.ofInt 32 (a : Int)).toNat = a := by
    rw [BitVec.ofInt_natCast, BitVec.toNat_ofNat]; exact Nat.mod_eq_of_lt (by omega)
  have h2 : (BitVec.ofInt 32 (b : Int)).toNat = b := by
    rw [BitVec.ofInt_natCast, BitVec.toNat_ofNat]; exact Nat.mod_eq_of_lt (by omega)
  show IntKind.u32.wrap ((BitVec.ofInt 32 (a : Int) ||| BitVec.ofInt 32 (b : Int)).toNat : Int) = _
  rw [BitVec.toNat_or, h1, h2]
  simp [IntKind.wrap, IntKind.signed, IntKind.bits]
  omega
theorem u32_in (n : Nat) (h : n < 4294967296) : IntKind.u32.wrap (n : Int) = (n : Int) := by
  simp [IntKind.wrap, IntKind.signed, IntKind.bits]; omega
set_option maxHeartbeats 1000000 in
set_option maxRecDepth 100000 in
theorem ref1_NatFrom (A : Option Addr) (a : Nat) (w : World) (ha : bl a ≤ 1099511627760) (hA : By w A (byt a).reverse) : Calls Tryz.prog 150 #[.slice A (byt a).length (byt a).length] w (Ret (natR a) w) := by
  obtain ⟨n, hn⟩ : ∃ n, n = (byt a).length := ⟨_, rfl⟩
  have hnb : n ≤ 137438953471 := by rw [hn, byt_length]; omega
  obtain ⟨m, hm⟩ : ∃ m, m = (n + 3) / 4 := ⟨_, rfl⟩
  have hmi : ((n : Int) + 3) / 4 = (m : Int) := by omega
  have hmt : ((n : Int) + 3).tdiv 4 = (m : Int) := by rw [Int.tdiv_eq_ediv_of_nonneg (by omega)]; exact hmi
  have hmk := make_u32 m (by omega) (m : Int) rfl
  rw [← hn]
  have HA := Lib.hid hA
  have Hn := Lib.hid hn
  have Hm := Lib.hid hm
  have hmb : m ≤ 34359738368 := by omega
  clear hA hn hm
  go_enter Tryz.func150, Tryz.ntmps150
  go_wp2_with fail
  clear hmk hmi hmt
  go_loopw [4] (fun s wr => ∃ (i : Nat) (zs : List Nat), i ≤ n ∧ s = .int .i64 i ∧ zs.length = m ∧ Dig W32 zs ∧ val W32 zs = a / 256 ^ (n - i) * 256 ^ (n - i) ∧ Row32 wr w.heap.size zs ∧ Grow w wr) (fun s _ => n - (intOf s).toNat)
  case atStart => exact ⟨0, List.replicate m 0, Nat.zero_le _, rfl, by simp, fun z hz => (by rw [(List.mem_replicate.1 hz).2]; exact W32_pos), by
      rw [val_zeros, Nat.sub_zero, Nat.div_eq_of_lt, Nat.zero_mul]
      have := val_lt (byt_dig a)
      rw [← Hn.out] at this
      unfold byt at this
      rwa [val_digs (by omega)] at this, Blk.new w 157 _, Grow.alloc _ _⟩
  case round =>
    obtain ⟨i, zs, hi, rfl, hl, hd, hv, hR, hG⟩ := hrel
    have HR := Lib.hid hR
    have HG := Lib.hid hG
    have Hd := Lib.hid hd
    have Hv := Lib.hid hv
    have Hl := Lib.hid hl
    clear hl hd hv hR hG
    rcases Nat.lt_or_ge i n with hlt | hge
    · obtain ⟨k, hk⟩ : ∃ k, k = n - 1 - i := ⟨_, rfl⟩
      have hni : n - i = k + 1 := by omega
      have hki : (n : Int) - 1 - (i : Int) = (k : Int) := by omega
      have hkq : k / 4 < zs.length := by rw [Hl.out, Hm.out]; omega
      obtain ⟨b1, o1, rfl, hc1⟩ := (HA.out.grow HG.out).cell (i := i) (by rw [List.length_reverse, ← Hn.out]; exact hlt)
      rw [dg_reverse (by rw [← Hn.out]; exact hlt), ← Hn.out, ← hk] at hc1
      have hby := dg_lt (by omega) (byt_dig a) k
      have hv1 := Hv.out
      rw [hni] at hv1
      obtain ⟨l1, l2, l3⟩ := lay_byte zs _ k _ Hd.out hkq hv1 hby
      have hc2 := HR.out.cell hkq
      have hf2 := HR.out.frozen (k / 4)
      have hzl := dg_lt W32_pos Hd.out (k / 4)
      have hkm : k / 4 < m := by rw [← Hl.out]; exact hkq
      have hstep : a / 256 ^ (k + 1) * 256 + dg (byt a) k = a / 256 ^ k := by
        unfold byt
        rw [dg_digs (by omega), Nat.pow_succ, ← Nat.div_div_eq_div_mul]
        omega
      rw [hstep] at l3
      obtain ⟨q, hq⟩ : ∃ q, q = k / 4 := ⟨_, rfl⟩
      obtain ⟨r, hr⟩ : ∃ r, r = k % 4 := ⟨_, rfl⟩
      have hr8 : r < 4 := by omega
      have hqi : (k : Int) / 4 = (q : Int) := by omega
      have hri : (k : Int) % 4 = (r : Int) := by omega
      obtain ⟨y, hy⟩ : ∃ y, y = dg (byt a) k := ⟨_, rfl⟩
      obtain ⟨x, hx⟩ : ∃ x, x = dg zs (k / 4) := ⟨_, rfl⟩
      rw [← hx] at hc2 l1 l2 l3 hzl
      rw [← hy] at hc1 hby l1 l2 l3
      rw [← hq] at hc2 hf2 hkm l3
      rw [← hr] at l1 l2 l3
      have L1 := Lib.hid l1
      have L2 := Lib.hid l2
      have L3 := Lib.hid l3
      unfold W32 at hzl
      have hw1 : IntKind.i64.wrap (q : Int) = (q : Int) := IntWalk.i64_in _ (by omega)
      have hw2 : IntKind.i64.wrap (r : Int) = (r : Int) := IntWalk.i64_in _ (by omega)
      have hw3 : IntKind.i64.wrap (8 * (r : Int)) = 8 * (r : Int) := IntWalk.i64_in _ (by omega)
      have hw4 : IntKind.u64.wrap (8 * (r : Int)) = 8 * (r : Int) := u64_wrap_id (x := 8 * (r : Int)) (by omega) (by omega)
      have hw5 : (8 * (r : Int)).toNat = 8 * r := by omega
      have hw6 : (k : Int).tmod 4 = (r : Int) := by rw [Int.tmod_eq_emod_of_nonneg (by omega)]; exact hri
      have hw7 := u32_in y (by omega)
      have hw8 : min (8 * r) 32 = 8 * r := by omega
      obtain ⟨z, hz⟩ : ∃ z, z = y * 2 ^ (8 * r) := ⟨_, rfl⟩
      have hzlt : z < 4294967296 := by unfold W32 at l2; omega
      have hw9 : IntKind.u32.wrap ((y : Int) * 2 ^ (8 * r)) = (z : Int) := by
        rw [show ((y : Int) * 2 ^ (8 * r)) = ((z : Nat) : Int) by rw [hz]; simp]; exact u32_in z hzlt
      rw [← hz] at l1 l2 l3
      have hw10 : bits BinOp.or IntKind.u32 (x : Int) (z : Int) = ((x + z : Nat) : Int) := by
        rw [bits_or_u32_nat x z hzl hzlt, l1]
      obtain ⟨s, hs⟩ : ∃ s, s = x + z := ⟨_, rfl⟩
      rw [← hs] at l2 l3 hw10
      have L4 := Lib.hid l3
      have L5 := Lib.hid l2
      clear hk hni hstep hv1 l1 l2 l3 hx hy hq hr hkq hz hs L1 L2 L3
      go_wp2_with fail
      go_still_tail 19, (by kernel_rfl)
      go_wp2_with fail
      have hnk : n - (i + 1) = k := by omega
      exact ⟨⟨i + 1, zs.set q s, by omega, by go_num, by rw [List.length_set]; exact Hl.out, dig_set Hd.out q L5.out, by rw [hnk]; exact L4.out, (HR.out.set q s).grow (Grow.drew _), (HG.out.setCell (p := ⟨w.heap.size, q, none⟩) (Nat.le_refl _) _).trans (Grow.drew _)⟩, by simp [intOf]; omega⟩
    · obtain rfl : i = n := by omega
      have hva : val W32 zs = a := by have := Hv.out; simpa using this
      have htr : Calls Tryz.prog 135 #[.slice (some ⟨w.heap.size, 0, none⟩) m m] wr fun e w' => e = .returned (.slice (some ⟨w.heap.size, 0, none⟩) (ln a) m) ∧ Rn w' (some ⟨w.heap.size, 0, none⟩, m) a ∧ Grow w w' := by
        have h1 := ref1_trim (some ⟨w.heap.size, 0, none⟩) zs m wr HR.out.lim (Nat.le_of_eq Hl.out) (by omega)
        rw [Hl.out] at h1
        refine h1.mono fun e w' ⟨he, hg⟩ => ?_
        obtain ⟨hr1, hlen⟩ := rn_trim (a := a) (c := m) (HR.out.lim.grow hg) Hd.out hva (Nat.le_of_eq Hl.out) (by omega)
        rw [hlen] at he
        exact ⟨he, hr1, HG.out.trans hg⟩
      have Htr := Lib.hid htr
      clear htr hva
      go_wp2_with (go_at_call 135; ((with_reducible refine (Htr.out).mono ?_); rintro e w1 ⟨rfl, hr1, hg⟩))
      go_ret
      exact ⟨(some ⟨w.heap.size, 0, none⟩, m), rfl, hr1, hg⟩
end Go.Proofs.YtimjnkfcnpfoeaaGreatDoor

/-
  hand: OutNat, OutInt, Out, Same, Is, Pick.
-/
namespace Go.Proofs.YtimjnkfcnpfoeaaGreatDoor
open Go.RowKit

def LIM : Nat := 1099511627760
theorem allocs2 : ∀ t ∈ [28, 30, 32, 39, 41], AllocT Tryz.prog t := by
  intro t ht
  simp only [List.mem_cons, List.not_mem_nil, or_false] at ht
  rcases ht with rfl | rfl | rfl | rfl | rfl
  · exact fun _ _ _ _ _ _ => by rw [newObj_Nat]; kernel_rfl
  · exact fun _ _ _ _ _ _ => by rw [newObj_Int]; kernel_rfl
  · exact fun _ _ _ _ _ _ => by rw [newObj_Q]; kernel_rfl
  · exact fun _ _ _ _ _ _ => by rw [newObj_RInt]; kernel_rfl
  · exact fun _ _ _ _ _ _ => by rw [newObj_RQ]; kernel_rfl
set_option maxHeartbeats 400000 in
theorem hand_OutNat (a : Nat) (ha : bl a ≤ LIM) (w : World) : Calls Tryz.prog 118 #[natV a] w (Ret (natR a) w) := by
  unfold LIM at ha
  have hby : ∀ W, Calls Tryz.prog 151 #[natV a] W fun e w' => ∃ A, e = .returned (.slice A (byt a).length (byt a).length) ∧ By w' A (byt a).reverse ∧ Grow W w' := fun W => nat_Bytes a ha W
  have hfr : ∀ A W, By W A (byt a).reverse → Calls Tryz.prog 150 #[.slice A (byt a).length (byt a).length] W (Ret (natR a) W) := fun A W h => ref1_NatFrom A a W ha h
  obtain ⟨n, hn⟩ : ∃ n, n = (byt a).length := ⟨_, rfl⟩
  rw [← hn] at hby hfr
  have Hby := Lib.hid hby
  have Hfr := Lib.hid hfr
  clear hby hfr hn
  go_enter Tryz.func118, Tryz.ntmps118
  go_wp2_with (first
    | (go_at_call 151; ((with_reducible refine (Hby.out _).mono ?_); rintro e w1 ⟨A, rfl, hA, hg1⟩))
    | (go_at_call 150; ((with_reducible refine (Hfr.out _ _ hA).mono ?_); rintro e w2 ⟨x, rfl, hx, hg2⟩)))
  go_ret
  exact ⟨x, rfl, hx, (Grow.alloc _ _).trans (hg1.trans hg2)⟩

set_option maxHeartbeats 400000 in
set_option maxRecDepth 100000 in
theorem hand_OutInt (z : Int) (ha : bl z.natAbs ≤ LIM) (w : World) : Calls Tryz.prog 116 #[intV z] w (Ret (intR z) w) := by
  have ha' : bl z.natAbs ≤ 1099511627776 := by unfold LIM at ha; omega
  go_enter Tryz.func116, Tryz.ntmps116
  refine wp_seq (wp_r0 ?_)
  intro K hN
  go_wp2_with fail
  generalize hu : World.alloc (World.alloc w _) _ = u
  obtain ⟨hB, hG⟩ := bx_first [(_, _), (_, _)] w u hu
  have hF := fr_first w [(30, #[]), (39, #[])]
  simp only [numbered, List.map_cons, List.map_nil] at hB hF
  clear hu
  generalize w.heap.size + 1 = b2 at hB hF ⊢
  generalize w.heap.size = b1 at hB hF ⊢
  refine NoK.norm (hN _ _ ?_)
  clear hN K
  refine then_norm ?_
  refine wp_seq ?_
  refine wp_rd (w := w) allocs 7 [] [(0, 0), (0, 3), (1, 1), (0, 2), (1, 4), (1, 5), (1, 6)] (by kernel_rfl) (by kernel_rfl) (by simp only [List.drop_succ_cons, List.drop_zero]; exact rfl) (fun _ => True) noG hB hG trivial ?_
  intro K L hN hL
  simp only [pickOps, List.getElem?_toArray, List.getElem?_cons_zero, List.getElem?_cons_succ]
  apply gy
  · exact rfl
  · (rintro v ⟨hgu, hB, hG, -⟩ N hN; have r := hB.r; simp only [BxR] at r; go_simp; exact hN)
  refine okf (by simp only [Act.put, List.setIfInBounds_toArray, List.set_cons_succ, List.set_cons_zero]; exact rfl) ?_
  apply gy
  · exact rfl
  · (rintro v ⟨hgu, hB, hG, -⟩ N hN; have r := hB.r; simp only [BxR] at r; go_simp; exact hN)
  refine okf (by simp only [Act.put, List.setIfInBounds_toArray, List.set_cons_succ, List.set_cons_zero]; exact rfl) ?_
  apply gm
  · exact rfl
  · (rintro v ⟨hgu, hB, hG, -⟩ N hN; go_simp; ((with_reducible refine (whole_Sign _ (by assumption) _).mono ?_); rintro e w1 ⟨rfl, hb⟩; exact ⟨_, rfl, hN _ hb⟩))
  refine okf (by simp only [Act.put, List.setIfInBounds_toArray, List.set_cons_succ, List.set_cons_zero]; exact rfl) ?_
  apply gy
  · exact rfl
  · (rintro v - N hN; go_simp; exact hN)
  refine okf (by simp only [Act.put, List.setIfInBounds_toArray, List.set_cons_succ, List.set_cons_zero]; exact rfl) ?_
  apply gm
  · exact rfl
  · (rintro v ⟨hgu, hB, hG, -⟩ N hN; go_simp; ((with_reducible refine (whole_Abs _ _).mono ?_); rintro e w1 ⟨rfl, hb⟩; exact ⟨_, rfl, hN _ hb⟩))
  refine okf (by simp only [Act.put, List.setIfInBounds_toArray, List.set_cons_succ, List.set_cons_zero]; exact rfl) ?_
  refine gr (natR z.natAbs) rfl ?_ (fun (x8 : Ax) => ?_)
  · (rintro v ⟨hgu, hB, hG, -⟩ N hN; go_simp; ((with_reducible refine (hand_OutNat z.natAbs ha _).mono ?_); rintro e w1 ⟨x, rfl, hx, hg⟩; exact ⟨_, rfl, hN x w1 hx hg⟩))
  refine okf (by simp only [natR, intR, ratR, nnR, Act.put, List.setIfInBounds_toArray, List.set_cons_succ, List.set_cons_zero]; exact rfl) ?_
  apply gm
  · exact rfl
  · (rintro v ⟨⟨hgu, hB, hG, -⟩, hx8⟩ N hN; have hx8 : Rn v x8 _ := hx8; go_simp; ((with_reducible refine (ref1_I x8 _ z.natAbs _).mono ?_); rintro e w1 ⟨rfl, hb⟩; exact ⟨_, rfl, hN _ hb⟩))
  refine okf (by simp only [Act.put, List.setIfInBounds_toArray, List.set_cons_succ, List.set_cons_zero]; exact rfl) ?_
  refine gend ?_
  rintro v ⟨⟨hgu, hB1, hG1, -⟩, hx8⟩
  replace hx8 : Rn v x8 _ := hx8
  clear hB hG
  have hB := hB1
  have hG := hG1
  clear hB1 hG1
  refine hL _ _ ?_
  clear hL L hgu
  obtain ⟨u, rfl⟩ : ∃ x, x = v := ⟨_, rfl⟩
  have r := hB.r
  simp only [BxR] at r
  go_wp2_with fail
  clear r
  generalize hu0 : World.setCell (World.setCell u _ _) _ _ = u0
  have hBG := hB.over hF hG 1 rfl 0 [_, _] hu0
  replace hx8 := hx8.put hB 1 rfl (by decide) 0 [_, _] hu0
  clear hB hG hu0
  simp only [List.modify_succ_cons, List.modify_zero_cons, wrAll, List.setIfInBounds_toArray, List.set_cons_zero, List.set_cons_succ, Nat.zero_add, Nat.reduceAdd] at hBG
  obtain ⟨hB, hG⟩ := hBG
  clear u
  obtain ⟨u, rfl⟩ : ∃ x, x = u0 := ⟨_, rfl⟩
  refine NoK.norm (hN _ _ ?_)
  clear hN K
  refine then_norm ?_
  refine wp_ret ?_
  refine ret_b rfl ?_
  intro N hN
  have r := hB.r
  simp only [BxR] at r
  simp only [results, Tryz.results116]
  go_simp
  refine hN _ ?_
  clear hN N r
  exact ⟨x8, congrArg (fun y : Int => Ending.returned (riV x8 y)) (sgn_self z), hx8, hG⟩
set_option maxHeartbeats 400000 in
set_option maxRecDepth 100000 in
theorem hand_Out (q : Rat) (ha : qs q ≤ LIM) (w : World) : Calls Tryz.prog 62 #[qV q] w (Ret (ratR q) w) := by
  have h1 : bl q.num.natAbs ≤ LIM := Nat.le_trans (qs_num q) ha
  have h2 : bl q.den ≤ LIM := Nat.le_trans (qs_den q) ha
  have h3 : bl q.den ≤ 1099511627776 := by unfold LIM at h2; omega
  go_enter Tryz.func62, Tryz.ntmps62
  refine wp_seq (wp_r0 ?_)
  intro K hN
  go_wp2_with fail
  generalize hu : World.alloc (World.alloc w _) _ = u
  obtain ⟨hB, hG⟩ := bx_first [(_, _), (_, _)] w u hu
  have hF := fr_first w [(32, #[]), (41, #[])]
  simp only [numbered, List.map_cons, List.map_nil] at hB hF
  clear hu
  generalize w.heap.size + 1 = b2 at hB hF ⊢
  generalize w.heap.size = b1 at hB hF ⊢
  refine NoK.norm (hN _ _ ?_)
  clear hN K
  refine then_norm ?_
  refine wp_seq ?_
  refine wp_rd (w := w) allocs 7 [] [(0, 0), (0, 3), (1, 1), (1, 2), (1, 4), (1, 5), (0, 6)] (by kernel_rfl) (by kernel_rfl) (by simp only [List.drop_succ_cons, List.drop_zero]; exact rfl) (fun _ => True) noG hB hG trivial ?_
  intro K L hN hL
  simp only [pickOps, List.getElem?_toArray, List.getElem?_cons_zero, List.getElem?_cons_succ]
  apply gy
  · exact rfl
  · (rintro v ⟨hgu, hB, hG, -⟩ N hN; have r := hB.r; simp only [BxR] at r; go_simp; exact hN)
  refine okf (by simp only [Act.put, List.setIfInBounds_toArray, List.set_cons_succ, List.set_cons_zero]; exact rfl) ?_
  apply gy
  · exact rfl
  · (rintro v ⟨hgu, hB, hG, -⟩ N hN; have r := hB.r; simp only [BxR] at r; go_simp; exact hN)
  refine okf (by simp only [Act.put, List.setIfInBounds_toArray, List.set_cons_succ, List.set_cons_zero]; exact rfl) ?_
  apply gm
  · exact rfl
  · (rintro v ⟨hgu, hB, hG, -⟩ N hN; go_simp; ((with_reducible refine (frac_Num _ _).mono ?_); rintro e w1 ⟨rfl, hb⟩; exact ⟨_, rfl, hN _ hb⟩))
  refine okf (by simp only [Act.put, List.setIfInBounds_toArray, List.set_cons_succ, List.set_cons_zero]; exact rfl) ?_
  refine gr (intR q.num) rfl ?_ (fun (x5 : Ax) => ?_)
  · (rintro v ⟨hgu, hB, hG, -⟩ N hN; go_simp; ((with_reducible refine (hand_OutInt q.num h1 _).mono ?_); rintro e w1 ⟨x, rfl, hx, hg⟩; exact ⟨_, rfl, hN x w1 hx hg⟩))
  refine okf (by simp only [natR, intR, ratR, nnR, Act.put, List.setIfInBounds_toArray, List.set_cons_succ, List.set_cons_zero]; exact rfl) ?_
  apply gm
  · exact rfl
  · (rintro v ⟨⟨hgu, hB, hG, -⟩, hx5⟩ N hN; have hx5 : Rn v x5 _ := hx5; go_simp; ((with_reducible refine (frac_Den _ (by assumption) _).mono ?_); rintro e w1 ⟨rfl, hb⟩; exact ⟨_, rfl, hN _ hb⟩))
  refine okf (by simp only [Act.put, List.setIfInBounds_toArray, List.set_cons_succ, List.set_cons_zero]; exact rfl) ?_
  refine gr (natR q.den) rfl ?_ (fun (x8 : Ax) => ?_)
  · (rintro v ⟨⟨hgu, hB, hG, -⟩, hx5⟩ N hN; have hx5 : Rn v x5 _ := hx5; go_simp; ((with_reducible refine (hand_OutNat q.den h2 _).mono ?_); rintro e w1 ⟨x, rfl, hx, hg⟩; exact ⟨_, rfl, hN x w1 hx hg⟩))
  refine okf (by simp only [natR, intR, ratR, nnR, Act.put, List.setIfInBounds_toArray, List.set_cons_succ, List.set_cons_zero]; exact rfl) ?_
  apply gy
  · exact rfl
  · (rintro v - N hN; go_simp; exact hN)
  refine okf (by simp only [Act.put, List.setIfInBounds_toArray, List.set_cons_succ, List.set_cons_zero]; exact rfl) ?_
  refine gend ?_
  rintro v ⟨⟨⟨hgu, hB1, hG1, -⟩, hx5⟩, hx8⟩
  replace hx5 : Rn v x5 _ := hx5
  replace hx8 : Rn v x8 _ := hx8
  clear hB hG
  have hB := hB1
  have hG := hG1
  clear hB1 hG1
  refine hL _ _ ?_
  clear hL L hgu
  obtain ⟨u, rfl⟩ : ∃ x, x = v := ⟨_, rfl⟩
  have r := hB.r
  simp only [BxR] at r
  go_wp2_with fail
  clear r
  generalize hu0 : World.setCell (World.setCell (World.setCell u _ _) _ _) _ _ = u0
  have hBG := hB.over hF hG 1 rfl 0 [_, _, _] hu0
  replace hx5 := hx5.put hB 1 rfl (by decide) 0 [_, _, _] hu0
  replace hx8 := hx8.put hB 1 rfl (by decide) 0 [_, _, _] hu0
  clear hB hG hu0
  simp only [List.modify_succ_cons, List.modify_zero_cons, wrAll, List.setIfInBounds_toArray, List.set_cons_zero, List.set_cons_succ, Nat.zero_add, Nat.reduceAdd] at hBG
  obtain ⟨hB, hG⟩ := hBG
  clear u
  obtain ⟨u, rfl⟩ : ∃ x, x = u0 := ⟨_, rfl⟩
  refine NoK.norm (hN _ _ ?_)
  clear hN K
  refine then_norm ?_
  refine wp_ret ?_
  refine ret_b rfl ?_
  intro N hN
  have r := hB.r
  simp only [BxR] at r
  simp only [results, Tryz.results62]
  go_simp
  refine hN _ ?_
  clear hN N r
  exact ⟨(x5, x8), rfl, ⟨hx5, hx8⟩, hG⟩
theorem NatCmp_same (x y : Ax) (a : Nat) (w : World) (hx : Rn w x a) (hy : Rn w y a) : Calls Tryz.prog 63 #[nvV x a, nvV y a] w fun e w' => e = .returned (.int .i64 0) ∧ Grow w w' := by
  have := ref1_NatCmp x y a a w hx hy
  rw [cmpN_eq rfl] at this
  exact this
set_option maxHeartbeats 1000000 in
set_option maxRecDepth 100000 in
theorem hand_Same (q : Rat) (x y : Ax) (ha : qs q ≤ LIM) (w : World) (hx : Rn w x q.num.natAbs) (hy : Rn w y q.den) : Calls Tryz.prog 17 #[qV q, rqV x y q] w fun e w' => e = .returned (.bool true) ∧ Grow w w' := by
  have hl : 0 < ln q.den := ln_pos.2 q.den_nz
  have hlb : ((ln q.den : Int) == 0) = false := by simp; omega
  go_enter Tryz.func17, Tryz.ntmps17
  refine wp_seq (wp_r0 ?_)
  intro K hN
  go_wp2_with fail
  generalize hu : World.alloc (World.alloc w _) _ = u
  obtain ⟨hB, hG⟩ := bx_first [(_, _), (_, _)] w u hu
  have hF := fr_first w [(32, #[]), (41, #[])]
  simp only [numbered, List.map_cons, List.map_nil] at hB hF
  clear hu
  generalize w.heap.size + 1 = b3 at hB hF ⊢
  generalize w.heap.size = b2 at hB hF ⊢
  replace hx := hx.grow hG
  replace hy := hy.grow hG
  refine NoK.norm (hN _ _ ?_)
  clear hN K
  refine then_norm ?_
  refine wp_seq ?_
  refine wp_rs (w := w) allocs2 3 [0, 1, 2] (by kernel_rfl) (by simp only [List.drop_succ_cons, List.drop_zero]; exact rfl) (fun _ => True) noG hB hG trivial ?_
  intro K L hN hL
  simp only [List.zip_cons_cons, List.zip_nil_left]
  apply gy
  · exact rfl
  · (rintro v ⟨hgu, hB, hG, -⟩ N hN; have r := hB.r; simp only [BxR] at r; go_simp; exact hN)
  refine okf (by simp only [Act.put, List.setIfInBounds_toArray, List.set_cons_succ, List.set_cons_zero]; exact rfl) ?_
  refine gr (ratR q) rfl ?_ (fun (x7 : Ax × Ax) => ?_)
  · (rintro v ⟨hgu, hB, hG, -⟩ N hN; go_simp; ((with_reducible refine (hand_Out q ha _).mono ?_); rintro e w1 ⟨x, rfl, hx, hg⟩; exact ⟨_, rfl, hN x w1 hx hg⟩))
  refine okf (by simp only [natR, intR, ratR, nnR, Act.put, List.setIfInBounds_toArray, List.set_cons_succ, List.set_cons_zero]; exact rfl) ?_
  refine ga (newObj_RQ _ _ _ _ _) fun b5 hb5 hn5 => ?_
  refine okf (by simp only [Act.put, List.setIfInBounds_toArray, List.set_cons_succ, List.set_cons_zero]; exact rfl) ?_
  refine gend ?_
  rintro v ⟨⟨⟨hgu, hB1, hG1, -⟩, hx7⟩, h5⟩
  replace hx := hx.grow hgu
  replace hy := hy.grow hgu
  obtain ⟨hx7a, hx7b⟩ : Rn v x7.1 _ ∧ Rn v x7.2 _ := hx7
  have hF := Fr.new (tk := []) hF hB hG hb5 hn5
  simp only [List.cons_append, List.nil_append, List.map_cons, List.map_nil] at hF
  clear hB hG
  have hB := (Bx.cons h5 hB1)
  have hG := hG1
  clear hB1 hG1 h5
  refine hL _ _ ?_
  clear hL L hgu
  obtain ⟨u, rfl⟩ : ∃ x, x = v := ⟨_, rfl⟩
  have r := hB.r
  simp only [BxR] at r
  go_wp2_with fail
  clear r
  generalize hu0 : World.setCell (World.setCell (World.setCell u _ _) _ _) _ _ = u0
  have hBG := hB.over hF hG 0 rfl 0 [_, _, _] hu0
  replace hx := hx.put hB 0 rfl (by decide) 0 [_, _, _] hu0
  replace hy := hy.put hB 0 rfl (by decide) 0 [_, _, _] hu0
  replace hx7a := hx7a.put hB 0 rfl (by decide) 0 [_, _, _] hu0
  replace hx7b := hx7b.put hB 0 rfl (by decide) 0 [_, _, _] hu0
  clear hB hG hu0
  simp only [List.modify_succ_cons, List.modify_zero_cons, wrAll, List.setIfInBounds_toArray, List.set_cons_zero, List.set_cons_succ, Nat.zero_add, Nat.reduceAdd] at hBG
  obtain ⟨hB, hG⟩ := hBG
  clear u
  obtain ⟨u, rfl⟩ : ∃ x, x = u0 := ⟨_, rfl⟩
  refine NoK.norm (hN _ _ ?_)
  clear hN K
  refine then_norm ?_
  refine wp_seq ?_
  refine wp_seq ?_
  refine wp_r0 ?_
  intro K hN
  have r := hB.r
  simp only [BxR] at r
  go_wp2_with fail
  clear r
  refine NoK.norm (hN _ _ ?_)
  clear hN K
  refine then_norm ?_
  refine wp_cond_false (rfl) ?_
  refine wp_skip ?_
  refine then_norm ?_
  refine wp_seq ?_
  refine wp_rs (w := w) allocs2 26 [0, 0, 0, 0, 0, 0, 1, 0, 0, 0, 0, 0, 0, 0, 0, 0, 0, 0, 0, 0, 0, 0, 1, 0, 0, 0] (by kernel_rfl) (by simp only [List.drop_succ_cons, List.drop_nil]; exact rfl) (fun _ => True) noG hB hG trivial ?_
  intro K L hN hL
  simp only [List.zip_cons_cons, List.zip_nil_left]
  apply gy
  · exact rfl
  · (rintro v - N hN; go_simp; exact hN)
  refine okf (by simp only [Act.put, List.setIfInBounds_toArray, List.set_cons_succ, List.set_cons_zero]; exact rfl) ?_
  apply gy
  · exact rfl
  · (rintro v - N hN; go_simp; exact hN)
  refine okf (by simp only [Act.put, List.setIfInBounds_toArray, List.set_cons_succ, List.set_cons_zero]; exact rfl) ?_
  apply gy
  · exact rfl
  · (rintro v ⟨hgu, hB, hG, -⟩ N hN; have r := hB.r; simp only [BxR] at r; go_simp; exact hN)
  refine okf (by simp only [Act.put, List.setIfInBounds_toArray, List.set_cons_succ, List.set_cons_zero]; exact rfl) ?_
  apply gy
  · exact rfl
  · (rintro v - N hN; go_simp; exact hN)
  refine okf (by simp only [Act.put, List.setIfInBounds_toArray, List.set_cons_succ, List.set_cons_zero]; exact rfl) ?_
  apply gy
  · exact rfl
  · (rintro v - N hN; go_simp; exact hN)
  refine okf (by simp only [Act.put, List.setIfInBounds_toArray, List.set_cons_succ, List.set_cons_zero]; exact rfl) ?_
  apply gy
  · exact rfl
  · (rintro v ⟨hgu, hB, hG, -⟩ N hN; have r := hB.r; simp only [BxR] at r; go_simp; exact hN)
  refine okf (by simp only [Act.put, List.setIfInBounds_toArray, List.set_cons_succ, List.set_cons_zero]; exact rfl) ?_
  apply gm
  · exact rfl
  · (rintro v ⟨hgu, hB, hG, -⟩ N hN; go_simp; ((with_reducible refine (NatCmp_same x7.1 x q.num.natAbs _ (hx7a.grow hgu) (hx.grow hgu)).mono ?_); rintro e w1 ⟨rfl, hb⟩; exact ⟨_, rfl, hN _ hb⟩))
  refine okf (by simp only [Act.put, List.setIfInBounds_toArray, List.set_cons_succ, List.set_cons_zero]; exact rfl) ?_
  apply gy
  · exact rfl
  · (rintro v - N hN; go_simp; exact hN)
  refine okf (by simp only [Act.put, List.setIfInBounds_toArray, List.set_cons_succ, List.set_cons_zero]; exact rfl) ?_
  apply gy
  · exact rfl
  · (rintro v - N hN; go_simp; exact hN)
  refine okf (by simp only [Act.put, List.setIfInBounds_toArray, List.set_cons_succ, List.set_cons_zero]; exact rfl) ?_
  first
    | (apply gy
       · exact rfl
       · (rintro v - N hN; go_simp; exact hN))
    | (apply gn; exact rfl)
  refine okf (by simp only [Act.put, List.setIfInBounds_toArray, List.set_cons_succ, List.set_cons_zero]; exact rfl) ?_
  first
    | (apply gy
       · exact rfl
       · (rintro v - N hN; go_simp; exact hN))
    | (apply gn; exact rfl)
  refine okf (by simp only [Act.put, List.setIfInBounds_toArray, List.set_cons_succ, List.set_cons_zero]; exact rfl) ?_
  first
    | (apply gy
       · exact rfl
       · (rintro v ⟨hgu, hB, hG, -⟩ N hN; have r := hB.r; simp only [BxR] at r; go_simp; exact hN))
    | (apply gn; exact rfl)
  refine okf (by simp only [Act.put, List.setIfInBounds_toArray, List.set_cons_succ, List.set_cons_zero]; exact rfl) ?_
  first
    | (apply gy
       · exact rfl
       · (rintro v - N hN; go_simp; exact hN))
    | (apply gn; exact rfl)
  refine okf (by simp only [Act.put, List.setIfInBounds_toArray, List.set_cons_succ, List.set_cons_zero]; exact rfl) ?_
  first
    | (apply gy
       · exact rfl
       · (rintro v - N hN; go_simp; exact hN))
    | (apply gn; exact rfl)
  refine okf (by simp only [Act.put, List.setIfInBounds_toArray, List.set_cons_succ, List.set_cons_zero]; exact rfl) ?_
  first
    | (apply gy
       · exact rfl
       · (rintro v ⟨hgu, hB, hG, -⟩ N hN; have r := hB.r; simp only [BxR] at r; go_simp; exact hN))
    | (apply gn; exact rfl)
  refine okf (by simp only [Act.put, List.setIfInBounds_toArray, List.set_cons_succ, List.set_cons_zero]; exact rfl) ?_
  first
    | (apply gy
       · exact rfl
       · (rintro v - N hN; go_simp; exact hN))
    | (apply gn; exact rfl)
  refine okf (by simp only [Act.put, List.setIfInBounds_toArray, List.set_cons_succ, List.set_cons_zero]; exact rfl) ?_
  apply gy
  · exact rfl
  · (rintro v - N hN; go_simp; exact hN)
  refine okf (by simp only [Act.put, List.setIfInBounds_toArray, List.set_cons_succ, List.set_cons_zero]; exact rfl) ?_
  apply gy
  · exact rfl
  · (rintro v - N hN; go_simp; exact hN)
  refine okf (by simp only [Act.put, List.setIfInBounds_toArray, List.set_cons_succ, List.set_cons_zero]; exact rfl) ?_
  first
    | (apply gy
       · exact rfl
       · (rintro v - N hN; go_simp; exact hN))
    | (apply gn; exact rfl)
  refine okf (by simp only [Act.put, List.setIfInBounds_toArray, List.set_cons_succ, List.set_cons_zero]; exact rfl) ?_
  first
    | (apply gy
       · exact rfl
       · (rintro v ⟨hgu, hB, hG, -⟩ N hN; have r := hB.r; simp only [BxR] at r; go_simp; exact hN))
    | (apply gn; exact rfl)
  refine okf (by simp only [Act.put, List.setIfInBounds_toArray, List.set_cons_succ, List.set_cons_zero]; exact rfl) ?_
  first
    | (apply gy
       · exact rfl
       · (rintro v - N hN; go_simp; exact hN))
    | (apply gn; exact rfl)
  refine okf (by simp only [Act.put, List.setIfInBounds_toArray, List.set_cons_succ, List.set_cons_zero]; exact rfl) ?_
  first
    | (apply gy
       · exact rfl
       · (rintro v ⟨hgu, hB, hG, -⟩ N hN; have r := hB.r; simp only [BxR] at r; go_simp; exact hN))
    | (apply gn; exact rfl)
  refine okf (by simp only [Act.put, List.setIfInBounds_toArray, List.set_cons_succ, List.set_cons_zero]; exact rfl) ?_
  first
    | (apply gm
       · exact rfl
       · (rintro v ⟨hgu, hB, hG, -⟩ N hN; go_simp; ((with_reducible refine (NatCmp_same x7.2 y q.den _ (hx7b.grow hgu) (hy.grow hgu)).mono ?_); rintro e w1 ⟨rfl, hb⟩; exact ⟨_, rfl, hN _ hb⟩)))
    | (apply gmn; exact rfl)
  refine okf (by simp only [Act.put, List.setIfInBounds_toArray, List.set_cons_succ, List.set_cons_zero]; exact rfl) ?_
  first
    | (apply gy
       · exact rfl
       · (rintro v - N hN; go_simp; exact hN))
    | (apply gn; exact rfl)
  refine okf (by simp only [Act.put, List.setIfInBounds_toArray, List.set_cons_succ, List.set_cons_zero]; exact rfl) ?_
  apply gy
  · exact rfl
  · (rintro v - N hN; go_simp; exact hN)
  refine okf (by simp only [Act.put, List.setIfInBounds_toArray, List.set_cons_succ, List.set_cons_zero]; exact rfl) ?_
  apply gy
  · exact rfl
  · (rintro v - N hN; go_simp; exact hN)
  refine okf (by simp only [Act.put, List.setIfInBounds_toArray, List.set_cons_succ, List.set_cons_zero]; exact rfl) ?_
  refine gend ?_
  rintro v ⟨hgu, hB1, hG1, -⟩
  replace hx := hx.grow hgu
  replace hy := hy.grow hgu
  replace hx7a := hx7a.grow hgu
  replace hx7b := hx7b.grow hgu
  clear hB hG
  have hB := hB1
  have hG := hG1
  clear hB1 hG1
  refine hL _ _ ?_
  clear hL L hgu
  obtain ⟨u, rfl⟩ : ∃ x, x = v := ⟨_, rfl⟩
  refine wpList_nil ?_
  refine NoK.norm (hN _ _ ?_)
  clear hN K
  refine then_norm ?_
  refine wp_ret ?_
  refine ret_b rfl ?_
  intro N hN
  have r := hB.r
  simp only [BxR] at r
  simp only [results, Tryz.results17]
  go_simp
  refine hN _ ?_
  clear hN N r
  exact ⟨rfl, hG⟩
set_option maxHeartbeats 400000 in
set_option maxRecDepth 100000 in
theorem hand_Is (n d : Int) (h0 : -9223372036854775808 ≤ n) (h1 : n ≤ 9223372036854775807) (h2 : -9223372036854775808 ≤ d) (h3 : d ≤ 9223372036854775807) (hd : d ≠ 0) (hs : RDiv d.natAbs) (ha : qs (qover n d) ≤ LIM) (w : World) : Calls Tryz.prog 26 #[qV (qover n d), .int .i64 n, .int .i64 d] w fun e w' => e = .returned (.bool true) ∧ Grow w w' := by
  go_enter Tryz.func26, Tryz.ntmps26
  refine wp_seq (wp_r0 ?_)
  intro K hN
  go_wp2_with fail
  generalize hu : World.alloc w _ = u
  obtain ⟨hB, hG⟩ := bx_first [(_, _)] w u hu
  have hF := fr_first w [(32, #[])]
  simp only [numbered, List.map_cons, List.map_nil] at hB hF
  clear hu
  generalize w.heap.size = b3 at hB hF ⊢
  refine NoK.norm (hN _ _ ?_)
  clear hN K
  refine then_norm ?_
  refine wp_seq ?_
  refine wp_rd (w := w) allocs 5 [] [(0, 0), (0, 1), (0, 2), (1, 3), (1, 4)] (by kernel_rfl) (by kernel_rfl) (by simp only [List.drop_succ_cons, List.drop_zero]; exact rfl) (fun _ => True) noG hB hG trivial ?_
  intro K L hN hL
  simp only [pickOps, List.getElem?_toArray, List.getElem?_cons_zero, List.getElem?_cons_succ]
  apply gy
  · exact rfl
  · (rintro v ⟨hgu, hB, hG, -⟩ N hN; have r := hB.r; simp only [BxR] at r; go_simp; exact hN)
  refine okf (by simp only [Act.put, List.setIfInBounds_toArray, List.set_cons_succ, List.set_cons_zero]; exact rfl) ?_
  apply gy
  · exact rfl
  · (rintro v - N hN; go_simp; exact hN)
  refine okf (by simp only [Act.put, List.setIfInBounds_toArray, List.set_cons_succ, List.set_cons_zero]; exact rfl) ?_
  apply gy
  · exact rfl
  · (rintro v - N hN; go_simp; exact hN)
  refine okf (by simp only [Act.put, List.setIfInBounds_toArray, List.set_cons_succ, List.set_cons_zero]; exact rfl) ?_
  refine gr (ratR (qover n d)) rfl ?_ (fun (x10 : Ax × Ax) => ?_)
  · (rintro v ⟨hgu, hB, hG, -⟩ N hN; go_simp; ((with_reducible refine (ref1_Over n d h0 h1 h2 h3 hd hs _).mono ?_); rintro e w1 ⟨x, rfl, hx, hg⟩; exact ⟨_, rfl, hN x w1 hx hg⟩))
  refine okf (by simp only [natR, intR, ratR, nnR, Act.put, List.setIfInBounds_toArray, List.set_cons_succ, List.set_cons_zero]; exact rfl) ?_
  apply gm
  · exact rfl
  · (rintro v ⟨⟨hgu, hB, hG, -⟩, hx10⟩ N hN; obtain ⟨hx10a, hx10b⟩ : Rn v x10.1 _ ∧ Rn v x10.2 _ := hx10; go_simp; ((with_reducible refine (hand_Same (qover n d) x10.1 x10.2 ha _ hx10a hx10b).mono ?_); rintro e w1 ⟨rfl, hb⟩; exact ⟨_, rfl, hN _ hb⟩))
  refine okf (by simp only [Act.put, List.setIfInBounds_toArray, List.set_cons_succ, List.set_cons_zero]; exact rfl) ?_
  refine gend ?_
  rintro v ⟨⟨hgu, hB1, hG1, -⟩, hx10⟩
  obtain ⟨hx10a, hx10b⟩ : Rn v x10.1 _ ∧ Rn v x10.2 _ := hx10
  clear hB hG
  have hB := hB1
  have hG := hG1
  clear hB1 hG1
  refine hL _ _ ?_
  clear hL L hgu
  obtain ⟨u, rfl⟩ : ∃ x, x = v := ⟨_, rfl⟩
  go_wp2_with fail
  refine NoK.norm (hN _ _ ?_)
  clear hN K
  refine then_norm ?_
  refine wp_ret ?_
  refine ret_b rfl ?_
  intro N hN
  have r := hB.r
  simp only [BxR] at r
  simp only [results, Tryz.results26]
  go_simp
  refine hN _ ?_
  clear hN N r
  exact ⟨rfl, hG⟩
/-- any number as one of 0 to m - 1 -/
def pick (n m : Int) : Int := n % m
theorem pick_range (n : Int) {m : Int} (h : 0 < m) : 0 ≤ pick n m ∧ pick n m < m := ⟨Int.emod_nonneg _ (by omega), Int.emod_lt_of_pos _ h⟩
set_option maxHeartbeats 400000 in
theorem hand_Pick (n m : Int) (hm : 0 < m) (hm2 : m ≤ 9223372036854775807) (w : World) : Calls Tryz.prog 10 #[.int .i64 n, .int .i64 m] w fun e w' => e = .returned (.int .i64 (pick n m)) ∧ w = w' := by
  have h0 : ¬ m = 0 := by omega
  obtain ⟨t, ht⟩ : ∃ t, t = n.tmod m := ⟨_, rfl⟩
  have hp : pick n m = if t < 0 then t + m else t := by
    rw [ht]
    unfold pick
    have h1 := Int.emod_nonneg n (show m ≠ 0 by omega)
    have h2 := Int.emod_lt_of_pos n hm
    rw [Int.tmod_eq_emod]
    split <;> split <;> omega
  have hb : -m < t ∧ t < m := by
    rw [ht]
    have h1 := Int.emod_nonneg n (show m ≠ 0 by omega)
    have h2 := Int.emod_lt_of_pos n hm
    rw [Int.tmod_eq_emod]
    split <;> omega
  have htm : n.tmod m = t := ht.symm
  have hw1 : IntKind.i64.wrap t = t := IntWalk.i64_in _ (by omega)
  clear ht
  by_cases hneg : t < 0
  · rw [if_pos hneg] at hp
    have hw2 : IntKind.i64.wrap (t + m) = t + m := IntWalk.i64_in _ (by omega)
    have Hp := Lib.hid hp
    clear hp
    go_enter Tryz.func10, Tryz.ntmps10
    go_wp2_with fail
    go_ret
    exact ⟨ret_i64 Hp.out.symm, rfl⟩
  · rw [if_neg hneg] at hp
    have Hp := Lib.hid hp
    clear hp
    go_enter Tryz.func10, Tryz.ntmps10
    go_wp2_with fail
    go_ret
    exact ⟨ret_i64 Hp.out.symm, rfl⟩
end Go.Proofs.YtimjnkfcnpfoeaaGreatDoor

/-
  score: paired, ratio, count, Right; law9.known.
-/
namespace Go.Proofs.YtimjnkfcnpfoeaaGreatDoor
open Go.RowKit

/-- these integers lie from the address on -/
def Li (u : World) (A : Option Addr) (l : List Int) : Prop :=
  l ≠ [] → ∃ b off, A = some ⟨b, off, none⟩ ∧ b < u.heap.size ∧ ∀ i x, l[i]? = some x → u.cell? ⟨b, off + i, none⟩ = some (.int .i64 x)
theorem Li.nil (u : World) (A : Option Addr) : Li u A [] := fun h => absurd rfl h
theorem Li.grow {u u' : World} {A : Option Addr} {l : List Int} (h : Li u A l) (hg : Grow u u') : Li u' A l := fun hn => by
  obtain ⟨b, off, e, hb, hc⟩ := h hn
  exact ⟨b, off, e, Nat.lt_of_lt_of_le hb hg.size, fun i x hi => (hg.cell (p := ⟨b, off + i, none⟩) hb).trans (hc i x hi)⟩
def gi (l : List Int) (i : Nat) : Int := (l[i]?).getD 0
theorem gi_eq {l : List Int} {i : Nat} (h : i < l.length) : l[i]? = some (gi l i) := by
  unfold gi; rw [List.getElem?_eq_getElem h]; rfl
theorem Li.cell {u : World} {A : Option Addr} {l : List Int} (h : Li u A l) {i : Nat} (hi : i < l.length) : ∃ b off, A = some ⟨b, off, none⟩ ∧ u.cell? ⟨b, off + i, none⟩ = some (.int .i64 (gi l i)) := by
  obtain ⟨b, off, e, hb, hc⟩ := h (fun h0 => by rw [h0] at hi; cases hi)
  exact ⟨b, off, e, hc i _ (gi_eq hi)⟩

def pairedB (m n : Nat) : Bool := decide (m = n) && decide (0 < m)
set_option maxHeartbeats 400000 in
theorem score_paired_ii (A B : Option Addr) (m n c d : Nat) (w : World) : Calls Tryz.prog 57 #[.slice A m c, .slice B n d] w fun e w' => e = .returned (.bool (pairedB m n)) ∧ Grow w w' := by
  by_cases h : m = n
  · subst h
    by_cases h0 : 0 < m
    · have e : pairedB m m = true := by unfold pairedB; simp [h0]
      rw [e]
      clear e
      go_enter Tryz.func57, Tryz.ntmps57
      go_wp2_with fail
      go_ret
      exact ⟨rfl, Grow.refl _⟩
    · have e : pairedB m m = false := by unfold pairedB; simp; omega
      rw [e]
      clear e
      go_enter Tryz.func57, Tryz.ntmps57
      go_wp2_with fail
      go_ret
      exact ⟨rfl, Grow.refl _⟩
  · have e : pairedB m n = false := by unfold pairedB; simp [h]
    have hb : ((m : Int) == (n : Int)) = false := by simp; omega
    rw [e]
    clear e
    go_enter Tryz.func57, Tryz.ntmps57
    go_wp2_with fail
    go_ret
    exact ⟨rfl, Grow.refl _⟩

--! score_ratio = score_ratio _ _ SIDE SIDE SIDE SIDE _ (HT.grow hG)
set_option maxHeartbeats 400000 in
set_option maxRecDepth 100000 in
theorem score_ratio (n d : Int) (h0 : -9223372036854775808 ≤ n) (h1 : n ≤ 9223372036854775807) (h2 : -9223372036854775808 ≤ d) (h3 : d ≤ 9223372036854775807) (w : World) (HT : Tab w) : Calls Tryz.prog 60 #[.int .i64 n, .int .i64 d] w fun e w' => e = .returned (qV (qover n d)) ∧ Grow w w' := by
  go_enter Tryz.func60, Tryz.ntmps60
  refine wp_seq (wp_r0 ?_)
  intro K hN
  go_wp2_with fail
  generalize hu : World.alloc w _ = u
  obtain ⟨hB, hG⟩ := bx_first [(_, _)] w u hu
  have hF := fr_first w [(32, #[])]
  simp only [numbered, List.map_cons, List.map_nil] at hB hF
  clear hu
  generalize w.heap.size = b4 at hB hF ⊢
  refine NoK.norm (hN _ _ ?_)
  clear hN K
  refine then_norm ?_
  refine wp_seq ?_
  refine wp_rs (w := w) allocs 7 [0, 0, 1, 0, 0, 0, 2] (by kernel_rfl) (by simp only [List.drop_succ_cons, List.drop_zero]; exact rfl) (fun _ => True) noG hB hG trivial ?_
  intro K L hN hL
  simp only [List.zip_cons_cons, List.zip_nil_left]
  apply gy
  · exact rfl
  · (rintro v - N hN; go_simp; exact hN)
  refine okf (by simp only [Act.put, List.setIfInBounds_toArray, List.set_cons_succ, List.set_cons_zero]; exact rfl) ?_
  apply gy
  · exact rfl
  · (rintro v - N hN; go_simp; exact hN)
  refine okf (by simp only [Act.put, List.setIfInBounds_toArray, List.set_cons_succ, List.set_cons_zero]; exact rfl) ?_
  apply gm
  · exact rfl
  · (rintro v ⟨hgu, hB, hG, -⟩ N hN; go_simp; ((with_reducible refine (frac_Over _ _ (by assumption) (by assumption) (by assumption) (by assumption) _ (HT.grow hG)).mono ?_); rintro e w1 ⟨rfl, hb⟩; exact ⟨_, rfl, hN _ hb⟩))
  refine okf (by simp only [Act.put, List.setIfInBounds_toArray, List.set_cons_succ, List.set_cons_zero]; exact rfl) ?_
  apply gy
  · exact rfl
  · (rintro v - N hN; go_simp; exact hN)
  refine okf (by simp only [Act.put, List.setIfInBounds_toArray, List.set_cons_succ, List.set_cons_zero]; exact rfl) ?_
  apply gy
  · exact rfl
  · (rintro v - N hN; go_simp; exact hN)
  refine okf (by simp only [Act.put, List.setIfInBounds_toArray, List.set_cons_succ, List.set_cons_zero]; exact rfl) ?_
  apply gy
  · exact rfl
  · (rintro v - N hN; go_simp; exact hN)
  refine okf (by simp only [Act.put, List.setIfInBounds_toArray, List.set_cons_succ, List.set_cons_zero]; exact rfl) ?_
  refine ga (newObj_Q _ _ _ _ _) fun b5 hb5 hn5 => ?_
  refine okf (by simp only [Act.put, List.setIfInBounds_toArray, List.set_cons_succ, List.set_cons_zero]; exact rfl) ?_
  refine gend ?_
  rintro v ⟨⟨hgu, hB1, hG1, -⟩, h5⟩
  have hF := Fr.new (tk := []) hF hB hG hb5 hn5
  simp only [List.cons_append, List.nil_append, List.map_cons, List.map_nil] at hF
  clear hB hG
  have hB := (Bx.cons h5 hB1)
  have hG := hG1
  clear hB1 hG1 h5
  refine hL _ _ ?_
  clear hL L hgu
  obtain ⟨u, rfl⟩ : ∃ x, x = v := ⟨_, rfl⟩
  have r := hB.r
  simp only [BxR] at r
  go_wp2_with fail
  clear r
  generalize hu0 : World.setCell (World.setCell (World.setCell (World.setCell (World.setCell u _ _) _ _) _ _) _ _) _ _ = u0
  have hBG := hB.over hF hG 0 rfl 0 [_, _, _, _, _] hu0
  clear hB hG hu0
  simp only [List.modify_succ_cons, List.modify_zero_cons, wrAll, List.setIfInBounds_toArray, List.set_cons_zero, List.set_cons_succ, Nat.zero_add, Nat.reduceAdd] at hBG
  obtain ⟨hB, hG⟩ := hBG
  clear u
  obtain ⟨u, rfl⟩ : ∃ x, x = u0 := ⟨_, rfl⟩
  refine NoK.norm (hN _ _ ?_)
  clear hN K
  refine then_norm ?_
  refine wp_seq ?_
  refine wp_r0 ?_
  intro K hN
  have r := hB.r
  simp only [BxR] at r
  go_wp2_with fail
  clear r
  generalize hu0 : World.setCell (World.setCell (World.setCell (World.setCell (World.setCell u _ _) _ _) _ _) _ _) _ _ = u0
  have hBG := hB.over hF hG 1 rfl 0 [_, _, _, _, _] hu0
  clear hB hG hu0
  simp only [List.modify_succ_cons, List.modify_zero_cons, wrAll, List.setIfInBounds_toArray, List.set_cons_zero, List.set_cons_succ, Nat.zero_add, Nat.reduceAdd] at hBG
  obtain ⟨hB, hG⟩ := hBG
  clear u
  obtain ⟨u, rfl⟩ : ∃ x, x = u0 := ⟨_, rfl⟩
  refine NoK.norm (hN _ _ ?_)
  clear hN K
  refine then_norm ?_
  refine wp_ret ?_
  refine ret_b rfl ?_
  intro N hN
  have r := hB.r
  simp only [BxR] at r
  simp only [results, Tryz.results60]
  go_simp
  refine hN _ ?_
  clear hN N r
  exact ⟨rfl, hG⟩

/-- how many of the first n fit -/
def cnt (t : Nat → Bool) : Nat → Nat
  | 0 => 0
  | n + 1 => cnt t n + (if t n then 1 else 0)
theorem cnt_le (t : Nat → Bool) (n : Nat) : cnt t n ≤ n := by
  induction n with
  | zero => exact Nat.le_refl _
  | succ n ih => simp only [cnt]; split <;> omega
set_option maxHeartbeats 1000000 in
set_option maxRecDepth 100000 in
theorem score_count (n : Nat) (hn : n ≤ 1099511627776) (k : FuncId) (hcf : ∀ (args : Array Value) (W : World), Sem.run Tryz.prog (callFunc k args) W = .ok (.enter k args) W) (caps : Array Value) (t : Nat → Bool) (P : World → Prop) (hPm : ∀ u u', Grow u u' → P u → P u') (w : World) (hP : P w)
    (hf : ∀ i, i < n → ∀ W, P W → Calls Tryz.prog k (#[.int .i64 (i : Nat)] ++ caps) W fun e w' => e = .returned (.bool (t i)) ∧ Grow W w') :
    Calls Tryz.prog 58 #[.int .i64 n, .func (.func k) #[] caps] w fun e w' => e = .returned (.int .i64 (cnt t n : Nat)) ∧ Grow w w' := by
  have Hf := Lib.hid hf
  have HP := Lib.hid hP
  clear hf hP
  go_enter Tryz.func58, Tryz.ntmps58
  go_wp2_with fail
  go_loopw [5, 8] (fun s i wr => ∃ j : Nat, j ≤ n ∧ i = .int .i64 j ∧ s = .int .i64 (cnt t j : Nat) ∧ Grow w wr) (fun _ i _ => n - (intOf i).toNat)
  case atStart => exact ⟨0, Nat.zero_le _, rfl, rfl, Grow.refl _⟩
  case round =>
    obtain ⟨j, hj, rfl, rfl, hG⟩ := hrel
    have hcl := cnt_le t j
    rcases Nat.lt_or_ge j n with hlt | hge
    · have hc := Hf.out j hlt wr (hPm _ _ hG HP.out)
      have hsu : cnt t (j + 1) = cnt t j + (if t j then 1 else 0) := rfl
      have Hsu := Lib.hid hsu
      obtain ⟨s, hs⟩ : ∃ s, s = cnt t j := ⟨_, rfl⟩
      rw [← hs]
      rw [← hs] at hcl
      have Hs := Lib.hid hs
      obtain ⟨tj, htj⟩ : ∃ b, b = t j := ⟨_, rfl⟩
      rw [← htj] at hc
      have Htj := Lib.hid htj
      have Hc := Lib.hid hc
      clear hsu hs htj hc
      cases tj
      all_goals
        go_wp2_with (((with_reducible refine (Hc.out).mono ?_); rintro e w1 ⟨rfl, hg⟩))
        go_roundw
        case rel => exact ⟨j + 1, by omega, by go_num, by rw [Hsu.out, ← Htj.out, ← Hs.out]; rfl, hG.trans hg⟩
        case measure => simp [intOf]; omega
    · obtain rfl : j = n := by omega
      go_wp2_with fail
      go_ret
      exact ⟨rfl, hG⟩
theorem cf_Right (args : Array Value) (W : World) : Sem.run Tryz.prog (callFunc 59 args) W = .ok (.enter 59 args) W := by kernel_rfl
/-- what the closure of Right reads -/
def TwoLi (b2 b3 : Nat) (A B : Option Addr) (m c d : Nat) (l l' : List Int) (W : World) : Prop :=
  Blk W b2 22 #[.slice A m c] ∧ Blk W b3 22 #[.slice B m d] ∧ Li W A l ∧ Li W B l'
theorem TwoLi.mk {b2 b3 : Nat} {A B : Option Addr} {m c d : Nat} {l l' : List Int} {u : World} (h1 : Blk u b2 22 #[.slice A m c]) (h2 : Blk u b3 22 #[.slice B m d]) (h3 : Li u A l) (h4 : Li u B l') : TwoLi b2 b3 A B m c d l l' u := ⟨h1, h2, h3, h4⟩
theorem TwoLi.grow {b2 b3 : Nat} {A B : Option Addr} {m c d : Nat} {l l' : List Int} {u u' : World} (hg : Grow u u') (h : TwoLi b2 b3 A B m c d l l' u) : TwoLi b2 b3 A B m c d l l' u' := ⟨h.1.grow hg, h.2.1.grow hg, h.2.2.1.grow hg, h.2.2.2.grow hg⟩
set_option maxHeartbeats 400000 in
set_option maxRecDepth 100000 in
theorem score_Right_c1 (b2 b3 : Nat) (A B : Option Addr) (m c d : Nat) (l l' : List Int) (hl : l.length = m) (hl' : l'.length = m) (i : Nat) (hi : i < m) (w : World) (h : TwoLi b2 b3 A B m c d l l' w) :
    Calls Tryz.prog 59 #[.int .i64 (i : Nat), .pointer (some ⟨b2, 0, none⟩), .pointer (some ⟨b3, 0, none⟩)] w fun e w' => e = .returned (.bool (gi l i == gi l' i)) ∧ Grow w w' := by
  obtain ⟨h1, h2, h3, h4⟩ := h
  have hc1 := h1.cell 0
  have hc2 := h2.cell 0
  obtain ⟨b4, o4, rfl, hc3⟩ := h3.cell (i := i) (by omega)
  obtain ⟨b5, o5, rfl, hc4⟩ := h4.cell (i := i) (by omega)
  simp only [List.getElem?_toArray, List.getElem?_cons_zero] at hc1 hc2
  clear h1 h2 h3 h4 hl hl'
  go_enter Tryz.func59, Tryz.ntmps59
  go_wp2_with fail
  go_quiet (fail)
  go_wp2_with fail
  go_ret
  exact ⟨rfl, grow_drewN _ _⟩
def hits (l l' : List Int) (m : Nat) : Nat := cnt (fun i => gi l i == gi l' i) m
theorem hits_le (l l' : List Int) (m : Nat) : hits l l' m ≤ m := cnt_le _ _
theorem score_count_R (b2 b3 : Nat) (A B : Option Addr) (m c d : Nat) (l l' : List Int) (hl : l.length = m) (hl' : l'.length = m) (hm : m ≤ 1099511627776) (w : World) (h : TwoLi b2 b3 A B m c d l l' w) :
    Calls Tryz.prog 58 #[.int .i64 m, .func (.func 59) #[] #[.pointer (some ⟨b2, 0, none⟩), .pointer (some ⟨b3, 0, none⟩)]] w fun e w' => e = .returned (.int .i64 (hits l l' m : Nat)) ∧ Grow w w' :=
  score_count m hm 59 cf_Right _ (fun i => gi l i == gi l' i) (TwoLi b2 b3 A B m c d l l') (fun _ _ hg h => h.grow hg) w h (fun i hi W h => score_Right_c1 b2 b3 A B m c d l l' hl hl' i hi W h)
set_option maxHeartbeats 1000000 in
set_option maxRecDepth 100000 in
theorem score_Right_ok (A B : Option Addr) (m c d : Nat) (l l' : List Int) (hl : l.length = m) (hl' : l'.length = m) (hm0 : 0 < m) (hm : m ≤ 1099511627776) (w : World) (h1 : Li w A l) (h2 : Li w B l') (HT : Tab w) :
    Calls Tryz.prog 12 #[.slice A m c, .slice B m d] w fun e w' => e = .returned (.tuple #[qV (qover (hits l l' m : Nat) (m : Nat)), .int .i64 0]) ∧ Grow w w' := by
  have hp : ∀ W, Calls Tryz.prog 57 #[.slice A m c, .slice B m d] W fun e w' => e = .returned (.bool true) ∧ Grow W w' := fun W => by
    have := score_paired_ii A B m m c d W
    rw [show pairedB m m = true by unfold pairedB; simp [hm0]] at this
    exact this
  have hcnt : ∀ b2 b3 W, TwoLi b2 b3 A B m c d l l' W → Calls Tryz.prog 58 #[.int .i64 m, .func (.func 59) #[] #[.pointer (some ⟨b2, 0, none⟩), .pointer (some ⟨b3, 0, none⟩)]] W fun e w' => e = .returned (.int .i64 (hits l l' m : Nat)) ∧ Grow W w' := fun b2 b3 W h => score_count_R b2 b3 A B m c d l l' hl hl' hm W h
  have hh := hits_le l l' m
  obtain ⟨s, hs⟩ : ∃ s, s = hits l l' m := ⟨_, rfl⟩
  rw [← hs] at hcnt hh
  rw [← hs]
  have Hp := Lib.hid hp
  have Hcnt := Lib.hid hcnt
  have H1 := Lib.hid h1
  have H2 := Lib.hid h2
  clear hp hcnt h1 h2 hl hl' hs
  go_enter Tryz.func12, Tryz.ntmps12
  refine wp_seq (wp_r0 ?_)
  intro K hN
  go_wp2_with fail
  generalize hu : World.alloc (World.alloc (World.alloc w _) _) _ = u
  obtain ⟨hB, hG⟩ := bx_first [(_, _), (_, _), (_, _)] w u hu
  have hF := fr_first w [(22, #[]), (22, #[]), (32, #[])]
  simp only [numbered, List.map_cons, List.map_nil] at hB hF
  clear hu
  generalize w.heap.size + 1 + 1 = b4 at hB hF ⊢
  generalize w.heap.size + 1 = b3 at hB hF ⊢
  generalize w.heap.size = b2 at hB hF ⊢
  refine NoK.norm (hN _ _ ?_)
  clear hN K
  refine then_norm ?_
  refine wp_seq ?_
  refine wp_seq ?_
  refine wp_rs (w := w) allocs 4 [0, 0, 1, 0] (by kernel_rfl) (by simp only [List.drop_succ_cons, List.drop_nil]; exact rfl) (fun _ => True) noG hB hG trivial ?_
  intro K L hN hL
  simp only [List.zip_cons_cons, List.zip_nil_left]
  apply gy
  · exact rfl
  · (rintro v ⟨hgu, hB, hG, -⟩ N hN; have r := hB.r; simp only [BxR] at r; go_simp; exact hN)
  refine okf (by simp only [Act.put, List.setIfInBounds_toArray, List.set_cons_succ, List.set_cons_zero]; exact rfl) ?_
  apply gy
  · exact rfl
  · (rintro v ⟨hgu, hB, hG, -⟩ N hN; have r := hB.r; simp only [BxR] at r; go_simp; exact hN)
  refine okf (by simp only [Act.put, List.setIfInBounds_toArray, List.set_cons_succ, List.set_cons_zero]; exact rfl) ?_
  apply gm
  · exact rfl
  · (rintro v ⟨hgu, hB, hG, -⟩ N hN; go_simp; ((with_reducible refine (Hp.out _).mono ?_); rintro e w1 ⟨rfl, hb⟩; exact ⟨_, rfl, hN _ hb⟩))
  refine okf (by simp only [Act.put, List.setIfInBounds_toArray, List.set_cons_succ, List.set_cons_zero]; exact rfl) ?_
  apply gy
  · exact rfl
  · (rintro v - N hN; go_simp; exact hN)
  refine okf (by simp only [Act.put, List.setIfInBounds_toArray, List.set_cons_succ, List.set_cons_zero]; exact rfl) ?_
  refine gend ?_
  rintro v ⟨hgu, hB1, hG1, -⟩
  clear hB hG
  have hB := hB1
  have hG := hG1
  clear hB1 hG1
  refine hL _ _ ?_
  clear hL L hgu
  obtain ⟨u, rfl⟩ : ∃ x, x = v := ⟨_, rfl⟩
  refine wpList_nil ?_
  refine NoK.norm (hN _ _ ?_)
  clear hN K
  refine then_norm ?_
  refine wp_cond_false (rfl) ?_
  refine wp_skip ?_
  refine then_norm ?_
  refine wp_seq ?_
  refine wp_rs (w := w) allocs 5 [0, 0, 0, 1, 0] (by kernel_rfl) (by simp only [List.drop_succ_cons, List.drop_nil]; exact rfl) (fun _ => True) noG hB hG trivial ?_
  intro K L hN hL
  simp only [List.zip_cons_cons, List.zip_nil_left]
  apply gy
  · exact rfl
  · (rintro v ⟨hgu, hB, hG, -⟩ N hN; have r := hB.r; simp only [BxR] at r; go_simp; exact hN)
  refine okf (by simp only [Act.put, List.setIfInBounds_toArray, List.set_cons_succ, List.set_cons_zero]; exact rfl) ?_
  apply gy
  · exact rfl
  · (rintro v - N hN; go_simp; exact hN)
  refine okf (by simp only [Act.put, List.setIfInBounds_toArray, List.set_cons_succ, List.set_cons_zero]; exact rfl) ?_
  apply gy
  · exact rfl
  · (rintro v - N hN; go_simp; exact hN)
  refine okf (by simp only [Act.put, List.setIfInBounds_toArray, List.set_cons_succ, List.set_cons_zero]; exact rfl) ?_
  apply gm
  · exact rfl
  · (rintro v ⟨hgu, hB, hG, -⟩ N hN; go_simp; ((with_reducible refine (Hcnt.out b2 b3 _ (TwoLi.mk hB.head hB.tail.head (H1.out.grow hG) (H2.out.grow hG))).mono ?_); rintro e w1 ⟨rfl, hb⟩; exact ⟨_, rfl, hN _ hb⟩))
  refine okf (by simp only [Act.put, List.setIfInBounds_toArray, List.set_cons_succ, List.set_cons_zero]; exact rfl) ?_
  apply gy
  · exact rfl
  · (rintro v - N hN; go_simp; exact hN)
  refine okf (by simp only [Act.put, List.setIfInBounds_toArray, List.set_cons_succ, List.set_cons_zero]; exact rfl) ?_
  refine gend ?_
  rintro v ⟨hgu, hB1, hG1, -⟩
  clear hB hG
  have hB := hB1
  have hG := hG1
  clear hB1 hG1
  refine hL _ _ ?_
  clear hL L hgu
  obtain ⟨u, rfl⟩ : ∃ x, x = v := ⟨_, rfl⟩
  refine wpList_nil ?_
  refine NoK.norm (hN _ _ ?_)
  clear hN K
  refine then_norm ?_
  refine wp_seq ?_
  refine wp_rs (w := w) allocs 4 [0, 0, 0, 1] (by kernel_rfl) (by simp only [List.drop_succ_cons, List.drop_zero]; exact rfl) (fun _ => True) noG hB hG trivial ?_
  intro K L hN hL
  simp only [List.zip_cons_cons, List.zip_nil_left]
  apply gy
  · exact rfl
  · (rintro v - N hN; go_simp; exact hN)
  refine okf (by simp only [Act.put, List.setIfInBounds_toArray, List.set_cons_succ, List.set_cons_zero]; exact rfl) ?_
  apply gy
  · exact rfl
  · (rintro v ⟨hgu, hB, hG, -⟩ N hN; have r := hB.r; simp only [BxR] at r; go_simp; exact hN)
  refine okf (by simp only [Act.put, List.setIfInBounds_toArray, List.set_cons_succ, List.set_cons_zero]; exact rfl) ?_
  apply gy
  · exact rfl
  · (rintro v - N hN; go_simp; exact hN)
  refine okf (by simp only [Act.put, List.setIfInBounds_toArray, List.set_cons_succ, List.set_cons_zero]; exact rfl) ?_
  apply gm
  · exact rfl
  · (rintro v ⟨hgu, hB, hG, -⟩ N hN; go_simp; ((with_reducible refine (score_ratio _ _ (by omega) (by omega) (by omega) (by omega) _ (HT.grow hG)).mono ?_); rintro e w1 ⟨rfl, hb⟩; exact ⟨_, rfl, hN _ hb⟩))
  refine okf (by simp only [Act.put, List.setIfInBounds_toArray, List.set_cons_succ, List.set_cons_zero]; exact rfl) ?_
  refine gend ?_
  rintro v ⟨hgu, hB1, hG1, -⟩
  clear hB hG
  have hB := hB1
  have hG := hG1
  clear hB1 hG1
  refine hL _ _ ?_
  clear hL L hgu
  obtain ⟨u, rfl⟩ : ∃ x, x = v := ⟨_, rfl⟩
  have r := hB.r
  simp only [BxR] at r
  go_wp2_with fail
  clear r
  generalize hu0 : World.setCell (World.setCell (World.setCell (World.setCell (World.setCell u _ _) _ _) _ _) _ _) _ _ = u0
  have hBG := hB.over hF hG 2 rfl 0 [_, _, _, _, _] hu0
  clear hB hG hu0
  simp only [List.modify_succ_cons, List.modify_zero_cons, wrAll, List.setIfInBounds_toArray, List.set_cons_zero, List.set_cons_succ, Nat.zero_add, Nat.reduceAdd] at hBG
  obtain ⟨hB, hG⟩ := hBG
  clear u
  obtain ⟨u, rfl⟩ : ∃ x, x = u0 := ⟨_, rfl⟩
  refine NoK.norm (hN _ _ ?_)
  clear hN K
  refine then_norm ?_
  refine wp_ret ?_
  refine ret_b rfl ?_
  intro N hN
  have r := hB.r
  simp only [BxR] at r
  simp only [results, Tryz.results12]
  go_simp
  refine hN _ ?_
  clear hN N r
  exact ⟨rfl, hG⟩
theorem ret_qe {p q : Rat} {k : Int} (h : p = q) : Ending.returned (.tuple #[qV p, .int .i64 k]) = .returned (.tuple #[qV q, .int .i64 k]) := by rw [h]
set_option maxHeartbeats 1000000 in
set_option maxRecDepth 100000 in
theorem score_Right_no (A B : Option Addr) (m n c d : Nat) (h : pairedB m n = false) (w : World) :
    Calls Tryz.prog 12 #[.slice A m c, .slice B n d] w fun e w' => e = .returned (.tuple #[qV 0, .int .i64 5]) ∧ Grow w w' := by
  have hp : ∀ W, Calls Tryz.prog 57 #[.slice A m c, .slice B n d] W fun e w' => e = .returned (.bool false) ∧ Grow W w' := fun W => by
    have := score_paired_ii A B m n c d W
    rw [h] at this
    exact this
  have Hp := Lib.hid hp
  clear hp h
  go_enter Tryz.func12, Tryz.ntmps12
  refine wp_seq (wp_r0 ?_)
  intro K hN
  go_wp2_with fail
  generalize hu : World.alloc (World.alloc (World.alloc w _) _) _ = u
  obtain ⟨hB, hG⟩ := bx_first [(_, _), (_, _), (_, _)] w u hu
  have hF := fr_first w [(22, #[]), (22, #[]), (32, #[])]
  simp only [numbered, List.map_cons, List.map_nil] at hB hF
  clear hu
  generalize w.heap.size + 1 + 1 = b4 at hB hF ⊢
  generalize w.heap.size + 1 = b3 at hB hF ⊢
  generalize w.heap.size = b2 at hB hF ⊢
  refine NoK.norm (hN _ _ ?_)
  clear hN K
  refine then_norm ?_
  refine wp_seq ?_
  refine wp_seq ?_
  refine wp_rs (w := w) allocs 4 [0, 0, 1, 0] (by kernel_rfl) (by simp only [List.drop_succ_cons, List.drop_nil]; exact rfl) (fun _ => True) noG hB hG trivial ?_
  intro K L hN hL
  simp only [List.zip_cons_cons, List.zip_nil_left]
  apply gy
  · exact rfl
  · (rintro v ⟨hgu, hB, hG, -⟩ N hN; have r := hB.r; simp only [BxR] at r; go_simp; exact hN)
  refine okf (by simp only [Act.put, List.setIfInBounds_toArray, List.set_cons_succ, List.set_cons_zero]; exact rfl) ?_
  apply gy
  · exact rfl
  · (rintro v ⟨hgu, hB, hG, -⟩ N hN; have r := hB.r; simp only [BxR] at r; go_simp; exact hN)
  refine okf (by simp only [Act.put, List.setIfInBounds_toArray, List.set_cons_succ, List.set_cons_zero]; exact rfl) ?_
  apply gm
  · exact rfl
  · (rintro v ⟨hgu, hB, hG, -⟩ N hN; go_simp; ((with_reducible refine (Hp.out _).mono ?_); rintro e w1 ⟨rfl, hb⟩; exact ⟨_, rfl, hN _ hb⟩))
  refine okf (by simp only [Act.put, List.setIfInBounds_toArray, List.set_cons_succ, List.set_cons_zero]; exact rfl) ?_
  apply gy
  · exact rfl
  · (rintro v - N hN; go_simp; exact hN)
  refine okf (by simp only [Act.put, List.setIfInBounds_toArray, List.set_cons_succ, List.set_cons_zero]; exact rfl) ?_
  refine gend ?_
  rintro v ⟨hgu, hB1, hG1, -⟩
  clear hB hG
  have hB := hB1
  have hG := hG1
  clear hB1 hG1
  refine hL _ _ ?_
  clear hL L hgu
  obtain ⟨u, rfl⟩ : ∃ x, x = v := ⟨_, rfl⟩
  refine wpList_nil ?_
  refine NoK.norm (hN _ _ ?_)
  clear hN K
  refine then_norm ?_
  refine wp_cond_true (rfl) ?_
  refine wp_seq ?_
  refine wp_r0 ?_
  intro K hN
  have r := hB.r
  simp only [BxR] at r
  go_wp2_with fail
  clear r
  generalize hu0 : World.setCell (World.setCell (World.setCell (World.setCell (World.setCell u _ _) _ _) _ _) _ _) _ _ = u0
  have hBG := hB.over hF hG 2 rfl 0 [_, _, _, _, _] hu0
  clear hB hG hu0
  simp only [List.modify_succ_cons, List.modify_zero_cons, wrAll, List.setIfInBounds_toArray, List.set_cons_zero, List.set_cons_succ, Nat.zero_add, Nat.reduceAdd] at hBG
  obtain ⟨hB, hG⟩ := hBG
  clear u
  obtain ⟨u, rfl⟩ : ∃ x, x = u0 := ⟨_, rfl⟩
  refine NoK.norm (hN _ _ ?_)
  clear hN K
  refine then_norm ?_
  refine wp_ret ?_
  refine then_ret ?_
  refine ret_b rfl ?_
  intro N hN
  have r := hB.r
  simp only [BxR] at r
  simp only [results, Tryz.results12]
  go_simp
  refine hN _ ?_
  clear hN N r
  exact ⟨rfl, hG⟩
theorem li_new (w : World) (l : List Int) : Li (w.alloc (.cells (l.map fun x => Value.int .i64 x).toArray 3)) (some ⟨w.heap.size, 0, none⟩) l := fun _ =>
  ⟨w.heap.size, 0, rfl, by rw [alloc_size]; omega, fun i x hi => by
    rw [Nat.zero_add, Blk.cell (Blk.new w 3 _) i]
    simp [hi]⟩
theorem q23 : qs (qover 2 3) ≤ LIM := by decide
set_option maxHeartbeats 1000000 in
set_option maxRecDepth 100000 in
theorem law9_known (w : World) (HT : Tab w) : Calls Tryz.prog 16 #[] w fun e w' => e = .returned (.bool true) ∧ Grow w w' := by
  have hR : Calls Tryz.prog 12 #[.slice (some ⟨w.heap.size, 0, none⟩) 3 3, .slice (some ⟨w.heap.size + 1, 0, none⟩) 3 3] ((w.alloc (.cells #[.int .i64 0, .int .i64 1, .int .i64 1] 3)).alloc (.cells #[.int .i64 0, .int .i64 1, .int .i64 0] 3)) fun e w' => e = .returned (.tuple #[qV (qover 2 3), .int .i64 0]) ∧ Grow w w' := by
    have h1 := (li_new w [0, 1, 1]).grow (Grow.alloc _ (.cells #[.int .i64 0, .int .i64 1, .int .i64 0] 3))
    have h2 := li_new (w.alloc (.cells #[.int .i64 0, .int .i64 1, .int .i64 1] 3)) [0, 1, 0]
    rw [alloc_size] at h2
    refine (score_Right_ok _ _ 3 3 3 [0, 1, 1] [0, 1, 0] rfl rfl (by omega) (by omega) _ h1 h2 (HT.grow ((Grow.alloc _ _).trans (Grow.alloc _ _)))).mono fun e w' ⟨he, hg⟩ => ⟨he, ?_⟩
    exact (Grow.alloc _ _).trans ((Grow.alloc _ _).trans hg)
  have hI : ∀ W, Calls Tryz.prog 26 #[qV (qover 2 3), .int .i64 2, .int .i64 3] W fun e w' => e = .returned (.bool true) ∧ Grow W w' := fun W => hand_Is 2 3 (by omega) (by omega) (by omega) (by omega) (by omega) (sm32 (by omega) (by omega)) q23 W
  have HR := Lib.hid hR
  have HI := Lib.hid hI
  clear hR hI
  go_enter Tryz.func16, Tryz.ntmps16
  go_wp2_with (first
    | (go_at_call 12; ((with_reducible refine (HR.out).mono ?_); rintro e w1 ⟨rfl, hg1⟩))
    | (go_at_call 26; ((with_reducible refine (HI.out _).mono ?_); rintro e w2 ⟨rfl, hg2⟩)))
  go_ret
  exact ⟨rfl, hg1.trans ((Grow.alloc _ _).trans hg2)⟩
end Go.Proofs.YtimjnkfcnpfoeaaGreatDoor

/-
  How a law's statement is closed: what its arguments are, and what is owed behind the call.
-/
namespace Go.Proofs.YtimjnkfcnpfoeaaGreatDoor
open Go.ChangeShapes Go.WideShapes Go.ChangeAt Go.RowKit
theorem ownK : ownKnob Tryz.prog.godebug = none := by kernel_rfl
theorem laidOutP : laidOutB Tryz.prog = true := by kernel_rfl
theorem cellsT_int : Tryz.prog.cellsOf 3 = 1 := by kernel_rfl
theorem trodAll_below {H : Type} {enc : TypeId × Value → H} {W W' : World} (hb : Below W.heap.size W W') : ∀ {ts : List TypeId} {vs : List Value} {ds : List (DataW H)} {ps : List MemPlace}, (∀ t ∈ ts, Tryz.prog.readableRec t = true ∧ t < Tryz.prog.types.size) → (∀ x ∈ ps, x.block < W.heap.size) →
    DataW.TrodAll enc Tryz.prog W 0 (fun _ => true) true ts vs ds ps → DataW.TrodAll enc Tryz.prog W' 0 (fun b => decide (b < W.heap.size)) true ts vs ds ps
  | [], vs, ds, ps, _, _, h => by
    obtain ⟨rfl, rfl, rfl⟩ := trodAll_nil h
    exact trodAll_mk0
  | t :: ts, vs, ds, ps, ht, hlt, h => by
    obtain ⟨v, vs1, d, ds1, a, b, rfl, rfl, rfl, h1, h2⟩ := trodAll_cons h
    obtain ⟨r1, r2⟩ := ht t (by simp)
    exact ⟨a, b, Below.trod laidOutP r1 r2 h1 hb (fun x hx => hlt x (by simp [hx])), trodAll_below hb (fun t ht' => ht t (by simp [ht'])) (fun x hx => hlt x (by simp [hx])) h2, rfl⟩
/-- what a law owes behind its call -/
theorem law_post {H : Type} {enc : TypeId × Value → H} {f : Func} {s : ChangeSpec} {apart : Bool} {W W' : World} {args : Array Value} {ds gs : List (DataW H)} {before : List MemPlace}
    (hW : DataW.Whole enc Tryz.prog f.params.toList s.vars apart W args.toList ds gs before) (hv : s.vars = []) (hf1 : (s.fn H (ds ++ gs)).results = [.lit (.bool true)]) (hf2 : (s.fn H (ds ++ gs)).args = ds) (hf3 : (s.fn H (ds ++ gs)).vars = []) (hr : f.resultTypes = #[4])
    (hp : ∀ t ∈ f.params.toList, Tryz.prog.readableRec t = true ∧ t < Tryz.prog.types.size) (hb : Below W.heap.size W W') : s.post enc Tryz.prog f apart true false false W args (.bool true) W' := by
  have hlt := hW.lt
  have hW2 := hW
  obtain ⟨p, q, hA, hV, rfl, hz, hn⟩ := hW
  refine ⟨ds, gs, p ++ q, [], p, [], hW2, ?_, ?_, ?_, ?_, fun h => by cases h⟩
  · rw [hf1, hr]
    exact trodAll_cons_mk (shut_bool Tryz.underlying4 _) trodAll_mk0
  · rw [hf2]
    exact trodAll_below hb hp (fun x hx => hlt x (by simp [hx])) hA
  · rw [hf3, hv]
    rfl
  · exact hb.frame _
set_option maxRecDepth 100000 in
/-- an argument that is a slice of integers -/
theorem arg_ints {H : Type} {enc : TypeId × Value → H} {W : World} {base : Nat} {v : Value} {d : DataW H} {p : List MemPlace} (hval : Value.okWide Tryz.prog W .any base 22 v) (h : DataW.Trod enc Tryz.prog W 0 (fun _ => true) true 22 v d p) :
    ∃ (A : Option Addr) (l : List Int) (c : Nat), v = .slice A l.length c ∧ Li W A l ∧ l.length ≤ 9223372036854775807 ∧ ∀ x ∈ l, -9223372036854775808 ≤ x ∧ x ≤ 9223372036854775807 := by
  obtain ⟨a0, len, cap, rfl⟩ := okWide_slice Tryz.underlying22 hval
  obtain ⟨fuel, hf⟩ := h
  rcases open_ints Tryz.underlying22 Tryz.underlying3 cellsT_int hf with ⟨hcs, hx⟩ | ⟨a, len', cap', zs, hcs, _, hl, hm, hz, hx, hcell, hwz⟩
  · simp [Value.cells] at hcs
    obtain ⟨rfl, rfl, rfl⟩ := hcs
    exact ⟨none, [], 0, rfl, Li.nil _ _, by simp, fun x hx => by cases hx⟩
  · simp [Value.cells] at hcs
    obtain ⟨rfl, rfl, rfl⟩ := hcs
    simp only [if_true] at hz
    have hlen : (zs.take len).length = len := by simp; omega
    refine ⟨some a, zs.take len, cap, by rw [hlen], fun hne => ?_, by rw [hlen]; unfold maxLen at hm; omega, fun x hx => bounds_i64 (hwz x (List.mem_of_mem_take hx))⟩
    have h0 : 0 < zs.length := by
      have : 0 < (zs.take len).length := List.length_pos_iff.2 hne
      omega
    obtain ⟨b, off, rfl, hc⟩ := ints_at hcell h0
    have hb : b < W.heap.size := World.block_lt_of_cell? W _ (hc 0 h0)
    refine ⟨b, off, rfl, hb, fun i x hi => ?_⟩
    have hi2 : i < (zs.take len).length := (List.getElem?_eq_some_iff.1 hi).1
    have hi3 : zs[i]? = some x := by
      rw [List.getElem?_take] at hi
      split at hi
      · exact hi
      · cases hi
    rw [hc i (by rw [hlen] at hi2; omega)]
    simp [List.getD, hi3]
/-- the table of the program's bits -/
def tab64L : List Int := [0, 1, 56, 2, 57, 49, 28, 3, 61, 58, 42, 50, 38, 29, 17, 4, 62, 47, 59, 36, 45, 43, 51, 22, 53, 39, 33, 30, 24, 18, 12, 5, 63, 55, 48, 27, 60, 41, 37, 16, 46, 35, 44, 21, 52, 32, 23, 11, 54, 26, 40, 15, 34, 20, 31, 10, 25, 14, 19, 9, 13, 8, 7, 6]
theorem tab64_same : ∀ j, j < 64 → tab64L.getD j 0 = ((Lib.deBruijn64tab.getD j 0 : Nat) : Int) := by decide
theorem tab64_type : (Tryz.prog.globals[2]?).map (·.type) = some 241 := by kernel_rfl
theorem tab64_cells : Tryz.prog.cellsOf 241 = 64 := by kernel_rfl
theorem tab64_cell : Tryz.prog.cellsOf 5 = 1 := by kernel_rfl
/-- the row's list gives the table -/
theorem tab_laid {W : World} {name : String} (hg : Tryz.prog.globalNamed name = some 2) (h : laidMetH Tryz.prog [(name, Lib.tabData .u8 tab64L)] W) : Tab W := fun j hj => by
  have h1 := (Lib.tabIs_of_head (rest := []) hg tab64_type Tryz.underlying241 Tryz.underlying5 tab64_cell tab64_cells h).cell hg j (by show j < 64; exact hj)
  rw [tab64_same j hj] at h1
  exact h1
/-- the settled world, the table holding what its initialiser lays -/
noncomputable def laidWorld (os : Os) : World :=
  { World.holding Tryz.prog os ⟨#[], #[], []⟩ with heap := (World.holding Tryz.prog os ⟨#[], #[], []⟩).heap.modify 2 fun
      | .cells _ t frozen => .cells (tab64L.map fun x => Value.int .u8 x).toArray t frozen
      | o => o }
end Go.Proofs.YtimjnkfcnpfoeaaGreatDoor

/-
  score.Table.
-/
namespace Go.Proofs.YtimjnkfcnpfoeaaGreatDoor
open Go.RowKit

abbrev Rw := Option Addr × Nat × List Int
/-- slices of integers that lie from the address on -/
def Lrows (u : World) (A : Option Addr) (rs : List Rw) : Prop :=
  rs ≠ [] → ∃ b off, A = some ⟨b, off, none⟩ ∧ b < u.heap.size ∧ ∀ i r, rs[i]? = some r → u.cell? ⟨b, off + i, none⟩ = some (.slice r.1 r.2.2.length r.2.1) ∧ Li u r.1 r.2.2
theorem Lrows.grow {u u' : World} {A : Option Addr} {rs : List Rw} (h : Lrows u A rs) (hg : Grow u u') : Lrows u' A rs := fun hn => by
  obtain ⟨b, off, e, hb, hc⟩ := h hn
  exact ⟨b, off, e, Nat.lt_of_lt_of_le hb hg.size, fun i r hi => ⟨(hg.cell (p := ⟨b, off + i, none⟩) hb).trans (hc i r hi).1, (hc i r hi).2.grow hg⟩⟩
def cellsI (l : List Int) : Array Value := (l.map fun x => Value.int .i64 x).toArray
theorem cellsI_get (l : List Int) (i : Nat) : (cellsI l)[i]? = (l[i]?).map fun x => Value.int .i64 x := by
  unfold cellsI; simp
theorem cellsI_set (l : List Int) (i : Nat) (y : Int) : (cellsI l).setIfInBounds i (.int .i64 y) = cellsI (l.set i y) := by
  unfold cellsI
  rw [List.setIfInBounds_toArray, List.map_set]
theorem li_blk {u : World} {b : Nat} {l : List Int} (h : Blk u b 3 (cellsI l)) : Li u (some ⟨b, 0, none⟩) l := fun _ =>
  ⟨b, 0, rfl, h.lt, fun i x hi => by rw [Nat.zero_add, h.cell, cellsI_get, hi]; rfl⟩
theorem info_int : (Tryz.prog.info? 3).map (fun i => (i.zero, i.size, i.bytes)) = some (some (.int .i64 0), 1, 8) := by kernel_rfl
theorem cells_madeI (n : Nat) : madeCells (Value.int .i64 0).cells (n * 1) = cellsI (List.replicate n 0) := by
  unfold cellsI madeCells
  refine Array.ext (by simp) fun i h1 h2 => ?_
  simp [Value.cells, Nat.mod_one]
theorem make_int (n : Nat) (hn : n ≤ 1099511627776) (x : Int) (hx : x = n) (W : World) : (Instr.makeSlice 22 (.int .i64 x) (.int .i64 x)).run Tryz.prog W =
    .ok (.slice (some ⟨W.heap.size, 0, none⟩) n n) (W.alloc (.cells (cellsI (List.replicate n 0)) 3)) := by
  obtain ⟨i0, hi0, hz0, hz1, hz2⟩ := info_parts info_int
  have hr := run_make (P := Tryz.prog) W 22 3 i0 (.int .i64 0) Tryz.underlying22 hi0 hz0 .i64 .i64 n n (by omega) (by omega) (by rw [hz2]; omega) (by omega)
  rw [hx]
  rw [hr, hz1]
  simp only [Int.toNat_natCast]
  rw [cells_madeI]
def cellsS (l : List Value) : Array Value := l.toArray
theorem info_Sint : (Tryz.prog.info? 22).map (fun i => (i.zero, i.size, i.bytes)) = some (some (.slice none 0 0), 1, 24) := by kernel_rfl
theorem cells_madeS (n : Nat) : madeCells (Value.slice none 0 0).cells (n * 1) = cellsS (List.replicate n (.slice none 0 0)) := by
  unfold cellsS madeCells
  refine Array.ext (by simp) fun i h1 h2 => ?_
  simp [Value.cells, Nat.mod_one]
theorem make_Sint (n : Nat) (hn : n ≤ 1099511627776) (x : Int) (hx : x = n) (W : World) : (Instr.makeSlice 23 (.int .i64 x) (.int .i64 x)).run Tryz.prog W =
    .ok (.slice (some ⟨W.heap.size, 0, none⟩) n n) (W.alloc (.cells (cellsS (List.replicate n (.slice none 0 0))) 22)) := by
  obtain ⟨i0, hi0, hz0, hz1, hz2⟩ := info_parts info_Sint
  have hr := run_make (P := Tryz.prog) W 23 22 i0 (.slice none 0 0) Tryz.underlying23 hi0 hz0 .i64 .i64 n n (by omega) (by omega) (by rw [hz2]; omega) (by omega)
  rw [hx]
  rw [hr, hz1]
  simp only [Int.toNat_natCast]
  rw [cells_madeS]
/-- the table's entry after r rows -/
def tabAt (l l' : List Int) (r i j : Nat) : Int := (cnt (fun s => gi l s == (i : Int) && gi l' s == (j : Int)) r : Nat)
def tabRow (l l' : List Int) (r k i : Nat) : List Int := (List.range k).map (tabAt l l' r i)
theorem tabRow_zero (l l' : List Int) (k i : Nat) : tabRow l l' 0 k i = List.replicate k 0 := by
  unfold tabRow
  refine List.ext_getElem (by simp) fun j h1 h2 => ?_
  simp [tabAt, cnt]
theorem tabRow_get (l l' : List Int) (r k i : Nat) {j : Nat} (h : j < k) : (tabRow l l' r k i)[j]? = some (tabAt l l' r i j) := by
  unfold tabRow; simp [h]
theorem tabAt_succ (l l' : List Int) (r i j : Nat) : tabAt l l' (r + 1) i j = tabAt l l' r i j + if gi l r = (i : Int) ∧ gi l' r = (j : Int) then 1 else 0 := by
  unfold tabAt
  simp only [cnt]
  by_cases h : gi l r = (i : Int) ∧ gi l' r = (j : Int)
  · rw [if_pos h, if_pos (by simp [h.1, h.2])]; omega
  · rw [if_neg h, if_neg (by simpa using h)]; omega
theorem tabAt_le (l l' : List Int) (r i j : Nat) : 0 ≤ tabAt l l' r i j ∧ tabAt l l' r i j ≤ r := by
  unfold tabAt; have := cnt_le (fun s => gi l s == (i : Int) && gi l' s == (j : Int)) r; omega
theorem tabRow_hit (l l' : List Int) (r k i j : Nat) (h1 : gi l r = (i : Int)) (h2 : gi l' r = (j : Int)) : (tabRow l l' r k i).set j (tabAt l l' r i j + 1) = tabRow l l' (r + 1) k i := by
  unfold tabRow
  refine List.ext_getElem (by simp) fun t g1 g2 => ?_
  rw [List.getElem_set]
  simp only [List.getElem_map, List.getElem_range, tabAt_succ, h1, h2, true_and]
  by_cases e : j = t
  · subst e; simp
  · rw [if_neg e, if_neg (by omega)]; omega
theorem tabRow_miss (l l' : List Int) (r k i : Nat) (h1 : gi l r ≠ (i : Int)) : tabRow l l' r k i = tabRow l l' (r + 1) k i := by
  unfold tabRow
  refine List.map_congr_left fun t _ => ?_
  rw [tabAt_succ, if_neg (fun h => h1 h.1)]
  omega
end Go.Proofs.YtimjnkfcnpfoeaaGreatDoor

/-
  score.Table where all is well.
-/
namespace Go.Proofs.YtimjnkfcnpfoeaaGreatDoor
open Go.RowKit
def rowPtr (B0 k i : Nat) : Value := .slice (some ⟨B0 + 1 + i, 0, none⟩) k k
def outTo (B0 k i : Nat) : List Value := (List.range i).map (rowPtr B0 k) ++ List.replicate (k - i) (.slice none 0 0)
theorem outTo_get (B0 k : Nat) {i : Nat} (h : i < k) : (outTo B0 k i)[i]? = some (.slice none 0 0) := by
  unfold outTo
  rw [List.getElem?_append_right (by simp), List.getElem?_replicate, if_pos (by simp; omega)]
theorem outTo_set (B0 k : Nat) {i : Nat} (h : i < k) : (outTo B0 k i).set i (rowPtr B0 k i) = outTo B0 k (i + 1) := by
  unfold outTo
  rw [List.set_append_right _ _ (by simp), List.length_map, List.length_range, Nat.sub_self]
  obtain ⟨m, hm⟩ : ∃ m, k - i = m + 1 := ⟨k - i - 1, by omega⟩
  rw [hm, show k - (i + 1) = m by omega, List.range_succ, List.map_append, List.append_assoc]
  rfl
theorem outTo_full (B0 k : Nat) {i : Nat} (h : i < k) : (outTo B0 k k)[i]? = some (rowPtr B0 k i) := by
  unfold outTo; simp [h]
theorem cellsS_get (l : List Value) (i : Nat) : (cellsS l)[i]? = l[i]? := by unfold cellsS; simp
theorem cellsS_set (l : List Value) (i : Nat) (v : Value) : (cellsS l).setIfInBounds i v = cellsS (l.set i v) := by
  unfold cellsS; rw [List.setIfInBounds_toArray]
/-- the table's rows while it is made -/
def Made (B0 k i : Nat) (wr : World) : Prop := wr.heap.size = B0 + 1 + i ∧ Blk wr B0 22 (cellsS (outTo B0 k i)) ∧ ∀ j, j < i → Blk wr (B0 + 1 + j) 3 (cellsI (List.replicate k 0))
def Tabd (B0 k : Nat) (l l' : List Int) (r : Nat) (wr : World) : Prop := Blk wr B0 22 (cellsS (outTo B0 k k)) ∧ ∀ j, j < k → Blk wr (B0 + 1 + j) 3 (cellsI (tabRow l l' r k j))
theorem setCell_size (u : World) (p : Addr) (v : Value) : (u.setCell p v).heap.size = u.heap.size := by simp [World.setCell]
theorem Made.next {B0 k i : Nat} {wr : World} (h : Made B0 k i wr) (hi : i < k) : Made B0 k (i + 1) ((wr.setCell ⟨B0, i, none⟩ (.slice (some ⟨wr.heap.size, 0, none⟩) k k)).alloc (.cells (cellsI (List.replicate k 0)) 3)) := by
  obtain ⟨h1, h2, h3⟩ := h
  refine ⟨by rw [alloc_size, setCell_size, h1]; omega, ?_, fun j hj => ?_⟩
  · have := h2.set_ i (.slice (some ⟨wr.heap.size, 0, none⟩) k k)
    rw [cellsS_set, h1, show (Value.slice (some ⟨B0 + 1 + i, 0, none⟩) k k) = rowPtr B0 k i from rfl, outTo_set B0 k hi] at this
    rw [h1]
    exact this.grow (Grow.alloc _ _)
  · rcases Nat.lt_or_ge j i with hlt | hge
    · exact ((h3 j hlt).far (p := ⟨B0, i, none⟩) (by show B0 + 1 + j ≠ B0; omega) _).grow (Grow.alloc _ _)
    · obtain rfl : j = i := by omega
      have := Blk.new (wr.setCell ⟨B0, j, none⟩ (.slice (some ⟨wr.heap.size, 0, none⟩) k k)) 3 (cellsI (List.replicate k 0))
      rw [setCell_size, h1] at this
      rw [h1]
      exact this
theorem Tabd.next {B0 k : Nat} {l l' : List Int} {r : Nat} {wr : World} (h : Tabd B0 k l l' r wr) {p q : Nat} (hp : gi l r = (p : Int)) (hq : gi l' r = (q : Int)) (hpk : p < k) :
    Tabd B0 k l l' (r + 1) (wr.setCell ⟨B0 + 1 + p, q, none⟩ (.int .i64 (tabAt l l' r p q + 1))) := by
  refine ⟨h.1.far (p := ⟨B0 + 1 + p, q, none⟩) (by show B0 ≠ B0 + 1 + p; omega) _, fun j hj => ?_⟩
  by_cases e : j = p
  · subst e
    have := (h.2 j hj).set_ q (.int .i64 (tabAt l l' r j q + 1))
    rw [cellsI_set, tabRow_hit l l' r k j q hp hq] at this
    exact this
  · rw [← tabRow_miss l l' r k j (by rw [hp]; omega)]
    exact (h.2 j hj).far (p := ⟨B0 + 1 + p, q, none⟩) (by show B0 + 1 + j ≠ B0 + 1 + p; omega) _
def tabRows (B0 k : Nat) (l l' : List Int) (m : Nat) : List Rw := (List.range k).map fun i => (some ⟨B0 + 1 + i, 0, none⟩, k, tabRow l l' m k i)
theorem Tabd.rows {B0 k : Nat} {l l' : List Int} {m : Nat} {wr : World} (h : Tabd B0 k l l' m wr) : Lrows wr (some ⟨B0, 0, none⟩) (tabRows B0 k l l' m) := fun _ =>
  ⟨B0, 0, rfl, h.1.lt, fun i r hi => by
    unfold tabRows at hi
    rw [List.getElem?_map, Option.map_eq_some_iff] at hi
    obtain ⟨j, hj, rfl⟩ := hi
    rw [List.getElem?_eq_some_iff] at hj
    obtain ⟨hj1, hj2⟩ := hj
    simp only [List.length_range] at hj1
    simp only [List.getElem_range] at hj2
    subst hj2
    refine ⟨?_, li_blk (h.2 i hj1)⟩
    rw [Nat.zero_add, h.1.cell, cellsS_get, outTo_full B0 k hj1]
    simp [rowPtr, tabRow]⟩
set_option maxHeartbeats 2000000 in
set_option maxRecDepth 100000 in
theorem score_Table_ok (A B : Option Addr) (m c d k : Nat) (l l' : List Int) (hl : l.length = m) (hl' : l'.length = m) (hm0 : 0 < m) (hm : m ≤ 1099511627776) (hk1 : 1 ≤ k) (hk2 : k ≤ 12)
    (hr : ∀ i, i < m → (0 ≤ gi l i ∧ gi l i < k) ∧ 0 ≤ gi l' i ∧ gi l' i < k) (w : World) (h1 : Li w A l) (h2 : Li w B l') :
    Calls Tryz.prog 14 #[.slice A m c, .slice B m d, .int .i64 k] w fun e w' => ∃ B0 : Nat, w.heap.size ≤ B0 ∧ e = .returned (.tuple #[.slice (some ⟨B0, 0, none⟩) k k, .int .i64 0]) ∧ Lrows w' (some ⟨B0, 0, none⟩) (tabRows B0 k l l' m) ∧ Grow w w' := by
  have hp : ∀ W, Calls Tryz.prog 57 #[.slice A m c, .slice B m d] W fun e w' => e = .returned (.bool true) ∧ Grow W w' := fun W => by
    have := score_paired_ii A B m m c d W
    rw [show pairedB m m = true by unfold pairedB; simp [hm0]] at this
    exact this
  have Hp := Lib.hid hp
  have H1 := Lib.hid h1
  have H2 := Lib.hid h2
  have Hr := Lib.hid hr
  have Hl := Lib.hid hl
  have Hl' := Lib.hid hl'
  have hmk1 := make_Sint k (by omega) (k : Int) rfl
  have hmk2 := make_int k (by omega) (k : Int) rfl
  clear hp h1 h2 hr hl hl'
  go_enter Tryz.func14, Tryz.ntmps14
  go_wp2_with (go_at_call 57; ((with_reducible refine (Hp.out _).mono ?_); rintro e w1 ⟨rfl, hg1⟩))
  clear hmk1
  obtain ⟨B0, hB0⟩ : ∃ b, b = w1.heap.size := ⟨_, rfl⟩
  rw [← hB0]
  have hw1 := hg1.size
  have hst : Made B0 k 0 (w1.alloc (.cells (cellsS (List.replicate k (.slice none 0 0))) 22)) := ⟨by rw [alloc_size, hB0], by rw [hB0]; unfold outTo; exact Blk.new w1 22 _, fun j hj => by omega⟩
  have Hst := Lib.hid hst
  have hB : w.heap.size ≤ B0 := by rw [hB0]; exact hw1
  clear hst hB0
  go_loopw [27] (fun s wr => ∃ i : Nat, i ≤ k ∧ s = .int .i64 i ∧ Made B0 k i wr ∧ Grow w wr) (fun s _ => k - (intOf s).toNat)
  case atStart => exact ⟨0, Nat.zero_le _, rfl, Hst.out, hg1.trans (Grow.alloc _ _)⟩
  case round =>
    obtain ⟨i, hi, rfl, hM, hG⟩ := hrel
    have HM := Lib.hid hM
    clear hM
    rcases Nat.lt_or_ge i k with hlt | hge
    · have hc := HM.out.2.1.cell i
      have hf := HM.out.2.1.frozen i
      have hz := HM.out.1
      rw [cellsS_get, outTo_get B0 k hlt] at hc
      have hBl : B0 < wr.heap.size := by omega
      clear hz
      go_wp2_with fail
      go_roundw
      case rel => exact ⟨i + 1, by omega, by go_num, HM.out.next hlt, (hG.setCell (p := ⟨B0, i, none⟩) hB _).trans (Grow.alloc _ _)⟩
      case measure => simp [intOf]; omega
    · obtain rfl : i = k := by omega
      have hT : Tabd B0 i l l' 0 wr := ⟨HM.out.2.1, fun j hj => by rw [tabRow_zero]; exact HM.out.2.2 j hj⟩
      have HT := Lib.hid hT
      clear hT
      go_wp2_with fail
      obtain ⟨wo, rfl⟩ : ∃ wo : World, wo = wr := ⟨_, rfl⟩
      go_loopw [38] (fun s wr => ∃ r : Nat, r ≤ m ∧ s = .int .i64 r ∧ Tabd B0 i l l' r wr ∧ Grow w wr) (fun s _ => m - (intOf s).toNat)
      case atStart => exact ⟨0, Nat.zero_le _, rfl, HT.out, hG⟩
      case round =>
        obtain ⟨r, hr, rfl, hT, hG⟩ := hrel
        have HT := Lib.hid hT
        clear hT
        rcases Nat.lt_or_ge r m with hlt | hge
        · obtain ⟨⟨a1, a2⟩, a3, a4⟩ := Hr.out r hlt
          obtain ⟨b1, o1, rfl, hc1⟩ := (H1.out.grow hG).cell (i := r) (by rw [Hl.out]; exact hlt)
          obtain ⟨b2, o2, rfl, hc2⟩ := (H2.out.grow hG).cell (i := r) (by rw [Hl'.out]; exact hlt)
          obtain ⟨p, hp⟩ : ∃ p : Nat, gi l r = (p : Int) := ⟨(gi l r).toNat, by omega⟩
          obtain ⟨q, hq⟩ : ∃ q : Nat, gi l' r = (q : Int) := ⟨(gi l' r).toNat, by omega⟩
          rw [hp] at hc1 a1 a2
          rw [hq] at hc2 a3 a4
          have hc3 := HT.out.1.cell p
          rw [cellsS_get, outTo_full B0 i (by omega)] at hc3
          have hc4 := (HT.out.2 p (by omega)).cell q
          rw [cellsI_get, tabRow_get l l' r i p (by omega)] at hc4
          have hf4 := (HT.out.2 p (by omega)).frozen q
          simp only [Option.map_some, rowPtr] at hc3 hc4
          have hb := tabAt_le l l' r p q
          have hnx := HT.out.next hp hq (by omega)
          obtain ⟨v, hv⟩ : ∃ v, v = tabAt l l' r p q := ⟨_, rfl⟩
          rw [← hv] at hc4 hb hnx
          have Hnx := Lib.hid hnx
          have Hp := Lib.hid hp
          have Hq := Lib.hid hq
          clear hp hq hnx hv a1 a3
          have hpi : (p : Int) < (i : Int) := by omega
          have hqi : (q : Int) < (i : Int) := by omega
          have hmin : ¬ (min (p : Int) (q : Int) < 0) := by omega
          have hmax : ¬ ((i : Int) ≤ max (p : Int) (q : Int)) := by omega
          go_wp2_with fail
          go_roundw
          case rel => exact ⟨r + 1, by omega, by go_num, Hnx.out, hG.setCell (p := ⟨B0 + 1 + p, q, none⟩) (by show _ ≤ B0 + 1 + p; omega) _⟩
          case measure => simp [intOf]; omega
        · obtain rfl : r = m := by omega
          go_wp2_with fail
          go_ret2
          exact ⟨B0, hB, rfl, HT.out.rows, hG⟩
end Go.Proofs.YtimjnkfcnpfoeaaGreatDoor

/-
  score.Rates: the plain sums.
-/
namespace Go.Proofs.YtimjnkfcnpfoeaaGreatDoor

def sumTo (f : Nat → Int) : Nat → Int
  | 0 => 0
  | n + 1 => sumTo f n + f n
theorem sumTo_nonneg {f : Nat → Int} {n : Nat} (h : ∀ i, i < n → 0 ≤ f i) : 0 ≤ sumTo f n := by
  induction n with
  | zero => exact Int.le_refl _
  | succ n ih => simp only [sumTo]; have := h n (by omega); have := ih fun i hi => h i (by omega); omega
theorem sumTo_mono {f : Nat → Int} {m n : Nat} (hmn : m ≤ n) (h : ∀ i, i < n → 0 ≤ f i) : sumTo f m ≤ sumTo f n := by
  induction n with
  | zero => obtain rfl : m = 0 := by omega
            exact Int.le_refl _
  | succ n ih =>
    by_cases e : m = n + 1
    · subst e; exact Int.le_refl _
    · simp only [sumTo]; have := h n (by omega); have := ih (by omega) fun i hi => h i (by omega); omega
theorem sumTo_congr {f g : Nat → Int} {n : Nat} (h : ∀ i, i < n → f i = g i) : sumTo f n = sumTo g n := by
  induction n with
  | zero => rfl
  | succ n ih => simp only [sumTo]; rw [ih fun i hi => h i (by omega), h n (by omega)]
theorem sumTo_add (f g : Nat → Int) (n : Nat) : sumTo (fun i => f i + g i) n = sumTo f n + sumTo g n := by
  induction n with
  | zero => rfl
  | succ n ih => simp only [sumTo]; rw [ih]; omega
theorem sumTo_swap (f : Nat → Nat → Int) (m n : Nat) : sumTo (fun i => sumTo (f i) n) m = sumTo (fun j => sumTo (fun i => f i j) m) n := by
  induction m with
  | zero =>
    have : sumTo (fun _ => (0 : Int)) n = 0 := by induction n with
      | zero => rfl
      | succ n ih => simp only [sumTo]; omega
    simp only [sumTo]; rw [this]
  | succ m ih => simp only [sumTo]; rw [ih, ← sumTo_add]
theorem le_sumTo {f : Nat → Int} {n i : Nat} (hi : i < n) (h : ∀ i, i < n → 0 ≤ f i) : f i ≤ sumTo f n := by
  have h1 := sumTo_mono (m := i + 1) (n := n) (by omega) h
  have h2 := sumTo_nonneg (f := f) (n := i) fun j hj => h j (by omega)
  simp only [sumTo] at h1
  omega
/-- the rows' and the columns' sums while they are made: i rows are done, j entries of the next -/
def rowL (k : Nat) (T : Nat → Nat → Int) (i j : Nat) : List Int := (List.range k).map fun a => if a < i then sumTo (T a) k else if a = i then sumTo (T i) j else 0
def colL (k : Nat) (T : Nat → Nat → Int) (i j : Nat) : List Int := (List.range k).map fun t => sumTo (fun a => T a t) i + if t < j then T i t else 0
def allS (k : Nat) (T : Nat → Nat → Int) (i j : Nat) : Int := sumTo (fun a => sumTo (T a) k) i + sumTo (T i) j
section
variable {k : Nat} {T : Nat → Nat → Int} {i j : Nat}
theorem rowL_get (hi : i < k) : (rowL k T i j)[i]? = some (sumTo (T i) j) := by unfold rowL; simp [hi]
theorem rowL_set (hi : i < k) : (rowL k T i j).set i (sumTo (T i) j + T i j) = rowL k T i (j + 1) := by
  unfold rowL
  refine List.ext_getElem (by simp) fun t h1 h2 => ?_
  rw [List.getElem_set]
  simp only [List.getElem_map, List.getElem_range]
  by_cases e : i = t
  · subst e; simp [sumTo]
  · rw [if_neg e, if_neg (show ¬ t = i by omega), if_neg (show ¬ t = i by omega)]
theorem rowL_next (hi : i < k) : rowL k T i k = rowL k T (i + 1) 0 := by
  unfold rowL
  refine List.map_congr_left fun t ht => ?_
  rcases Nat.lt_trichotomy t i with h | h | h
  · rw [if_pos h, if_pos (by omega)]
  · subst h; simp
  · rw [if_neg (by omega), if_neg (by omega), if_neg (by omega)]
    split <;> rfl
theorem rowL_start : rowL k T 0 0 = List.replicate k 0 := by
  unfold rowL
  refine List.ext_getElem (by simp) fun t h1 h2 => ?_
  simp [sumTo]
theorem rowL_end (hi : i < k) : (rowL k T k 0)[i]? = some (sumTo (T i) k) := by unfold rowL; simp [hi]
theorem colL_get (hj : j < k) : (colL k T i j)[j]? = some (sumTo (fun a => T a j) i) := by unfold colL; simp [hj]
theorem colL_set (hj : j < k) : (colL k T i j).set j (sumTo (fun a => T a j) i + T i j) = colL k T i (j + 1) := by
  unfold colL
  refine List.ext_getElem (by simp) fun t h1 h2 => ?_
  rw [List.getElem_set]
  simp only [List.getElem_map, List.getElem_range]
  by_cases e : j = t
  · subst e; simp
  · rw [if_neg e]
    by_cases h : t < j
    · rw [if_pos h, if_pos (by omega)]
    · rw [if_neg h, if_neg (by omega)]
theorem colL_next : colL k T i k = colL k T (i + 1) 0 := by
  unfold colL
  refine List.map_congr_left fun t ht => ?_
  rw [if_pos (List.mem_range.1 ht)]
  simp [sumTo]
theorem colL_start : colL k T 0 0 = List.replicate k 0 := by
  unfold colL
  refine List.ext_getElem (by simp) fun t h1 h2 => ?_
  simp [sumTo]
theorem colL_end (hi : i < k) : (colL k T k 0)[i]? = some (sumTo (fun a => T a i) k) := by unfold colL; simp [hi]
theorem allS_succ : allS k T i (j + 1) = allS k T i j + T i j := by unfold allS; simp only [sumTo]; omega
theorem allS_next : allS k T i k = allS k T (i + 1) 0 := by unfold allS; simp only [sumTo]; omega
theorem rowL_len : (rowL k T i j).length = k := by unfold rowL; simp
theorem colL_len : (colL k T i j).length = k := by unfold colL; simp
theorem allS_le (hT : ∀ a, a < k → ∀ t, t < k → 0 ≤ T a t) (hi : i < k) (hj : j < k) : 0 ≤ allS k T i j ∧ allS k T i j + T i j ≤ sumTo (fun a => sumTo (T a) k) k ∧ 0 ≤ T i j := by
  have h0 : ∀ a, a < k → 0 ≤ sumTo (T a) k := fun a ha => sumTo_nonneg (hT a ha)
  have h1 := sumTo_mono (f := fun a => sumTo (T a) k) (m := i + 1) (n := k) (by omega) h0
  have h2 := sumTo_mono (f := T i) (m := j + 1) (n := k) (by omega) (hT i hi)
  have h3 := sumTo_nonneg (f := fun a => sumTo (T a) k) (n := i) fun a ha => h0 a (by omega)
  have h4 := sumTo_nonneg (f := T i) (n := j) fun t ht => hT i hi t (by omega)
  simp only [sumTo] at h1 h2
  unfold allS
  exact ⟨by omega, by omega, hT i hi j hj⟩
theorem row_le (hT : ∀ a, a < k → ∀ t, t < k → 0 ≤ T a t) (hi : i < k) (n : Nat) (hn : n ≤ k) : 0 ≤ sumTo (T i) n ∧ sumTo (T i) n ≤ sumTo (fun a => sumTo (T a) k) k := by
  have h0 : ∀ a, a < k → 0 ≤ sumTo (T a) k := fun a ha => sumTo_nonneg (hT a ha)
  have h1 := sumTo_mono (f := T i) (m := n) (n := k) hn (hT i hi)
  have h2 := le_sumTo (f := fun a => sumTo (T a) k) hi h0
  exact ⟨sumTo_nonneg fun t ht => hT i hi t (by omega), Int.le_trans h1 h2⟩
theorem col_le (hT : ∀ a, a < k → ∀ t, t < k → 0 ≤ T a t) (hj : j < k) (n : Nat) (hn : n ≤ k) : 0 ≤ sumTo (fun a => T a j) n ∧ sumTo (fun a => T a j) n ≤ sumTo (fun a => sumTo (T a) k) k := by
  rw [sumTo_swap]
  exact row_le (T := fun j a => T a j) (fun a ha t ht => hT t ht a ha) hj n hn
end
end Go.Proofs.YtimjnkfcnpfoeaaGreatDoor

/-
  score.Rates where all is well.
-/
namespace Go.Proofs.YtimjnkfcnpfoeaaGreatDoor
open Go.RowKit

/-- a square table that lies in memory -/
def Tb (w : World) (bt ot k : Nat) (rb ro rc : Nat → Nat) (T : Nat → Nat → Int) : Prop :=
  bt < w.heap.size ∧ ∀ i, i < k → w.cell? ⟨bt, ot + i, none⟩ = some (.slice (some ⟨rb i, ro i, none⟩) k (rc i)) ∧ rb i < w.heap.size ∧ ∀ j, j < k → w.cell? ⟨rb i, ro i + j, none⟩ = some (.int .i64 (T i j))
theorem Tb.grow {w u : World} {bt ot k : Nat} {rb ro rc : Nat → Nat} {T : Nat → Nat → Int} (h : Tb w bt ot k rb ro rc T) (hg : Grow w u) : Tb u bt ot k rb ro rc T :=
  ⟨Nat.lt_of_lt_of_le h.1 hg.size, fun i hi => ⟨(hg.cell (p := ⟨bt, ot + i, none⟩) h.1).trans (h.2 i hi).1, Nat.lt_of_lt_of_le (h.2 i hi).2.1 hg.size, fun j hj => (hg.cell (p := ⟨rb i, ro i + j, none⟩) (h.2 i hi).2.1).trans ((h.2 i hi).2.2 j hj)⟩⟩
/-- the cells of a fraction, of a rate -/
def qL (q : Rat) : List Value := [.bool (intNeg q.num), .int .u64 (natLo q.num.natAbs), .string (natMo q.num.natAbs), .int .u64 (natLo (keptDen q.den)), .string (natMo (keptDen q.den))]
abbrev R3 := Rat × Rat × Rat
def rL (r : R3) : List Value := qL r.1 ++ qL r.2.1 ++ qL r.2.2
def cellsR (l : List R3) : Array Value := (l.flatMap rL).toArray
theorem rL_len (r : R3) : (rL r).length = 15 := rfl
theorem flat_len (l : List R3) : (l.flatMap rL).length = 15 * l.length := by
  induction l with
  | nil => rfl
  | cons x l ih => rw [List.flatMap_cons, List.length_append, ih, rL_len, List.length_cons]; omega
theorem flat_get (l : List R3) {i : Nat} (hi : i < l.length) {j : Nat} (hj : j < 15) : (l.flatMap rL)[15 * i + j]? = (rL l[i])[j]? := by
  induction l generalizing i with
  | nil => cases hi
  | cons x l ih =>
    rw [List.flatMap_cons]
    cases i with
    | zero =>
      rw [Nat.mul_zero, Nat.zero_add, List.getElem?_append_left (by rw [rL_len]; exact hj)]
      rfl
    | succ i =>
      rw [List.getElem?_append_right (by rw [rL_len]; omega), rL_len, show 15 * (i + 1) + j - 15 = 15 * i + j by omega]
      exact ih (by simpa using hi)
theorem cellsR_get (l : List R3) {i : Nat} (hi : i < l.length) {j : Nat} (hj : j < 15) : (cellsR l)[15 * i + j]? = (rL l[i])[j]? := by
  unfold cellsR; rw [List.getElem?_toArray, flat_get l hi hj]
theorem info_Rate : (Tryz.prog.info? 58).map (fun i => (i.zero, i.size, i.bytes)) = some (some (.agg (rL (0, 0, 0)).toArray), 15, 168) := by kernel_rfl
theorem cells_madeR (n : Nat) : madeCells (Value.agg (rL (0, 0, 0)).toArray).cells (n * 15) = cellsR (List.replicate n (0, 0, 0)) := by
  unfold cellsR madeCells
  refine Array.ext (by simp [flat_len, rL_len]) fun i h1 h2 => ?_
  have hi : i < n * 15 := by simpa using h1
  have e : i = 15 * (i / 15) + i % 15 := by omega
  have hg := flat_get (List.replicate n ((0, 0, 0) : R3)) (i := i / 15) (by rw [List.length_replicate]; omega) (j := i % 15) (by omega)
  rw [← e, List.getElem_replicate] at hg
  simp only [Value.cells, Array.getElem_ofFn]
  have h3 : ((List.replicate n ((0, 0, 0) : R3)).flatMap rL)[i]? = some ((List.replicate n ((0, 0, 0) : R3)).flatMap rL)[i] := List.getElem?_eq_getElem _
  rw [h3] at hg
  have h4 : (rL (0, 0, 0))[i % 15]? = some ((rL (0, 0, 0))[i % 15]'(by rw [rL_len]; omega)) := List.getElem?_eq_getElem _
  rw [h4] at hg
  injection hg with hg
  simp only [List.getElem_toArray]
  rw [hg]
  simp [rL_len]
  rw [h4]
  rfl
theorem make_Rate (n : Nat) (hn : n ≤ 1048576) (x : Int) (hx : x = n) (W : World) : (Instr.makeSlice 53 (.int .i64 x) (.int .i64 x)).run Tryz.prog W =
    .ok (.slice (some ⟨W.heap.size, 0, none⟩) n n) (W.alloc (.cells (cellsR (List.replicate n (0, 0, 0))) 58)) := by
  obtain ⟨i0, hi0, hz0, hz1, hz2⟩ := info_parts info_Rate
  have hr := run_make (P := Tryz.prog) W 53 58 i0 (.agg (rL (0, 0, 0)).toArray) Tryz.underlying53 hi0 hz0 .i64 .i64 n n (by omega) (by omega) (by rw [hz2]; omega) (by omega)
  rw [hx]
  rw [hr, hz1]
  simp only [Int.toNat_natCast]
  rw [cells_madeR]
/-- a class's rates -/
def precAt (k : Nat) (T : Nat → Nat → Int) (i : Nat) : Rat := qover (T i i) (sumTo (fun a => T a i) k)
def recAt (k : Nat) (T : Nat → Nat → Int) (i : Nat) : Rat := qover (T i i) (sumTo (T i) k)
def prodAt (k : Nat) (T : Nat → Nat → Int) (i : Nat) : Rat := qmul (precAt k T i) (recAt k T i)
def bothAt (k : Nat) (T : Nat → Nat → Int) (i : Nat) : Rat := qdiv (qadd (prodAt k T i) (prodAt k T i)) (qadd (precAt k T i) (recAt k T i))
def rateAt (k : Nat) (T : Nat → Nat → Int) (i : Nat) : R3 := (precAt k T i, recAt k T i, bothAt k T i)
def rateTo (k : Nat) (T : Nat → Nat → Int) (a : Nat) : List R3 := (List.range k).map fun i => if i < a then rateAt k T i else (0, 0, 0)
theorem rateTo_start (k : Nat) (T : Nat → Nat → Int) : rateTo k T 0 = List.replicate k (0, 0, 0) := by
  unfold rateTo
  refine List.ext_getElem (by simp) fun t h1 h2 => ?_
  simp
theorem newObj_Rate (d : Option Tmp) (ty : TypeId) (pos : String) (af : Array Edge) (gd : Option (Nat × Bool)) : newObj Tryz.prog ⟨d, .alloc 58, ty, pos, af, gd⟩ = .cells #[.bool false, .int .u64 0, .string ⟨#[]⟩, .int .u64 0, .string ⟨#[]⟩, .bool false, .int .u64 0, .string ⟨#[]⟩, .int .u64 0, .string ⟨#[]⟩, .bool false, .int .u64 0, .string ⟨#[]⟩, .int .u64 0, .string ⟨#[]⟩] 58 := by kernel_rfl
theorem allocs3 : ∀ t ∈ [28, 30, 32, 39, 41, 58], AllocT Tryz.prog t := by
  intro t ht
  simp only [List.mem_cons, List.not_mem_nil, or_false] at ht
  rcases ht with rfl | rfl | rfl | rfl | rfl | rfl
  · exact fun _ _ _ _ _ _ => by rw [newObj_Nat]; kernel_rfl
  · exact fun _ _ _ _ _ _ => by rw [newObj_Int]; kernel_rfl
  · exact fun _ _ _ _ _ _ => by rw [newObj_Q]; kernel_rfl
  · exact fun _ _ _ _ _ _ => by rw [newObj_RInt]; kernel_rfl
  · exact fun _ _ _ _ _ _ => by rw [newObj_RQ]; kernel_rfl
  · exact fun _ _ _ _ _ _ => by rw [newObj_Rate]; kernel_rfl
theorem over_sub (x : Int) (y : Nat) (n d : Int) (s : Nat) (hn : n.natAbs < 2 ^ s) (hd : d.natAbs < 2 ^ s) (hs : 1 ≤ s) : qs (qover n d) ≤ s := by
  by_cases h0 : d = 0
  · subst h0
    unfold qover
    rw [Rat.divInt_zero]
    exact qs_int 0 s (by simp; exact Nat.two_pow_pos s) hs
  · refine Nat.max_le.2 ⟨?_, ?_⟩
    · rw [over_num n d h0, sgn_abs]
      exact Nat.le_trans (bl_div_le _ _) (bl_le.2 hn)
    · rw [over_den n d h0]
      exact Nat.le_trans (bl_div_le _ _) (bl_le.2 hd)
theorem wrAll_size (vs : List Value) : ∀ (cs : Array Value) (i : Nat), (wrAll cs i vs).size = cs.size := by
  induction vs with
  | nil => intro cs i; rfl
  | cons v vs ih => intro cs i; simp only [wrAll]; rw [ih]; simp
theorem wrAll_get (vs : List Value) : ∀ (cs : Array Value) (i t : Nat), t < cs.size → (wrAll cs i vs)[t]? = if i ≤ t ∧ t < i + vs.length then vs[t - i]? else cs[t]? := by
  induction vs with
  | nil => intro cs i t _; simp only [wrAll, List.length_nil]; rw [if_neg (by omega)]
  | cons v vs ih =>
    intro cs i t ht
    simp only [wrAll]
    rw [ih _ _ _ (by simpa using ht)]
    by_cases e : t = i
    · subst e
      rw [if_neg (by omega), if_pos (by simp)]
      simp [ht]
    · by_cases h : i + 1 ≤ t ∧ t < i + 1 + vs.length
      · rw [if_pos h, if_pos (by simp; omega), show t - i = (t - (i + 1)) + 1 by omega, List.getElem?_cons_succ]
      · rw [if_neg h, if_neg (by simp; omega), Array.getElem?_setIfInBounds_ne (by omega)]
theorem cellsR_size (l : List R3) : (cellsR l).size = 15 * l.length := by unfold cellsR; rw [List.size_toArray, flat_len]
theorem wrAll_rate (l : List R3) {a : Nat} (ha : a < l.length) (r : R3) : wrAll (cellsR l) (a * 15) (rL r) = cellsR (l.set a r) := by
  refine Array.ext_getElem? fun t => ?_
  rcases Nat.lt_or_ge t (15 * l.length) with ht | ht
  · rw [wrAll_get _ _ _ _ (by rw [cellsR_size]; exact ht), rL_len]
    have e : t = 15 * (t / 15) + t % 15 := by omega
    have h1 := cellsR_get (l.set a r) (i := t / 15) (by rw [List.length_set]; omega) (j := t % 15) (by omega)
    have h2 := cellsR_get l (i := t / 15) (by omega) (j := t % 15) (by omega)
    rw [← e] at h1 h2
    rw [h1, h2, List.getElem_set]
    by_cases h : a * 15 ≤ t ∧ t < a * 15 + 15
    · rw [if_pos h, if_pos (by omega), show t - a * 15 = t % 15 by omega]
    · rw [if_neg h, if_neg (by omega)]
  · rw [Array.getElem?_eq_none (by rw [wrAll_size, cellsR_size]; exact ht), Array.getElem?_eq_none (by rw [cellsR_size, List.length_set]; exact ht)]
theorem rateTo_len (k : Nat) (T : Nat → Nat → Int) (a : Nat) : (rateTo k T a).length = k := by unfold rateTo; simp
theorem rateTo_set (k : Nat) (T : Nat → Nat → Int) {a : Nat} (h : a < k) : (rateTo k T a).set a (rateAt k T a) = rateTo k T (a + 1) := by
  unfold rateTo
  refine List.ext_getElem (by simp) fun t h1 h2 => ?_
  rw [List.getElem_set]
  simp only [List.getElem_map, List.getElem_range]
  by_cases e : a = t
  · subst e; simp
  · rw [if_neg e]
    by_cases h3 : t < a
    · rw [if_pos h3, if_pos (by omega)]
    · rw [if_neg h3, if_neg (by omega)]
theorem old_cell (k : Nat) (T : Nat → Nat → Int) (c a : Nat) (h : a < k) (j : Nat) (hj : j < 15) : ∃ v, (cellsR (rateTo k T c))[a * 15 + j]? = some v := by
  rw [Nat.mul_comm, cellsR_get _ (by rw [rateTo_len]; exact h) hj, List.getElem?_eq_getElem (by rw [rL_len]; exact hj)]
  exact ⟨_, rfl⟩
theorem wr_rate (k : Nat) (T : Nat → Nat → Int) {a : Nat} (h : a < k) (p r b : Rat) (hr : rateAt k T a = (p, r, b)) : wrAll (cellsR (rateTo k T a)) (a * 15) (qL p ++ qL r ++ qL b) = cellsR (rateTo k T (a + 1)) := by
  have := wrAll_rate (rateTo k T a) (a := a) (by rw [rateTo_len]; exact h) (rateAt k T a)
  rw [rateTo_set k T h, hr] at this
  exact this
end Go.Proofs.YtimjnkfcnpfoeaaGreatDoor
