/-
  Nat.Div up to BIG.
-/
import Derived.Test.YtimjnkfcnpfoeaaGreatDoorFloat
import Derived.RegionTactic
import Derived.BigRegion
import Derived.Deep.RegionHeld3
set_option linter.unusedSimpArgs false
namespace Go.Proofs.YtimjnkfcnpfoeaaGreatDoor
open Go.RowKit

theorem quo_wrap (a b : Nat) (h : a / b < W64) : IntKind.u64.wrap ((a : Int) / (b : Int)) = ((a / b : Nat) : Int) := by
  rw [← Int.natCast_ediv]
  generalize a / b = q at *
  unfold W64 at h; exact u64_wrap_id (x := (q : Int)) (by omega) (by omega)
theorem rem_wrap (a b : Nat) (h : a % b < W64) : IntKind.u64.wrap ((a : Int) % (b : Int)) = ((a % b : Nat) : Int) := by
  rw [← Int.natCast_emod]
  generalize a % b = q at *
  unfold W64 at h; exact u64_wrap_id (x := (q : Int)) (by omega) (by omega)
set_option maxHeartbeats 1000000 in
set_option maxRecDepth 100000 in
theorem nat_Div_small (a b : Nat) (ha : a < W64) (hb : b < W64) (h0 : b ≠ 0) (w : World) : Calls Tryz.prog 123 #[natV a, natV b] w fun e w' => e = .returned (.tuple #[natV (a / b), natV (a % b), .bool true]) ∧ Grow w w' := by
  have hbits : ∀ W : World, Calls Tryz.prog 119 #[natV b] W fun e w' => e = .returned (.int .i64 (bl b)) ∧ Grow W w' := fun W => nat_Bits b (Nat.le_trans (bl_small hb) (by omega)) W
  have hq : a / b < W64 := Nat.lt_of_le_of_lt (Nat.div_le_self a b) ha
  have hm : a % b < W64 := Nat.lt_of_le_of_lt (Nat.mod_le a b) ha
  have hne : ((bl b : Int) == 0) = false := by have := bl_pos.2 h0; simp; omega
  have hb0 : (natLo b == 0) = false := by rw [natLo_small hb]; simpa using h0
  have hE1 : (natMo a).toList.isEmpty = true := by rw [natMo_isEmpty]; simpa using ha
  have hE2 : (natMo b).toList.isEmpty = true := by rw [natMo_isEmpty]; simpa using hb
  have hb1 : ¬ natLo b = 0 := by rw [natLo_small hb]; omega
  have hw1 : IntKind.u64.wrap ((natLo a).tdiv (natLo b)) = natLo (a / b) := by
    rw [Int.tdiv_eq_ediv_of_nonneg (natLo_nonneg a), natLo_small ha, natLo_small hb, natLo_small hq]; exact quo_wrap a b hq
  have hw2 : IntKind.u64.wrap ((natLo a).tmod (natLo b)) = natLo (a % b) := by
    rw [Int.tmod_eq_emod_of_nonneg (natLo_nonneg a), natLo_small ha, natLo_small hb, natLo_small hm]; exact rem_wrap a b hm
  have hw3 : (natLo a).tmod (natLo b) = natLo (a % b) := by
    rw [Int.tmod_eq_emod_of_nonneg (natLo_nonneg a), natLo_small ha, natLo_small hb, natLo_small hm]; exact (Int.natCast_emod a b).symm
  have hw4 : natLo a % natLo b = natLo (a % b) := by
    rw [natLo_small ha, natLo_small hb, natLo_small hm]; exact (Int.natCast_emod a b).symm
  have hn1 := natLo_nonneg a
  have hn2 := natLo_nonneg b
  have Hmo := Lib.hid (And.intro (natMo_small hq) (natMo_small hm))
  have Hbits := Lib.hid hbits
  clear hbits hq hm
  go_enter Tryz.func123, Tryz.ntmps123
  refine wp_seq (wp_r0 ?_)
  intro K hN
  go_wp2_with fail
  generalize hu : World.alloc (World.alloc (World.alloc (World.alloc w _) _) _) _ = u
  obtain ⟨hB, hG⟩ := bx_first [(_, _), (_, _), (_, _), (_, _)] w u hu
  have hF := fr_first w [(28, #[]), (28, #[]), (28, #[]), (28, #[])]
  simp only [numbered, List.map_cons, List.map_nil] at hB hF
  clear hu
  generalize w.heap.size + 1 + 1 + 1 = b5 at hB hF ⊢
  generalize w.heap.size + 1 + 1 = b4 at hB hF ⊢
  generalize w.heap.size + 1 = b3 at hB hF ⊢
  generalize w.heap.size = b2 at hB hF ⊢
  refine NoK.norm (hN _ _ ?_)
  clear hN K
  refine then_norm ?_
  refine wp_seq ?_
  refine wp_seq ?_
  refine wp_rs (w := w) allocs 3 [0, 1, 0] (by kernel_rfl) (by simp only [List.drop_succ_cons, List.drop_nil]; exact rfl) (fun _ => True) noG hB hG trivial ?_
  intro K L hN hL
  simp only [List.zip_cons_cons, List.zip_nil_left]
  apply gy
  · exact rfl
  · (rintro v ⟨hgu, hB, hG, -⟩ N hN; have r := hB.r; simp only [BxR] at r; go_simp; exact hN)
  refine okf (by simp only [Act.put, List.setIfInBounds_toArray, List.set_cons_succ, List.set_cons_zero]; exact rfl) ?_
  apply gm
  · exact rfl
  · (rintro v ⟨hgu, hB, hG, -⟩ N hN; go_simp; ((with_reducible refine (Hbits.out _).mono ?_); rintro e w1 ⟨rfl, hb⟩; exact ⟨_, rfl, hN _ hb⟩))
  refine okf (by simp only [Act.put, List.setIfInBounds_toArray, List.set_cons_succ, List.set_cons_zero]; exact rfl) ?_
  apply gy
  · exact rfl
  · (rintro v - N hN; go_simp; exact hN)
  refine okf (by simp only [Act.put, List.setIfInBounds_toArray, List.set_cons_succ, List.set_cons_zero]; exact rfl) ?_
  refine gend ?_
  rintro v ⟨hgu, hB1, hG1, -⟩
  clear hB hG
  have hB := hB1
  have hG := hG1
  clear hB1 hG1
  refine hL _ _ ?_
  clear hL L hgu
  obtain ⟨u, rfl⟩ : ∃ x, x = v := ⟨_, rfl⟩
  refine wpList_nil ?_
  refine NoK.norm (hN _ _ ?_)
  clear hN K
  refine then_norm ?_
  refine wp_cond_split rfl ?_ ?_
  · intro ht
    cases ht
  · intro ht
    have ht13 := ht
    refine wp_skip ?_
    refine then_norm ?_
    refine wp_seq ?_
    refine wp_seq ?_
    refine wp_r0 ?_
    intro K hN
    have r := hB.r
    simp only [BxR] at r
    go_wp2_with fail
    clear r
    refine NoK.norm (hN _ _ ?_)
    clear hN K
    refine then_norm ?_
    refine wp_cond_split rfl ?_ ?_
    · intro ht
      have ht23 := ht
      refine wp_seq ?_
      refine Code.wp_mono NoP.up ?_
      have r := hB.r
      simp only [BxR] at r
      have hD : b2 ≠ b4 ∧ b2 ≠ b5 ∧ b3 ≠ b4 ∧ b3 ≠ b5 ∧ b4 ≠ b2 ∧ b4 ≠ b3 ∧ b4 ≠ b5 ∧ b5 ≠ b2 ∧ b5 ≠ b3 ∧ b5 ≠ b4 := ⟨hF.ne 0 2 rfl rfl (by decide), hF.ne 0 3 rfl rfl (by decide), hF.ne 1 2 rfl rfl (by decide), hF.ne 1 3 rfl rfl (by decide), hF.ne 2 0 rfl rfl (by decide), hF.ne 2 1 rfl rfl (by decide), hF.ne 2 3 rfl rfl (by decide), hF.ne 3 0 rfl rfl (by decide), hF.ne 3 1 rfl rfl (by decide), hF.ne 3 2 rfl rfl (by decide)⟩
      go_region
      clear r hD
      generalize hu0 : World.setCell (World.setCell u _ _) _ _ = u0
      have hBG := hB.over hF hG 2 rfl 0 [_, _] hu0
      clear hB hG hu0
      simp only [List.modify_succ_cons, List.modify_zero_cons, wrAll, List.setIfInBounds_toArray, List.set_cons_zero, List.set_cons_succ, Nat.zero_add, Nat.reduceAdd] at hBG
      obtain ⟨hB, hG⟩ := hBG
      clear u
      generalize hu1 : World.setCell (World.setCell u0 _ _) _ _ = u1
      have hBG := hB.over hF hG 3 rfl 0 [_, _] hu1
      clear hB hG hu1
      simp only [List.modify_succ_cons, List.modify_zero_cons, wrAll, List.setIfInBounds_toArray, List.set_cons_zero, List.set_cons_succ, Nat.zero_add, Nat.reduceAdd] at hBG
      obtain ⟨hB, hG⟩ := hBG
      clear u0
      obtain ⟨u, rfl⟩ : ∃ x, x = u1 := ⟨_, rfl⟩
      replace hB := hB.grow (Grow.drew u)
      replace hG := hG.trans (Grow.drew u)
      obtain ⟨u, rfl⟩ : ∃ x, x = u.drew := ⟨_, rfl⟩
      refine NoP.norm ?_
      refine then_norm ?_
      refine wp_ret ?_
      refine then_ret ?_
      refine ret_b rfl ?_
      intro N hN
      have r := hB.r
      simp only [BxR] at r
      simp only [results, Tryz.results123]
      go_simp
      refine hN _ ?_
      clear hN N r
      refine And.intro ?_ hG
      rw [natV, natV, Hmo.out.1, Hmo.out.2]
    · intro ht
      cases ht
--! nat_Div = nat_Div _ _ SIDE SIDE SIDE _
theorem nat_Div (a b : Nat) (ha : bl a ≤ BIG) (hb : bl b ≤ BIG) (h0 : b ≠ 0) (w : World) : Calls Tryz.prog 123 #[natV a, natV b] w fun e w' => e = .returned (.tuple #[natV (a / b), natV (a % b), .bool true]) ∧ Grow w w' :=
  nat_Div_small a b (fits_small ha) (fits_small hb) h0 w
end Go.Proofs.YtimjnkfcnpfoeaaGreatDoor
