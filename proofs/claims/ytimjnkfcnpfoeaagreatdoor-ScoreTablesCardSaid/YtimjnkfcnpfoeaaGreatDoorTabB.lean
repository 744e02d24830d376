/-
  law9.ScoreTables: the walk.
-/
import Derived.Test.YtimjnkfcnpfoeaaGreatDoorTabM
set_option linter.unusedSimpArgs false
set_option linter.unusedVariables false
namespace Go.Proofs.YtimjnkfcnpfoeaaGreatDoor
open Go.RowKit
theorem hand_PickG (n m : Int) (hm : 0 < m) (hm2 : m ≤ 9223372036854775807) (w : World) : Calls Tryz.prog 10 #[.int .i64 n, .int .i64 m] w fun e w' => e = .returned (.int .i64 (pick n m)) ∧ Grow w w' :=
  (hand_Pick n m hm hm2 w).mono fun e w' ⟨he, hw⟩ => ⟨he, hw ▸ Grow.refl _⟩
set_option maxHeartbeats 8000000 in
set_option maxRecDepth 100000 in
theorem law9_ScoreTables (A B : Option Addr) (la lb : List Int) (ca cb : Nat) (n cl : Int) (hla : la.length ≤ 9223372036854775807) (hlb : lb.length ≤ 9223372036854775807) (w : World) (hA : Li w A la) (hB : Li w B lb) :
    Calls Tryz.prog 4 #[.slice A la.length ca, .slice B lb.length cb, .int .i64 n, .int .i64 cl] w fun e w' => e = .returned (.bool true) ∧ Grow w w' := by
  have HA := Lib.hid hA
  have HB := Lib.hid hB
  obtain ⟨p1, p2⟩ := pick_range cl (m := 6) (by omega)
  obtain ⟨p3, p4⟩ := pick_range n (m := 25) (by omega)
  obtain ⟨k, hk⟩ : ∃ k : Nat, (k : Int) = 1 + pick cl 6 := ⟨(1 + pick cl 6).toNat, by omega⟩
  obtain ⟨m, hm⟩ : ∃ m : Nat, (m : Int) = 1 + pick n 25 := ⟨(1 + pick n 25).toNat, by omega⟩
  have hk1 : 1 ≤ k ∧ k ≤ 6 := by omega
  have hm1 : 1 ≤ m ∧ m ≤ 25 := by omega
  have hwk : IntKind.i64.wrap (k : Int) = (k : Int) := IntWalk.i64_in _ (by omega)
  have hwm : IntKind.i64.wrap (m : Int) = (m : Int) := IntWalk.i64_in _ (by omega)
  obtain ⟨hk1, hk2⟩ := hk1
  obtain ⟨hm1, hm2⟩ := hm1
  have hk' : 1 + pick cl 6 = (k : Int) := hk.symm
  have hm' : 1 + pick n 25 = (m : Int) := hm.symm
  obtain ⟨xa, hxa⟩ : ∃ x, x = la.length := ⟨_, rfl⟩
  obtain ⟨xb, hxb⟩ : ∃ x, x = lb.length := ⟨_, rfl⟩
  rw [← hxa, ← hxb]
  rw [← hxa] at hla
  rw [← hxb] at hlb
  have Hxa := Lib.hid hxa
  have Hxb := Lib.hid hxb
  clear hA hB hk hm hxa hxb
  go_enter Tryz.func4, Tryz.ntmps4
  refine wp_seq (wp_r0 ?_)
  intro K hN
  go_wp2_with fail
  obtain ⟨u, hu⟩ : ∃ x, x = w := ⟨_, rfl⟩
  have hB := Bx.nil u
  have hG : Grow w u := hu ▸ Grow.refl u
  have hF := Fr.nil w
  rw [← hu]
  clear hu
  refine NoK.norm (hN _ _ ?_)
  clear hN K
  refine then_norm ?_
  refine wp_seq ?_
  refine wp_rs (w := w) allocs3 4 [0, 1, 0, 0] (by kernel_rfl) (by simp only [List.drop_succ_cons, List.drop_nil]; exact rfl) (fun _ => True) noG hB hG trivial ?_
  intro K L hN hL
  simp only [List.zip_cons_cons, List.zip_nil_left]
  apply gy
  · exact rfl
  · (rintro v - N hN; go_simp; exact hN)
  refine okf (by simp only [Act.put, List.setIfInBounds_toArray, List.set_cons_succ, List.set_cons_zero]; exact rfl) ?_
  apply gm
  · exact rfl
  · (rintro v ⟨hgu, hB, hG, -⟩ N hN; go_simp; ((with_reducible refine (hand_PickG cl 6 (by omega) (by omega) _).mono ?_); rintro e w1 ⟨rfl, hb⟩; exact ⟨_, rfl, hN _ hb⟩))
  refine okf (by simp only [Act.put, List.setIfInBounds_toArray, List.set_cons_succ, List.set_cons_zero]; exact rfl) ?_
  apply gy
  · exact rfl
  · (rintro v - N hN; go_simp; exact hN)
  refine okf (by simp only [Act.put, List.setIfInBounds_toArray, List.set_cons_succ, List.set_cons_zero]; exact rfl) ?_
  apply gy
  · exact rfl
  · (rintro v - N hN; go_simp; exact hN)
  refine okf (by simp only [Act.put, List.setIfInBounds_toArray, List.set_cons_succ, List.set_cons_zero]; exact rfl) ?_
  refine gend ?_
  rintro v ⟨hgu, hB1, hG1, -⟩
  clear hB hG
  have hB := hB1
  have hG := hG1
  clear hB1 hG1
  refine hL _ _ ?_
  clear hL L hgu
  obtain ⟨u, rfl⟩ : ∃ x, x = v := ⟨_, rfl⟩
  refine wpList_nil ?_
  refine NoK.norm (hN _ _ ?_)
  clear hN K
  refine then_norm ?_
  refine wp_seq ?_
  refine wp_rs (w := w) allocs3 4 [0, 1, 0, 0] (by kernel_rfl) (by simp only [List.drop_succ_cons, List.drop_nil]; exact rfl) (fun _ => True) noG hB hG trivial ?_
  intro K L hN hL
  simp only [List.zip_cons_cons, List.zip_nil_left]
  apply gy
  · exact rfl
  · (rintro v - N hN; go_simp; exact hN)
  refine okf (by simp only [Act.put, List.setIfInBounds_toArray, List.set_cons_succ, List.set_cons_zero]; exact rfl) ?_
  apply gm
  · exact rfl
  · (rintro v ⟨hgu, hB, hG, -⟩ N hN; go_simp; ((with_reducible refine (hand_PickG n 25 (by omega) (by omega) _).mono ?_); rintro e w1 ⟨rfl, hb⟩; exact ⟨_, rfl, hN _ hb⟩))
  refine okf (by simp only [Act.put, List.setIfInBounds_toArray, List.set_cons_succ, List.set_cons_zero]; exact rfl) ?_
  apply gy
  · exact rfl
  · (rintro v - N hN; go_simp; exact hN)
  refine okf (by simp only [Act.put, List.setIfInBounds_toArray, List.set_cons_succ, List.set_cons_zero]; exact rfl) ?_
  apply gy
  · exact rfl
  · (rintro v - N hN; go_simp; exact hN)
  refine okf (by simp only [Act.put, List.setIfInBounds_toArray, List.set_cons_succ, List.set_cons_zero]; exact rfl) ?_
  refine gend ?_
  rintro v ⟨hgu, hB1, hG1, -⟩
  clear hB hG
  have hB := hB1
  have hG := hG1
  clear hB1 hG1
  refine hL _ _ ?_
  clear hL L hgu
  obtain ⟨u, rfl⟩ : ∃ x, x = v := ⟨_, rfl⟩
  refine wpList_nil ?_
  refine NoK.norm (hN _ _ ?_)
  clear hN K
  refine then_norm ?_
  refine wp_seq ?_
  refine wp_r0 ?_
  intro K hN
  go_wp2_with fail
  refine NoK.norm (hN _ _ ?_)
  clear hN K
  refine then_norm ?_
  refine wp_seq ?_
  refine wp_seq ?_
  refine wp_r0 ?_
  intro K hN
  go_wp2_with fail
  refine NoK.norm (hN _ _ ?_)
  clear hN K
  refine then_norm ?_
  refine wp_block ?_
  go_loopw [10, 11, 12] (fun v1 v2 t wr => ∃ i : Nat, i ≤ m ∧ t = .int .i64 i ∧ wr.ownsRow w.heap.size 3 1 v1 (wantL la k i).length (intL (wantL la k i)) ∧ wr.ownsRow w.heap.size 3 1 v2 (gotL lb k i).length (intL (gotL lb k i)) ∧ Apart v1 v2 ∧ Grow w wr) (fun _ _ t _ => m - (intOf t).toNat)
  case atStart => exact ⟨0, Nat.zero_le _, rfl, World.ownsRow_nil _ _ _ _, World.ownsRow_nil _ _ _ _, fun g h => (by cases h), hG⟩
  case round =>
    clear hB hG
    obtain ⟨i, hi, rfl, ho1, ho2, hap, hG⟩ := hrel
    obtain ⟨u, rfl⟩ : ∃ x, x = wr := ⟨_, rfl⟩
    have hB := Bx.nil u
    have Ho1 := Lib.hid ho1
    have Ho2 := Lib.hid ho2
    have Hap := Lib.hid hap
    clear ho1 ho2 hap
    rcases Nat.lt_or_ge i m with hlt | hge
    · have hdl : decide ((i : Int) < (m : Int)) = true := by simp; omega
      refine wp_seq ?_
      refine wp_seq ?_
      refine wp_r0 ?_
      intro K hN
      go_wp2_with fail
      refine NoK.norm (hN _ _ ?_)
      clear hN K
      refine then_norm ?_
      refine wp_cond_true (rfl) ?_
      refine wp_skip ?_
      refine then_norm ?_
      refine wp_seq ?_
      refine wp_block ?_
      refine wp_seq ?_
      refine wp_r0 ?_
      intro K hN
      go_wp2_with fail
      refine NoK.norm (hN _ _ ?_)
      clear hN K
      refine then_norm ?_
      refine wp_seq ?_
      refine wp_r0 ?_
      intro K hN
      go_wp2_with fail
      refine NoK.norm (hN _ _ ?_)
      clear hN K
      refine then_norm ?_
      refine wp_seq ?_
      refine wp_seq ?_
      refine wp_r0 ?_
      intro K hN
      go_wp2_with fail
      refine NoK.norm (hN _ _ ?_)
      clear hN K
      refine then_norm ?_
      refine wp_cond_split rfl ?_ ?_
      · intro ht
        have ht46 := ht
        have hixa : i < xa := by simpa using ht
        have hia : i < la.length := by have := Hxa.out; simp at ht; omega
        have Hw1 := Lib.hid (show wantAt la k i = pick (gi la i) k by unfold wantAt rawAt; rw [if_pos hia])
        obtain ⟨ba, oa, rfl, hca⟩ := (HA.out.grow hG).cell hia
        refine wp_r0 ?_
        intro K hN
        have r := hB.r
        simp only [BxR] at r
        go_wp2_with fail
        clear r
        refine NoK.norm (hN _ _ ?_)
        clear hN K
        refine then_norm ?_
        refine wp_seq ?_
        refine wp_seq ?_
        refine wp_r0 ?_
        intro K hN
        go_wp2_with fail
        refine NoK.norm (hN _ _ ?_)
        clear hN K
        refine then_norm ?_
        refine wp_cond_split rfl ?_ ?_
        · intro ht
          have ht54 := ht
          have hixb : i < xb := by simpa using ht
          have hib : i < lb.length := by have := Hxb.out; simp at ht; omega
          have Hw2 := Lib.hid (show gotAt lb k i = pick (gi lb i) k by unfold gotAt rawAt; rw [if_pos hib])
          obtain ⟨bb, ob, rfl, hcb⟩ := (HB.out.grow hG).cell hib
          refine wp_r0 ?_
          intro K hN
          have r := hB.r
          simp only [BxR] at r
          go_wp2_with fail
          clear r
          refine NoK.norm (hN _ _ ?_)
          clear hN K
          refine then_norm ?_
          refine wp_seq ?_
          refine wp_rs (w := w) allocs3 4 [0, 0, 0, 1] (by kernel_rfl) (by simp only [List.drop_succ_cons, List.drop_zero]; exact rfl) (fun _ => True) noG hB hG trivial ?_
          intro K L hN hL
          simp only [List.zip_cons_cons, List.zip_nil_left]
          apply gy
          · exact rfl
          · (rintro v - N hN; go_simp; exact hN)
          refine okf (by simp only [Act.put, List.setIfInBounds_toArray, List.set_cons_succ, List.set_cons_zero]; exact rfl) ?_
          apply gy
          · exact rfl
          · (rintro v - N hN; go_simp; exact hN)
          refine okf (by simp only [Act.put, List.setIfInBounds_toArray, List.set_cons_succ, List.set_cons_zero]; exact rfl) ?_
          apply gy
          · exact rfl
          · (rintro v - N hN; go_simp; exact hN)
          refine okf (by simp only [Act.put, List.setIfInBounds_toArray, List.set_cons_succ, List.set_cons_zero]; exact rfl) ?_
          apply gm
          · exact rfl
          · (rintro v ⟨hgu, hB, hG, -⟩ N hN; go_simp; ((with_reducible refine (hand_PickG _ _ (by omega) (by omega) _).mono ?_); rintro e w1 ⟨rfl, hb⟩; exact ⟨_, rfl, hN _ hb⟩))
          refine okf (by simp only [Act.put, List.setIfInBounds_toArray, List.set_cons_succ, List.set_cons_zero]; exact rfl) ?_
          refine gend ?_
          rintro v ⟨hgu, hB1, hG1, -⟩
          have Ho1u := Lib.hid (own_grow Ho1.out hgu)
          have Ho2u := Lib.hid (own_grow Ho2.out hgu)
          clear Ho1 Ho2
          clear hB hG
          have hB := hB1
          have hG := hG1
          clear hB1 hG1
          refine hL _ _ ?_
          clear hL L hgu
          obtain ⟨u, rfl⟩ : ∃ x, x = v := ⟨_, rfl⟩
          have r := hB.r
          simp only [BxR] at r
          refine app_tail w.heap.size _ (wantL la k i) _ rfl (fun _ => rfl) (fun _ => rfl) (fun _ _ => rfl) Ho1u.out (by rw [wantL_len]; omega) hG.size fun p v' w' g1 g2 g3 => ?_
          have hA2 := app_two Ho1u.out Ho2u.out Hap.out hG g2 g3
          rw [← Hw1.out, ← wantL_succ] at g1
          obtain ⟨g4, g5, g6⟩ := hA2
          clear Ho1u Ho2u Hap hB hG g2 g3
          have Ho1 := Lib.hid g1
          have Ho2 := Lib.hid g4
          have Hap := Lib.hid g5
          have hG := g6
          have hB := Bx.nil w'
          clear g1 g4 g5 g6
          obtain ⟨u, rfl⟩ : ∃ x, x = w' := ⟨_, rfl⟩
          simp only [Act.put, List.setIfInBounds_toArray, List.set_cons_succ, List.set_cons_zero]
          clear r
          refine NoK.norm (hN _ _ ?_)
          clear hN K
          refine then_norm ?_
          refine wp_rs (w := w) allocs3 4 [0, 0, 0, 1] (by kernel_rfl) (by simp only [List.drop_succ_cons, List.drop_zero]; exact rfl) (fun _ => True) noG hB hG trivial ?_
          intro K L hN hL
          simp only [List.zip_cons_cons, List.zip_nil_left]
          apply gy
          · exact rfl
          · (rintro v - N hN; go_simp; exact hN)
          refine okf (by simp only [Act.put, List.setIfInBounds_toArray, List.set_cons_succ, List.set_cons_zero]; exact rfl) ?_
          apply gy
          · exact rfl
          · (rintro v - N hN; go_simp; exact hN)
          refine okf (by simp only [Act.put, List.setIfInBounds_toArray, List.set_cons_succ, List.set_cons_zero]; exact rfl) ?_
          apply gy
          · exact rfl
          · (rintro v - N hN; go_simp; exact hN)
          refine okf (by simp only [Act.put, List.setIfInBounds_toArray, List.set_cons_succ, List.set_cons_zero]; exact rfl) ?_
          apply gm
          · exact rfl
          · (rintro v ⟨hgu, hB, hG, -⟩ N hN; go_simp; ((with_reducible refine (hand_PickG _ _ (by omega) (by omega) _).mono ?_); rintro e w1 ⟨rfl, hb⟩; exact ⟨_, rfl, hN _ hb⟩))
          refine okf (by simp only [Act.put, List.setIfInBounds_toArray, List.set_cons_succ, List.set_cons_zero]; exact rfl) ?_
          refine gend ?_
          rintro v ⟨hgu, hB1, hG1, -⟩
          have Ho1u := Lib.hid (own_grow Ho1.out hgu)
          have Ho2u := Lib.hid (own_grow Ho2.out hgu)
          clear Ho1 Ho2
          clear hB hG
          have hB := hB1
          have hG := hG1
          clear hB1 hG1
          refine hL _ _ ?_
          clear hL L hgu
          obtain ⟨u, rfl⟩ : ∃ x, x = v := ⟨_, rfl⟩
          have r := hB.r
          simp only [BxR] at r
          refine app_tail w.heap.size _ (gotL lb k i) _ rfl (fun _ => rfl) (fun _ => rfl) (fun _ _ => rfl) Ho2u.out (by rw [gotL_len]; omega) hG.size fun p v' w' g1 g2 g3 => ?_
          have hA2 := app_two Ho2u.out Ho1u.out Hap.out.symm hG g2 g3
          rw [← Hw2.out, ← gotL_succ] at g1
          obtain ⟨g4, g5, g6⟩ := hA2
          clear Ho1u Ho2u Hap hB hG g2 g3
          have Ho2 := Lib.hid g1
          have Ho1 := Lib.hid g4
          have Hap := Lib.hid g5.symm
          have hG := g6
          have hB := Bx.nil w'
          clear g1 g4 g5 g6
          obtain ⟨u, rfl⟩ : ∃ x, x = w' := ⟨_, rfl⟩
          simp only [Act.put, List.setIfInBounds_toArray, List.set_cons_succ, List.set_cons_zero]
          clear r
          refine NoK.norm (hN _ _ ?_)
          clear hN K
          refine blk_norm ?_
          refine then_norm ?_
          refine wp_r0 ?_
          intro K hN
          go_wp2_with fail
          refine NoK.norm (hN _ _ ?_)
          clear hN K
          refine then_norm ?_
          go_roundw
          case rel => exact ⟨i + 1, by omega, by go_num, Ho1.out, Ho2.out, Hap.out, hG⟩
          case measure => simp [intOf]; omega
        · intro ht
          have ht54 := ht
          have Hw2 := Lib.hid (show gotAt lb k i = pick ((i : Int) * 3) k by unfold gotAt rawAt; rw [if_neg (by have := Hxb.out; simp at ht; omega)]; simp)
          refine wp_skip ?_
          refine then_norm ?_
          refine wp_seq ?_
          refine wp_rs (w := w) allocs3 4 [0, 0, 0, 1] (by kernel_rfl) (by simp only [List.drop_succ_cons, List.drop_zero]; exact rfl) (fun _ => True) noG hB hG trivial ?_
          intro K L hN hL
          simp only [List.zip_cons_cons, List.zip_nil_left]
          apply gy
          · exact rfl
          · (rintro v - N hN; go_simp; exact hN)
          refine okf (by simp only [Act.put, List.setIfInBounds_toArray, List.set_cons_succ, List.set_cons_zero]; exact rfl) ?_
          apply gy
          · exact rfl
          · (rintro v - N hN; go_simp; exact hN)
          refine okf (by simp only [Act.put, List.setIfInBounds_toArray, List.set_cons_succ, List.set_cons_zero]; exact rfl) ?_
          apply gy
          · exact rfl
          · (rintro v - N hN; go_simp; exact hN)
          refine okf (by simp only [Act.put, List.setIfInBounds_toArray, List.set_cons_succ, List.set_cons_zero]; exact rfl) ?_
          apply gm
          · exact rfl
          · (rintro v ⟨hgu, hB, hG, -⟩ N hN; go_simp; ((with_reducible refine (hand_PickG _ _ (by omega) (by omega) _).mono ?_); rintro e w1 ⟨rfl, hb⟩; exact ⟨_, rfl, hN _ hb⟩))
          refine okf (by simp only [Act.put, List.setIfInBounds_toArray, List.set_cons_succ, List.set_cons_zero]; exact rfl) ?_
          refine gend ?_
          rintro v ⟨hgu, hB1, hG1, -⟩
          have Ho1u := Lib.hid (own_grow Ho1.out hgu)
          have Ho2u := Lib.hid (own_grow Ho2.out hgu)
          clear Ho1 Ho2
          clear hB hG
          have hB := hB1
          have hG := hG1
          clear hB1 hG1
          refine hL _ _ ?_
          clear hL L hgu
          obtain ⟨u, rfl⟩ : ∃ x, x = v := ⟨_, rfl⟩
          have r := hB.r
          simp only [BxR] at r
          refine app_tail w.heap.size _ (wantL la k i) _ rfl (fun _ => rfl) (fun _ => rfl) (fun _ _ => rfl) Ho1u.out (by rw [wantL_len]; omega) hG.size fun p v' w' g1 g2 g3 => ?_
          have hA2 := app_two Ho1u.out Ho2u.out Hap.out hG g2 g3
          rw [← Hw1.out, ← wantL_succ] at g1
          obtain ⟨g4, g5, g6⟩ := hA2
          clear Ho1u Ho2u Hap hB hG g2 g3
          have Ho1 := Lib.hid g1
          have Ho2 := Lib.hid g4
          have Hap := Lib.hid g5
          have hG := g6
          have hB := Bx.nil w'
          clear g1 g4 g5 g6
          obtain ⟨u, rfl⟩ : ∃ x, x = w' := ⟨_, rfl⟩
          simp only [Act.put, List.setIfInBounds_toArray, List.set_cons_succ, List.set_cons_zero]
          clear r
          refine NoK.norm (hN _ _ ?_)
          clear hN K
          refine then_norm ?_
          refine wp_rs (w := w) allocs3 4 [0, 0, 0, 1] (by kernel_rfl) (by simp only [List.drop_succ_cons, List.drop_zero]; exact rfl) (fun _ => True) noG hB hG trivial ?_
          intro K L hN hL
          simp only [List.zip_cons_cons, List.zip_nil_left]
          apply gy
          · exact rfl
          · (rintro v - N hN; go_simp; exact hN)
          refine okf (by simp only [Act.put, List.setIfInBounds_toArray, List.set_cons_succ, List.set_cons_zero]; exact rfl) ?_
          apply gy
          · exact rfl
          · (rintro v - N hN; go_simp; exact hN)
          refine okf (by simp only [Act.put, List.setIfInBounds_toArray, List.set_cons_succ, List.set_cons_zero]; exact rfl) ?_
          apply gy
          · exact rfl
          · (rintro v - N hN; go_simp; exact hN)
          refine okf (by simp only [Act.put, List.setIfInBounds_toArray, List.set_cons_succ, List.set_cons_zero]; exact rfl) ?_
          apply gm
          · exact rfl
          · (rintro v ⟨hgu, hB, hG, -⟩ N hN; go_simp; ((with_reducible refine (hand_PickG _ _ (by omega) (by omega) _).mono ?_); rintro e w1 ⟨rfl, hb⟩; exact ⟨_, rfl, hN _ hb⟩))
          refine okf (by simp only [Act.put, List.setIfInBounds_toArray, List.set_cons_succ, List.set_cons_zero]; exact rfl) ?_
          refine gend ?_
          rintro v ⟨hgu, hB1, hG1, -⟩
          have Ho1u := Lib.hid (own_grow Ho1.out hgu)
          have Ho2u := Lib.hid (own_grow Ho2.out hgu)
          clear Ho1 Ho2
          clear hB hG
          have hB := hB1
          have hG := hG1
          clear hB1 hG1
          refine hL _ _ ?_
          clear hL L hgu
          obtain ⟨u, rfl⟩ : ∃ x, x = v := ⟨_, rfl⟩
          have r := hB.r
          simp only [BxR] at r
          refine app_tail w.heap.size _ (gotL lb k i) _ rfl (fun _ => rfl) (fun _ => rfl) (fun _ _ => rfl) Ho2u.out (by rw [gotL_len]; omega) hG.size fun p v' w' g1 g2 g3 => ?_
          have hA2 := app_two Ho2u.out Ho1u.out Hap.out.symm hG g2 g3
          rw [← Hw2.out, ← gotL_succ] at g1
          obtain ⟨g4, g5, g6⟩ := hA2
          clear Ho1u Ho2u Hap hB hG g2 g3
          have Ho2 := Lib.hid g1
          have Ho1 := Lib.hid g4
          have Hap := Lib.hid g5.symm
          have hG := g6
          have hB := Bx.nil w'
          clear g1 g4 g5 g6
          obtain ⟨u, rfl⟩ : ∃ x, x = w' := ⟨_, rfl⟩
          simp only [Act.put, List.setIfInBounds_toArray, List.set_cons_succ, List.set_cons_zero]
          clear r
          refine NoK.norm (hN _ _ ?_)
          clear hN K
          refine blk_norm ?_
          refine then_norm ?_
          refine wp_r0 ?_
          intro K hN
          go_wp2_with fail
          refine NoK.norm (hN _ _ ?_)
          clear hN K
          refine then_norm ?_
          go_roundw
          case rel => exact ⟨i + 1, by omega, by go_num, Ho1.out, Ho2.out, Hap.out, hG⟩
          case measure => simp [intOf]; omega
      · intro ht
        have ht46 := ht
        have Hw1 := Lib.hid (show wantAt la k i = pick i k by unfold wantAt rawAt; rw [if_neg (by have := Hxa.out; simp at ht; omega)])
        refine wp_skip ?_
        refine then_norm ?_
        refine wp_seq ?_
        refine wp_seq ?_
        refine wp_r0 ?_
        intro K hN
        go_wp2_with fail
        refine NoK.norm (hN _ _ ?_)
        clear hN K
        refine then_norm ?_
        refine wp_cond_split rfl ?_ ?_
        · intro ht
          have ht54 := ht
          have hixb : i < xb := by simpa using ht
          have hib : i < lb.length := by have := Hxb.out; simp at ht; omega
          have Hw2 := Lib.hid (show gotAt lb k i = pick (gi lb i) k by unfold gotAt rawAt; rw [if_pos hib])
          obtain ⟨bb, ob, rfl, hcb⟩ := (HB.out.grow hG).cell hib
          refine wp_r0 ?_
          intro K hN
          have r := hB.r
          simp only [BxR] at r
          go_wp2_with fail
          clear r
          refine NoK.norm (hN _ _ ?_)
          clear hN K
          refine then_norm ?_
          refine wp_seq ?_
          refine wp_rs (w := w) allocs3 4 [0, 0, 0, 1] (by kernel_rfl) (by simp only [List.drop_succ_cons, List.drop_zero]; exact rfl) (fun _ => True) noG hB hG trivial ?_
          intro K L hN hL
          simp only [List.zip_cons_cons, List.zip_nil_left]
          apply gy
          · exact rfl
          · (rintro v - N hN; go_simp; exact hN)
          refine okf (by simp only [Act.put, List.setIfInBounds_toArray, List.set_cons_succ, List.set_cons_zero]; exact rfl) ?_
          apply gy
          · exact rfl
          · (rintro v - N hN; go_simp; exact hN)
          refine okf (by simp only [Act.put, List.setIfInBounds_toArray, List.set_cons_succ, List.set_cons_zero]; exact rfl) ?_
          apply gy
          · exact rfl
          · (rintro v - N hN; go_simp; exact hN)
          refine okf (by simp only [Act.put, List.setIfInBounds_toArray, List.set_cons_succ, List.set_cons_zero]; exact rfl) ?_
          apply gm
          · exact rfl
          · (rintro v ⟨hgu, hB, hG, -⟩ N hN; go_simp; ((with_reducible refine (hand_PickG _ _ (by omega) (by omega) _).mono ?_); rintro e w1 ⟨rfl, hb⟩; exact ⟨_, rfl, hN _ hb⟩))
          refine okf (by simp only [Act.put, List.setIfInBounds_toArray, List.set_cons_succ, List.set_cons_zero]; exact rfl) ?_
          refine gend ?_
          rintro v ⟨hgu, hB1, hG1, -⟩
          have Ho1u := Lib.hid (own_grow Ho1.out hgu)
          have Ho2u := Lib.hid (own_grow Ho2.out hgu)
          clear Ho1 Ho2
          clear hB hG
          have hB := hB1
          have hG := hG1
          clear hB1 hG1
          refine hL _ _ ?_
          clear hL L hgu
          obtain ⟨u, rfl⟩ : ∃ x, x = v := ⟨_, rfl⟩
          have r := hB.r
          simp only [BxR] at r
          refine app_tail w.heap.size _ (wantL la k i) _ rfl (fun _ => rfl) (fun _ => rfl) (fun _ _ => rfl) Ho1u.out (by rw [wantL_len]; omega) hG.size fun p v' w' g1 g2 g3 => ?_
          have hA2 := app_two Ho1u.out Ho2u.out Hap.out hG g2 g3
          rw [← Hw1.out, ← wantL_succ] at g1
          obtain ⟨g4, g5, g6⟩ := hA2
          clear Ho1u Ho2u Hap hB hG g2 g3
          have Ho1 := Lib.hid g1
          have Ho2 := Lib.hid g4
          have Hap := Lib.hid g5
          have hG := g6
          have hB := Bx.nil w'
          clear g1 g4 g5 g6
          obtain ⟨u, rfl⟩ : ∃ x, x = w' := ⟨_, rfl⟩
          simp only [Act.put, List.setIfInBounds_toArray, List.set_cons_succ, List.set_cons_zero]
          clear r
          refine NoK.norm (hN _ _ ?_)
          clear hN K
          refine then_norm ?_
          refine wp_rs (w := w) allocs3 4 [0, 0, 0, 1] (by kernel_rfl) (by simp only [List.drop_succ_cons, List.drop_zero]; exact rfl) (fun _ => True) noG hB hG trivial ?_
          intro K L hN hL
          simp only [List.zip_cons_cons, List.zip_nil_left]
          apply gy
          · exact rfl
          · (rintro v - N hN; go_simp; exact hN)
          refine okf (by simp only [Act.put, List.setIfInBounds_toArray, List.set_cons_succ, List.set_cons_zero]; exact rfl) ?_
          apply gy
          · exact rfl
          · (rintro v - N hN; go_simp; exact hN)
          refine okf (by simp only [Act.put, List.setIfInBounds_toArray, List.set_cons_succ, List.set_cons_zero]; exact rfl) ?_
          apply gy
          · exact rfl
          · (rintro v - N hN; go_simp; exact hN)
          refine okf (by simp only [Act.put, List.setIfInBounds_toArray, List.set_cons_succ, List.set_cons_zero]; exact rfl) ?_
          apply gm
          · exact rfl
          · (rintro v ⟨hgu, hB, hG, -⟩ N hN; go_simp; ((with_reducible refine (hand_PickG _ _ (by omega) (by omega) _).mono ?_); rintro e w1 ⟨rfl, hb⟩; exact ⟨_, rfl, hN _ hb⟩))
          refine okf (by simp only [Act.put, List.setIfInBounds_toArray, List.set_cons_succ, List.set_cons_zero]; exact rfl) ?_
          refine gend ?_
          rintro v ⟨hgu, hB1, hG1, -⟩
          have Ho1u := Lib.hid (own_grow Ho1.out hgu)
          have Ho2u := Lib.hid (own_grow Ho2.out hgu)
          clear Ho1 Ho2
          clear hB hG
          have hB := hB1
          have hG := hG1
          clear hB1 hG1
          refine hL _ _ ?_
          clear hL L hgu
          obtain ⟨u, rfl⟩ : ∃ x, x = v := ⟨_, rfl⟩
          have r := hB.r
          simp only [BxR] at r
          refine app_tail w.heap.size _ (gotL lb k i) _ rfl (fun _ => rfl) (fun _ => rfl) (fun _ _ => rfl) Ho2u.out (by rw [gotL_len]; omega) hG.size fun p v' w' g1 g2 g3 => ?_
          have hA2 := app_two Ho2u.out Ho1u.out Hap.out.symm hG g2 g3
          rw [← Hw2.out, ← gotL_succ] at g1
          obtain ⟨g4, g5, g6⟩ := hA2
          clear Ho1u Ho2u Hap hB hG g2 g3
          have Ho2 := Lib.hid g1
          have Ho1 := Lib.hid g4
          have Hap := Lib.hid g5.symm
          have hG := g6
          have hB := Bx.nil w'
          clear g1 g4 g5 g6
          obtain ⟨u, rfl⟩ : ∃ x, x = w' := ⟨_, rfl⟩
          simp only [Act.put, List.setIfInBounds_toArray, List.set_cons_succ, List.set_cons_zero]
          clear r
          refine NoK.norm (hN _ _ ?_)
          clear hN K
          refine blk_norm ?_
          refine then_norm ?_
          refine wp_r0 ?_
          intro K hN
          go_wp2_with fail
          refine NoK.norm (hN _ _ ?_)
          clear hN K
          refine then_norm ?_
          go_roundw
          case rel => exact ⟨i + 1, by omega, by go_num, Ho1.out, Ho2.out, Hap.out, hG⟩
          case measure => simp [intOf]; omega
        · intro ht
          have ht54 := ht
          have Hw2 := Lib.hid (show gotAt lb k i = pick ((i : Int) * 3) k by unfold gotAt rawAt; rw [if_neg (by have := Hxb.out; simp at ht; omega)]; simp)
          refine wp_skip ?_
          refine then_norm ?_
          refine wp_seq ?_
          refine wp_rs (w := w) allocs3 4 [0, 0, 0, 1] (by kernel_rfl) (by simp only [List.drop_succ_cons, List.drop_zero]; exact rfl) (fun _ => True) noG hB hG trivial ?_
          intro K L hN hL
          simp only [List.zip_cons_cons, List.zip_nil_left]
          apply gy
          · exact rfl
          · (rintro v - N hN; go_simp; exact hN)
          refine okf (by simp only [Act.put, List.setIfInBounds_toArray, List.set_cons_succ, List.set_cons_zero]; exact rfl) ?_
          apply gy
          · exact rfl
          · (rintro v - N hN; go_simp; exact hN)
          refine okf (by simp only [Act.put, List.setIfInBounds_toArray, List.set_cons_succ, List.set_cons_zero]; exact rfl) ?_
          apply gy
          · exact rfl
          · (rintro v - N hN; go_simp; exact hN)
          refine okf (by simp only [Act.put, List.setIfInBounds_toArray, List.set_cons_succ, List.set_cons_zero]; exact rfl) ?_
          apply gm
          · exact rfl
          · (rintro v ⟨hgu, hB, hG, -⟩ N hN; go_simp; ((with_reducible refine (hand_PickG _ _ (by omega) (by omega) _).mono ?_); rintro e w1 ⟨rfl, hb⟩; exact ⟨_, rfl, hN _ hb⟩))
          refine okf (by simp only [Act.put, List.setIfInBounds_toArray, List.set_cons_succ, List.set_cons_zero]; exact rfl) ?_
          refine gend ?_
          rintro v ⟨hgu, hB1, hG1, -⟩
          have Ho1u := Lib.hid (own_grow Ho1.out hgu)
          have Ho2u := Lib.hid (own_grow Ho2.out hgu)
          clear Ho1 Ho2
          clear hB hG
          have hB := hB1
          have hG := hG1
          clear hB1 hG1
          refine hL _ _ ?_
          clear hL L hgu
          obtain ⟨u, rfl⟩ : ∃ x, x = v := ⟨_, rfl⟩
          have r := hB.r
          simp only [BxR] at r
          refine app_tail w.heap.size _ (wantL la k i) _ rfl (fun _ => rfl) (fun _ => rfl) (fun _ _ => rfl) Ho1u.out (by rw [wantL_len]; omega) hG.size fun p v' w' g1 g2 g3 => ?_
          have hA2 := app_two Ho1u.out Ho2u.out Hap.out hG g2 g3
          rw [← Hw1.out, ← wantL_succ] at g1
          obtain ⟨g4, g5, g6⟩ := hA2
          clear Ho1u Ho2u Hap hB hG g2 g3
          have Ho1 := Lib.hid g1
          have Ho2 := Lib.hid g4
          have Hap := Lib.hid g5
          have hG := g6
          have hB := Bx.nil w'
          clear g1 g4 g5 g6
          obtain ⟨u, rfl⟩ : ∃ x, x = w' := ⟨_, rfl⟩
          simp only [Act.put, List.setIfInBounds_toArray, List.set_cons_succ, List.set_cons_zero]
          clear r
          refine NoK.norm (hN _ _ ?_)
          clear hN K
          refine then_norm ?_
          refine wp_rs (w := w) allocs3 4 [0, 0, 0, 1] (by kernel_rfl) (by simp only [List.drop_succ_cons, List.drop_zero]; exact rfl) (fun _ => True) noG hB hG trivial ?_
          intro K L hN hL
          simp only [List.zip_cons_cons, List.zip_nil_left]
          apply gy
          · exact rfl
          · (rintro v - N hN; go_simp; exact hN)
          refine okf (by simp only [Act.put, List.setIfInBounds_toArray, List.set_cons_succ, List.set_cons_zero]; exact rfl) ?_
          apply gy
          · exact rfl
          · (rintro v - N hN; go_simp; exact hN)
          refine okf (by simp only [Act.put, List.setIfInBounds_toArray, List.set_cons_succ, List.set_cons_zero]; exact rfl) ?_
          apply gy
          · exact rfl
          · (rintro v - N hN; go_simp; exact hN)
          refine okf (by simp only [Act.put, List.setIfInBounds_toArray, List.set_cons_succ, List.set_cons_zero]; exact rfl) ?_
          apply gm
          · exact rfl
          · (rintro v ⟨hgu, hB, hG, -⟩ N hN; go_simp; ((with_reducible refine (hand_PickG _ _ (by omega) (by omega) _).mono ?_); rintro e w1 ⟨rfl, hb⟩; exact ⟨_, rfl, hN _ hb⟩))
          refine okf (by simp only [Act.put, List.setIfInBounds_toArray, List.set_cons_succ, List.set_cons_zero]; exact rfl) ?_
          refine gend ?_
          rintro v ⟨hgu, hB1, hG1, -⟩
          have Ho1u := Lib.hid (own_grow Ho1.out hgu)
          have Ho2u := Lib.hid (own_grow Ho2.out hgu)
          clear Ho1 Ho2
          clear hB hG
          have hB := hB1
          have hG := hG1
          clear hB1 hG1
          refine hL _ _ ?_
          clear hL L hgu
          obtain ⟨u, rfl⟩ : ∃ x, x = v := ⟨_, rfl⟩
          have r := hB.r
          simp only [BxR] at r
          refine app_tail w.heap.size _ (gotL lb k i) _ rfl (fun _ => rfl) (fun _ => rfl) (fun _ _ => rfl) Ho2u.out (by rw [gotL_len]; omega) hG.size fun p v' w' g1 g2 g3 => ?_
          have hA2 := app_two Ho2u.out Ho1u.out Hap.out.symm hG g2 g3
          rw [← Hw2.out, ← gotL_succ] at g1
          obtain ⟨g4, g5, g6⟩ := hA2
          clear Ho1u Ho2u Hap hB hG g2 g3
          have Ho2 := Lib.hid g1
          have Ho1 := Lib.hid g4
          have Hap := Lib.hid g5.symm
          have hG := g6
          have hB := Bx.nil w'
          clear g1 g4 g5 g6
          obtain ⟨u, rfl⟩ : ∃ x, x = w' := ⟨_, rfl⟩
          simp only [Act.put, List.setIfInBounds_toArray, List.set_cons_succ, List.set_cons_zero]
          clear r
          refine NoK.norm (hN _ _ ?_)
          clear hN K
          refine blk_norm ?_
          refine then_norm ?_
          refine wp_r0 ?_
          intro K hN
          go_wp2_with fail
          refine NoK.norm (hN _ _ ?_)
          clear hN K
          refine then_norm ?_
          go_roundw
          case rel => exact ⟨i + 1, by omega, by go_num, Ho1.out, Ho2.out, Hap.out, hG⟩
          case measure => simp [intOf]; omega
    · obtain rfl : m = i := by omega
      have hdl : decide ((m : Int) < (m : Int)) = false := by simp
      refine wp_seq ?_
      refine wp_seq ?_
      refine wp_r0 ?_
      intro K hN
      go_wp2_with fail
      refine NoK.norm (hN _ _ ?_)
      clear hN K
      refine then_norm ?_
      refine wp_cond_false (rfl) ?_
      refine wp_exit ?_
      refine then_exit ?_
      refine then_exit ?_
      refine blk_exit ?_
      refine then_norm ?_
      refine wp_seq ?_
      obtain ⟨A1, c1, e1, -, hL1⟩ := own_li Ho1.out
      obtain ⟨A2, c2, e2, -, hL2⟩ := own_li Ho2.out
      rw [wantL_len] at e1
      rw [gotL_len] at e2
      subst e1
      subst e2
      clear Ho1 Ho2 Hap HA HB Hxa Hxb
      have HG0 := Lib.hid hG
      clear hG hB
      obtain ⟨w0, rfl⟩ : ∃ x, x = w := ⟨_, rfl⟩
      obtain ⟨w, rfl⟩ : ∃ x, x = u := ⟨_, rfl⟩
      have hrg := lists_range la lb (k := k) (by omega) m
      obtain ⟨l1, hl1⟩ : ∃ l, l = wantL la k m := ⟨_, rfl⟩
      obtain ⟨l2, hl2⟩ : ∃ l, l = gotL lb k m := ⟨_, rfl⟩
      have hn1 : l1.length = m := by rw [hl1, wantL_len]
      have hn2 : l2.length = m := by rw [hl2, gotL_len]
      rw [← hl1] at hL1 hrg
      rw [← hl2] at hL2 hrg
      clear hl1 hl2
      obtain ⟨T, hT⟩ : ∃ T : Nat → Nat → Int, T = fun i j => tabAt l1 l2 m i j := ⟨_, rfl⟩
      have hS : sumTo (fun a => sumTo (T a) k) k = m := by rw [hT]; exact all_sum l1 l2 k hrg
      have hd : sumTo (fun a => T a a) k = (hits l1 l2 m : Nat) := by rw [hT]; exact diag_sum l1 l2 k hrg
      have hT0 : ∀ a, a < k → ∀ t, t < k → 0 ≤ T a t := fun a _ t _ => by rw [hT]; exact (tabAt_le l1 l2 m a t).1
      have htab : ∀ W, Grow w W → Calls Tryz.prog 14 #[.slice A1 m c1, .slice A2 m c2, .int .i64 k] W (RetX (fun B0 : Nat => .tuple #[.slice (some ⟨B0, 0, none⟩) k k, .int .i64 0]) (fun B0 W => Tb W B0 0 k (fun i => B0 + 1 + i) (fun _ => 0) (fun _ => k) T) W) := fun W hg => by
        have := score_Table_X A1 A2 m c1 c2 k l1 l2 hn1 hn2 (by omega) (by omega) hk1 (by omega) hrg W (hL1.grow hg) (hL2.grow hg)
        rw [hT]
        exact this
      obtain ⟨p, hp⟩ : ∃ p, p = qover ((hits l1 l2 m : Nat) : Int) (m : Nat) := ⟨_, rfl⟩
      have hrt : ∀ W, Grow w W → Calls Tryz.prog 12 #[.slice A1 m c1, .slice A2 m c2] W fun e w' => e = .returned (.tuple #[qV p, .int .i64 0]) ∧ Grow W w' := fun W hg => by
        rw [hp]
        exact score_Right_ok A1 A2 m c1 c2 l1 l2 hn1 hn2 (by omega) (by omega) W (hL1.grow hg) (hL2.grow hg)
      obtain ⟨h, hh⟩ : ∃ h, h = hits l1 l2 m := ⟨_, rfl⟩
      have hhm := hits_le l1 l2 m
      rw [← hh] at hp hd hhm
      have HS := Lib.hid hS
      have HD := Lib.hid hd
      have HT0 := Lib.hid hT0
      have Htab := Lib.hid htab
      have Hrt := Lib.hid hrt
      have HP := Lib.hid hp
      clear hL1 hL2 hrg hn1 hn2 hT hS hd hT0 htab hrt hp hh
      obtain ⟨u, hu⟩ : ∃ x, x = w := ⟨_, rfl⟩
      have hB := Bx.nil u
      have hG : Grow w u := hu ▸ Grow.refl u
      have hF := Fr.nil w
      rw [← hu]
      clear hu
      refine wp_rs (w := w) allocs3 9 [0, 0, 0, 1, 0, 0, 0, 0, 0] (by kernel_rfl) (by simp only [List.drop_succ_cons, List.drop_nil]; exact rfl) (fun _ => True) noG hB hG trivial ?_
      intro K L hN hL
      simp only [List.zip_cons_cons, List.zip_nil_left]
      apply gy
      · exact rfl
      · (rintro v - N hN; go_simp; exact hN)
      refine okf (by simp only [Act.put, List.setIfInBounds_toArray, List.set_cons_succ, List.set_cons_zero]; exact rfl) ?_
      apply gy
      · exact rfl
      · (rintro v - N hN; go_simp; exact hN)
      refine okf (by simp only [Act.put, List.setIfInBounds_toArray, List.set_cons_succ, List.set_cons_zero]; exact rfl) ?_
      apply gy
      · exact rfl
      · (rintro v - N hN; go_simp; exact hN)
      refine okf (by simp only [Act.put, List.setIfInBounds_toArray, List.set_cons_succ, List.set_cons_zero]; exact rfl) ?_
      refine gx (Nat) (fun B0 : Nat => .tuple #[.slice (some ⟨B0, 0, none⟩) k k, .int .i64 0]) (fun B0 W => Tb W B0 0 k (fun i => B0 + 1 + i) (fun _ => 0) (fun _ => k) T) (fun x u u' hg h => Tb.grow h hg) rfl ?_ (fun x75 => ?_)
      · (rintro v ⟨hgu, hB, hG, -⟩ N hN; go_simp; ((with_reducible refine (Htab.out _ hG).mono ?_); rintro e w1 ⟨x, rfl, hx, hg⟩; exact ⟨_, rfl, hN x w1 hx hg⟩))
      refine okf (by simp only [Act.put, List.setIfInBounds_toArray, List.set_cons_succ, List.set_cons_zero]; exact rfl) ?_
      apply gy
      · exact rfl
      · (rintro v - N hN; go_simp; exact hN)
      refine okf (by simp only [Act.put, List.setIfInBounds_toArray, List.set_cons_succ, List.set_cons_zero]; exact rfl) ?_
      apply gy
      · exact rfl
      · (rintro v - N hN; go_simp; exact hN)
      refine okf (by simp only [Act.put, List.setIfInBounds_toArray, List.set_cons_succ, List.set_cons_zero]; exact rfl) ?_
      apply gy
      · exact rfl
      · (rintro v - N hN; go_simp; exact hN)
      refine okf (by simp only [Act.put, List.setIfInBounds_toArray, List.set_cons_succ, List.set_cons_zero]; exact rfl) ?_
      apply gy
      · exact rfl
      · (rintro v - N hN; go_simp; exact hN)
      refine okf (by simp only [Act.put, List.setIfInBounds_toArray, List.set_cons_succ, List.set_cons_zero]; exact rfl) ?_
      apply gy
      · exact rfl
      · (rintro v - N hN; go_simp; exact hN)
      refine okf (by simp only [Act.put, List.setIfInBounds_toArray, List.set_cons_succ, List.set_cons_zero]; exact rfl) ?_
      refine gend ?_
      rintro v ⟨⟨hgu, hB1, hG1, -⟩, hx75⟩
      clear hB hG
      have hB := hB1
      have hG := hG1
      clear hB1 hG1
      refine hL _ _ ?_
      clear hL L hgu
      obtain ⟨u, rfl⟩ : ∃ x, x = v := ⟨_, rfl⟩
      refine wpList_nil ?_
      refine NoK.norm (hN _ _ ?_)
      clear hN K
      have htb : Tb u x75 0 k (fun i => x75 + 1 + i) (fun _ => 0) (fun _ => k) T := hx75
      clear hx75
      have hrt2 : ∀ W, Grow u W → Calls Tryz.prog 12 #[.slice A1 m c1, .slice A2 m c2] W fun e w' => e = .returned (.tuple #[qV p, .int .i64 0]) ∧ Grow W w' := fun W hg => Hrt.out W (hG.trans hg)
      have HG1 := Lib.hid (HG0.out.trans hG)
      clear hG hB hF HG0 Hrt Htab
      have Hrt := Lib.hid hrt2
      have Htb := Lib.hid htb
      clear hrt2 htb
      obtain ⟨w1, rfl⟩ : ∃ x, x = w := ⟨_, rfl⟩
      obtain ⟨w, rfl⟩ : ∃ x, x = u := ⟨_, rfl⟩
      clear w1
      obtain ⟨u, hu⟩ : ∃ x, x = w := ⟨_, rfl⟩
      have hB := Bx.nil u
      have hG : Grow w u := hu ▸ Grow.refl u
      have hF := Fr.nil w
      rw [← hu]
      clear hu
      have hsB : 6 * 5 + 2 ≤ BIG := by decide
      have hrat : ∀ W, Grow w W → Calls Tryz.prog 20 #[.slice (some ⟨x75, 0, none⟩) k k] W (RetX (fun bo : Nat => .tuple #[.slice (some ⟨bo, 0, none⟩) k k, .int .i64 0]) (fun bo W => Blk W bo 58 (cellsR (rateTo k T k))) W) := fun W hg => score_Rates_X x75 0 k k _ _ _ T 5 (by omega) (by omega) HT0.out (by rw [HS.out]; omega) (by rw [HS.out]; omega) (by omega) hsB W (Htb.out.grow hg)
      have Hrat := Lib.hid hrat
      clear hrat hsB
      refine then_norm ?_
      refine wp_seq ?_
      refine wp_rs (w := w) allocs3 7 [0, 1, 0, 0, 0, 0, 0] (by kernel_rfl) (by simp only [List.drop_succ_cons, List.drop_nil]; exact rfl) (fun _ => True) noG hB hG trivial ?_
      intro K L hN hL
      simp only [List.zip_cons_cons, List.zip_nil_left]
      apply gy
      · exact rfl
      · (rintro v - N hN; go_simp; exact hN)
      refine okf (by simp only [Act.put, List.setIfInBounds_toArray, List.set_cons_succ, List.set_cons_zero]; exact rfl) ?_
      refine gx (Nat) (fun bo : Nat => .tuple #[.slice (some ⟨bo, 0, none⟩) k k, .int .i64 0]) (fun bo W => Blk W bo 58 (cellsR (rateTo k T k))) (fun x u u' hg h => Blk.grow hg h) rfl ?_ (fun x80 => ?_)
      · (rintro v ⟨hgu, hB, hG, -⟩ N hN; go_simp; ((with_reducible refine (Hrat.out _ hG).mono ?_); rintro e w1 ⟨x, rfl, hx, hg⟩; exact ⟨_, rfl, hN x w1 hx hg⟩))
      refine okf (by simp only [Act.put, List.setIfInBounds_toArray, List.set_cons_succ, List.set_cons_zero]; exact rfl) ?_
      apply gy
      · exact rfl
      · (rintro v - N hN; go_simp; exact hN)
      refine okf (by simp only [Act.put, List.setIfInBounds_toArray, List.set_cons_succ, List.set_cons_zero]; exact rfl) ?_
      apply gy
      · exact rfl
      · (rintro v - N hN; go_simp; exact hN)
      refine okf (by simp only [Act.put, List.setIfInBounds_toArray, List.set_cons_succ, List.set_cons_zero]; exact rfl) ?_
      apply gy
      · exact rfl
      · (rintro v - N hN; go_simp; exact hN)
      refine okf (by simp only [Act.put, List.setIfInBounds_toArray, List.set_cons_succ, List.set_cons_zero]; exact rfl) ?_
      apply gy
      · exact rfl
      · (rintro v - N hN; go_simp; exact hN)
      refine okf (by simp only [Act.put, List.setIfInBounds_toArray, List.set_cons_succ, List.set_cons_zero]; exact rfl) ?_
      apply gy
      · exact rfl
      · (rintro v - N hN; go_simp; exact hN)
      refine okf (by simp only [Act.put, List.setIfInBounds_toArray, List.set_cons_succ, List.set_cons_zero]; exact rfl) ?_
      refine gend ?_
      rintro v ⟨⟨hgu, hB1, hG1, -⟩, hx80⟩
      clear hB hG
      have hB := hB1
      have hG := hG1
      clear hB1 hG1
      refine hL _ _ ?_
      clear hL L hgu
      obtain ⟨u, rfl⟩ : ∃ x, x = v := ⟨_, rfl⟩
      refine wpList_nil ?_
      refine NoK.norm (hN _ _ ?_)
      clear hN K
      have hbl : Blk u x80 58 (cellsR (rateTo k T k)) := hx80
      clear hx80
      have htb2 := Htb.out.grow hG
      have hte : ∀ W, Grow u W → ∀ i, i < k → W.cell? ⟨x75, i, none⟩ = some (.slice (some ⟨x75 + 1 + i, 0, none⟩) k k) ∧ ∀ j, j < k → W.cell? ⟨x75 + 1 + i, j, none⟩ = some (.int .i64 (T i j)) := fun W hg i hi => by
        have h1 := (htb2.grow hg).2 i hi
        simp only [Nat.zero_add] at h1
        exact ⟨h1.1, h1.2.2⟩
      have hre : ∀ W, Grow u W → ∀ i, i < k → W.cell? ⟨x80, i * 15 + 5, none⟩ = some (.bool (intNeg (qover (T i i) (sumTo (T i) k)).num)) ∧ W.cell? ⟨x80, i * 15 + 6, none⟩ = some (.int .u64 (natLo (qover (T i i) (sumTo (T i) k)).num.natAbs)) ∧ W.cell? ⟨x80, i * 15 + 7, none⟩ = some (.string (natMo (qover (T i i) (sumTo (T i) k)).num.natAbs)) ∧ W.cell? ⟨x80, i * 15 + 8, none⟩ = some (.int .u64 (natLo (keptDen (qover (T i i) (sumTo (T i) k)).den))) ∧ W.cell? ⟨x80, i * 15 + 9, none⟩ = some (.string (natMo (keptDen (qover (T i i) (sumTo (T i) k)).den))) := fun W hg i hi => rates_cells (hbl.grow hg) hi
      have hrt2 : ∀ W, Grow u W → Calls Tryz.prog 12 #[.slice A1 m c1, .slice A2 m c2] W fun e w' => e = .returned (.tuple #[qV p, .int .i64 0]) ∧ Grow W w' := fun W hg => Hrt.out W (hG.trans hg)
      have HG2 := Lib.hid (HG1.out.trans hG)
      clear hG hB hF HG1 Hrt Hrat Htb htb2 hbl
      have Hrt := Lib.hid hrt2
      have Hte := Lib.hid hte
      have Hre := Lib.hid hre
      clear hrt2 hte hre
      obtain ⟨w1, rfl⟩ : ∃ x, x = w := ⟨_, rfl⟩
      obtain ⟨w, rfl⟩ : ∃ x, x = u := ⟨_, rfl⟩
      clear w1
      obtain ⟨u, hu⟩ : ∃ x, x = w := ⟨_, rfl⟩
      have hB := Bx.nil u
      have hG : Grow w u := hu ▸ Grow.refl u
      have hF := Fr.nil w
      rw [← hu]
      clear hu
      refine then_norm ?_
      refine wp_seq ?_
      refine wp_rs (w := w) allocs3 7 [0, 0, 1, 0, 0, 0, 2] (by kernel_rfl) (by simp only [List.drop_succ_cons, List.drop_zero]; exact rfl) (fun _ => True) noG hB hG trivial ?_
      intro K L hN hL
      simp only [List.zip_cons_cons, List.zip_nil_left]
      apply gy
      · exact rfl
      · (rintro v - N hN; go_simp; exact hN)
      refine okf (by simp only [Act.put, List.setIfInBounds_toArray, List.set_cons_succ, List.set_cons_zero]; exact rfl) ?_
      apply gy
      · exact rfl
      · (rintro v - N hN; go_simp; exact hN)
      refine okf (by simp only [Act.put, List.setIfInBounds_toArray, List.set_cons_succ, List.set_cons_zero]; exact rfl) ?_
      apply gm
      · exact rfl
      · (rintro v ⟨hgu, hB, hG, -⟩ N hN; go_simp; ((with_reducible refine (Hrt.out _ hG).mono ?_); rintro e w1 ⟨rfl, hb⟩; exact ⟨_, rfl, hN _ hb⟩))
      refine okf (by simp only [Act.put, List.setIfInBounds_toArray, List.set_cons_succ, List.set_cons_zero]; exact rfl) ?_
      apply gy
      · exact rfl
      · (rintro v - N hN; go_simp; exact hN)
      refine okf (by simp only [Act.put, List.setIfInBounds_toArray, List.set_cons_succ, List.set_cons_zero]; exact rfl) ?_
      apply gy
      · exact rfl
      · (rintro v - N hN; go_simp; exact hN)
      refine okf (by simp only [Act.put, List.setIfInBounds_toArray, List.set_cons_succ, List.set_cons_zero]; exact rfl) ?_
      apply gy
      · exact rfl
      · (rintro v - N hN; go_simp; exact hN)
      refine okf (by simp only [Act.put, List.setIfInBounds_toArray, List.set_cons_succ, List.set_cons_zero]; exact rfl) ?_
      refine ga (newObj_Q _ _ _ _ _) fun b19 hb19 hn19 => ?_
      refine okf (by simp only [Act.put, List.setIfInBounds_toArray, List.set_cons_succ, List.set_cons_zero]; exact rfl) ?_
      refine gend ?_
      rintro v ⟨⟨hgu, hB1, hG1, -⟩, h19⟩
      have hF := Fr.new (tk := []) hF hB hG hb19 hn19
      simp only [List.cons_append, List.nil_append, List.map_cons, List.map_nil] at hF
      clear hB hG
      have hB := (Bx.cons h19 hB1)
      have hG := hG1
      clear hB1 hG1 h19
      refine hL _ _ ?_
      clear hL L hgu
      obtain ⟨u, rfl⟩ : ∃ x, x = v := ⟨_, rfl⟩
      have r := hB.r
      simp only [BxR] at r
      go_wp2_with fail
      clear r
      generalize hu0 : World.setCell (World.setCell (World.setCell (World.setCell (World.setCell u _ _) _ _) _ _) _ _) _ _ = u0
      have hBG := hB.over hF hG 0 rfl 0 [_, _, _, _, _] hu0
      clear hB hG hu0
      simp only [List.modify_succ_cons, List.modify_zero_cons, wrAll, List.setIfInBounds_toArray, List.set_cons_zero, List.set_cons_succ, Nat.zero_add, Nat.reduceAdd] at hBG
      obtain ⟨hB, hG⟩ := hBG
      clear u
      obtain ⟨u, rfl⟩ : ∃ x, x = u0 := ⟨_, rfl⟩
      refine NoK.norm (hN _ _ ?_)
      clear hN K
      refine then_norm ?_
      refine wp_seq ?_
      refine wp_seq ?_
      refine wp_rs (w := w) allocs3 26 [1, 0, 0, 0, 0, 0, 0, 0, 0, 0, 0, 0, 0, 0, 0, 0, 0, 0, 0, 0, 0, 0, 0, 0, 0, 0] (by kernel_rfl) (by simp only [List.drop_succ_cons, List.drop_nil]; exact rfl) (fun _ => True) noG hB hG trivial ?_
      intro K L hN hL
      simp only [List.zip_cons_cons, List.zip_nil_left]
      apply gm
      · exact rfl
      · (rintro v ⟨hgu, hB, hG, -⟩ N hN; go_simp; ((with_reducible refine (law9_known _).mono ?_); rintro e w1 ⟨rfl, hb⟩; exact ⟨_, rfl, hN _ hb⟩))
      refine okf (by simp only [Act.put, List.setIfInBounds_toArray, List.set_cons_succ, List.set_cons_zero]; exact rfl) ?_
      apply gy
      · exact rfl
      · (rintro v - N hN; go_simp; exact hN)
      refine okf (by simp only [Act.put, List.setIfInBounds_toArray, List.set_cons_succ, List.set_cons_zero]; exact rfl) ?_
      apply gy
      · exact rfl
      · (rintro v - N hN; go_simp; exact hN)
      refine okf (by simp only [Act.put, List.setIfInBounds_toArray, List.set_cons_succ, List.set_cons_zero]; exact rfl) ?_
      first
        | (apply gy
           · exact rfl
           · (rintro v - N hN; go_simp; exact hN))
        | (apply gn; exact rfl)
      refine okf (by simp only [Act.put, List.setIfInBounds_toArray, List.set_cons_succ, List.set_cons_zero]; exact rfl) ?_
      first
        | (apply gy
           · exact rfl
           · (rintro v - N hN; go_simp; exact hN))
        | (apply gn; exact rfl)
      refine okf (by simp only [Act.put, List.setIfInBounds_toArray, List.set_cons_succ, List.set_cons_zero]; exact rfl) ?_
      apply gy
      · exact rfl
      · (rintro v - N hN; go_simp; exact hN)
      refine okf (by simp only [Act.put, List.setIfInBounds_toArray, List.set_cons_succ, List.set_cons_zero]; exact rfl) ?_
      apply gy
      · exact rfl
      · (rintro v - N hN; go_simp; exact hN)
      refine okf (by simp only [Act.put, List.setIfInBounds_toArray, List.set_cons_succ, List.set_cons_zero]; exact rfl) ?_
      first
        | (apply gy
           · exact rfl
           · (rintro v - N hN; go_simp; exact hN))
        | (apply gn; exact rfl)
      refine okf (by simp only [Act.put, List.setIfInBounds_toArray, List.set_cons_succ, List.set_cons_zero]; exact rfl) ?_
      first
        | (apply gy
           · exact rfl
           · (rintro v - N hN; go_simp; exact hN))
        | (apply gn; exact rfl)
      refine okf (by simp only [Act.put, List.setIfInBounds_toArray, List.set_cons_succ, List.set_cons_zero]; exact rfl) ?_
      apply gy
      · exact rfl
      · (rintro v - N hN; go_simp; exact hN)
      refine okf (by simp only [Act.put, List.setIfInBounds_toArray, List.set_cons_succ, List.set_cons_zero]; exact rfl) ?_
      apply gy
      · exact rfl
      · (rintro v - N hN; go_simp; exact hN)
      refine okf (by simp only [Act.put, List.setIfInBounds_toArray, List.set_cons_succ, List.set_cons_zero]; exact rfl) ?_
      first
        | (apply gy
           · exact rfl
           · (rintro v - N hN; go_simp; exact hN))
        | (apply gn; exact rfl)
      refine okf (by simp only [Act.put, List.setIfInBounds_toArray, List.set_cons_succ, List.set_cons_zero]; exact rfl) ?_
      first
        | (apply gy
           · exact rfl
           · (rintro v - N hN; go_simp; exact hN))
        | (apply gn; exact rfl)
      refine okf (by simp only [Act.put, List.setIfInBounds_toArray, List.set_cons_succ, List.set_cons_zero]; exact rfl) ?_
      apply gy
      · exact rfl
      · (rintro v - N hN; go_simp; exact hN)
      refine okf (by simp only [Act.put, List.setIfInBounds_toArray, List.set_cons_succ, List.set_cons_zero]; exact rfl) ?_
      apply gy
      · exact rfl
      · (rintro v - N hN; go_simp; exact hN)
      refine okf (by simp only [Act.put, List.setIfInBounds_toArray, List.set_cons_succ, List.set_cons_zero]; exact rfl) ?_
      first
        | (apply gy
           · exact rfl
           · (rintro v - N hN; go_simp; exact hN))
        | (apply gn; exact rfl)
      refine okf (by simp only [Act.put, List.setIfInBounds_toArray, List.set_cons_succ, List.set_cons_zero]; exact rfl) ?_
      first
        | (apply gy
           · exact rfl
           · (rintro v - N hN; go_simp; exact hN))
        | (apply gn; exact rfl)
      refine okf (by simp only [Act.put, List.setIfInBounds_toArray, List.set_cons_succ, List.set_cons_zero]; exact rfl) ?_
      first
        | (apply gy
           · exact rfl
           · (rintro v - N hN; go_simp; exact hN))
        | (apply gn; exact rfl)
      refine okf (by simp only [Act.put, List.setIfInBounds_toArray, List.set_cons_succ, List.set_cons_zero]; exact rfl) ?_
      first
        | (apply gy
           · exact rfl
           · (rintro v - N hN; go_simp; exact hN))
        | (apply gn; exact rfl)
      refine okf (by simp only [Act.put, List.setIfInBounds_toArray, List.set_cons_succ, List.set_cons_zero]; exact rfl) ?_
      apply gy
      · exact rfl
      · (rintro v - N hN; go_simp; exact hN)
      refine okf (by simp only [Act.put, List.setIfInBounds_toArray, List.set_cons_succ, List.set_cons_zero]; exact rfl) ?_
      apply gy
      · exact rfl
      · (rintro v - N hN; go_simp; exact hN)
      refine okf (by simp only [Act.put, List.setIfInBounds_toArray, List.set_cons_succ, List.set_cons_zero]; exact rfl) ?_
      first
        | (apply gy
           · exact rfl
           · (rintro v - N hN; go_simp; exact hN))
        | (apply gn; exact rfl)
      refine okf (by simp only [Act.put, List.setIfInBounds_toArray, List.set_cons_succ, List.set_cons_zero]; exact rfl) ?_
      first
        | (apply gy
           · exact rfl
           · (rintro v - N hN; go_simp; exact hN))
        | (apply gn; exact rfl)
      refine okf (by simp only [Act.put, List.setIfInBounds_toArray, List.set_cons_succ, List.set_cons_zero]; exact rfl) ?_
      first
        | (apply gy
           · exact rfl
           · (rintro v - N hN; go_simp; exact hN))
        | (apply gn; exact rfl)
      refine okf (by simp only [Act.put, List.setIfInBounds_toArray, List.set_cons_succ, List.set_cons_zero]; exact rfl) ?_
      first
        | (apply gy
           · exact rfl
           · (rintro v - N hN; go_simp; exact hN))
        | (apply gn; exact rfl)
      refine okf (by simp only [Act.put, List.setIfInBounds_toArray, List.set_cons_succ, List.set_cons_zero]; exact rfl) ?_
      apply gy
      · exact rfl
      · (rintro v - N hN; go_simp; exact hN)
      refine okf (by simp only [Act.put, List.setIfInBounds_toArray, List.set_cons_succ, List.set_cons_zero]; exact rfl) ?_
      refine gend ?_
      rintro v ⟨hgu, hB1, hG1, -⟩
      clear hB hG
      have hB := hB1
      have hG := hG1
      clear hB1 hG1
      refine hL _ _ ?_
      clear hL L hgu
      obtain ⟨u, rfl⟩ : ∃ x, x = v := ⟨_, rfl⟩
      refine wpList_nil ?_
      refine NoK.norm (hN _ _ ?_)
      clear hN K
      refine then_norm ?_
      refine wp_cond_false (rfl) ?_
      refine wp_skip ?_
      refine then_norm ?_
      refine wp_seq ?_
      refine wp_rs (w := w) allocs3 1 [2] (by kernel_rfl) (by simp only [List.drop_succ_cons, List.drop_nil]; exact rfl) (fun _ => True) noG hB hG trivial ?_
      intro K L hN hL
      simp only [List.zip_cons_cons, List.zip_nil_left]
      refine ga (newObj_Q _ _ _ _ _) fun b21 hb21 hn21 => ?_
      refine okf (by simp only [Act.put, List.setIfInBounds_toArray, List.set_cons_succ, List.set_cons_zero]; exact rfl) ?_
      refine gend ?_
      rintro v ⟨⟨hgu, hB1, hG1, -⟩, h21⟩
      have hF := Fr.new (tk := []) hF hB hG hb21 hn21
      simp only [List.cons_append, List.nil_append, List.map_cons, List.map_nil] at hF
      clear hB hG
      have hB := (Bx.cons h21 hB1)
      have hG := hG1
      clear hB1 hG1 h21
      refine hL _ _ ?_
      clear hL L hgu
      obtain ⟨u, rfl⟩ : ∃ x, x = v := ⟨_, rfl⟩
      refine wpList_nil ?_
      refine NoK.norm (hN _ _ ?_)
      clear hN K
      refine then_norm ?_
      refine wp_seq ?_
      refine wp_r0 ?_
      intro K hN
      go_wp2_with fail
      refine NoK.norm (hN _ _ ?_)
      clear hN K
      refine then_norm ?_
      refine wp_seq ?_
      refine wp_r0 ?_
      intro K hN
      go_wp2_with fail
      refine NoK.norm (hN _ _ ?_)
      clear hN K
      refine then_norm ?_
      refine wp_seq ?_
      refine wp_seq ?_
      refine wp_r0 ?_
      intro K hN
      go_wp2_with fail
      refine NoK.norm (hN _ _ ?_)
      clear hN K
      refine then_norm ?_
      refine wp_block ?_
      go_loopw [22, 23, 24] (fun z y t wr => ∃ i : Nat, i ≤ k ∧ t = .int .i64 i ∧ y = .int .i64 (sumTo (fun a => sumTo (T a) k) i) ∧ z = .int .i64 (sumTo (fun a => T a a) i) ∧ Bx wr [(b21, 32, #[.bool (intNeg (qint (sumTo (fun a => T a a) i)).num), .int .u64 (natLo (qint (sumTo (fun a => T a a) i)).num.natAbs), .string (natMo (qint (sumTo (fun a => T a a) i)).num.natAbs), .int .u64 (natLo (keptDen (qint (sumTo (fun a => T a a) i)).den)), .string (natMo (keptDen (qint (sumTo (fun a => T a a) i)).den))]), (b19, 32, #[.bool (intNeg (p).num), .int .u64 (natLo (p).num.natAbs), .string (natMo (p).num.natAbs), .int .u64 (natLo (keptDen (p).den)), .string (natMo (keptDen (p).den))])] ∧ Grow w wr) (fun _ _ t _ => k - (intOf t).toNat)
      case atStart => exact ⟨0, Nat.zero_le _, rfl, rfl, rfl, by rw [show qint (sumTo (fun a => T a a) 0) = 0 from rfl, q0_cells]; exact hB, hG⟩
      case round =>
        clear hB hG
        obtain ⟨i, hi, rfl, rfl, rfl, hB, hG⟩ := hrel
        obtain ⟨u, rfl⟩ : ∃ x, x = wr := ⟨_, rfl⟩
        rcases Nat.lt_or_ge i k with hlt | hge
        · have hdl : decide ((i : Int) < (k : Int)) = true := by simp; omega
          have q1 : ∀ W, Grow w W → W.cell? ⟨x75, i, none⟩ = some (.slice (some ⟨x75 + 1 + i, 0, none⟩) k k) := fun W hg => (Hte.out W hg i hlt).1
          have Q1 := Lib.hid q1
          clear q1
          refine wp_seq ?_
          refine wp_seq ?_
          refine wp_r0 ?_
          intro K hN
          go_wp2_with fail
          refine NoK.norm (hN _ _ ?_)
          clear hN K
          refine then_norm ?_
          refine wp_cond_true (rfl) ?_
          refine wp_skip ?_
          refine then_norm ?_
          refine wp_seq ?_
          refine wp_block ?_
          refine wp_seq ?_
          refine wp_r0 ?_
          intro K hN
          go_wp2_with fail
          refine NoK.norm (hN _ _ ?_)
          clear hN K
          refine then_norm ?_
          refine wp_seq ?_
          refine wp_seq ?_
          refine wp_r0 ?_
          intro K hN
          go_wp2_with fail
          refine NoK.norm (hN _ _ ?_)
          clear hN K
          refine then_norm ?_
          refine wp_block ?_
          go_loopw [25, 26] (fun z t wr => ∃ j : Nat, j ≤ k ∧ t = .int .i64 j ∧ z = .int .i64 (sumTo (T i) j) ∧ wr = u) (fun _ t _ => k - (intOf t).toNat)
          case atStart => exact ⟨0, Nat.zero_le _, rfl, rfl, rfl⟩
          case round =>
            obtain ⟨j, hj, rfl, rfl, rfl⟩ := hrel
            obtain ⟨u, rfl⟩ : ∃ x, x = wr := ⟨_, rfl⟩
            rcases Nat.lt_or_ge j k with hjk | hjk
            · have hdj : decide ((j : Int) < (k : Int)) = true := by simp; omega
              obtain ⟨e1, e2, e3⟩ := allS_le (k := k) (T := T) HT0.out hlt hjk
              obtain ⟨e4, e5⟩ := row_le (k := k) (T := T) HT0.out hlt j (by omega)
              obtain ⟨e6, e7⟩ := row_le (k := k) (T := T) HT0.out hlt (j + 1) (by omega)
              have e8 : sumTo (T i) (j + 1) = sumTo (T i) j + T i j := rfl
              rw [HS.out] at e2 e5 e7
              have q2 : u.cell? ⟨x75 + 1 + i, j, none⟩ = some (.int .i64 (T i j)) := (Hte.out u hG i hlt).2 j hjk
              have q1 := Q1.out u hG
              obtain ⟨N, hN⟩ : ∃ N, N = T i j := ⟨_, rfl⟩
              obtain ⟨X, hX⟩ : ∃ N, N = sumTo (T i) j := ⟨_, rfl⟩
              rw [← hN] at q2 e2 e3 e8
              rw [← hX] at e4 e5 e8
              rw [← hX]
              have HE := Lib.hid e8
              rw [e8] at e6 e7
              clear e1 e2 hN hX e8
              refine wp_seq ?_
              refine wp_seq ?_
              refine wp_r0 ?_
              intro K hN
              go_wp2_with fail
              refine NoK.norm (hN _ _ ?_)
              clear hN K
              refine then_norm ?_
              refine wp_cond_true (rfl) ?_
              refine wp_skip ?_
              refine then_norm ?_
              refine wp_seq ?_
              refine wp_block ?_
              refine wp_r0 ?_
              intro K hN
              have r := hB.r
              simp only [BxR] at r
              skip
              go_wp2_with fail
              clear r
              refine NoK.norm (hN _ _ ?_)
              clear hN K
              refine blk_norm ?_
              refine then_norm ?_
              refine wp_r0 ?_
              intro K hN
              go_wp2_with fail
              refine NoK.norm (hN _ _ ?_)
              clear hN K
              refine then_norm ?_
              go_roundw
              case rel => exact ⟨j + 1, by omega, by go_num, by rw [HE.out], rfl⟩
              case measure => simp [intOf]; omega
            · obtain rfl : k = j := by omega
              have hdj : decide ((k : Int) < (k : Int)) = false := by simp
              refine wp_seq ?_
              refine wp_seq ?_
              refine wp_r0 ?_
              intro K hN
              go_wp2_with fail
              refine NoK.norm (hN _ _ ?_)
              clear hN K
              refine then_norm ?_
              refine wp_cond_false (rfl) ?_
              refine wp_exit ?_
              refine then_exit ?_
              refine then_exit ?_
              refine blk_exit ?_
              refine then_norm ?_
              refine wp_seq ?_
              obtain ⟨f1, f2, f3, f4, f5, f6, f7⟩ := tables_step HT0.out HS.out HD.out hlt
              have hye : sumTo (fun a => sumTo (T a) k) (i + 1) = sumTo (fun a => sumTo (T a) k) i + sumTo (T i) k := rfl
              have hge : sumTo (fun a => T a a) (i + 1) = sumTo (fun a => T a a) i + T i i := rfl
              have q1 := Q1.out
              have q2 : ∀ W, Grow w W → W.cell? ⟨x75 + 1 + i, i, none⟩ = some (.int .i64 (T i i)) := fun W hg => (Hte.out W hg i hlt).2 i hlt
              have q3 := fun W hg => Hre.out W hg i hlt
              obtain ⟨N, hN⟩ : ∃ N, N = T i i := ⟨_, rfl⟩
              obtain ⟨Y, hY⟩ : ∃ N, N = sumTo (T i) k := ⟨_, rfl⟩
              obtain ⟨S, hSi⟩ : ∃ N, N = sumTo (fun a => sumTo (T a) k) i := ⟨_, rfl⟩
              obtain ⟨G, hGi⟩ : ∃ N, N = sumTo (fun a => T a a) i := ⟨_, rfl⟩
              rw [← hN] at f5 f6 f7 hge q2
              rw [← hY] at f1 f3 f7 hye
              rw [← hSi] at f2 f3 hye
              rw [← hGi] at f4 f5 hge
              simp only [← hN, ← hY] at q3
              rw [← hSi, ← hGi, ← hY]
              rw [← hGi] at hB
              have z1 : qs (qover N Y) ≤ 5 := over_sub 0 0 N Y 5 (by omega) (by omega) (by omega)
              have z2 : qs (qint Y) ≤ 5 := qint_size f1 (by omega) (by omega)
              have z3 : qs (qint N) ≤ 5 := qint_size f6 (by omega) (by omega)
              have z4 : qs (qint G) ≤ 5 := qint_size f4 (by omega) (by omega)
              have hB64 := BIG_ge
              have hml : ∀ W, Calls Tryz.prog 22 #[qV (qover N Y), qV (qint Y)] W fun e w' => e = .returned (qV (qint N)) ∧ Grow W w' := fun W => by
                have := frac_Mul (qover N Y) (qint Y) W (by omega)
                rw [recall_back N Y (by omega)] at this
                exact this
              have had : ∀ W, Calls Tryz.prog 21 #[qV (qint G), qV (qint N)] W fun e w' => e = .returned (qV (qint (G + N))) ∧ Grow W w' := fun W => by
                have := frac_Add (qint G) (qint N) W (by omega)
                rw [qint_add] at this
                exact this
              have Hml := Lib.hid hml
              have Had := Lib.hid had
              have Hye := Lib.hid hye
              have Hge := Lib.hid hge
              have Q2 := Lib.hid q2
              have Q3 := Lib.hid q3
              clear hml had hye hge q1 q2 q3 hN hY hSi hGi z1 z2 z3 z4 hB64
              refine wp_r0 ?_
              intro K hN
              go_wp2_with fail
              refine NoK.norm (hN _ _ ?_)
              clear hN K
              refine then_norm ?_
              refine wp_seq ?_
              refine wp_r0 ?_
              intro K hN
              have r := hB.r
              simp only [BxR] at r
              have q1 := Q1.out u hG
              have q2 := Q2.out u hG
              go_wp2_with fail
              clear r
              refine NoK.norm (hN _ _ ?_)
              clear hN K
              refine then_norm ?_
              refine wp_rd (w := w) allocs3 10 [] [(0, 0), (0, 1), (0, 2), (0, 3), (0, 4), (0, 5), (0, 6), (1, 7), (1, 8), (1, 9)] (by kernel_rfl) (by kernel_rfl) (by simp only [List.drop_succ_cons, List.drop_zero]; exact rfl) (fun _ => True) noG hB hG trivial ?_
              intro K L hN hL
              simp only [pickOps, List.getElem?_toArray, List.getElem?_cons_zero, List.getElem?_cons_succ]
              apply gy
              · exact rfl
              · (rintro v ⟨hgu, hB, hG, -⟩ N hN; have r := hB.r; simp only [BxR] at r; obtain ⟨y1, y2, y3, y4, y5⟩ := Q3.out v hG; go_simp; exact hN)
              refine okf (by simp only [Act.put, List.setIfInBounds_toArray, List.set_cons_succ, List.set_cons_zero]; exact rfl) ?_
              apply gy
              · exact rfl
              · (rintro v - N hN; go_simp; exact hN)
              refine okf (by simp only [Act.put, List.setIfInBounds_toArray, List.set_cons_succ, List.set_cons_zero]; exact rfl) ?_
              apply gy
              · exact rfl
              · (rintro v - N hN; go_simp; exact hN)
              refine okf (by simp only [Act.put, List.setIfInBounds_toArray, List.set_cons_succ, List.set_cons_zero]; exact rfl) ?_
              apply gy
              · exact rfl
              · (rintro v - N hN; go_simp; exact hN)
              refine okf (by simp only [Act.put, List.setIfInBounds_toArray, List.set_cons_succ, List.set_cons_zero]; exact rfl) ?_
              apply gy
              · exact rfl
              · (rintro v - N hN; go_simp; exact hN)
              refine okf (by simp only [Act.put, List.setIfInBounds_toArray, List.set_cons_succ, List.set_cons_zero]; exact rfl) ?_
              apply gy
              · exact rfl
              · (rintro v ⟨hgu, hB, hG, -⟩ N hN; have r := hB.r; simp only [BxR] at r; obtain ⟨y1, y2, y3, y4, y5⟩ := Q3.out v hG; go_simp; exact hN)
              refine okf (by simp only [Act.put, List.setIfInBounds_toArray, List.set_cons_succ, List.set_cons_zero]; exact rfl) ?_
              apply gy
              · exact rfl
              · (rintro v - N hN; go_simp; exact hN)
              refine okf (by simp only [Act.put, List.setIfInBounds_toArray, List.set_cons_succ, List.set_cons_zero]; exact rfl) ?_
              apply gm
              · exact rfl
              · (rintro v ⟨hgu, hB, hG, -⟩ N hN; go_simp; ((with_reducible refine (frac_Of _ (by omega) (by omega) _).mono ?_); rintro e w1 ⟨rfl, hb⟩; exact ⟨_, rfl, hN _ hb⟩))
              refine okf (by simp only [Act.put, List.setIfInBounds_toArray, List.set_cons_succ, List.set_cons_zero]; exact rfl) ?_
              apply gm
              · exact rfl
              · (rintro v ⟨hgu, hB, hG, -⟩ N hN; go_simp; ((with_reducible refine (Hml.out _).mono ?_); rintro e w1 ⟨rfl, hb⟩; exact ⟨_, rfl, hN _ hb⟩))
              refine okf (by simp only [Act.put, List.setIfInBounds_toArray, List.set_cons_succ, List.set_cons_zero]; exact rfl) ?_
              apply gm
              · exact rfl
              · (rintro v ⟨hgu, hB, hG, -⟩ N hN; go_simp; ((with_reducible refine (Had.out _).mono ?_); rintro e w1 ⟨rfl, hb⟩; exact ⟨_, rfl, hN _ hb⟩))
              refine okf (by simp only [Act.put, List.setIfInBounds_toArray, List.set_cons_succ, List.set_cons_zero]; exact rfl) ?_
              refine gend ?_
              rintro v ⟨hgu, hB1, hG1, -⟩
              clear hB hG
              have hB := hB1
              have hG := hG1
              clear hB1 hG1
              refine hL _ _ ?_
              clear hL L hgu
              obtain ⟨u, rfl⟩ : ∃ x, x = v := ⟨_, rfl⟩
              have r := hB.r
              simp only [BxR] at r
              go_wp2_with fail
              clear r
              generalize hu0 : World.setCell (World.setCell (World.setCell (World.setCell (World.setCell u _ _) _ _) _ _) _ _) _ _ = u0
              have hBG := hB.over hF hG 0 rfl 0 [_, _, _, _, _] hu0
              clear hB hG hu0
              simp only [List.modify_succ_cons, List.modify_zero_cons, wrAll, List.setIfInBounds_toArray, List.set_cons_zero, List.set_cons_succ, Nat.zero_add, Nat.reduceAdd] at hBG
              obtain ⟨hB, hG⟩ := hBG
              clear u
              obtain ⟨u, rfl⟩ : ∃ x, x = u0 := ⟨_, rfl⟩
              refine NoK.norm (hN _ _ ?_)
              clear hN K
              refine blk_norm ?_
              refine then_norm ?_
              refine wp_r0 ?_
              intro K hN
              go_wp2_with fail
              refine NoK.norm (hN _ _ ?_)
              clear hN K
              refine then_norm ?_
              go_roundw
              case rel => exact ⟨i + 1, by omega, by go_num, by rw [Hye.out], by rw [Hge.out], by rw [Hge.out]; exact hB, hG⟩
              case measure => simp [intOf]; omega
        · obtain rfl : k = i := by omega
          have hdl : decide ((k : Int) < (k : Int)) = false := by simp
          refine wp_seq ?_
          refine wp_seq ?_
          refine wp_r0 ?_
          intro K hN
          go_wp2_with fail
          refine NoK.norm (hN _ _ ?_)
          clear hN K
          refine then_norm ?_
          refine wp_cond_false (rfl) ?_
          refine wp_exit ?_
          refine then_exit ?_
          refine then_exit ?_
          refine blk_exit ?_
          refine then_norm ?_
          refine wp_seq ?_
          rw [HD.out] at hB
          rw [HS.out, HD.out]
          have z1 : qs p ≤ 5 := by rw [HP.out]; exact over_sub 0 0 h m 5 (by omega) (by omega) (by omega)
          have z2 : qs (qint h) ≤ 5 := qint_size (by omega) (by omega) (by omega)
          have z3 : qs (qint m) ≤ 5 := qint_size (by omega) (by omega) (by omega)
          have hB64 := BIG_ge
          have hdv : ∀ W, Calls Tryz.prog 24 #[qV (qint h), qV (qint m)] W fun e w' => e = .returned (.tuple #[qV p, .bool (nzq (qint m))]) ∧ Grow W w' := fun W => by
            have := frac_Div (qint h) (qint m) W (by omega)
            rw [← qover_div, ← HP.out] at this
            exact this
          have hcm : ∀ W, Calls Tryz.prog 25 #[qV p, qV p] W fun e w' => e = .returned (.int .i64 0) ∧ Grow W w' := fun W => by
            have := frac_Cmp p p W (by omega)
            rw [show cmpQ p p = 0 by unfold cmpQ; simp [Rat.lt_irrefl]] at this
            exact this
          have his : ∀ W, Calls Tryz.prog 26 #[qV p, .int .i64 h, .int .i64 m] W fun e w' => e = .returned (.bool true) ∧ Grow W w' := fun W => by
            have := hand_Is h m (by omega) (by omega) (by omega) (by omega) (by omega) (sm32 (by omega) (by omega)) (by rw [← HP.out]; unfold LIM; omega) W
            rw [← HP.out] at this
            exact this
          have Hdv := Lib.hid hdv
          have Hcm := Lib.hid hcm
          have His := Lib.hid his
          clear hdv hcm his z1 z2 z3 hB64
          refine wp_rd (w := w) allocs3 8 [6] [(0, 0), (0, 1), (1, 2), (1, 3), (0, 4), (0, 5), (0, 6), (2, 7)] (by kernel_rfl) (by kernel_rfl) (by simp only [List.drop_succ_cons, List.drop_zero]; exact rfl) (fun _ => True) noG hB hG trivial ?_
          intro K L hN hL
          simp only [pickOps, List.getElem?_toArray, List.getElem?_cons_zero, List.getElem?_cons_succ]
          apply gy
          · exact rfl
          · (rintro v ⟨hgu, hB, hG, -⟩ N hN; have r := hB.r; simp only [BxR] at r; go_simp; exact hN)
          refine okf (by simp only [Act.put, List.setIfInBounds_toArray, List.set_cons_succ, List.set_cons_zero]; exact rfl) ?_
          apply gy
          · exact rfl
          · (rintro v - N hN; go_simp; exact hN)
          refine okf (by simp only [Act.put, List.setIfInBounds_toArray, List.set_cons_succ, List.set_cons_zero]; exact rfl) ?_
          apply gm
          · exact rfl
          · (rintro v ⟨hgu, hB, hG, -⟩ N hN; go_simp; ((with_reducible refine (frac_Of _ (by omega) (by omega) _).mono ?_); rintro e w1 ⟨rfl, hb⟩; exact ⟨_, rfl, hN _ hb⟩))
          refine okf (by simp only [Act.put, List.setIfInBounds_toArray, List.set_cons_succ, List.set_cons_zero]; exact rfl) ?_
          apply gm
          · exact rfl
          · (rintro v ⟨hgu, hB, hG, -⟩ N hN; go_simp; ((with_reducible refine (Hdv.out _).mono ?_); rintro e w1 ⟨rfl, hb⟩; exact ⟨_, rfl, hN _ hb⟩))
          refine okf (by simp only [Act.put, List.setIfInBounds_toArray, List.set_cons_succ, List.set_cons_zero]; exact rfl) ?_
          apply gy
          · exact rfl
          · (rintro v - N hN; go_simp; exact hN)
          refine okf (by simp only [Act.put, List.setIfInBounds_toArray, List.set_cons_succ, List.set_cons_zero]; exact rfl) ?_
          apply gy
          · exact rfl
          · (rintro v - N hN; go_simp; exact hN)
          refine okf (by simp only [Act.put, List.setIfInBounds_toArray, List.set_cons_succ, List.set_cons_zero]; exact rfl) ?_
          apply gy
          · exact rfl
          · (rintro v - N hN; go_simp; exact hN)
          refine okf (by simp only [Act.put, List.setIfInBounds_toArray, List.set_cons_succ, List.set_cons_zero]; exact rfl) ?_
          refine ga (newObj_Q _ _ _ _ _) fun b27 hb27 hn27 => ?_
          refine okf (by simp only [Act.put, List.setIfInBounds_toArray, List.set_cons_succ, List.set_cons_zero]; exact rfl) ?_
          refine gend ?_
          rintro v ⟨⟨hgu, hB1, hG1, -⟩, h27⟩
          have hF := Fr.new (tk := []) hF hB hG hb27 hn27
          simp only [List.cons_append, List.nil_append, List.map_cons, List.map_nil] at hF
          clear hB hG
          have hB := (Bx.cons h27 hB1)
          have hG := hG1
          clear hB1 hG1 h27
          refine hL _ _ ?_
          clear hL L hgu
          obtain ⟨u, rfl⟩ : ∃ x, x = v := ⟨_, rfl⟩
          have r := hB.r
          simp only [BxR] at r
          go_wp2_with fail
          clear r
          generalize hu0 : World.setCell (World.setCell (World.setCell (World.setCell (World.setCell u _ _) _ _) _ _) _ _) _ _ = u0
          have hBG := hB.over hF hG 0 rfl 0 [_, _, _, _, _] hu0
          clear hB hG hu0
          simp only [List.modify_succ_cons, List.modify_zero_cons, wrAll, List.setIfInBounds_toArray, List.set_cons_zero, List.set_cons_succ, Nat.zero_add, Nat.reduceAdd] at hBG
          obtain ⟨hB, hG⟩ := hBG
          clear u
          obtain ⟨u, rfl⟩ : ∃ x, x = u0 := ⟨_, rfl⟩
          refine NoK.norm (hN _ _ ?_)
          clear hN K
          refine then_norm ?_
          refine wp_seq ?_
          refine wp_rs (w := w) allocs3 16 [0, 0, 0, 0, 0, 0, 1, 0, 0, 0, 0, 0, 0, 1, 0, 0] (by kernel_rfl) (by simp only [List.drop_succ_cons, List.drop_nil]; exact rfl) (fun _ => True) noG hB hG trivial ?_
          intro K L hN hL
          simp only [List.zip_cons_cons, List.zip_nil_left]
          apply gy
          · exact rfl
          · (rintro v - N hN; go_simp; exact hN)
          refine okf (by simp only [Act.put, List.setIfInBounds_toArray, List.set_cons_succ, List.set_cons_zero]; exact rfl) ?_
          apply gy
          · exact rfl
          · (rintro v - N hN; go_simp; exact hN)
          refine okf (by simp only [Act.put, List.setIfInBounds_toArray, List.set_cons_succ, List.set_cons_zero]; exact rfl) ?_
          apply gy
          · exact rfl
          · (rintro v - N hN; go_simp; exact hN)
          refine okf (by simp only [Act.put, List.setIfInBounds_toArray, List.set_cons_succ, List.set_cons_zero]; exact rfl) ?_
          apply gy
          · exact rfl
          · (rintro v - N hN; go_simp; exact hN)
          refine okf (by simp only [Act.put, List.setIfInBounds_toArray, List.set_cons_succ, List.set_cons_zero]; exact rfl) ?_
          first
            | (apply gy
               · exact rfl
               · (rintro v ⟨hgu, hB, hG, -⟩ N hN; have r := hB.r; simp only [BxR] at r; go_simp; exact hN))
            | (apply gn; exact rfl)
          refine okf (by simp only [Act.put, List.setIfInBounds_toArray, List.set_cons_succ, List.set_cons_zero]; exact rfl) ?_
          first
            | (apply gy
               · exact rfl
               · (rintro v ⟨hgu, hB, hG, -⟩ N hN; have r := hB.r; simp only [BxR] at r; go_simp; exact hN))
            | (apply gn; exact rfl)
          refine okf (by simp only [Act.put, List.setIfInBounds_toArray, List.set_cons_succ, List.set_cons_zero]; exact rfl) ?_
          first
            | (apply gm
               · exact rfl
               · (rintro v ⟨hgu, hB, hG, -⟩ N hN; go_simp; ((with_reducible refine (Hcm.out _).mono ?_); rintro e w1 ⟨rfl, hb⟩; exact ⟨_, rfl, hN _ hb⟩)))
            | (apply gmn; exact rfl)
          refine okf (by simp only [Act.put, List.setIfInBounds_toArray, List.set_cons_succ, List.set_cons_zero]; exact rfl) ?_
          first
            | (apply gy
               · exact rfl
               · (rintro v - N hN; go_simp; exact hN))
            | (apply gn; exact rfl)
          refine okf (by simp only [Act.put, List.setIfInBounds_toArray, List.set_cons_succ, List.set_cons_zero]; exact rfl) ?_
          apply gy
          · exact rfl
          · (rintro v - N hN; go_simp; exact hN)
          refine okf (by simp only [Act.put, List.setIfInBounds_toArray, List.set_cons_succ, List.set_cons_zero]; exact rfl) ?_
          apply gy
          · exact rfl
          · (rintro v - N hN; go_simp; exact hN)
          refine okf (by simp only [Act.put, List.setIfInBounds_toArray, List.set_cons_succ, List.set_cons_zero]; exact rfl) ?_
          first
            | (apply gy
               · exact rfl
               · (rintro v ⟨hgu, hB, hG, -⟩ N hN; have r := hB.r; simp only [BxR] at r; go_simp; exact hN))
            | (apply gn; exact rfl)
          refine okf (by simp only [Act.put, List.setIfInBounds_toArray, List.set_cons_succ, List.set_cons_zero]; exact rfl) ?_
          first
            | (apply gy
               · exact rfl
               · (rintro v - N hN; go_simp; exact hN))
            | (apply gn; exact rfl)
          refine okf (by simp only [Act.put, List.setIfInBounds_toArray, List.set_cons_succ, List.set_cons_zero]; exact rfl) ?_
          first
            | (apply gy
               · exact rfl
               · (rintro v - N hN; go_simp; exact hN))
            | (apply gn; exact rfl)
          refine okf (by simp only [Act.put, List.setIfInBounds_toArray, List.set_cons_succ, List.set_cons_zero]; exact rfl) ?_
          first
            | (apply gm
               · exact rfl
               · (rintro v ⟨hgu, hB, hG, -⟩ N hN; go_simp; ((with_reducible refine (His.out _).mono ?_); rintro e w1 ⟨rfl, hb⟩; exact ⟨_, rfl, hN _ hb⟩)))
            | (apply gmn; exact rfl)
          refine okf (by simp only [Act.put, List.setIfInBounds_toArray, List.set_cons_succ, List.set_cons_zero]; exact rfl) ?_
          apply gy
          · exact rfl
          · (rintro v - N hN; go_simp; exact hN)
          refine okf (by simp only [Act.put, List.setIfInBounds_toArray, List.set_cons_succ, List.set_cons_zero]; exact rfl) ?_
          apply gy
          · exact rfl
          · (rintro v - N hN; go_simp; exact hN)
          refine okf (by simp only [Act.put, List.setIfInBounds_toArray, List.set_cons_succ, List.set_cons_zero]; exact rfl) ?_
          refine gend ?_
          rintro v ⟨hgu, hB1, hG1, -⟩
          clear hB hG
          have hB := hB1
          have hG := hG1
          clear hB1 hG1
          refine hL _ _ ?_
          clear hL L hgu
          obtain ⟨u, rfl⟩ : ∃ x, x = v := ⟨_, rfl⟩
          refine wpList_nil ?_
          refine NoK.norm (hN _ _ ?_)
          clear hN K
          refine then_norm ?_
          refine wp_ret ?_
          refine ret_b rfl ?_
          intro N hN
          have r := hB.r
          simp only [BxR] at r
          simp only [results, Tryz.results4]
          go_simp
          refine hN _ ?_
          clear hN N r
          exact ⟨rfl, HG2.out.trans hG⟩
end Go.Proofs.YtimjnkfcnpfoeaaGreatDoor
