/-
  Contracts and plain laws, part 4: lemmas for the claim; each says its own conditions.
-/
import Derived.Test.YtimjnkfcnpfoeaaGreatDoorK1
import Derived.Test.YtimjnkfcnpfoeaaGreatDoorK2
import Derived.Test.YtimjnkfcnpfoeaaGreatDoorK3
set_option linter.unusedSimpArgs false
set_option linter.unusedVariables false
/-
  whole.Gcd.
-/
namespace Go.Proofs.YtimjnkfcnpfoeaaGreatDoor
open Go.RowKit
theorem nat_Small_yes (a : Nat) (ha : a < W64) (w : World) : Calls Tryz.prog 124 #[natV a] w fun e w' => e = .returned (.tuple #[.int .u64 (a : Nat), .bool true]) ∧ Grow w w' := by
  have := nat_Small a w
  rw [if_pos ha] at this
  exact this
theorem nat_Small_no (a : Nat) (ha : ¬ a < W64) (w : World) : Calls Tryz.prog 124 #[natV a] w fun e w' => e = .returned (.tuple #[.int .u64 0, .bool false]) ∧ Grow w w' := by
  have := nat_Small a w
  rw [if_neg ha] at this
  exact this
theorem gcd_step (x y g : Nat) (h : Nat.gcd x y = g) : Nat.gcd y (x % y) = g := by
  rw [Nat.gcd_comm, ← Nat.gcd_rec, Nat.gcd_comm]; exact h
theorem two_newA {w u : World} {l : List (Nat × TypeId × Array Value)} (hB : Bx u l) (hF : Fr w (l.map (·.1))) (hG : Grow w u) (t1 : TypeId) (c1 : Array Value) (t2 : TypeId) (c2 : Array Value) :
    Bx ((u.alloc (.cells c1 t1)).alloc (.cells c2 t2)).drew ((u.heap.size + 1, t2, c2) :: (u.heap.size, t1, c1) :: l) ∧ Fr w ((u.heap.size + 1) :: u.heap.size :: l.map (·.1)) ∧ Grow w ((u.alloc (.cells c1 t1)).alloc (.cells c2 t2)).drew := by
  have g1 := Grow.alloc u (.cells c1 t1)
  have g2 := Grow.alloc (u.alloc (.cells c1 t1)) (.cells c2 t2)
  have h1 := Blk.new u t1 c1
  have h2 := Blk.new (u.alloc (.cells c1 t1)) t2 c2
  rw [alloc_size] at h2
  have hs := hG.size
  have hlt : ∀ b ∈ l.map (·.1), b < u.heap.size := fun b hb => by
    obtain ⟨e, he, rfl⟩ := List.mem_map.1 hb
    exact (hB e he).lt
  refine ⟨Bx.grow (Grow.drew _) (Bx.cons h2 (Bx.cons (h1.grow g2) (hB.grow (g1.trans g2)))), ?_, (hG.trans (g1.trans g2)).trans (Grow.drew _)⟩
  refine Fr.cons (Fr.cons hF (by omega) (fun h => Nat.lt_irrefl _ (hlt _ h))) (by omega) (fun h => ?_)
  rcases List.mem_cons.1 h with h | h
  · omega
  · have := hlt _ h; omega
theorem two_newB {w u : World} {l : List (Nat × TypeId × Array Value)} (hB : Bx u l) (hF : Fr w (l.map (·.1))) (hG : Grow w u) (t1 : TypeId) (c1 : Array Value) (t2 : TypeId) (c2 : Array Value) :
    Bx ((u.alloc (.cells c1 t1)).alloc (.cells c2 t2)).drew ((u.heap.size, t1, c1) :: (u.heap.size + 1, t2, c2) :: l) ∧ Fr w (u.heap.size :: (u.heap.size + 1) :: l.map (·.1)) ∧ Grow w ((u.alloc (.cells c1 t1)).alloc (.cells c2 t2)).drew := by
  obtain ⟨h1, h2, h3⟩ := two_newA hB hF hG t1 c1 t2 c2
  exact ⟨Bx.cons h1.tail.head (Bx.cons h1.head h1.tail.tail), ⟨fun b hb => h2.1 b (by simp only [List.mem_cons] at hb ⊢; exact (or_left_comm.1 hb)), (List.Perm.swap _ _ _).nodup_iff.1 h2.2⟩, h3⟩

set_option maxHeartbeats 4000000 in
set_option maxRecDepth 100000 in
theorem whole_Gcd_le_s (na nb : Bool) (p q : Nat) (hp : bl p ≤ BIG) (hq : q < W64) (hpq : q ≤ p) (w : World) : Calls Tryz.prog 67 #[.agg #[.bool na, .int .u64 (natLo p), .string (natMo p)], .agg #[.bool nb, .int .u64 (natLo q), .string (natMo q)]] w fun e w' => e = .returned (natV (Nat.gcd p q)) ∧ Grow w w' := by
  have hb1 := fits_most hp
  have hb2 : bl q ≤ 1099511627776 := Nat.le_trans (bl_small hq) (by omega)
  have hb3 : bl (p % q) ≤ 1099511627776 := Nat.le_trans (bl_mod_le _ _) hb1
  have hqB : bl q ≤ BIG := Nat.le_trans (bl_small hq) BIG_ge
  have hc : decide (cmpN p q < 0) = false := by unfold cmpN; rw [if_neg (by omega)]; split <;> rfl
  obtain ⟨g, hg⟩ : ∃ g, g = Nat.gcd p q := ⟨_, rfl⟩
  rw [← hg]
  have hgs : Nat.gcd p q = g := by rw [hg]
  have Hg := Lib.hid hgs
  clear hg hgs
  go_enter Tryz.func67, Tryz.ntmps67
  refine wp_seq (wp_r0 ?_)
  intro K hN
  go_wp2_with fail
  generalize hu : World.alloc (World.alloc (World.alloc w _) _) _ = u
  obtain ⟨hB, hG⟩ := bx_first [(_, _), (_, _), (_, _)] w u hu
  have hF := fr_first w [(30, #[]), (30, #[]), (28, #[])]
  simp only [numbered, List.map_cons, List.map_nil] at hB hF
  clear hu
  generalize w.heap.size + 1 + 1 = b4 at hB hF ⊢
  generalize w.heap.size + 1 = b3 at hB hF ⊢
  generalize w.heap.size = b2 at hB hF ⊢
  refine NoK.norm (hN _ _ ?_)
  clear hN K
  refine then_norm ?_
  refine wp_seq ?_
  refine Code.wp_mono NoP.up ?_
  have r := hB.r
  simp only [BxR] at r
  have hn2 : b2 < u.heap.size := (hB.head).lt
  have hn3 : b3 < u.heap.size := (hB.tail.head).lt
  have hn4 : b4 < u.heap.size := (hB.tail.tail.head).lt
  go_region
  all_goals clear r hn2 hn3 hn4
  have hT := two_newA hB hF hG 28 #[.int .u64 (natLo p), .string (natMo p)] 28 #[.int .u64 (natLo q), .string (natMo q)]
  clear hB hF hG
  obtain ⟨hB, hF, hG⟩ := hT
  generalize World.drew _ = v at hB hG ⊢
  generalize u.heap.size + 1 = b6 at hB hF ⊢
  generalize u.heap.size = b5 at hB hF ⊢
  obtain ⟨u, rfl⟩ : ∃ x, x = v := ⟨_, rfl⟩
  refine NoP.norm ?_
  rotate_left
  have hT := two_newB hB hF hG 28 #[.int .u64 (natLo q), .string (natMo q)] 28 #[.int .u64 (natLo p), .string (natMo p)]
  clear hB hF hG
  obtain ⟨hB, hF, hG⟩ := hT
  generalize World.drew _ = v at hB hG ⊢
  generalize u.heap.size + 1 = b5 at hB hF ⊢
  generalize u.heap.size = b6 at hB hF ⊢
  obtain ⟨u, rfl⟩ : ∃ x, x = v := ⟨_, rfl⟩
  refine NoP.norm ?_
  rotate_left
  skip
  all_goals
    refine then_norm ?_
    refine wp_seq ?_
    refine wp_seq ?_
    refine wp_rs (w := w) allocs 4 [0, 0, 1, 0] (by kernel_rfl) (by simp only [List.drop_succ_cons, List.drop_nil]; exact rfl) (fun _ => True) noG hB hG trivial ?_
    intro K L hN hL
    simp only [List.zip_cons_cons, List.zip_nil_left]
    apply gy
    · exact rfl
    · (rintro v ⟨hgu, hB, hG, -⟩ N hN; have r := hB.r; simp only [BxR] at r; go_simp; exact hN)
    refine okf (by simp only [Act.put, List.setIfInBounds_toArray, List.set_cons_succ, List.set_cons_zero]; exact rfl) ?_
    apply gy
    · exact rfl
    · (rintro v ⟨hgu, hB, hG, -⟩ N hN; have r := hB.r; simp only [BxR] at r; go_simp; exact hN)
    refine okf (by simp only [Act.put, List.setIfInBounds_toArray, List.set_cons_succ, List.set_cons_zero]; exact rfl) ?_
    apply gm
    · exact rfl
    · (rintro v ⟨hgu, hB, hG, -⟩ N hN; go_simp; ((with_reducible refine (nat_Cmp _ _ (by first | assumption | omega) _).mono ?_); rintro e w1 ⟨rfl, hb⟩; exact ⟨_, rfl, hN _ hb⟩))
    refine okf (by simp only [Act.put, List.setIfInBounds_toArray, List.set_cons_succ, List.set_cons_zero]; exact rfl) ?_
    apply gy
    · exact rfl
    · (rintro v - N hN; go_simp; exact hN)
    refine okf (by simp only [Act.put, List.setIfInBounds_toArray, List.set_cons_succ, List.set_cons_zero]; exact rfl) ?_
    refine gend ?_
    rintro v ⟨hgu, hB1, hG1, -⟩
    clear hB hG
    have hB := hB1
    have hG := hG1
    clear hB1 hG1
    refine hL _ _ ?_
    clear hL L hgu
    obtain ⟨u, rfl⟩ : ∃ x, x = v := ⟨_, rfl⟩
    refine wpList_nil ?_
    refine NoK.norm (hN _ _ ?_)
    clear hN K
    refine then_norm ?_
    refine wp_cond_false (rfl) ?_
    refine wp_skip ?_
    refine then_norm ?_
    refine wp_seq ?_
    refine wp_seq ?_
    refine wp_rs (w := w) allocs 3 [0, 1, 0] (by kernel_rfl) (by simp only [List.drop_succ_cons, List.drop_nil]; exact rfl) (fun _ => True) noG hB hG trivial ?_
    intro K L hN hL
    simp only [List.zip_cons_cons, List.zip_nil_left]
    apply gy
    · exact rfl
    · (rintro v ⟨hgu, hB, hG, -⟩ N hN; have r := hB.r; simp only [BxR] at r; go_simp; exact hN)
    refine okf (by simp only [Act.put, List.setIfInBounds_toArray, List.set_cons_succ, List.set_cons_zero]; exact rfl) ?_
    apply gm
    · exact rfl
    · (rintro v ⟨hgu, hB, hG, -⟩ N hN; go_simp; ((with_reducible refine (nat_Bits _ (by first | assumption | omega) _).mono ?_); rintro e w1 ⟨rfl, hb⟩; exact ⟨_, rfl, hN _ hb⟩))
    refine okf (by simp only [Act.put, List.setIfInBounds_toArray, List.set_cons_succ, List.set_cons_zero]; exact rfl) ?_
    apply gy
    · exact rfl
    · (rintro v - N hN; go_simp; exact hN)
    refine okf (by simp only [Act.put, List.setIfInBounds_toArray, List.set_cons_succ, List.set_cons_zero]; exact rfl) ?_
    refine gend ?_
    rintro v ⟨hgu, hB1, hG1, -⟩
    clear hB hG
    have hB := hB1
    have hG := hG1
    clear hB1 hG1
    refine hL _ _ ?_
    clear hL L hgu
    obtain ⟨u, rfl⟩ : ∃ x, x = v := ⟨_, rfl⟩
    refine wpList_nil ?_
    refine NoK.norm (hN _ _ ?_)
    clear hN K
    refine then_norm ?_
    refine wp_cond_split rfl ?_ ?_
    · intro ht
      have ht26 := ht
      have hY : q = 0 := bl_eq_zero.1 (by simpa using ht)
      refine wp_seq ?_
      refine wp_r0 ?_
      intro K hN
      have r := hB.r
      simp only [BxR] at r
      go_wp2_with fail
      clear r
      generalize hu0 : World.setCell (World.setCell u _ _) _ _ = u0
      have hBG := hB.over hF hG 4 rfl 0 [_, _] hu0
      clear hB hG hu0
      simp only [List.modify_succ_cons, List.modify_zero_cons, wrAll, List.setIfInBounds_toArray, List.set_cons_zero, List.set_cons_succ, Nat.zero_add, Nat.reduceAdd] at hBG
      obtain ⟨hB, hG⟩ := hBG
      clear u
      obtain ⟨u, rfl⟩ : ∃ x, x = u0 := ⟨_, rfl⟩
      refine NoK.norm (hN _ _ ?_)
      clear hN K
      refine then_norm ?_
      refine wp_ret ?_
      refine then_ret ?_
      refine ret_b rfl ?_
      intro N hN
      have r := hB.r
      simp only [BxR] at r
      simp only [results, Tryz.results67]
      go_simp
      refine hN _ ?_
      clear hN N r
      have hgx := Hg.out
      rw [hY, Nat.gcd_zero_right] at hgx
      exact ⟨by rw [hgx], hG⟩
    · intro ht
      have ht26 := ht
      have hY0 : q ≠ 0 := fun h => (by rw [h] at ht; simp [bl_zero] at ht)
      have hm : p % q < W64 := Nat.lt_trans (Nat.mod_lt p (Nat.pos_of_ne_zero hY0)) hq
      refine wp_skip ?_
      refine then_norm ?_
      refine wp_seq ?_
      refine wp_rs (w := w) allocs 9 [0, 0, 1, 0, 0, 0, 0, 2, 2] (by kernel_rfl) (by simp only [List.drop_succ_cons, List.drop_zero]; exact rfl) (fun _ => True) noG hB hG trivial ?_
      intro K L hN hL
      simp only [List.zip_cons_cons, List.zip_nil_left]
      apply gy
      · exact rfl
      · (rintro v ⟨hgu, hB, hG, -⟩ N hN; have r := hB.r; simp only [BxR] at r; go_simp; exact hN)
      refine okf (by simp only [Act.put, List.setIfInBounds_toArray, List.set_cons_succ, List.set_cons_zero]; exact rfl) ?_
      apply gy
      · exact rfl
      · (rintro v ⟨hgu, hB, hG, -⟩ N hN; have r := hB.r; simp only [BxR] at r; go_simp; exact hN)
      refine okf (by simp only [Act.put, List.setIfInBounds_toArray, List.set_cons_succ, List.set_cons_zero]; exact rfl) ?_
      apply gm
      · exact rfl
      · (rintro v ⟨hgu, hB, hG, -⟩ N hN; go_simp; ((with_reducible refine (nat_Div p q hp hqB hY0 _).mono ?_); rintro e w1 ⟨rfl, hb⟩; exact ⟨_, rfl, hN _ hb⟩))
      refine okf (by simp only [Act.put, List.setIfInBounds_toArray, List.set_cons_succ, List.set_cons_zero]; exact rfl) ?_
      apply gy
      · exact rfl
      · (rintro v - N hN; go_simp; exact hN)
      refine okf (by simp only [Act.put, List.setIfInBounds_toArray, List.set_cons_succ, List.set_cons_zero]; exact rfl) ?_
      apply gy
      · exact rfl
      · (rintro v - N hN; go_simp; exact hN)
      refine okf (by simp only [Act.put, List.setIfInBounds_toArray, List.set_cons_succ, List.set_cons_zero]; exact rfl) ?_
      apply gy
      · exact rfl
      · (rintro v - N hN; go_simp; exact hN)
      refine okf (by simp only [Act.put, List.setIfInBounds_toArray, List.set_cons_succ, List.set_cons_zero]; exact rfl) ?_
      apply gy
      · exact rfl
      · (rintro v - N hN; go_simp; exact hN)
      refine okf (by simp only [Act.put, List.setIfInBounds_toArray, List.set_cons_succ, List.set_cons_zero]; exact rfl) ?_
      refine ga (newObj_Nat _ _ _ _ _) fun b7 hb7 hn7 => ?_
      refine okf (by simp only [Act.put, List.setIfInBounds_toArray, List.set_cons_succ, List.set_cons_zero]; exact rfl) ?_
      refine ga (newObj_Nat _ _ _ _ _) fun b8 hb8 hn8 => ?_
      refine okf (by simp only [Act.put, List.setIfInBounds_toArray, List.set_cons_succ, List.set_cons_zero]; exact rfl) ?_
      refine gend ?_
      rintro v ⟨⟨⟨hgu, hB1, hG1, -⟩, h7⟩, h8⟩
      have hF := Fr.new (tk := []) hF hB hG hb7 hn7
      have hF := Fr.new (tk := [b7]) hF hB hG hb8 hn8
      simp only [List.cons_append, List.nil_append, List.map_cons, List.map_nil] at hF
      clear hB hG
      have hB := (Bx.cons h8 (Bx.cons h7 hB1))
      have hG := hG1
      clear hB1 hG1 h7 h8
      refine hL _ _ ?_
      clear hL L hgu
      obtain ⟨u, rfl⟩ : ∃ x, x = v := ⟨_, rfl⟩
      have hD : b7 ≠ b8 ∧ b8 ≠ b7 := ⟨hF.ne 1 0 rfl rfl (by decide), hF.ne 0 1 rfl rfl (by decide)⟩
      have r := hB.r
      simp only [BxR] at r
      go_wp2_with fail
      clear r
      clear hD
      generalize hu0 : World.setCell (World.setCell u _ _) _ _ = u0
      have hBG := hB.over hF hG 1 rfl 0 [_, _] hu0
      clear hB hG hu0
      simp only [List.modify_succ_cons, List.modify_zero_cons, wrAll, List.setIfInBounds_toArray, List.set_cons_zero, List.set_cons_succ, Nat.zero_add, Nat.reduceAdd] at hBG
      obtain ⟨hB, hG⟩ := hBG
      clear u
      generalize hu1 : World.setCell (World.setCell u0 _ _) _ _ = u1
      have hBG := hB.over hF hG 0 rfl 0 [_, _] hu1
      clear hB hG hu1
      simp only [List.modify_succ_cons, List.modify_zero_cons, wrAll, List.setIfInBounds_toArray, List.set_cons_zero, List.set_cons_succ, Nat.zero_add, Nat.reduceAdd] at hBG
      obtain ⟨hB, hG⟩ := hBG
      clear u0
      obtain ⟨u, rfl⟩ : ∃ x, x = u1 := ⟨_, rfl⟩
      refine NoK.norm (hN _ _ ?_)
      clear hN K
      refine then_norm ?_
      refine wp_seq ?_
      refine Code.wp_mono NoP.up ?_
      have r := hB.r
      simp only [BxR] at r
      have hD : b2 ≠ b5 ∧ b2 ≠ b6 ∧ b3 ≠ b5 ∧ b3 ≠ b6 ∧ b4 ≠ b5 ∧ b4 ≠ b6 ∧ b5 ≠ b2 ∧ b5 ≠ b3 ∧ b5 ≠ b4 ∧ b5 ≠ b6 ∧ b5 ≠ b7 ∧ b5 ≠ b8 ∧ b6 ≠ b2 ∧ b6 ≠ b3 ∧ b6 ≠ b4 ∧ b6 ≠ b5 ∧ b6 ≠ b7 ∧ b6 ≠ b8 ∧ b7 ≠ b5 ∧ b7 ≠ b6 ∧ b8 ≠ b5 ∧ b8 ≠ b6 := ⟨hF.ne 4 3 rfl rfl (by decide), hF.ne 4 2 rfl rfl (by decide), hF.ne 5 3 rfl rfl (by decide), hF.ne 5 2 rfl rfl (by decide), hF.ne 6 3 rfl rfl (by decide), hF.ne 6 2 rfl rfl (by decide), hF.ne 3 4 rfl rfl (by decide), hF.ne 3 5 rfl rfl (by decide), hF.ne 3 6 rfl rfl (by decide), hF.ne 3 2 rfl rfl (by decide), hF.ne 3 1 rfl rfl (by decide), hF.ne 3 0 rfl rfl (by decide), hF.ne 2 4 rfl rfl (by decide), hF.ne 2 5 rfl rfl (by decide), hF.ne 2 6 rfl rfl (by decide), hF.ne 2 3 rfl rfl (by decide), hF.ne 2 1 rfl rfl (by decide), hF.ne 2 0 rfl rfl (by decide), hF.ne 1 3 rfl rfl (by decide), hF.ne 1 2 rfl rfl (by decide), hF.ne 0 3 rfl rfl (by decide), hF.ne 0 2 rfl rfl (by decide)⟩
      go_region
      clear r hD
      generalize hu0 : World.setCell (World.setCell u _ _) _ _ = u0
      have hBG := hB.over hF hG 3 rfl 0 [_, _] hu0
      clear hB hG hu0
      simp only [List.modify_succ_cons, List.modify_zero_cons, wrAll, List.setIfInBounds_toArray, List.set_cons_zero, List.set_cons_succ, Nat.zero_add, Nat.reduceAdd] at hBG
      obtain ⟨hB, hG⟩ := hBG
      clear u
      generalize hu1 : World.setCell (World.setCell u0 _ _) _ _ = u1
      have hBG := hB.over hF hG 2 rfl 0 [_, _] hu1
      clear hB hG hu1
      simp only [List.modify_succ_cons, List.modify_zero_cons, wrAll, List.setIfInBounds_toArray, List.set_cons_zero, List.set_cons_succ, Nat.zero_add, Nat.reduceAdd] at hBG
      obtain ⟨hB, hG⟩ := hBG
      clear u0
      obtain ⟨u, rfl⟩ : ∃ x, x = u1 := ⟨_, rfl⟩
      replace hB := hB.grow (Grow.drew u)
      replace hG := hG.trans (Grow.drew u)
      obtain ⟨u, rfl⟩ : ∃ x, x = u.drew := ⟨_, rfl⟩
      refine NoP.norm ?_
      refine then_norm ?_
      refine wp_seq ?_
      refine wp_seq ?_
      refine wp_rs (w := w) allocs 3 [0, 1, 0] (by kernel_rfl) (by simp only [List.drop_succ_cons, List.drop_nil]; exact rfl) (fun _ => True) noG hB hG trivial ?_
      intro K L hN hL
      simp only [List.zip_cons_cons, List.zip_nil_left]
      apply gy
      · exact rfl
      · (rintro v ⟨hgu, hB, hG, -⟩ N hN; have r := hB.r; simp only [BxR] at r; go_simp; exact hN)
      refine okf (by simp only [Act.put, List.setIfInBounds_toArray, List.set_cons_succ, List.set_cons_zero]; exact rfl) ?_
      apply gm
      · exact rfl
      · (rintro v ⟨hgu, hB, hG, -⟩ N hN; go_simp; ((with_reducible refine (nat_Bits _ (by first | assumption | omega) _).mono ?_); rintro e w1 ⟨rfl, hb⟩; exact ⟨_, rfl, hN _ hb⟩))
      refine okf (by simp only [Act.put, List.setIfInBounds_toArray, List.set_cons_succ, List.set_cons_zero]; exact rfl) ?_
      apply gy
      · exact rfl
      · (rintro v - N hN; go_simp; exact hN)
      refine okf (by simp only [Act.put, List.setIfInBounds_toArray, List.set_cons_succ, List.set_cons_zero]; exact rfl) ?_
      refine gend ?_
      rintro v ⟨hgu, hB1, hG1, -⟩
      clear hB hG
      have hB := hB1
      have hG := hG1
      clear hB1 hG1
      refine hL _ _ ?_
      clear hL L hgu
      obtain ⟨u, rfl⟩ : ∃ x, x = v := ⟨_, rfl⟩
      refine wpList_nil ?_
      refine NoK.norm (hN _ _ ?_)
      clear hN K
      refine then_norm ?_
      refine wp_cond_split rfl ?_ ?_
      · intro ht
        have ht39 := ht
        have hY : p % q = 0 := bl_eq_zero.1 (by simpa using ht)
        refine wp_seq ?_
        refine wp_r0 ?_
        intro K hN
        have r := hB.r
        simp only [BxR] at r
        go_wp2_with fail
        clear r
        generalize hu0 : World.setCell (World.setCell u _ _) _ _ = u0
        have hBG := hB.over hF hG 6 rfl 0 [_, _] hu0
        clear hB hG hu0
        simp only [List.modify_succ_cons, List.modify_zero_cons, wrAll, List.setIfInBounds_toArray, List.set_cons_zero, List.set_cons_succ, Nat.zero_add, Nat.reduceAdd] at hBG
        obtain ⟨hB, hG⟩ := hBG
        clear u
        obtain ⟨u, rfl⟩ : ∃ x, x = u0 := ⟨_, rfl⟩
        refine NoK.norm (hN _ _ ?_)
        clear hN K
        refine then_norm ?_
        refine wp_ret ?_
        refine then_ret ?_
        refine ret_b rfl ?_
        intro N hN
        have r := hB.r
        simp only [BxR] at r
        simp only [results, Tryz.results67]
        go_simp
        refine hN _ ?_
        clear hN N r
        have hgx := gcd_step p q g Hg.out
        rw [hY, Nat.gcd_zero_right] at hgx
        exact ⟨by rw [hgx], hG⟩
      · intro ht
        have ht39 := ht
        refine wp_skip ?_
        refine then_norm ?_
        refine wp_seq ?_
        refine wp_seq ?_
        refine wp_rs (w := w) allocs 7 [0, 1, 0, 0, 0, 0, 0] (by kernel_rfl) (by simp only [List.drop_succ_cons, List.drop_nil]; exact rfl) (fun _ => True) noG hB hG trivial ?_
        intro K L hN hL
        simp only [List.zip_cons_cons, List.zip_nil_left]
        apply gy
        · exact rfl
        · (rintro v ⟨hgu, hB, hG, -⟩ N hN; have r := hB.r; simp only [BxR] at r; go_simp; exact hN)
        refine okf (by simp only [Act.put, List.setIfInBounds_toArray, List.set_cons_succ, List.set_cons_zero]; exact rfl) ?_
        apply gm
        · exact rfl
        · (rintro v ⟨hgu, hB, hG, -⟩ N hN; go_simp; ((with_reducible refine (nat_Small_yes _ (by assumption) _).mono ?_); rintro e w1 ⟨rfl, hb⟩; exact ⟨_, rfl, hN _ hb⟩))
        refine okf (by simp only [Act.put, List.setIfInBounds_toArray, List.set_cons_succ, List.set_cons_zero]; exact rfl) ?_
        apply gy
        · exact rfl
        · (rintro v - N hN; go_simp; exact hN)
        refine okf (by simp only [Act.put, List.setIfInBounds_toArray, List.set_cons_succ, List.set_cons_zero]; exact rfl) ?_
        apply gy
        · exact rfl
        · (rintro v - N hN; go_simp; exact hN)
        refine okf (by simp only [Act.put, List.setIfInBounds_toArray, List.set_cons_succ, List.set_cons_zero]; exact rfl) ?_
        apply gy
        · exact rfl
        · (rintro v - N hN; go_simp; exact hN)
        refine okf (by simp only [Act.put, List.setIfInBounds_toArray, List.set_cons_succ, List.set_cons_zero]; exact rfl) ?_
        apply gy
        · exact rfl
        · (rintro v - N hN; go_simp; exact hN)
        refine okf (by simp only [Act.put, List.setIfInBounds_toArray, List.set_cons_succ, List.set_cons_zero]; exact rfl) ?_
        apply gy
        · exact rfl
        · (rintro v - N hN; go_simp; exact hN)
        refine okf (by simp only [Act.put, List.setIfInBounds_toArray, List.set_cons_succ, List.set_cons_zero]; exact rfl) ?_
        refine gend ?_
        rintro v ⟨hgu, hB1, hG1, -⟩
        clear hB hG
        have hB := hB1
        have hG := hG1
        clear hB1 hG1
        refine hL _ _ ?_
        clear hL L hgu
        obtain ⟨u, rfl⟩ : ∃ x, x = v := ⟨_, rfl⟩
        refine wpList_nil ?_
        refine NoK.norm (hN _ _ ?_)
        clear hN K
        refine then_norm ?_
        refine wp_seq ?_
        refine wp_r0 ?_
        intro K hN
        go_wp2_with fail
        refine NoK.norm (hN _ _ ?_)
        clear hN K
        refine then_norm ?_
        refine wp_cond_true (rfl) ?_
        refine wp_seq ?_
        refine wp_rs (w := w) allocs 7 [0, 1, 0, 0, 0, 0, 0] (by kernel_rfl) (by simp only [List.drop_succ_cons, List.drop_nil]; exact rfl) (fun _ => True) noG hB hG trivial ?_
        intro K L hN hL
        simp only [List.zip_cons_cons, List.zip_nil_left]
        apply gy
        · exact rfl
        · (rintro v ⟨hgu, hB, hG, -⟩ N hN; have r := hB.r; simp only [BxR] at r; go_simp; exact hN)
        refine okf (by simp only [Act.put, List.setIfInBounds_toArray, List.set_cons_succ, List.set_cons_zero]; exact rfl) ?_
        apply gm
        · exact rfl
        · (rintro v ⟨hgu, hB, hG, -⟩ N hN; go_simp; ((with_reducible refine (nat_Small_yes _ (by assumption) _).mono ?_); rintro e w1 ⟨rfl, hb⟩; exact ⟨_, rfl, hN _ hb⟩))
        refine okf (by simp only [Act.put, List.setIfInBounds_toArray, List.set_cons_succ, List.set_cons_zero]; exact rfl) ?_
        apply gy
        · exact rfl
        · (rintro v - N hN; go_simp; exact hN)
        refine okf (by simp only [Act.put, List.setIfInBounds_toArray, List.set_cons_succ, List.set_cons_zero]; exact rfl) ?_
        apply gy
        · exact rfl
        · (rintro v - N hN; go_simp; exact hN)
        refine okf (by simp only [Act.put, List.setIfInBounds_toArray, List.set_cons_succ, List.set_cons_zero]; exact rfl) ?_
        apply gy
        · exact rfl
        · (rintro v - N hN; go_simp; exact hN)
        refine okf (by simp only [Act.put, List.setIfInBounds_toArray, List.set_cons_succ, List.set_cons_zero]; exact rfl) ?_
        apply gy
        · exact rfl
        · (rintro v - N hN; go_simp; exact hN)
        refine okf (by simp only [Act.put, List.setIfInBounds_toArray, List.set_cons_succ, List.set_cons_zero]; exact rfl) ?_
        apply gy
        · exact rfl
        · (rintro v - N hN; go_simp; exact hN)
        refine okf (by simp only [Act.put, List.setIfInBounds_toArray, List.set_cons_succ, List.set_cons_zero]; exact rfl) ?_
        refine gend ?_
        rintro v ⟨hgu, hB1, hG1, -⟩
        clear hB hG
        have hB := hB1
        have hG := hG1
        clear hB1 hG1
        refine hL _ _ ?_
        clear hL L hgu
        obtain ⟨u, rfl⟩ : ∃ x, x = v := ⟨_, rfl⟩
        refine wpList_nil ?_
        refine NoK.norm (hN _ _ ?_)
        clear hN K
        refine then_norm ?_
        refine wp_seq ?_
        refine wp_block ?_
        have hF4 : Fr w [b4] := ⟨fun b hb => hF.1 b (by simp at hb; subst hb; simp), by simp⟩
        have hB4 : Bx u [(b4, 28, #[.int .u64 0, .string ⟨#[]⟩])] := Bx.cons (hB (b4, 28, #[.int .u64 0, .string ⟨#[]⟩]) (by simp)) (Bx.nil _)
        clear hB hF
        go_loopw [10, 12] (fun m n wr => ∃ x y : Nat, x < W64 ∧ y < W64 ∧ Nat.gcd x y = g ∧ m = .int .u64 x ∧ n = .int .u64 y ∧ Bx wr [(b4, 28, #[.int .u64 0, .string ⟨#[]⟩])] ∧ Grow w wr) (fun _ n _ => (intOf n).toNat)
        case atStart => exact ⟨q, p % q, hq, hm, gcd_step p q g Hg.out, rfl, rfl, hB4, hG⟩
        case round =>
          obtain ⟨x, y, hx, hy, hgc, rfl, rfl, hB, hG⟩ := hrel
          have Hgc := Lib.hid hgc
          clear hgc
          obtain ⟨u, rfl⟩ : ∃ x, x = wr := ⟨_, rfl⟩
          have hF := hF4
          refine wp_seq ?_
          refine wp_seq ?_
          skip
          refine wp_r0 ?_
          intro K hN
          go_wp2_with fail
          refine NoK.norm (hN _ _ ?_)
          clear hN K
          refine then_norm ?_
          refine wp_cond_split rfl ?_ ?_
          · intro ht
            have ht53 := ht
            have hy0 : ¬ (y : Int) = 0 := by simp at ht; omega
            have hyp : 0 < y := by omega
            have hyn : ¬ y = 0 := by omega
            have hw4 : (x : Int).tmod (y : Int) = ((x % y : Nat) : Int) := rfl
            refine wp_skip ?_
            refine then_norm ?_
            refine wp_block ?_
            refine wp_rd (w := w) allocs 5 [] [(0, 0), (0, 1), (0, 2), (0, 3), (0, 4)] (by kernel_rfl) (by kernel_rfl) (by simp only [List.drop_succ_cons, List.drop_zero]; exact rfl) (fun _ => True) noG hB hG trivial ?_
            intro K L hN hL
            simp only [pickOps, List.getElem?_toArray, List.getElem?_cons_zero, List.getElem?_cons_succ]
            apply gy
            · exact rfl
            · (rintro v - N hN; go_simp; exact hN)
            refine okf (by simp only [Act.put, List.setIfInBounds_toArray, List.set_cons_succ, List.set_cons_zero]; exact rfl) ?_
            apply gy
            · exact rfl
            · (rintro v - N hN; go_simp; exact hN)
            refine okf (by simp only [Act.put, List.setIfInBounds_toArray, List.set_cons_succ, List.set_cons_zero]; exact rfl) ?_
            apply gy
            · exact rfl
            · (rintro v - N hN; go_simp; exact hN)
            refine okf (by simp only [Act.put, List.setIfInBounds_toArray, List.set_cons_succ, List.set_cons_zero]; exact rfl) ?_
            apply gy
            · exact rfl
            · (rintro v - N hN; go_simp; exact hN)
            refine okf (by simp only [Act.put, List.setIfInBounds_toArray, List.set_cons_succ, List.set_cons_zero]; exact rfl) ?_
            apply gy
            · exact rfl
            · (rintro v - N hN; go_simp; exact hN)
            refine okf (by simp only [Act.put, List.setIfInBounds_toArray, List.set_cons_succ, List.set_cons_zero]; exact rfl) ?_
            refine gend ?_
            rintro v ⟨hgu, hB1, hG1, -⟩
            clear hB hG
            have hB := hB1
            have hG := hG1
            clear hB1 hG1
            refine hL _ _ ?_
            clear hL L hgu
            obtain ⟨u, rfl⟩ : ∃ x, x = v := ⟨_, rfl⟩
            go_wp2_with fail
            refine NoK.norm (hN _ _ ?_)
            clear hN K
            refine blk_norm ?_
            refine then_norm ?_
            go_roundw
            case rel => exact ⟨y, x % y, hy, Nat.lt_trans (Nat.mod_lt _ hyp) hy, gcd_step x y g Hgc.out, rfl, rfl, hB, hG⟩
            case measure => simp [intOf]; exact Nat.mod_lt _ hyp
          · intro ht
            have ht53 := ht
            have hy0 : y = 0 := by simp at ht; omega
            refine wp_exit ?_
            refine then_exit ?_
            refine then_exit ?_
            refine blk_exit ?_
            refine then_norm ?_
            refine wp_seq ?_
            refine wp_rs (w := w) allocs 2 [0, 1] (by kernel_rfl) (by simp only [List.drop_succ_cons, List.drop_zero]; exact rfl) (fun _ => True) noG hB hG trivial ?_
            intro K L hN hL
            simp only [List.zip_cons_cons, List.zip_nil_left]
            apply gy
            · exact rfl
            · (rintro v - N hN; go_simp; exact hN)
            refine okf (by simp only [Act.put, List.setIfInBounds_toArray, List.set_cons_succ, List.set_cons_zero]; exact rfl) ?_
            apply gm
            · exact rfl
            · (rintro v ⟨hgu, hB, hG, -⟩ N hN; go_simp; ((with_reducible refine (nat_Of x hx _).mono ?_); rintro e w1 ⟨rfl, hb⟩; exact ⟨_, rfl, hN _ hb⟩))
            refine okf (by simp only [Act.put, List.setIfInBounds_toArray, List.set_cons_succ, List.set_cons_zero]; exact rfl) ?_
            refine gend ?_
            rintro v ⟨hgu, hB1, hG1, -⟩
            clear hB hG
            have hB := hB1
            have hG := hG1
            clear hB1 hG1
            refine hL _ _ ?_
            clear hL L hgu
            obtain ⟨u, rfl⟩ : ∃ x, x = v := ⟨_, rfl⟩
            have r := hB.r
            simp only [BxR] at r
            go_wp2_with fail
            clear r
            generalize hu0 : World.setCell (World.setCell u _ _) _ _ = u0
            have hBG := hB.over hF hG 0 rfl 0 [_, _] hu0
            clear hB hG hu0
            simp only [List.modify_succ_cons, List.modify_zero_cons, wrAll, List.setIfInBounds_toArray, List.set_cons_zero, List.set_cons_succ, Nat.zero_add, Nat.reduceAdd] at hBG
            obtain ⟨hB, hG⟩ := hBG
            clear u
            obtain ⟨u, rfl⟩ : ∃ x, x = u0 := ⟨_, rfl⟩
            refine NoK.norm (hN _ _ ?_)
            clear hN K
            refine then_norm ?_
            refine wp_ret ?_
            refine then_ret ?_
            refine ret_b rfl ?_
            intro N hN
            have r := hB.r
            simp only [BxR] at r
            simp only [results, Tryz.results67]
            go_simp
            refine hN _ ?_
            clear hN N r
            have hgx := Hgc.out
            rw [hy0, Nat.gcd_zero_right] at hgx
            exact ⟨by rw [hgx], hG⟩

set_option maxHeartbeats 4000000 in
set_option maxRecDepth 100000 in
theorem whole_Gcd_gt_s (na nb : Bool) (p q : Nat) (hp : p < W64) (hq : bl q ≤ BIG) (hpq : p < q) (w : World) : Calls Tryz.prog 67 #[.agg #[.bool na, .int .u64 (natLo p), .string (natMo p)], .agg #[.bool nb, .int .u64 (natLo q), .string (natMo q)]] w fun e w' => e = .returned (natV (Nat.gcd p q)) ∧ Grow w w' := by
  have hb1 : bl p ≤ 1099511627776 := Nat.le_trans (bl_small hp) (by omega)
  have hb2 := fits_most hq
  have hb3 : bl (q % p) ≤ 1099511627776 := Nat.le_trans (bl_mod_le _ _) hb2
  have hpB : bl p ≤ BIG := Nat.le_trans (bl_small hp) BIG_ge
  have hc : decide (cmpN p q < 0) = true := by rw [cmpN_lt hpq]; rfl
  obtain ⟨g, hg⟩ : ∃ g, g = Nat.gcd p q := ⟨_, rfl⟩
  rw [← hg]
  have hgs : Nat.gcd q p = g := by rw [hg, Nat.gcd_comm]
  have Hg := Lib.hid hgs
  clear hg hgs
  go_enter Tryz.func67, Tryz.ntmps67
  refine wp_seq (wp_r0 ?_)
  intro K hN
  go_wp2_with fail
  generalize hu : World.alloc (World.alloc (World.alloc w _) _) _ = u
  obtain ⟨hB, hG⟩ := bx_first [(_, _), (_, _), (_, _)] w u hu
  have hF := fr_first w [(30, #[]), (30, #[]), (28, #[])]
  simp only [numbered, List.map_cons, List.map_nil] at hB hF
  clear hu
  generalize w.heap.size + 1 + 1 = b4 at hB hF ⊢
  generalize w.heap.size + 1 = b3 at hB hF ⊢
  generalize w.heap.size = b2 at hB hF ⊢
  refine NoK.norm (hN _ _ ?_)
  clear hN K
  refine then_norm ?_
  refine wp_seq ?_
  refine Code.wp_mono NoP.up ?_
  have r := hB.r
  simp only [BxR] at r
  have hn2 : b2 < u.heap.size := (hB.head).lt
  have hn3 : b3 < u.heap.size := (hB.tail.head).lt
  have hn4 : b4 < u.heap.size := (hB.tail.tail.head).lt
  go_region
  all_goals clear r hn2 hn3 hn4
  have hT := two_newA hB hF hG 28 #[.int .u64 (natLo p), .string (natMo p)] 28 #[.int .u64 (natLo q), .string (natMo q)]
  clear hB hF hG
  obtain ⟨hB, hF, hG⟩ := hT
  generalize World.drew _ = v at hB hG ⊢
  generalize u.heap.size + 1 = b6 at hB hF ⊢
  generalize u.heap.size = b5 at hB hF ⊢
  obtain ⟨u, rfl⟩ : ∃ x, x = v := ⟨_, rfl⟩
  refine NoP.norm ?_
  rotate_left
  have hT := two_newB hB hF hG 28 #[.int .u64 (natLo q), .string (natMo q)] 28 #[.int .u64 (natLo p), .string (natMo p)]
  clear hB hF hG
  obtain ⟨hB, hF, hG⟩ := hT
  generalize World.drew _ = v at hB hG ⊢
  generalize u.heap.size + 1 = b5 at hB hF ⊢
  generalize u.heap.size = b6 at hB hF ⊢
  obtain ⟨u, rfl⟩ : ∃ x, x = v := ⟨_, rfl⟩
  refine NoP.norm ?_
  rotate_left
  skip
  all_goals
    refine then_norm ?_
    refine wp_seq ?_
    refine wp_seq ?_
    refine wp_rs (w := w) allocs 4 [0, 0, 1, 0] (by kernel_rfl) (by simp only [List.drop_succ_cons, List.drop_nil]; exact rfl) (fun _ => True) noG hB hG trivial ?_
    intro K L hN hL
    simp only [List.zip_cons_cons, List.zip_nil_left]
    apply gy
    · exact rfl
    · (rintro v ⟨hgu, hB, hG, -⟩ N hN; have r := hB.r; simp only [BxR] at r; go_simp; exact hN)
    refine okf (by simp only [Act.put, List.setIfInBounds_toArray, List.set_cons_succ, List.set_cons_zero]; exact rfl) ?_
    apply gy
    · exact rfl
    · (rintro v ⟨hgu, hB, hG, -⟩ N hN; have r := hB.r; simp only [BxR] at r; go_simp; exact hN)
    refine okf (by simp only [Act.put, List.setIfInBounds_toArray, List.set_cons_succ, List.set_cons_zero]; exact rfl) ?_
    apply gm
    · exact rfl
    · (rintro v ⟨hgu, hB, hG, -⟩ N hN; go_simp; ((with_reducible refine (nat_Cmp _ _ (by first | assumption | omega) _).mono ?_); rintro e w1 ⟨rfl, hb⟩; exact ⟨_, rfl, hN _ hb⟩))
    refine okf (by simp only [Act.put, List.setIfInBounds_toArray, List.set_cons_succ, List.set_cons_zero]; exact rfl) ?_
    apply gy
    · exact rfl
    · (rintro v - N hN; go_simp; exact hN)
    refine okf (by simp only [Act.put, List.setIfInBounds_toArray, List.set_cons_succ, List.set_cons_zero]; exact rfl) ?_
    refine gend ?_
    rintro v ⟨hgu, hB1, hG1, -⟩
    clear hB hG
    have hB := hB1
    have hG := hG1
    clear hB1 hG1
    refine hL _ _ ?_
    clear hL L hgu
    obtain ⟨u, rfl⟩ : ∃ x, x = v := ⟨_, rfl⟩
    refine wpList_nil ?_
    refine NoK.norm (hN _ _ ?_)
    clear hN K
    refine then_norm ?_
    refine wp_cond_true (rfl) ?_
    refine wp_r0 ?_
    intro K hN
    have hD : b5 ≠ b6 ∧ b6 ≠ b5 := ⟨hF.ne 1 0 rfl rfl (by decide), hF.ne 0 1 rfl rfl (by decide)⟩
    have r := hB.r
    simp only [BxR] at r
    go_wp2_with fail
    clear r
    clear hD
    generalize hu0 : World.setCell (World.setCell u _ _) _ _ = u0
    have hBG := hB.over hF hG 1 rfl 0 [_, _] hu0
    clear hB hG hu0
    simp only [List.modify_succ_cons, List.modify_zero_cons, wrAll, List.setIfInBounds_toArray, List.set_cons_zero, List.set_cons_succ, Nat.zero_add, Nat.reduceAdd] at hBG
    obtain ⟨hB, hG⟩ := hBG
    clear u
    generalize hu1 : World.setCell (World.setCell u0 _ _) _ _ = u1
    have hBG := hB.over hF hG 0 rfl 0 [_, _] hu1
    clear hB hG hu1
    simp only [List.modify_succ_cons, List.modify_zero_cons, wrAll, List.setIfInBounds_toArray, List.set_cons_zero, List.set_cons_succ, Nat.zero_add, Nat.reduceAdd] at hBG
    obtain ⟨hB, hG⟩ := hBG
    clear u0
    obtain ⟨u, rfl⟩ : ∃ x, x = u1 := ⟨_, rfl⟩
    refine NoK.norm (hN _ _ ?_)
    clear hN K
    refine then_norm ?_
    refine wp_seq ?_
    refine wp_seq ?_
    refine wp_rs (w := w) allocs 3 [0, 1, 0] (by kernel_rfl) (by simp only [List.drop_succ_cons, List.drop_nil]; exact rfl) (fun _ => True) noG hB hG trivial ?_
    intro K L hN hL
    simp only [List.zip_cons_cons, List.zip_nil_left]
    apply gy
    · exact rfl
    · (rintro v ⟨hgu, hB, hG, -⟩ N hN; have r := hB.r; simp only [BxR] at r; go_simp; exact hN)
    refine okf (by simp only [Act.put, List.setIfInBounds_toArray, List.set_cons_succ, List.set_cons_zero]; exact rfl) ?_
    apply gm
    · exact rfl
    · (rintro v ⟨hgu, hB, hG, -⟩ N hN; go_simp; ((with_reducible refine (nat_Bits _ (by first | assumption | omega) _).mono ?_); rintro e w1 ⟨rfl, hb⟩; exact ⟨_, rfl, hN _ hb⟩))
    refine okf (by simp only [Act.put, List.setIfInBounds_toArray, List.set_cons_succ, List.set_cons_zero]; exact rfl) ?_
    apply gy
    · exact rfl
    · (rintro v - N hN; go_simp; exact hN)
    refine okf (by simp only [Act.put, List.setIfInBounds_toArray, List.set_cons_succ, List.set_cons_zero]; exact rfl) ?_
    refine gend ?_
    rintro v ⟨hgu, hB1, hG1, -⟩
    clear hB hG
    have hB := hB1
    have hG := hG1
    clear hB1 hG1
    refine hL _ _ ?_
    clear hL L hgu
    obtain ⟨u, rfl⟩ : ∃ x, x = v := ⟨_, rfl⟩
    refine wpList_nil ?_
    refine NoK.norm (hN _ _ ?_)
    clear hN K
    refine then_norm ?_
    refine wp_cond_split rfl ?_ ?_
    · intro ht
      have ht26 := ht
      have hY : p = 0 := bl_eq_zero.1 (by simpa using ht)
      refine wp_seq ?_
      refine wp_r0 ?_
      intro K hN
      have r := hB.r
      simp only [BxR] at r
      go_wp2_with fail
      clear r
      generalize hu0 : World.setCell (World.setCell u _ _) _ _ = u0
      have hBG := hB.over hF hG 4 rfl 0 [_, _] hu0
      clear hB hG hu0
      simp only [List.modify_succ_cons, List.modify_zero_cons, wrAll, List.setIfInBounds_toArray, List.set_cons_zero, List.set_cons_succ, Nat.zero_add, Nat.reduceAdd] at hBG
      obtain ⟨hB, hG⟩ := hBG
      clear u
      obtain ⟨u, rfl⟩ : ∃ x, x = u0 := ⟨_, rfl⟩
      refine NoK.norm (hN _ _ ?_)
      clear hN K
      refine then_norm ?_
      refine wp_ret ?_
      refine then_ret ?_
      refine ret_b rfl ?_
      intro N hN
      have r := hB.r
      simp only [BxR] at r
      simp only [results, Tryz.results67]
      go_simp
      refine hN _ ?_
      clear hN N r
      have hgx := Hg.out
      rw [hY, Nat.gcd_zero_right] at hgx
      exact ⟨by rw [hgx], hG⟩
    · intro ht
      have ht26 := ht
      have hY0 : p ≠ 0 := fun h => (by rw [h] at ht; simp [bl_zero] at ht)
      have hm : q % p < W64 := Nat.lt_trans (Nat.mod_lt q (Nat.pos_of_ne_zero hY0)) hp
      refine wp_skip ?_
      refine then_norm ?_
      refine wp_seq ?_
      refine wp_rs (w := w) allocs 9 [0, 0, 1, 0, 0, 0, 0, 2, 2] (by kernel_rfl) (by simp only [List.drop_succ_cons, List.drop_zero]; exact rfl) (fun _ => True) noG hB hG trivial ?_
      intro K L hN hL
      simp only [List.zip_cons_cons, List.zip_nil_left]
      apply gy
      · exact rfl
      · (rintro v ⟨hgu, hB, hG, -⟩ N hN; have r := hB.r; simp only [BxR] at r; go_simp; exact hN)
      refine okf (by simp only [Act.put, List.setIfInBounds_toArray, List.set_cons_succ, List.set_cons_zero]; exact rfl) ?_
      apply gy
      · exact rfl
      · (rintro v ⟨hgu, hB, hG, -⟩ N hN; have r := hB.r; simp only [BxR] at r; go_simp; exact hN)
      refine okf (by simp only [Act.put, List.setIfInBounds_toArray, List.set_cons_succ, List.set_cons_zero]; exact rfl) ?_
      apply gm
      · exact rfl
      · (rintro v ⟨hgu, hB, hG, -⟩ N hN; go_simp; ((with_reducible refine (nat_Div q p hq hpB hY0 _).mono ?_); rintro e w1 ⟨rfl, hb⟩; exact ⟨_, rfl, hN _ hb⟩))
      refine okf (by simp only [Act.put, List.setIfInBounds_toArray, List.set_cons_succ, List.set_cons_zero]; exact rfl) ?_
      apply gy
      · exact rfl
      · (rintro v - N hN; go_simp; exact hN)
      refine okf (by simp only [Act.put, List.setIfInBounds_toArray, List.set_cons_succ, List.set_cons_zero]; exact rfl) ?_
      apply gy
      · exact rfl
      · (rintro v - N hN; go_simp; exact hN)
      refine okf (by simp only [Act.put, List.setIfInBounds_toArray, List.set_cons_succ, List.set_cons_zero]; exact rfl) ?_
      apply gy
      · exact rfl
      · (rintro v - N hN; go_simp; exact hN)
      refine okf (by simp only [Act.put, List.setIfInBounds_toArray, List.set_cons_succ, List.set_cons_zero]; exact rfl) ?_
      apply gy
      · exact rfl
      · (rintro v - N hN; go_simp; exact hN)
      refine okf (by simp only [Act.put, List.setIfInBounds_toArray, List.set_cons_succ, List.set_cons_zero]; exact rfl) ?_
      refine ga (newObj_Nat _ _ _ _ _) fun b7 hb7 hn7 => ?_
      refine okf (by simp only [Act.put, List.setIfInBounds_toArray, List.set_cons_succ, List.set_cons_zero]; exact rfl) ?_
      refine ga (newObj_Nat _ _ _ _ _) fun b8 hb8 hn8 => ?_
      refine okf (by simp only [Act.put, List.setIfInBounds_toArray, List.set_cons_succ, List.set_cons_zero]; exact rfl) ?_
      refine gend ?_
      rintro v ⟨⟨⟨hgu, hB1, hG1, -⟩, h7⟩, h8⟩
      have hF := Fr.new (tk := []) hF hB hG hb7 hn7
      have hF := Fr.new (tk := [b7]) hF hB hG hb8 hn8
      simp only [List.cons_append, List.nil_append, List.map_cons, List.map_nil] at hF
      clear hB hG
      have hB := (Bx.cons h8 (Bx.cons h7 hB1))
      have hG := hG1
      clear hB1 hG1 h7 h8
      refine hL _ _ ?_
      clear hL L hgu
      obtain ⟨u, rfl⟩ : ∃ x, x = v := ⟨_, rfl⟩
      have hD : b7 ≠ b8 ∧ b8 ≠ b7 := ⟨hF.ne 1 0 rfl rfl (by decide), hF.ne 0 1 rfl rfl (by decide)⟩
      have r := hB.r
      simp only [BxR] at r
      go_wp2_with fail
      clear r
      clear hD
      generalize hu0 : World.setCell (World.setCell u _ _) _ _ = u0
      have hBG := hB.over hF hG 1 rfl 0 [_, _] hu0
      clear hB hG hu0
      simp only [List.modify_succ_cons, List.modify_zero_cons, wrAll, List.setIfInBounds_toArray, List.set_cons_zero, List.set_cons_succ, Nat.zero_add, Nat.reduceAdd] at hBG
      obtain ⟨hB, hG⟩ := hBG
      clear u
      generalize hu1 : World.setCell (World.setCell u0 _ _) _ _ = u1
      have hBG := hB.over hF hG 0 rfl 0 [_, _] hu1
      clear hB hG hu1
      simp only [List.modify_succ_cons, List.modify_zero_cons, wrAll, List.setIfInBounds_toArray, List.set_cons_zero, List.set_cons_succ, Nat.zero_add, Nat.reduceAdd] at hBG
      obtain ⟨hB, hG⟩ := hBG
      clear u0
      obtain ⟨u, rfl⟩ : ∃ x, x = u1 := ⟨_, rfl⟩
      refine NoK.norm (hN _ _ ?_)
      clear hN K
      refine then_norm ?_
      refine wp_seq ?_
      refine Code.wp_mono NoP.up ?_
      have r := hB.r
      simp only [BxR] at r
      have hD : b2 ≠ b5 ∧ b2 ≠ b6 ∧ b3 ≠ b5 ∧ b3 ≠ b6 ∧ b4 ≠ b5 ∧ b4 ≠ b6 ∧ b5 ≠ b2 ∧ b5 ≠ b3 ∧ b5 ≠ b4 ∧ b5 ≠ b6 ∧ b5 ≠ b7 ∧ b5 ≠ b8 ∧ b6 ≠ b2 ∧ b6 ≠ b3 ∧ b6 ≠ b4 ∧ b6 ≠ b5 ∧ b6 ≠ b7 ∧ b6 ≠ b8 ∧ b7 ≠ b5 ∧ b7 ≠ b6 ∧ b8 ≠ b5 ∧ b8 ≠ b6 := ⟨hF.ne 4 3 rfl rfl (by decide), hF.ne 4 2 rfl rfl (by decide), hF.ne 5 3 rfl rfl (by decide), hF.ne 5 2 rfl rfl (by decide), hF.ne 6 3 rfl rfl (by decide), hF.ne 6 2 rfl rfl (by decide), hF.ne 3 4 rfl rfl (by decide), hF.ne 3 5 rfl rfl (by decide), hF.ne 3 6 rfl rfl (by decide), hF.ne 3 2 rfl rfl (by decide), hF.ne 3 1 rfl rfl (by decide), hF.ne 3 0 rfl rfl (by decide), hF.ne 2 4 rfl rfl (by decide), hF.ne 2 5 rfl rfl (by decide), hF.ne 2 6 rfl rfl (by decide), hF.ne 2 3 rfl rfl (by decide), hF.ne 2 1 rfl rfl (by decide), hF.ne 2 0 rfl rfl (by decide), hF.ne 1 3 rfl rfl (by decide), hF.ne 1 2 rfl rfl (by decide), hF.ne 0 3 rfl rfl (by decide), hF.ne 0 2 rfl rfl (by decide)⟩
      go_region
      clear r hD
      generalize hu0 : World.setCell (World.setCell u _ _) _ _ = u0
      have hBG := hB.over hF hG 3 rfl 0 [_, _] hu0
      clear hB hG hu0
      simp only [List.modify_succ_cons, List.modify_zero_cons, wrAll, List.setIfInBounds_toArray, List.set_cons_zero, List.set_cons_succ, Nat.zero_add, Nat.reduceAdd] at hBG
      obtain ⟨hB, hG⟩ := hBG
      clear u
      generalize hu1 : World.setCell (World.setCell u0 _ _) _ _ = u1
      have hBG := hB.over hF hG 2 rfl 0 [_, _] hu1
      clear hB hG hu1
      simp only [List.modify_succ_cons, List.modify_zero_cons, wrAll, List.setIfInBounds_toArray, List.set_cons_zero, List.set_cons_succ, Nat.zero_add, Nat.reduceAdd] at hBG
      obtain ⟨hB, hG⟩ := hBG
      clear u0
      obtain ⟨u, rfl⟩ : ∃ x, x = u1 := ⟨_, rfl⟩
      replace hB := hB.grow (Grow.drew u)
      replace hG := hG.trans (Grow.drew u)
      obtain ⟨u, rfl⟩ : ∃ x, x = u.drew := ⟨_, rfl⟩
      refine NoP.norm ?_
      refine then_norm ?_
      refine wp_seq ?_
      refine wp_seq ?_
      refine wp_rs (w := w) allocs 3 [0, 1, 0] (by kernel_rfl) (by simp only [List.drop_succ_cons, List.drop_nil]; exact rfl) (fun _ => True) noG hB hG trivial ?_
      intro K L hN hL
      simp only [List.zip_cons_cons, List.zip_nil_left]
      apply gy
      · exact rfl
      · (rintro v ⟨hgu, hB, hG, -⟩ N hN; have r := hB.r; simp only [BxR] at r; go_simp; exact hN)
      refine okf (by simp only [Act.put, List.setIfInBounds_toArray, List.set_cons_succ, List.set_cons_zero]; exact rfl) ?_
      apply gm
      · exact rfl
      · (rintro v ⟨hgu, hB, hG, -⟩ N hN; go_simp; ((with_reducible refine (nat_Bits _ (by first | assumption | omega) _).mono ?_); rintro e w1 ⟨rfl, hb⟩; exact ⟨_, rfl, hN _ hb⟩))
      refine okf (by simp only [Act.put, List.setIfInBounds_toArray, List.set_cons_succ, List.set_cons_zero]; exact rfl) ?_
      apply gy
      · exact rfl
      · (rintro v - N hN; go_simp; exact hN)
      refine okf (by simp only [Act.put, List.setIfInBounds_toArray, List.set_cons_succ, List.set_cons_zero]; exact rfl) ?_
      refine gend ?_
      rintro v ⟨hgu, hB1, hG1, -⟩
      clear hB hG
      have hB := hB1
      have hG := hG1
      clear hB1 hG1
      refine hL _ _ ?_
      clear hL L hgu
      obtain ⟨u, rfl⟩ : ∃ x, x = v := ⟨_, rfl⟩
      refine wpList_nil ?_
      refine NoK.norm (hN _ _ ?_)
      clear hN K
      refine then_norm ?_
      refine wp_cond_split rfl ?_ ?_
      · intro ht
        have ht39 := ht
        have hY : q % p = 0 := bl_eq_zero.1 (by simpa using ht)
        refine wp_seq ?_
        refine wp_r0 ?_
        intro K hN
        have r := hB.r
        simp only [BxR] at r
        go_wp2_with fail
        clear r
        generalize hu0 : World.setCell (World.setCell u _ _) _ _ = u0
        have hBG := hB.over hF hG 6 rfl 0 [_, _] hu0
        clear hB hG hu0
        simp only [List.modify_succ_cons, List.modify_zero_cons, wrAll, List.setIfInBounds_toArray, List.set_cons_zero, List.set_cons_succ, Nat.zero_add, Nat.reduceAdd] at hBG
        obtain ⟨hB, hG⟩ := hBG
        clear u
        obtain ⟨u, rfl⟩ : ∃ x, x = u0 := ⟨_, rfl⟩
        refine NoK.norm (hN _ _ ?_)
        clear hN K
        refine then_norm ?_
        refine wp_ret ?_
        refine then_ret ?_
        refine ret_b rfl ?_
        intro N hN
        have r := hB.r
        simp only [BxR] at r
        simp only [results, Tryz.results67]
        go_simp
        refine hN _ ?_
        clear hN N r
        have hgx := gcd_step q p g Hg.out
        rw [hY, Nat.gcd_zero_right] at hgx
        exact ⟨by rw [hgx], hG⟩
      · intro ht
        have ht39 := ht
        refine wp_skip ?_
        refine then_norm ?_
        refine wp_seq ?_
        refine wp_seq ?_
        refine wp_rs (w := w) allocs 7 [0, 1, 0, 0, 0, 0, 0] (by kernel_rfl) (by simp only [List.drop_succ_cons, List.drop_nil]; exact rfl) (fun _ => True) noG hB hG trivial ?_
        intro K L hN hL
        simp only [List.zip_cons_cons, List.zip_nil_left]
        apply gy
        · exact rfl
        · (rintro v ⟨hgu, hB, hG, -⟩ N hN; have r := hB.r; simp only [BxR] at r; go_simp; exact hN)
        refine okf (by simp only [Act.put, List.setIfInBounds_toArray, List.set_cons_succ, List.set_cons_zero]; exact rfl) ?_
        apply gm
        · exact rfl
        · (rintro v ⟨hgu, hB, hG, -⟩ N hN; go_simp; ((with_reducible refine (nat_Small_yes _ (by assumption) _).mono ?_); rintro e w1 ⟨rfl, hb⟩; exact ⟨_, rfl, hN _ hb⟩))
        refine okf (by simp only [Act.put, List.setIfInBounds_toArray, List.set_cons_succ, List.set_cons_zero]; exact rfl) ?_
        apply gy
        · exact rfl
        · (rintro v - N hN; go_simp; exact hN)
        refine okf (by simp only [Act.put, List.setIfInBounds_toArray, List.set_cons_succ, List.set_cons_zero]; exact rfl) ?_
        apply gy
        · exact rfl
        · (rintro v - N hN; go_simp; exact hN)
        refine okf (by simp only [Act.put, List.setIfInBounds_toArray, List.set_cons_succ, List.set_cons_zero]; exact rfl) ?_
        apply gy
        · exact rfl
        · (rintro v - N hN; go_simp; exact hN)
        refine okf (by simp only [Act.put, List.setIfInBounds_toArray, List.set_cons_succ, List.set_cons_zero]; exact rfl) ?_
        apply gy
        · exact rfl
        · (rintro v - N hN; go_simp; exact hN)
        refine okf (by simp only [Act.put, List.setIfInBounds_toArray, List.set_cons_succ, List.set_cons_zero]; exact rfl) ?_
        apply gy
        · exact rfl
        · (rintro v - N hN; go_simp; exact hN)
        refine okf (by simp only [Act.put, List.setIfInBounds_toArray, List.set_cons_succ, List.set_cons_zero]; exact rfl) ?_
        refine gend ?_
        rintro v ⟨hgu, hB1, hG1, -⟩
        clear hB hG
        have hB := hB1
        have hG := hG1
        clear hB1 hG1
        refine hL _ _ ?_
        clear hL L hgu
        obtain ⟨u, rfl⟩ : ∃ x, x = v := ⟨_, rfl⟩
        refine wpList_nil ?_
        refine NoK.norm (hN _ _ ?_)
        clear hN K
        refine then_norm ?_
        refine wp_seq ?_
        refine wp_r0 ?_
        intro K hN
        go_wp2_with fail
        refine NoK.norm (hN _ _ ?_)
        clear hN K
        refine then_norm ?_
        refine wp_cond_true (rfl) ?_
        refine wp_seq ?_
        refine wp_rs (w := w) allocs 7 [0, 1, 0, 0, 0, 0, 0] (by kernel_rfl) (by simp only [List.drop_succ_cons, List.drop_nil]; exact rfl) (fun _ => True) noG hB hG trivial ?_
        intro K L hN hL
        simp only [List.zip_cons_cons, List.zip_nil_left]
        apply gy
        · exact rfl
        · (rintro v ⟨hgu, hB, hG, -⟩ N hN; have r := hB.r; simp only [BxR] at r; go_simp; exact hN)
        refine okf (by simp only [Act.put, List.setIfInBounds_toArray, List.set_cons_succ, List.set_cons_zero]; exact rfl) ?_
        apply gm
        · exact rfl
        · (rintro v ⟨hgu, hB, hG, -⟩ N hN; go_simp; ((with_reducible refine (nat_Small_yes _ (by assumption) _).mono ?_); rintro e w1 ⟨rfl, hb⟩; exact ⟨_, rfl, hN _ hb⟩))
        refine okf (by simp only [Act.put, List.setIfInBounds_toArray, List.set_cons_succ, List.set_cons_zero]; exact rfl) ?_
        apply gy
        · exact rfl
        · (rintro v - N hN; go_simp; exact hN)
        refine okf (by simp only [Act.put, List.setIfInBounds_toArray, List.set_cons_succ, List.set_cons_zero]; exact rfl) ?_
        apply gy
        · exact rfl
        · (rintro v - N hN; go_simp; exact hN)
        refine okf (by simp only [Act.put, List.setIfInBounds_toArray, List.set_cons_succ, List.set_cons_zero]; exact rfl) ?_
        apply gy
        · exact rfl
        · (rintro v - N hN; go_simp; exact hN)
        refine okf (by simp only [Act.put, List.setIfInBounds_toArray, List.set_cons_succ, List.set_cons_zero]; exact rfl) ?_
        apply gy
        · exact rfl
        · (rintro v - N hN; go_simp; exact hN)
        refine okf (by simp only [Act.put, List.setIfInBounds_toArray, List.set_cons_succ, List.set_cons_zero]; exact rfl) ?_
        apply gy
        · exact rfl
        · (rintro v - N hN; go_simp; exact hN)
        refine okf (by simp only [Act.put, List.setIfInBounds_toArray, List.set_cons_succ, List.set_cons_zero]; exact rfl) ?_
        refine gend ?_
        rintro v ⟨hgu, hB1, hG1, -⟩
        clear hB hG
        have hB := hB1
        have hG := hG1
        clear hB1 hG1
        refine hL _ _ ?_
        clear hL L hgu
        obtain ⟨u, rfl⟩ : ∃ x, x = v := ⟨_, rfl⟩
        refine wpList_nil ?_
        refine NoK.norm (hN _ _ ?_)
        clear hN K
        refine then_norm ?_
        refine wp_seq ?_
        refine wp_block ?_
        have hF4 : Fr w [b4] := ⟨fun b hb => hF.1 b (by simp at hb; subst hb; simp), by simp⟩
        have hB4 : Bx u [(b4, 28, #[.int .u64 0, .string ⟨#[]⟩])] := Bx.cons (hB (b4, 28, #[.int .u64 0, .string ⟨#[]⟩]) (by simp)) (Bx.nil _)
        clear hB hF
        go_loopw [10, 12] (fun m n wr => ∃ x y : Nat, x < W64 ∧ y < W64 ∧ Nat.gcd x y = g ∧ m = .int .u64 x ∧ n = .int .u64 y ∧ Bx wr [(b4, 28, #[.int .u64 0, .string ⟨#[]⟩])] ∧ Grow w wr) (fun _ n _ => (intOf n).toNat)
        case atStart => exact ⟨p, q % p, hp, hm, gcd_step q p g Hg.out, rfl, rfl, hB4, hG⟩
        case round =>
          obtain ⟨x, y, hx, hy, hgc, rfl, rfl, hB, hG⟩ := hrel
          have Hgc := Lib.hid hgc
          clear hgc
          obtain ⟨u, rfl⟩ : ∃ x, x = wr := ⟨_, rfl⟩
          have hF := hF4
          refine wp_seq ?_
          refine wp_seq ?_
          skip
          refine wp_r0 ?_
          intro K hN
          go_wp2_with fail
          refine NoK.norm (hN _ _ ?_)
          clear hN K
          refine then_norm ?_
          refine wp_cond_split rfl ?_ ?_
          · intro ht
            have ht53 := ht
            have hy0 : ¬ (y : Int) = 0 := by simp at ht; omega
            have hyp : 0 < y := by omega
            have hyn : ¬ y = 0 := by omega
            have hw4 : (x : Int).tmod (y : Int) = ((x % y : Nat) : Int) := rfl
            refine wp_skip ?_
            refine then_norm ?_
            refine wp_block ?_
            refine wp_rd (w := w) allocs 5 [] [(0, 0), (0, 1), (0, 2), (0, 3), (0, 4)] (by kernel_rfl) (by kernel_rfl) (by simp only [List.drop_succ_cons, List.drop_zero]; exact rfl) (fun _ => True) noG hB hG trivial ?_
            intro K L hN hL
            simp only [pickOps, List.getElem?_toArray, List.getElem?_cons_zero, List.getElem?_cons_succ]
            apply gy
            · exact rfl
            · (rintro v - N hN; go_simp; exact hN)
            refine okf (by simp only [Act.put, List.setIfInBounds_toArray, List.set_cons_succ, List.set_cons_zero]; exact rfl) ?_
            apply gy
            · exact rfl
            · (rintro v - N hN; go_simp; exact hN)
            refine okf (by simp only [Act.put, List.setIfInBounds_toArray, List.set_cons_succ, List.set_cons_zero]; exact rfl) ?_
            apply gy
            · exact rfl
            · (rintro v - N hN; go_simp; exact hN)
            refine okf (by simp only [Act.put, List.setIfInBounds_toArray, List.set_cons_succ, List.set_cons_zero]; exact rfl) ?_
            apply gy
            · exact rfl
            · (rintro v - N hN; go_simp; exact hN)
            refine okf (by simp only [Act.put, List.setIfInBounds_toArray, List.set_cons_succ, List.set_cons_zero]; exact rfl) ?_
            apply gy
            · exact rfl
            · (rintro v - N hN; go_simp; exact hN)
            refine okf (by simp only [Act.put, List.setIfInBounds_toArray, List.set_cons_succ, List.set_cons_zero]; exact rfl) ?_
            refine gend ?_
            rintro v ⟨hgu, hB1, hG1, -⟩
            clear hB hG
            have hB := hB1
            have hG := hG1
            clear hB1 hG1
            refine hL _ _ ?_
            clear hL L hgu
            obtain ⟨u, rfl⟩ : ∃ x, x = v := ⟨_, rfl⟩
            go_wp2_with fail
            refine NoK.norm (hN _ _ ?_)
            clear hN K
            refine blk_norm ?_
            refine then_norm ?_
            go_roundw
            case rel => exact ⟨y, x % y, hy, Nat.lt_trans (Nat.mod_lt _ hyp) hy, gcd_step x y g Hgc.out, rfl, rfl, hB, hG⟩
            case measure => simp [intOf]; exact Nat.mod_lt _ hyp
          · intro ht
            have ht53 := ht
            have hy0 : y = 0 := by simp at ht; omega
            refine wp_exit ?_
            refine then_exit ?_
            refine then_exit ?_
            refine blk_exit ?_
            refine then_norm ?_
            refine wp_seq ?_
            refine wp_rs (w := w) allocs 2 [0, 1] (by kernel_rfl) (by simp only [List.drop_succ_cons, List.drop_zero]; exact rfl) (fun _ => True) noG hB hG trivial ?_
            intro K L hN hL
            simp only [List.zip_cons_cons, List.zip_nil_left]
            apply gy
            · exact rfl
            · (rintro v - N hN; go_simp; exact hN)
            refine okf (by simp only [Act.put, List.setIfInBounds_toArray, List.set_cons_succ, List.set_cons_zero]; exact rfl) ?_
            apply gm
            · exact rfl
            · (rintro v ⟨hgu, hB, hG, -⟩ N hN; go_simp; ((with_reducible refine (nat_Of x hx _).mono ?_); rintro e w1 ⟨rfl, hb⟩; exact ⟨_, rfl, hN _ hb⟩))
            refine okf (by simp only [Act.put, List.setIfInBounds_toArray, List.set_cons_succ, List.set_cons_zero]; exact rfl) ?_
            refine gend ?_
            rintro v ⟨hgu, hB1, hG1, -⟩
            clear hB hG
            have hB := hB1
            have hG := hG1
            clear hB1 hG1
            refine hL _ _ ?_
            clear hL L hgu
            obtain ⟨u, rfl⟩ : ∃ x, x = v := ⟨_, rfl⟩
            have r := hB.r
            simp only [BxR] at r
            go_wp2_with fail
            clear r
            generalize hu0 : World.setCell (World.setCell u _ _) _ _ = u0
            have hBG := hB.over hF hG 0 rfl 0 [_, _] hu0
            clear hB hG hu0
            simp only [List.modify_succ_cons, List.modify_zero_cons, wrAll, List.setIfInBounds_toArray, List.set_cons_zero, List.set_cons_succ, Nat.zero_add, Nat.reduceAdd] at hBG
            obtain ⟨hB, hG⟩ := hBG
            clear u
            obtain ⟨u, rfl⟩ : ∃ x, x = u0 := ⟨_, rfl⟩
            refine NoK.norm (hN _ _ ?_)
            clear hN K
            refine then_norm ?_
            refine wp_ret ?_
            refine then_ret ?_
            refine ret_b rfl ?_
            intro N hN
            have r := hB.r
            simp only [BxR] at r
            simp only [results, Tryz.results67]
            go_simp
            refine hN _ ?_
            clear hN N r
            have hgx := Hgc.out
            rw [hy0, Nat.gcd_zero_right] at hgx
            exact ⟨by rw [hgx], hG⟩

set_option maxHeartbeats 4000000 in
set_option maxRecDepth 100000 in
theorem whole_Gcd_le_b (na nb : Bool) (p q : Nat) (hp : bl p ≤ BIG) (hq : bl q ≤ BIG) (hs : ¬ q < W64) (hpq : q ≤ p) (w : World) (hT : Tab w) : Calls Tryz.prog 67 #[.agg #[.bool na, .int .u64 (natLo p), .string (natMo p)], .agg #[.bool nb, .int .u64 (natLo q), .string (natMo q)]] w fun e w' => e = .returned (natV (Nat.gcd p q)) ∧ Grow w w' := by
  have hb1 := fits_most hp
  have hb2 := fits_most hq
  have hb3 : bl (p % q) ≤ 1099511627776 := Nat.le_trans (bl_mod_le _ _) hb1
  have hc : decide (cmpN p q < 0) = false := by unfold cmpN; rw [if_neg (by omega)]; split <;> rfl
  obtain ⟨g, hg⟩ : ∃ g, g = Nat.gcd p q := ⟨_, rfl⟩
  rw [← hg]
  have hgs : Nat.gcd p q = g := by rw [hg]
  have Hg := Lib.hid hgs
  have hY0 : q ≠ 0 := fun h => hs (h ▸ W64_pos)
  have hbin : ∀ W, Grow w W → p % q ≠ 0 → Calls Tryz.prog 126 #[natV q, natV (p % q)] W fun e w' => e = .returned (natV g) ∧ Grow W w' := fun W hg h0 => by
    have := whole_binary q (p % q) hY0 h0 hq (Nat.le_trans (bl_mod_le _ _) hp) W (hT.grow hg)
    rw [gcd_step p q g hgs] at this
    exact this
  have Hbin := Lib.hid hbin
  clear hg hgs hbin
  go_enter Tryz.func67, Tryz.ntmps67
  refine wp_seq (wp_r0 ?_)
  intro K hN
  go_wp2_with fail
  generalize hu : World.alloc (World.alloc (World.alloc w _) _) _ = u
  obtain ⟨hB, hG⟩ := bx_first [(_, _), (_, _), (_, _)] w u hu
  have hF := fr_first w [(30, #[]), (30, #[]), (28, #[])]
  simp only [numbered, List.map_cons, List.map_nil] at hB hF
  clear hu
  generalize w.heap.size + 1 + 1 = b4 at hB hF ⊢
  generalize w.heap.size + 1 = b3 at hB hF ⊢
  generalize w.heap.size = b2 at hB hF ⊢
  refine NoK.norm (hN _ _ ?_)
  clear hN K
  refine then_norm ?_
  refine wp_seq ?_
  refine Code.wp_mono NoP.up ?_
  have r := hB.r
  simp only [BxR] at r
  have hn2 : b2 < u.heap.size := (hB.head).lt
  have hn3 : b3 < u.heap.size := (hB.tail.head).lt
  have hn4 : b4 < u.heap.size := (hB.tail.tail.head).lt
  go_region
  all_goals clear r hn2 hn3 hn4
  have hT := two_newA hB hF hG 28 #[.int .u64 (natLo p), .string (natMo p)] 28 #[.int .u64 (natLo q), .string (natMo q)]
  clear hB hF hG
  obtain ⟨hB, hF, hG⟩ := hT
  generalize World.drew _ = v at hB hG ⊢
  generalize u.heap.size + 1 = b6 at hB hF ⊢
  generalize u.heap.size = b5 at hB hF ⊢
  obtain ⟨u, rfl⟩ : ∃ x, x = v := ⟨_, rfl⟩
  refine NoP.norm ?_
  rotate_left
  have hT := two_newB hB hF hG 28 #[.int .u64 (natLo q), .string (natMo q)] 28 #[.int .u64 (natLo p), .string (natMo p)]
  clear hB hF hG
  obtain ⟨hB, hF, hG⟩ := hT
  generalize World.drew _ = v at hB hG ⊢
  generalize u.heap.size + 1 = b5 at hB hF ⊢
  generalize u.heap.size = b6 at hB hF ⊢
  obtain ⟨u, rfl⟩ : ∃ x, x = v := ⟨_, rfl⟩
  refine NoP.norm ?_
  rotate_left
  skip
  all_goals
    refine then_norm ?_
    refine wp_seq ?_
    refine wp_seq ?_
    refine wp_rs (w := w) allocs 4 [0, 0, 1, 0] (by kernel_rfl) (by simp only [List.drop_succ_cons, List.drop_nil]; exact rfl) (fun _ => True) noG hB hG trivial ?_
    intro K L hN hL
    simp only [List.zip_cons_cons, List.zip_nil_left]
    apply gy
    · exact rfl
    · (rintro v ⟨hgu, hB, hG, -⟩ N hN; have r := hB.r; simp only [BxR] at r; go_simp; exact hN)
    refine okf (by simp only [Act.put, List.setIfInBounds_toArray, List.set_cons_succ, List.set_cons_zero]; exact rfl) ?_
    apply gy
    · exact rfl
    · (rintro v ⟨hgu, hB, hG, -⟩ N hN; have r := hB.r; simp only [BxR] at r; go_simp; exact hN)
    refine okf (by simp only [Act.put, List.setIfInBounds_toArray, List.set_cons_succ, List.set_cons_zero]; exact rfl) ?_
    apply gm
    · exact rfl
    · (rintro v ⟨hgu, hB, hG, -⟩ N hN; go_simp; ((with_reducible refine (nat_Cmp _ _ (by first | assumption | omega) _).mono ?_); rintro e w1 ⟨rfl, hb⟩; exact ⟨_, rfl, hN _ hb⟩))
    refine okf (by simp only [Act.put, List.setIfInBounds_toArray, List.set_cons_succ, List.set_cons_zero]; exact rfl) ?_
    apply gy
    · exact rfl
    · (rintro v - N hN; go_simp; exact hN)
    refine okf (by simp only [Act.put, List.setIfInBounds_toArray, List.set_cons_succ, List.set_cons_zero]; exact rfl) ?_
    refine gend ?_
    rintro v ⟨hgu, hB1, hG1, -⟩
    clear hB hG
    have hB := hB1
    have hG := hG1
    clear hB1 hG1
    refine hL _ _ ?_
    clear hL L hgu
    obtain ⟨u, rfl⟩ : ∃ x, x = v := ⟨_, rfl⟩
    refine wpList_nil ?_
    refine NoK.norm (hN _ _ ?_)
    clear hN K
    refine then_norm ?_
    refine wp_cond_false (rfl) ?_
    refine wp_skip ?_
    refine then_norm ?_
    refine wp_seq ?_
    refine wp_seq ?_
    refine wp_rs (w := w) allocs 3 [0, 1, 0] (by kernel_rfl) (by simp only [List.drop_succ_cons, List.drop_nil]; exact rfl) (fun _ => True) noG hB hG trivial ?_
    intro K L hN hL
    simp only [List.zip_cons_cons, List.zip_nil_left]
    apply gy
    · exact rfl
    · (rintro v ⟨hgu, hB, hG, -⟩ N hN; have r := hB.r; simp only [BxR] at r; go_simp; exact hN)
    refine okf (by simp only [Act.put, List.setIfInBounds_toArray, List.set_cons_succ, List.set_cons_zero]; exact rfl) ?_
    apply gm
    · exact rfl
    · (rintro v ⟨hgu, hB, hG, -⟩ N hN; go_simp; ((with_reducible refine (nat_Bits _ (by first | assumption | omega) _).mono ?_); rintro e w1 ⟨rfl, hb⟩; exact ⟨_, rfl, hN _ hb⟩))
    refine okf (by simp only [Act.put, List.setIfInBounds_toArray, List.set_cons_succ, List.set_cons_zero]; exact rfl) ?_
    apply gy
    · exact rfl
    · (rintro v - N hN; go_simp; exact hN)
    refine okf (by simp only [Act.put, List.setIfInBounds_toArray, List.set_cons_succ, List.set_cons_zero]; exact rfl) ?_
    refine gend ?_
    rintro v ⟨hgu, hB1, hG1, -⟩
    clear hB hG
    have hB := hB1
    have hG := hG1
    clear hB1 hG1
    refine hL _ _ ?_
    clear hL L hgu
    obtain ⟨u, rfl⟩ : ∃ x, x = v := ⟨_, rfl⟩
    refine wpList_nil ?_
    refine NoK.norm (hN _ _ ?_)
    clear hN K
    refine then_norm ?_
    refine wp_cond_split rfl ?_ ?_
    · intro ht
      exact absurd (bl_eq_zero.1 (by simpa using ht)) hY0
    · intro ht
      have ht26 := ht
      refine wp_skip ?_
      refine then_norm ?_
      refine wp_seq ?_
      refine wp_rs (w := w) allocs 9 [0, 0, 1, 0, 0, 0, 0, 2, 2] (by kernel_rfl) (by simp only [List.drop_succ_cons, List.drop_zero]; exact rfl) (fun _ => True) noG hB hG trivial ?_
      intro K L hN hL
      simp only [List.zip_cons_cons, List.zip_nil_left]
      apply gy
      · exact rfl
      · (rintro v ⟨hgu, hB, hG, -⟩ N hN; have r := hB.r; simp only [BxR] at r; go_simp; exact hN)
      refine okf (by simp only [Act.put, List.setIfInBounds_toArray, List.set_cons_succ, List.set_cons_zero]; exact rfl) ?_
      apply gy
      · exact rfl
      · (rintro v ⟨hgu, hB, hG, -⟩ N hN; have r := hB.r; simp only [BxR] at r; go_simp; exact hN)
      refine okf (by simp only [Act.put, List.setIfInBounds_toArray, List.set_cons_succ, List.set_cons_zero]; exact rfl) ?_
      apply gm
      · exact rfl
      · (rintro v ⟨hgu, hB, hG, -⟩ N hN; go_simp; ((with_reducible refine (nat_Div p q hp hq hY0 _).mono ?_); rintro e w1 ⟨rfl, hb⟩; exact ⟨_, rfl, hN _ hb⟩))
      refine okf (by simp only [Act.put, List.setIfInBounds_toArray, List.set_cons_succ, List.set_cons_zero]; exact rfl) ?_
      apply gy
      · exact rfl
      · (rintro v - N hN; go_simp; exact hN)
      refine okf (by simp only [Act.put, List.setIfInBounds_toArray, List.set_cons_succ, List.set_cons_zero]; exact rfl) ?_
      apply gy
      · exact rfl
      · (rintro v - N hN; go_simp; exact hN)
      refine okf (by simp only [Act.put, List.setIfInBounds_toArray, List.set_cons_succ, List.set_cons_zero]; exact rfl) ?_
      apply gy
      · exact rfl
      · (rintro v - N hN; go_simp; exact hN)
      refine okf (by simp only [Act.put, List.setIfInBounds_toArray, List.set_cons_succ, List.set_cons_zero]; exact rfl) ?_
      apply gy
      · exact rfl
      · (rintro v - N hN; go_simp; exact hN)
      refine okf (by simp only [Act.put, List.setIfInBounds_toArray, List.set_cons_succ, List.set_cons_zero]; exact rfl) ?_
      refine ga (newObj_Nat _ _ _ _ _) fun b7 hb7 hn7 => ?_
      refine okf (by simp only [Act.put, List.setIfInBounds_toArray, List.set_cons_succ, List.set_cons_zero]; exact rfl) ?_
      refine ga (newObj_Nat _ _ _ _ _) fun b8 hb8 hn8 => ?_
      refine okf (by simp only [Act.put, List.setIfInBounds_toArray, List.set_cons_succ, List.set_cons_zero]; exact rfl) ?_
      refine gend ?_
      rintro v ⟨⟨⟨hgu, hB1, hG1, -⟩, h7⟩, h8⟩
      have hF := Fr.new (tk := []) hF hB hG hb7 hn7
      have hF := Fr.new (tk := [b7]) hF hB hG hb8 hn8
      simp only [List.cons_append, List.nil_append, List.map_cons, List.map_nil] at hF
      clear hB hG
      have hB := (Bx.cons h8 (Bx.cons h7 hB1))
      have hG := hG1
      clear hB1 hG1 h7 h8
      refine hL _ _ ?_
      clear hL L hgu
      obtain ⟨u, rfl⟩ : ∃ x, x = v := ⟨_, rfl⟩
      have hD : b7 ≠ b8 ∧ b8 ≠ b7 := ⟨hF.ne 1 0 rfl rfl (by decide), hF.ne 0 1 rfl rfl (by decide)⟩
      have r := hB.r
      simp only [BxR] at r
      go_wp2_with fail
      clear r
      clear hD
      generalize hu0 : World.setCell (World.setCell u _ _) _ _ = u0
      have hBG := hB.over hF hG 1 rfl 0 [_, _] hu0
      clear hB hG hu0
      simp only [List.modify_succ_cons, List.modify_zero_cons, wrAll, List.setIfInBounds_toArray, List.set_cons_zero, List.set_cons_succ, Nat.zero_add, Nat.reduceAdd] at hBG
      obtain ⟨hB, hG⟩ := hBG
      clear u
      generalize hu1 : World.setCell (World.setCell u0 _ _) _ _ = u1
      have hBG := hB.over hF hG 0 rfl 0 [_, _] hu1
      clear hB hG hu1
      simp only [List.modify_succ_cons, List.modify_zero_cons, wrAll, List.setIfInBounds_toArray, List.set_cons_zero, List.set_cons_succ, Nat.zero_add, Nat.reduceAdd] at hBG
      obtain ⟨hB, hG⟩ := hBG
      clear u0
      obtain ⟨u, rfl⟩ : ∃ x, x = u1 := ⟨_, rfl⟩
      refine NoK.norm (hN _ _ ?_)
      clear hN K
      refine then_norm ?_
      refine wp_seq ?_
      refine Code.wp_mono NoP.up ?_
      have r := hB.r
      simp only [BxR] at r
      have hD : b2 ≠ b5 ∧ b2 ≠ b6 ∧ b3 ≠ b5 ∧ b3 ≠ b6 ∧ b4 ≠ b5 ∧ b4 ≠ b6 ∧ b5 ≠ b2 ∧ b5 ≠ b3 ∧ b5 ≠ b4 ∧ b5 ≠ b6 ∧ b5 ≠ b7 ∧ b5 ≠ b8 ∧ b6 ≠ b2 ∧ b6 ≠ b3 ∧ b6 ≠ b4 ∧ b6 ≠ b5 ∧ b6 ≠ b7 ∧ b6 ≠ b8 ∧ b7 ≠ b5 ∧ b7 ≠ b6 ∧ b8 ≠ b5 ∧ b8 ≠ b6 := ⟨hF.ne 4 3 rfl rfl (by decide), hF.ne 4 2 rfl rfl (by decide), hF.ne 5 3 rfl rfl (by decide), hF.ne 5 2 rfl rfl (by decide), hF.ne 6 3 rfl rfl (by decide), hF.ne 6 2 rfl rfl (by decide), hF.ne 3 4 rfl rfl (by decide), hF.ne 3 5 rfl rfl (by decide), hF.ne 3 6 rfl rfl (by decide), hF.ne 3 2 rfl rfl (by decide), hF.ne 3 1 rfl rfl (by decide), hF.ne 3 0 rfl rfl (by decide), hF.ne 2 4 rfl rfl (by decide), hF.ne 2 5 rfl rfl (by decide), hF.ne 2 6 rfl rfl (by decide), hF.ne 2 3 rfl rfl (by decide), hF.ne 2 1 rfl rfl (by decide), hF.ne 2 0 rfl rfl (by decide), hF.ne 1 3 rfl rfl (by decide), hF.ne 1 2 rfl rfl (by decide), hF.ne 0 3 rfl rfl (by decide), hF.ne 0 2 rfl rfl (by decide)⟩
      go_region
      clear r hD
      generalize hu0 : World.setCell (World.setCell u _ _) _ _ = u0
      have hBG := hB.over hF hG 3 rfl 0 [_, _] hu0
      clear hB hG hu0
      simp only [List.modify_succ_cons, List.modify_zero_cons, wrAll, List.setIfInBounds_toArray, List.set_cons_zero, List.set_cons_succ, Nat.zero_add, Nat.reduceAdd] at hBG
      obtain ⟨hB, hG⟩ := hBG
      clear u
      generalize hu1 : World.setCell (World.setCell u0 _ _) _ _ = u1
      have hBG := hB.over hF hG 2 rfl 0 [_, _] hu1
      clear hB hG hu1
      simp only [List.modify_succ_cons, List.modify_zero_cons, wrAll, List.setIfInBounds_toArray, List.set_cons_zero, List.set_cons_succ, Nat.zero_add, Nat.reduceAdd] at hBG
      obtain ⟨hB, hG⟩ := hBG
      clear u0
      obtain ⟨u, rfl⟩ : ∃ x, x = u1 := ⟨_, rfl⟩
      replace hB := hB.grow (Grow.drew u)
      replace hG := hG.trans (Grow.drew u)
      obtain ⟨u, rfl⟩ : ∃ x, x = u.drew := ⟨_, rfl⟩
      refine NoP.norm ?_
      refine then_norm ?_
      refine wp_seq ?_
      refine wp_seq ?_
      refine wp_rs (w := w) allocs 3 [0, 1, 0] (by kernel_rfl) (by simp only [List.drop_succ_cons, List.drop_nil]; exact rfl) (fun _ => True) noG hB hG trivial ?_
      intro K L hN hL
      simp only [List.zip_cons_cons, List.zip_nil_left]
      apply gy
      · exact rfl
      · (rintro v ⟨hgu, hB, hG, -⟩ N hN; have r := hB.r; simp only [BxR] at r; go_simp; exact hN)
      refine okf (by simp only [Act.put, List.setIfInBounds_toArray, List.set_cons_succ, List.set_cons_zero]; exact rfl) ?_
      apply gm
      · exact rfl
      · (rintro v ⟨hgu, hB, hG, -⟩ N hN; go_simp; ((with_reducible refine (nat_Bits _ (by first | assumption | omega) _).mono ?_); rintro e w1 ⟨rfl, hb⟩; exact ⟨_, rfl, hN _ hb⟩))
      refine okf (by simp only [Act.put, List.setIfInBounds_toArray, List.set_cons_succ, List.set_cons_zero]; exact rfl) ?_
      apply gy
      · exact rfl
      · (rintro v - N hN; go_simp; exact hN)
      refine okf (by simp only [Act.put, List.setIfInBounds_toArray, List.set_cons_succ, List.set_cons_zero]; exact rfl) ?_
      refine gend ?_
      rintro v ⟨hgu, hB1, hG1, -⟩
      clear hB hG
      have hB := hB1
      have hG := hG1
      clear hB1 hG1
      refine hL _ _ ?_
      clear hL L hgu
      obtain ⟨u, rfl⟩ : ∃ x, x = v := ⟨_, rfl⟩
      refine wpList_nil ?_
      refine NoK.norm (hN _ _ ?_)
      clear hN K
      refine then_norm ?_
      refine wp_cond_split rfl ?_ ?_
      · intro ht
        have ht39 := ht
        have hY : p % q = 0 := bl_eq_zero.1 (by simpa using ht)
        refine wp_seq ?_
        refine wp_r0 ?_
        intro K hN
        have r := hB.r
        simp only [BxR] at r
        go_wp2_with fail
        clear r
        generalize hu0 : World.setCell (World.setCell u _ _) _ _ = u0
        have hBG := hB.over hF hG 6 rfl 0 [_, _] hu0
        clear hB hG hu0
        simp only [List.modify_succ_cons, List.modify_zero_cons, wrAll, List.setIfInBounds_toArray, List.set_cons_zero, List.set_cons_succ, Nat.zero_add, Nat.reduceAdd] at hBG
        obtain ⟨hB, hG⟩ := hBG
        clear u
        obtain ⟨u, rfl⟩ : ∃ x, x = u0 := ⟨_, rfl⟩
        refine NoK.norm (hN _ _ ?_)
        clear hN K
        refine then_norm ?_
        refine wp_ret ?_
        refine then_ret ?_
        refine ret_b rfl ?_
        intro N hN
        have r := hB.r
        simp only [BxR] at r
        simp only [results, Tryz.results67]
        go_simp
        refine hN _ ?_
        clear hN N r
        have hgx := gcd_step p q g Hg.out
        rw [hY, Nat.gcd_zero_right] at hgx
        exact ⟨by rw [hgx], hG⟩
      · intro ht
        have ht39 := ht
        have hYr : p % q ≠ 0 := fun h => (by rw [h] at ht; simp [bl_zero] at ht)
        refine wp_skip ?_
        refine then_norm ?_
        refine wp_seq ?_
        refine wp_seq ?_
        refine wp_rs (w := w) allocs 7 [0, 1, 0, 0, 0, 0, 0] (by kernel_rfl) (by simp only [List.drop_succ_cons, List.drop_nil]; exact rfl) (fun _ => True) noG hB hG trivial ?_
        intro K L hN hL
        simp only [List.zip_cons_cons, List.zip_nil_left]
        apply gy
        · exact rfl
        · (rintro v ⟨hgu, hB, hG, -⟩ N hN; have r := hB.r; simp only [BxR] at r; go_simp; exact hN)
        refine okf (by simp only [Act.put, List.setIfInBounds_toArray, List.set_cons_succ, List.set_cons_zero]; exact rfl) ?_
        apply gm
        · exact rfl
        · (rintro v ⟨hgu, hB, hG, -⟩ N hN; go_simp; ((with_reducible refine (nat_Small_no _ hs _).mono ?_); rintro e w1 ⟨rfl, hb⟩; exact ⟨_, rfl, hN _ hb⟩))
        refine okf (by simp only [Act.put, List.setIfInBounds_toArray, List.set_cons_succ, List.set_cons_zero]; exact rfl) ?_
        apply gy
        · exact rfl
        · (rintro v - N hN; go_simp; exact hN)
        refine okf (by simp only [Act.put, List.setIfInBounds_toArray, List.set_cons_succ, List.set_cons_zero]; exact rfl) ?_
        apply gy
        · exact rfl
        · (rintro v - N hN; go_simp; exact hN)
        refine okf (by simp only [Act.put, List.setIfInBounds_toArray, List.set_cons_succ, List.set_cons_zero]; exact rfl) ?_
        apply gy
        · exact rfl
        · (rintro v - N hN; go_simp; exact hN)
        refine okf (by simp only [Act.put, List.setIfInBounds_toArray, List.set_cons_succ, List.set_cons_zero]; exact rfl) ?_
        apply gy
        · exact rfl
        · (rintro v - N hN; go_simp; exact hN)
        refine okf (by simp only [Act.put, List.setIfInBounds_toArray, List.set_cons_succ, List.set_cons_zero]; exact rfl) ?_
        apply gy
        · exact rfl
        · (rintro v - N hN; go_simp; exact hN)
        refine okf (by simp only [Act.put, List.setIfInBounds_toArray, List.set_cons_succ, List.set_cons_zero]; exact rfl) ?_
        refine gend ?_
        rintro v ⟨hgu, hB1, hG1, -⟩
        clear hB hG
        have hB := hB1
        have hG := hG1
        clear hB1 hG1
        refine hL _ _ ?_
        clear hL L hgu
        obtain ⟨u, rfl⟩ : ∃ x, x = v := ⟨_, rfl⟩
        refine wpList_nil ?_
        refine NoK.norm (hN _ _ ?_)
        clear hN K
        refine then_norm ?_
        refine wp_seq ?_
        refine wp_r0 ?_
        intro K hN
        go_wp2_with fail
        refine NoK.norm (hN _ _ ?_)
        clear hN K
        refine then_norm ?_
        refine wp_cond_false (rfl) ?_
        refine wp_skip ?_
        refine then_norm ?_
        refine wp_seq ?_
        refine wp_rs (w := w) allocs 3 [0, 0, 1] (by kernel_rfl) (by simp only [List.drop_succ_cons, List.drop_zero]; exact rfl) (fun _ => True) noG hB hG trivial ?_
        intro K L hN hL
        simp only [List.zip_cons_cons, List.zip_nil_left]
        apply gy
        · exact rfl
        · (rintro v ⟨hgu, hB, hG, -⟩ N hN; have r := hB.r; simp only [BxR] at r; go_simp; exact hN)
        refine okf (by simp only [Act.put, List.setIfInBounds_toArray, List.set_cons_succ, List.set_cons_zero]; exact rfl) ?_
        apply gy
        · exact rfl
        · (rintro v ⟨hgu, hB, hG, -⟩ N hN; have r := hB.r; simp only [BxR] at r; go_simp; exact hN)
        refine okf (by simp only [Act.put, List.setIfInBounds_toArray, List.set_cons_succ, List.set_cons_zero]; exact rfl) ?_
        apply gm
        · exact rfl
        · (rintro v ⟨hgu, hB, hG, -⟩ N hN; go_simp; ((with_reducible refine (Hbin.out _ hG hYr).mono ?_); rintro e w1 ⟨rfl, hb⟩; exact ⟨_, rfl, hN _ hb⟩))
        refine okf (by simp only [Act.put, List.setIfInBounds_toArray, List.set_cons_succ, List.set_cons_zero]; exact rfl) ?_
        refine gend ?_
        rintro v ⟨hgu, hB1, hG1, -⟩
        clear hB hG
        have hB := hB1
        have hG := hG1
        clear hB1 hG1
        refine hL _ _ ?_
        clear hL L hgu
        obtain ⟨u, rfl⟩ : ∃ x, x = v := ⟨_, rfl⟩
        have r := hB.r
        simp only [BxR] at r
        go_wp2_with fail
        clear r
        generalize hu0 : World.setCell (World.setCell u _ _) _ _ = u0
        have hBG := hB.over hF hG 6 rfl 0 [_, _] hu0
        clear hB hG hu0
        simp only [List.modify_succ_cons, List.modify_zero_cons, wrAll, List.setIfInBounds_toArray, List.set_cons_zero, List.set_cons_succ, Nat.zero_add, Nat.reduceAdd] at hBG
        obtain ⟨hB, hG⟩ := hBG
        clear u
        obtain ⟨u, rfl⟩ : ∃ x, x = u0 := ⟨_, rfl⟩
        refine NoK.norm (hN _ _ ?_)
        clear hN K
        refine then_norm ?_
        refine wp_ret ?_
        refine ret_b rfl ?_
        intro N hN
        have r := hB.r
        simp only [BxR] at r
        simp only [results, Tryz.results67]
        go_simp
        refine hN _ ?_
        clear hN N r
        exact ⟨rfl, hG⟩

set_option maxHeartbeats 4000000 in
set_option maxRecDepth 100000 in
theorem whole_Gcd_gt_b (na nb : Bool) (p q : Nat) (hp : bl p ≤ BIG) (hq : bl q ≤ BIG) (hs : ¬ p < W64) (hpq : p < q) (w : World) (hT : Tab w) : Calls Tryz.prog 67 #[.agg #[.bool na, .int .u64 (natLo p), .string (natMo p)], .agg #[.bool nb, .int .u64 (natLo q), .string (natMo q)]] w fun e w' => e = .returned (natV (Nat.gcd p q)) ∧ Grow w w' := by
  have hb1 := fits_most hp
  have hb2 := fits_most hq
  have hb3 : bl (q % p) ≤ 1099511627776 := Nat.le_trans (bl_mod_le _ _) hb2
  have hc : decide (cmpN p q < 0) = true := by rw [cmpN_lt hpq]; rfl
  obtain ⟨g, hg⟩ : ∃ g, g = Nat.gcd p q := ⟨_, rfl⟩
  rw [← hg]
  have hgs : Nat.gcd q p = g := by rw [hg, Nat.gcd_comm]
  have Hg := Lib.hid hgs
  have hY0 : p ≠ 0 := fun h => hs (h ▸ W64_pos)
  have hbin : ∀ W, Grow w W → q % p ≠ 0 → Calls Tryz.prog 126 #[natV p, natV (q % p)] W fun e w' => e = .returned (natV g) ∧ Grow W w' := fun W hg h0 => by
    have := whole_binary p (q % p) hY0 h0 hp (Nat.le_trans (bl_mod_le _ _) hq) W (hT.grow hg)
    rw [gcd_step q p g hgs] at this
    exact this
  have Hbin := Lib.hid hbin
  clear hg hgs hbin
  go_enter Tryz.func67, Tryz.ntmps67
  refine wp_seq (wp_r0 ?_)
  intro K hN
  go_wp2_with fail
  generalize hu : World.alloc (World.alloc (World.alloc w _) _) _ = u
  obtain ⟨hB, hG⟩ := bx_first [(_, _), (_, _), (_, _)] w u hu
  have hF := fr_first w [(30, #[]), (30, #[]), (28, #[])]
  simp only [numbered, List.map_cons, List.map_nil] at hB hF
  clear hu
  generalize w.heap.size + 1 + 1 = b4 at hB hF ⊢
  generalize w.heap.size + 1 = b3 at hB hF ⊢
  generalize w.heap.size = b2 at hB hF ⊢
  refine NoK.norm (hN _ _ ?_)
  clear hN K
  refine then_norm ?_
  refine wp_seq ?_
  refine Code.wp_mono NoP.up ?_
  have r := hB.r
  simp only [BxR] at r
  have hn2 : b2 < u.heap.size := (hB.head).lt
  have hn3 : b3 < u.heap.size := (hB.tail.head).lt
  have hn4 : b4 < u.heap.size := (hB.tail.tail.head).lt
  go_region
  all_goals clear r hn2 hn3 hn4
  have hT := two_newA hB hF hG 28 #[.int .u64 (natLo p), .string (natMo p)] 28 #[.int .u64 (natLo q), .string (natMo q)]
  clear hB hF hG
  obtain ⟨hB, hF, hG⟩ := hT
  generalize World.drew _ = v at hB hG ⊢
  generalize u.heap.size + 1 = b6 at hB hF ⊢
  generalize u.heap.size = b5 at hB hF ⊢
  obtain ⟨u, rfl⟩ : ∃ x, x = v := ⟨_, rfl⟩
  refine NoP.norm ?_
  rotate_left
  have hT := two_newB hB hF hG 28 #[.int .u64 (natLo q), .string (natMo q)] 28 #[.int .u64 (natLo p), .string (natMo p)]
  clear hB hF hG
  obtain ⟨hB, hF, hG⟩ := hT
  generalize World.drew _ = v at hB hG ⊢
  generalize u.heap.size + 1 = b5 at hB hF ⊢
  generalize u.heap.size = b6 at hB hF ⊢
  obtain ⟨u, rfl⟩ : ∃ x, x = v := ⟨_, rfl⟩
  refine NoP.norm ?_
  rotate_left
  skip
  all_goals
    refine then_norm ?_
    refine wp_seq ?_
    refine wp_seq ?_
    refine wp_rs (w := w) allocs 4 [0, 0, 1, 0] (by kernel_rfl) (by simp only [List.drop_succ_cons, List.drop_nil]; exact rfl) (fun _ => True) noG hB hG trivial ?_
    intro K L hN hL
    simp only [List.zip_cons_cons, List.zip_nil_left]
    apply gy
    · exact rfl
    · (rintro v ⟨hgu, hB, hG, -⟩ N hN; have r := hB.r; simp only [BxR] at r; go_simp; exact hN)
    refine okf (by simp only [Act.put, List.setIfInBounds_toArray, List.set_cons_succ, List.set_cons_zero]; exact rfl) ?_
    apply gy
    · exact rfl
    · (rintro v ⟨hgu, hB, hG, -⟩ N hN; have r := hB.r; simp only [BxR] at r; go_simp; exact hN)
    refine okf (by simp only [Act.put, List.setIfInBounds_toArray, List.set_cons_succ, List.set_cons_zero]; exact rfl) ?_
    apply gm
    · exact rfl
    · (rintro v ⟨hgu, hB, hG, -⟩ N hN; go_simp; ((with_reducible refine (nat_Cmp _ _ (by first | assumption | omega) _).mono ?_); rintro e w1 ⟨rfl, hb⟩; exact ⟨_, rfl, hN _ hb⟩))
    refine okf (by simp only [Act.put, List.setIfInBounds_toArray, List.set_cons_succ, List.set_cons_zero]; exact rfl) ?_
    apply gy
    · exact rfl
    · (rintro v - N hN; go_simp; exact hN)
    refine okf (by simp only [Act.put, List.setIfInBounds_toArray, List.set_cons_succ, List.set_cons_zero]; exact rfl) ?_
    refine gend ?_
    rintro v ⟨hgu, hB1, hG1, -⟩
    clear hB hG
    have hB := hB1
    have hG := hG1
    clear hB1 hG1
    refine hL _ _ ?_
    clear hL L hgu
    obtain ⟨u, rfl⟩ : ∃ x, x = v := ⟨_, rfl⟩
    refine wpList_nil ?_
    refine NoK.norm (hN _ _ ?_)
    clear hN K
    refine then_norm ?_
    refine wp_cond_true (rfl) ?_
    refine wp_r0 ?_
    intro K hN
    have hD : b5 ≠ b6 ∧ b6 ≠ b5 := ⟨hF.ne 1 0 rfl rfl (by decide), hF.ne 0 1 rfl rfl (by decide)⟩
    have r := hB.r
    simp only [BxR] at r
    go_wp2_with fail
    clear r
    clear hD
    generalize hu0 : World.setCell (World.setCell u _ _) _ _ = u0
    have hBG := hB.over hF hG 1 rfl 0 [_, _] hu0
    clear hB hG hu0
    simp only [List.modify_succ_cons, List.modify_zero_cons, wrAll, List.setIfInBounds_toArray, List.set_cons_zero, List.set_cons_succ, Nat.zero_add, Nat.reduceAdd] at hBG
    obtain ⟨hB, hG⟩ := hBG
    clear u
    generalize hu1 : World.setCell (World.setCell u0 _ _) _ _ = u1
    have hBG := hB.over hF hG 0 rfl 0 [_, _] hu1
    clear hB hG hu1
    simp only [List.modify_succ_cons, List.modify_zero_cons, wrAll, List.setIfInBounds_toArray, List.set_cons_zero, List.set_cons_succ, Nat.zero_add, Nat.reduceAdd] at hBG
    obtain ⟨hB, hG⟩ := hBG
    clear u0
    obtain ⟨u, rfl⟩ : ∃ x, x = u1 := ⟨_, rfl⟩
    refine NoK.norm (hN _ _ ?_)
    clear hN K
    refine then_norm ?_
    refine wp_seq ?_
    refine wp_seq ?_
    refine wp_rs (w := w) allocs 3 [0, 1, 0] (by kernel_rfl) (by simp only [List.drop_succ_cons, List.drop_nil]; exact rfl) (fun _ => True) noG hB hG trivial ?_
    intro K L hN hL
    simp only [List.zip_cons_cons, List.zip_nil_left]
    apply gy
    · exact rfl
    · (rintro v ⟨hgu, hB, hG, -⟩ N hN; have r := hB.r; simp only [BxR] at r; go_simp; exact hN)
    refine okf (by simp only [Act.put, List.setIfInBounds_toArray, List.set_cons_succ, List.set_cons_zero]; exact rfl) ?_
    apply gm
    · exact rfl
    · (rintro v ⟨hgu, hB, hG, -⟩ N hN; go_simp; ((with_reducible refine (nat_Bits _ (by first | assumption | omega) _).mono ?_); rintro e w1 ⟨rfl, hb⟩; exact ⟨_, rfl, hN _ hb⟩))
    refine okf (by simp only [Act.put, List.setIfInBounds_toArray, List.set_cons_succ, List.set_cons_zero]; exact rfl) ?_
    apply gy
    · exact rfl
    · (rintro v - N hN; go_simp; exact hN)
    refine okf (by simp only [Act.put, List.setIfInBounds_toArray, List.set_cons_succ, List.set_cons_zero]; exact rfl) ?_
    refine gend ?_
    rintro v ⟨hgu, hB1, hG1, -⟩
    clear hB hG
    have hB := hB1
    have hG := hG1
    clear hB1 hG1
    refine hL _ _ ?_
    clear hL L hgu
    obtain ⟨u, rfl⟩ : ∃ x, x = v := ⟨_, rfl⟩
    refine wpList_nil ?_
    refine NoK.norm (hN _ _ ?_)
    clear hN K
    refine then_norm ?_
    refine wp_cond_split rfl ?_ ?_
    · intro ht
      exact absurd (bl_eq_zero.1 (by simpa using ht)) hY0
    · intro ht
      have ht26 := ht
      refine wp_skip ?_
      refine then_norm ?_
      refine wp_seq ?_
      refine wp_rs (w := w) allocs 9 [0, 0, 1, 0, 0, 0, 0, 2, 2] (by kernel_rfl) (by simp only [List.drop_succ_cons, List.drop_zero]; exact rfl) (fun _ => True) noG hB hG trivial ?_
      intro K L hN hL
      simp only [List.zip_cons_cons, List.zip_nil_left]
      apply gy
      · exact rfl
      · (rintro v ⟨hgu, hB, hG, -⟩ N hN; have r := hB.r; simp only [BxR] at r; go_simp; exact hN)
      refine okf (by simp only [Act.put, List.setIfInBounds_toArray, List.set_cons_succ, List.set_cons_zero]; exact rfl) ?_
      apply gy
      · exact rfl
      · (rintro v ⟨hgu, hB, hG, -⟩ N hN; have r := hB.r; simp only [BxR] at r; go_simp; exact hN)
      refine okf (by simp only [Act.put, List.setIfInBounds_toArray, List.set_cons_succ, List.set_cons_zero]; exact rfl) ?_
      apply gm
      · exact rfl
      · (rintro v ⟨hgu, hB, hG, -⟩ N hN; go_simp; ((with_reducible refine (nat_Div q p hq hp hY0 _).mono ?_); rintro e w1 ⟨rfl, hb⟩; exact ⟨_, rfl, hN _ hb⟩))
      refine okf (by simp only [Act.put, List.setIfInBounds_toArray, List.set_cons_succ, List.set_cons_zero]; exact rfl) ?_
      apply gy
      · exact rfl
      · (rintro v - N hN; go_simp; exact hN)
      refine okf (by simp only [Act.put, List.setIfInBounds_toArray, List.set_cons_succ, List.set_cons_zero]; exact rfl) ?_
      apply gy
      · exact rfl
      · (rintro v - N hN; go_simp; exact hN)
      refine okf (by simp only [Act.put, List.setIfInBounds_toArray, List.set_cons_succ, List.set_cons_zero]; exact rfl) ?_
      apply gy
      · exact rfl
      · (rintro v - N hN; go_simp; exact hN)
      refine okf (by simp only [Act.put, List.setIfInBounds_toArray, List.set_cons_succ, List.set_cons_zero]; exact rfl) ?_
      apply gy
      · exact rfl
      · (rintro v - N hN; go_simp; exact hN)
      refine okf (by simp only [Act.put, List.setIfInBounds_toArray, List.set_cons_succ, List.set_cons_zero]; exact rfl) ?_
      refine ga (newObj_Nat _ _ _ _ _) fun b7 hb7 hn7 => ?_
      refine okf (by simp only [Act.put, List.setIfInBounds_toArray, List.set_cons_succ, List.set_cons_zero]; exact rfl) ?_
      refine ga (newObj_Nat _ _ _ _ _) fun b8 hb8 hn8 => ?_
      refine okf (by simp only [Act.put, List.setIfInBounds_toArray, List.set_cons_succ, List.set_cons_zero]; exact rfl) ?_
      refine gend ?_
      rintro v ⟨⟨⟨hgu, hB1, hG1, -⟩, h7⟩, h8⟩
      have hF := Fr.new (tk := []) hF hB hG hb7 hn7
      have hF := Fr.new (tk := [b7]) hF hB hG hb8 hn8
      simp only [List.cons_append, List.nil_append, List.map_cons, List.map_nil] at hF
      clear hB hG
      have hB := (Bx.cons h8 (Bx.cons h7 hB1))
      have hG := hG1
      clear hB1 hG1 h7 h8
      refine hL _ _ ?_
      clear hL L hgu
      obtain ⟨u, rfl⟩ : ∃ x, x = v := ⟨_, rfl⟩
      have hD : b7 ≠ b8 ∧ b8 ≠ b7 := ⟨hF.ne 1 0 rfl rfl (by decide), hF.ne 0 1 rfl rfl (by decide)⟩
      have r := hB.r
      simp only [BxR] at r
      go_wp2_with fail
      clear r
      clear hD
      generalize hu0 : World.setCell (World.setCell u _ _) _ _ = u0
      have hBG := hB.over hF hG 1 rfl 0 [_, _] hu0
      clear hB hG hu0
      simp only [List.modify_succ_cons, List.modify_zero_cons, wrAll, List.setIfInBounds_toArray, List.set_cons_zero, List.set_cons_succ, Nat.zero_add, Nat.reduceAdd] at hBG
      obtain ⟨hB, hG⟩ := hBG
      clear u
      generalize hu1 : World.setCell (World.setCell u0 _ _) _ _ = u1
      have hBG := hB.over hF hG 0 rfl 0 [_, _] hu1
      clear hB hG hu1
      simp only [List.modify_succ_cons, List.modify_zero_cons, wrAll, List.setIfInBounds_toArray, List.set_cons_zero, List.set_cons_succ, Nat.zero_add, Nat.reduceAdd] at hBG
      obtain ⟨hB, hG⟩ := hBG
      clear u0
      obtain ⟨u, rfl⟩ : ∃ x, x = u1 := ⟨_, rfl⟩
      refine NoK.norm (hN _ _ ?_)
      clear hN K
      refine then_norm ?_
      refine wp_seq ?_
      refine Code.wp_mono NoP.up ?_
      have r := hB.r
      simp only [BxR] at r
      have hD : b2 ≠ b5 ∧ b2 ≠ b6 ∧ b3 ≠ b5 ∧ b3 ≠ b6 ∧ b4 ≠ b5 ∧ b4 ≠ b6 ∧ b5 ≠ b2 ∧ b5 ≠ b3 ∧ b5 ≠ b4 ∧ b5 ≠ b6 ∧ b5 ≠ b7 ∧ b5 ≠ b8 ∧ b6 ≠ b2 ∧ b6 ≠ b3 ∧ b6 ≠ b4 ∧ b6 ≠ b5 ∧ b6 ≠ b7 ∧ b6 ≠ b8 ∧ b7 ≠ b5 ∧ b7 ≠ b6 ∧ b8 ≠ b5 ∧ b8 ≠ b6 := ⟨hF.ne 4 3 rfl rfl (by decide), hF.ne 4 2 rfl rfl (by decide), hF.ne 5 3 rfl rfl (by decide), hF.ne 5 2 rfl rfl (by decide), hF.ne 6 3 rfl rfl (by decide), hF.ne 6 2 rfl rfl (by decide), hF.ne 3 4 rfl rfl (by decide), hF.ne 3 5 rfl rfl (by decide), hF.ne 3 6 rfl rfl (by decide), hF.ne 3 2 rfl rfl (by decide), hF.ne 3 1 rfl rfl (by decide), hF.ne 3 0 rfl rfl (by decide), hF.ne 2 4 rfl rfl (by decide), hF.ne 2 5 rfl rfl (by decide), hF.ne 2 6 rfl rfl (by decide), hF.ne 2 3 rfl rfl (by decide), hF.ne 2 1 rfl rfl (by decide), hF.ne 2 0 rfl rfl (by decide), hF.ne 1 3 rfl rfl (by decide), hF.ne 1 2 rfl rfl (by decide), hF.ne 0 3 rfl rfl (by decide), hF.ne 0 2 rfl rfl (by decide)⟩
      go_region
      clear r hD
      generalize hu0 : World.setCell (World.setCell u _ _) _ _ = u0
      have hBG := hB.over hF hG 3 rfl 0 [_, _] hu0
      clear hB hG hu0
      simp only [List.modify_succ_cons, List.modify_zero_cons, wrAll, List.setIfInBounds_toArray, List.set_cons_zero, List.set_cons_succ, Nat.zero_add, Nat.reduceAdd] at hBG
      obtain ⟨hB, hG⟩ := hBG
      clear u
      generalize hu1 : World.setCell (World.setCell u0 _ _) _ _ = u1
      have hBG := hB.over hF hG 2 rfl 0 [_, _] hu1
      clear hB hG hu1
      simp only [List.modify_succ_cons, List.modify_zero_cons, wrAll, List.setIfInBounds_toArray, List.set_cons_zero, List.set_cons_succ, Nat.zero_add, Nat.reduceAdd] at hBG
      obtain ⟨hB, hG⟩ := hBG
      clear u0
      obtain ⟨u, rfl⟩ : ∃ x, x = u1 := ⟨_, rfl⟩
      replace hB := hB.grow (Grow.drew u)
      replace hG := hG.trans (Grow.drew u)
      obtain ⟨u, rfl⟩ : ∃ x, x = u.drew := ⟨_, rfl⟩
      refine NoP.norm ?_
      refine then_norm ?_
      refine wp_seq ?_
      refine wp_seq ?_
      refine wp_rs (w := w) allocs 3 [0, 1, 0] (by kernel_rfl) (by simp only [List.drop_succ_cons, List.drop_nil]; exact rfl) (fun _ => True) noG hB hG trivial ?_
      intro K L hN hL
      simp only [List.zip_cons_cons, List.zip_nil_left]
      apply gy
      · exact rfl
      · (rintro v ⟨hgu, hB, hG, -⟩ N hN; have r := hB.r; simp only [BxR] at r; go_simp; exact hN)
      refine okf (by simp only [Act.put, List.setIfInBounds_toArray, List.set_cons_succ, List.set_cons_zero]; exact rfl) ?_
      apply gm
      · exact rfl
      · (rintro v ⟨hgu, hB, hG, -⟩ N hN; go_simp; ((with_reducible refine (nat_Bits _ (by first | assumption | omega) _).mono ?_); rintro e w1 ⟨rfl, hb⟩; exact ⟨_, rfl, hN _ hb⟩))
      refine okf (by simp only [Act.put, List.setIfInBounds_toArray, List.set_cons_succ, List.set_cons_zero]; exact rfl) ?_
      apply gy
      · exact rfl
      · (rintro v - N hN; go_simp; exact hN)
      refine okf (by simp only [Act.put, List.setIfInBounds_toArray, List.set_cons_succ, List.set_cons_zero]; exact rfl) ?_
      refine gend ?_
      rintro v ⟨hgu, hB1, hG1, -⟩
      clear hB hG
      have hB := hB1
      have hG := hG1
      clear hB1 hG1
      refine hL _ _ ?_
      clear hL L hgu
      obtain ⟨u, rfl⟩ : ∃ x, x = v := ⟨_, rfl⟩
      refine wpList_nil ?_
      refine NoK.norm (hN _ _ ?_)
      clear hN K
      refine then_norm ?_
      refine wp_cond_split rfl ?_ ?_
      · intro ht
        have ht39 := ht
        have hY : q % p = 0 := bl_eq_zero.1 (by simpa using ht)
        refine wp_seq ?_
        refine wp_r0 ?_
        intro K hN
        have r := hB.r
        simp only [BxR] at r
        go_wp2_with fail
        clear r
        generalize hu0 : World.setCell (World.setCell u _ _) _ _ = u0
        have hBG := hB.over hF hG 6 rfl 0 [_, _] hu0
        clear hB hG hu0
        simp only [List.modify_succ_cons, List.modify_zero_cons, wrAll, List.setIfInBounds_toArray, List.set_cons_zero, List.set_cons_succ, Nat.zero_add, Nat.reduceAdd] at hBG
        obtain ⟨hB, hG⟩ := hBG
        clear u
        obtain ⟨u, rfl⟩ : ∃ x, x = u0 := ⟨_, rfl⟩
        refine NoK.norm (hN _ _ ?_)
        clear hN K
        refine then_norm ?_
        refine wp_ret ?_
        refine then_ret ?_
        refine ret_b rfl ?_
        intro N hN
        have r := hB.r
        simp only [BxR] at r
        simp only [results, Tryz.results67]
        go_simp
        refine hN _ ?_
        clear hN N r
        have hgx := gcd_step q p g Hg.out
        rw [hY, Nat.gcd_zero_right] at hgx
        exact ⟨by rw [hgx], hG⟩
      · intro ht
        have ht39 := ht
        have hYr : q % p ≠ 0 := fun h => (by rw [h] at ht; simp [bl_zero] at ht)
        refine wp_skip ?_
        refine then_norm ?_
        refine wp_seq ?_
        refine wp_seq ?_
        refine wp_rs (w := w) allocs 7 [0, 1, 0, 0, 0, 0, 0] (by kernel_rfl) (by simp only [List.drop_succ_cons, List.drop_nil]; exact rfl) (fun _ => True) noG hB hG trivial ?_
        intro K L hN hL
        simp only [List.zip_cons_cons, List.zip_nil_left]
        apply gy
        · exact rfl
        · (rintro v ⟨hgu, hB, hG, -⟩ N hN; have r := hB.r; simp only [BxR] at r; go_simp; exact hN)
        refine okf (by simp only [Act.put, List.setIfInBounds_toArray, List.set_cons_succ, List.set_cons_zero]; exact rfl) ?_
        apply gm
        · exact rfl
        · (rintro v ⟨hgu, hB, hG, -⟩ N hN; go_simp; ((with_reducible refine (nat_Small_no _ hs _).mono ?_); rintro e w1 ⟨rfl, hb⟩; exact ⟨_, rfl, hN _ hb⟩))
        refine okf (by simp only [Act.put, List.setIfInBounds_toArray, List.set_cons_succ, List.set_cons_zero]; exact rfl) ?_
        apply gy
        · exact rfl
        · (rintro v - N hN; go_simp; exact hN)
        refine okf (by simp only [Act.put, List.setIfInBounds_toArray, List.set_cons_succ, List.set_cons_zero]; exact rfl) ?_
        apply gy
        · exact rfl
        · (rintro v - N hN; go_simp; exact hN)
        refine okf (by simp only [Act.put, List.setIfInBounds_toArray, List.set_cons_succ, List.set_cons_zero]; exact rfl) ?_
        apply gy
        · exact rfl
        · (rintro v - N hN; go_simp; exact hN)
        refine okf (by simp only [Act.put, List.setIfInBounds_toArray, List.set_cons_succ, List.set_cons_zero]; exact rfl) ?_
        apply gy
        · exact rfl
        · (rintro v - N hN; go_simp; exact hN)
        refine okf (by simp only [Act.put, List.setIfInBounds_toArray, List.set_cons_succ, List.set_cons_zero]; exact rfl) ?_
        apply gy
        · exact rfl
        · (rintro v - N hN; go_simp; exact hN)
        refine okf (by simp only [Act.put, List.setIfInBounds_toArray, List.set_cons_succ, List.set_cons_zero]; exact rfl) ?_
        refine gend ?_
        rintro v ⟨hgu, hB1, hG1, -⟩
        clear hB hG
        have hB := hB1
        have hG := hG1
        clear hB1 hG1
        refine hL _ _ ?_
        clear hL L hgu
        obtain ⟨u, rfl⟩ : ∃ x, x = v := ⟨_, rfl⟩
        refine wpList_nil ?_
        refine NoK.norm (hN _ _ ?_)
        clear hN K
        refine then_norm ?_
        refine wp_seq ?_
        refine wp_r0 ?_
        intro K hN
        go_wp2_with fail
        refine NoK.norm (hN _ _ ?_)
        clear hN K
        refine then_norm ?_
        refine wp_cond_false (rfl) ?_
        refine wp_skip ?_
        refine then_norm ?_
        refine wp_seq ?_
        refine wp_rs (w := w) allocs 3 [0, 0, 1] (by kernel_rfl) (by simp only [List.drop_succ_cons, List.drop_zero]; exact rfl) (fun _ => True) noG hB hG trivial ?_
        intro K L hN hL
        simp only [List.zip_cons_cons, List.zip_nil_left]
        apply gy
        · exact rfl
        · (rintro v ⟨hgu, hB, hG, -⟩ N hN; have r := hB.r; simp only [BxR] at r; go_simp; exact hN)
        refine okf (by simp only [Act.put, List.setIfInBounds_toArray, List.set_cons_succ, List.set_cons_zero]; exact rfl) ?_
        apply gy
        · exact rfl
        · (rintro v ⟨hgu, hB, hG, -⟩ N hN; have r := hB.r; simp only [BxR] at r; go_simp; exact hN)
        refine okf (by simp only [Act.put, List.setIfInBounds_toArray, List.set_cons_succ, List.set_cons_zero]; exact rfl) ?_
        apply gm
        · exact rfl
        · (rintro v ⟨hgu, hB, hG, -⟩ N hN; go_simp; ((with_reducible refine (Hbin.out _ hG hYr).mono ?_); rintro e w1 ⟨rfl, hb⟩; exact ⟨_, rfl, hN _ hb⟩))
        refine okf (by simp only [Act.put, List.setIfInBounds_toArray, List.set_cons_succ, List.set_cons_zero]; exact rfl) ?_
        refine gend ?_
        rintro v ⟨hgu, hB1, hG1, -⟩
        clear hB hG
        have hB := hB1
        have hG := hG1
        clear hB1 hG1
        refine hL _ _ ?_
        clear hL L hgu
        obtain ⟨u, rfl⟩ : ∃ x, x = v := ⟨_, rfl⟩
        have r := hB.r
        simp only [BxR] at r
        go_wp2_with fail
        clear r
        generalize hu0 : World.setCell (World.setCell u _ _) _ _ = u0
        have hBG := hB.over hF hG 6 rfl 0 [_, _] hu0
        clear hB hG hu0
        simp only [List.modify_succ_cons, List.modify_zero_cons, wrAll, List.setIfInBounds_toArray, List.set_cons_zero, List.set_cons_succ, Nat.zero_add, Nat.reduceAdd] at hBG
        obtain ⟨hB, hG⟩ := hBG
        clear u
        obtain ⟨u, rfl⟩ : ∃ x, x = u0 := ⟨_, rfl⟩
        refine NoK.norm (hN _ _ ?_)
        clear hN K
        refine then_norm ?_
        refine wp_ret ?_
        refine ret_b rfl ?_
        intro N hN
        have r := hB.r
        simp only [BxR] at r
        simp only [results, Tryz.results67]
        go_simp
        refine hN _ ?_
        clear hN N r
        exact ⟨rfl, hG⟩

--! whole_Gcd = whole_Gcd _ _ SIDE SIDE _ (HT.grow hG)
theorem whole_Gcd (a b : Int) (ha : bl a.natAbs ≤ BIG) (hb : bl b.natAbs ≤ BIG) (w : World) (hT : Tab w) : Calls Tryz.prog 67 #[intV a, intV b] w fun e w' => e = .returned (natV (Nat.gcd a.natAbs b.natAbs)) ∧ Grow w w' := by
  by_cases h : a.natAbs < b.natAbs
  · by_cases hs : a.natAbs < W64
    · exact whole_Gcd_gt_s _ _ _ _ hs hb h w
    · exact whole_Gcd_gt_b _ _ _ _ ha hb hs h w hT
  · by_cases hs : b.natAbs < W64
    · exact whole_Gcd_le_s _ _ _ _ ha hs (by omega) w
    · exact whole_Gcd_le_b _ _ _ _ ha hb hs (by omega) w hT
end Go.Proofs.YtimjnkfcnpfoeaaGreatDoor

/-
  The fractions' plain laws: what the program's steps come to in Rat; sizes.
-/
namespace Go.Proofs.YtimjnkfcnpfoeaaGreatDoor

/-- a fraction kept as numerator and denominator -/
abbrev nqV (n : Int) (d : Nat) : Value := .agg #[.bool (intNeg n), .int .u64 (natLo n.natAbs), .string (natMo n.natAbs), .int .u64 (natLo (keptDen d)), .string (natMo (keptDen d))]
theorem keptDen_one : keptDen 1 = 0 := rfl
theorem keptDen_ne {d : Nat} (h : d ≠ 1) : keptDen d = d := if_neg h
theorem nqV_eq {n : Int} {d : Nat} {q : Rat} (h1 : q.num = n) (h2 : q.den = d) : nqV n d = qV q := by subst h1; subst h2; rfl
theorem sgn_div (n : Int) (b : Nat) : sgn (intNeg n) (n.natAbs / b) = n.tdiv b := by
  unfold sgn intNeg
  by_cases h : n < 0
  · rw [if_pos (decide_eq_true h)]
    obtain ⟨m, rfl⟩ : ∃ m : Nat, n = -(m : Int) := ⟨n.natAbs, by omega⟩
    rw [Int.neg_tdiv, Int.natAbs_neg, Int.natAbs_natCast, Int.ofNat_tdiv]
  · rw [if_neg (by simpa using h)]
    obtain ⟨m, rfl⟩ : ∃ m : Nat, n = (m : Int) := ⟨n.natAbs, by omega⟩
    rw [Int.natAbs_natCast, Int.ofNat_tdiv]
theorem neg_sign (n : Int) : decide (n.sign < 0) = intNeg n := by
  unfold intNeg
  rw [decide_eq_decide]
  exact Int.sign_neg_iff
theorem num_mul_ (a b : Rat) : (a * b).num = a.num.tdiv (Nat.gcd a.num.natAbs b.den) * b.num.tdiv (Nat.gcd b.num.natAbs a.den) := by
  show (Rat.mul a b).num = _
  unfold Rat.mul
  simp only [Int.divExact_eq_tdiv]
theorem den_mul_ (a b : Rat) : (a * b).den = a.den / Nat.gcd b.num.natAbs a.den * (b.den / Nat.gcd a.num.natAbs b.den) := by
  show (Rat.mul a b).den = _
  unfold Rat.mul
  simp only [Nat.divExact_eq_div]
/-- the sum's two parts, as the program makes them -/
def upOf (a b : Rat) : Int := a.num * ((b.den / Nat.gcd a.den b.den : Nat) : Int) + b.num * ((a.den / Nat.gcd a.den b.den : Nat) : Int)
def hOf (a b : Rat) : Nat := Nat.gcd (upOf a b).natAbs (Nat.gcd a.den b.den)
theorem add_norm (a b : Rat) (h : a.den / Nat.gcd a.den b.den * b.den ≠ 0) : a + b = Rat.normalize (upOf a b) (a.den / Nat.gcd a.den b.den * b.den) h := by
  rw [Rat.add_def]
  have hg : Nat.gcd a.den b.den ≠ 0 := fun h0 => a.den_nz (Nat.eq_zero_of_gcd_eq_zero_left h0)
  obtain ⟨x, hx⟩ := Nat.gcd_dvd_left a.den b.den
  obtain ⟨y, hy⟩ := Nat.gcd_dvd_right a.den b.den
  have hxd : a.den / Nat.gcd a.den b.den = x := Nat.div_eq_of_eq_mul_right (Nat.pos_of_ne_zero hg) hx
  have hyd : b.den / Nat.gcd a.den b.den = y := Nat.div_eq_of_eq_mul_right (Nat.pos_of_ne_zero hg) hy
  rw [← Rat.normalize_mul_right (a := Nat.gcd a.den b.den) h hg]
  congr 1
  · unfold upOf
    rw [hxd, hyd]
    generalize Nat.gcd a.den b.den = g at *
    rw [hx, hy]
    push_cast
    grind
  · rw [hxd]
    generalize Nat.gcd a.den b.den = g at *
    rw [hx]
    grind
theorem h_aux (a b : Rat) : hOf a b = Nat.gcd (upOf a b).natAbs (a.den / Nat.gcd a.den b.den * b.den) := Rat.add.aux a b rfl rfl rfl
theorem down_ne (a b : Rat) : a.den / Nat.gcd a.den b.den * b.den ≠ 0 := by
  have h1 := Nat.div_gcd_pos_of_pos_left b.den a.den_pos
  have h2 := b.den_pos
  exact Nat.ne_of_gt (Nat.mul_pos h1 h2)
theorem num_add_ (a b : Rat) : (a + b).num = (upOf a b).tdiv (hOf a b) := by
  rw [add_norm a b (down_ne a b), Rat.num_normalize, ← h_aux]
  refine (Int.tdiv_eq_ediv_of_dvd ?_).symm
  exact Int.ofNat_dvd_left.2 (Nat.gcd_dvd_left _ _)
theorem den_add_ (a b : Rat) : (a + b).den = a.den / Nat.gcd a.den b.den * (b.den / hOf a b) := by
  rw [add_norm a b (down_ne a b), Rat.den_normalize, ← h_aux]
  exact Nat.mul_div_assoc _ (Nat.dvd_trans (Nat.gcd_dvd_right _ _) (Nat.gcd_dvd_right _ _))
theorem num_low (n : Int) (d : Nat) (h : d ≠ 0) : (mkRat n d).num = n.tdiv (Nat.gcd n.natAbs d) := by
  rw [← Rat.normalize_eq_mkRat h, Rat.num_normalize]
  exact (Int.tdiv_eq_ediv_of_dvd (Int.ofNat_dvd_left.2 (Nat.gcd_dvd_left _ _))).symm
theorem den_low (n : Int) (d : Nat) (h : d ≠ 0) : (mkRat n d).den = d / Nat.gcd n.natAbs d := by
  rw [← Rat.normalize_eq_mkRat h, Rat.den_normalize]

def cmpQ (a b : Rat) : Int := if a < b then -1 else if b < a then 1 else 0
theorem cmpQ_cross (a b : Rat) : cmpQ a b = cmpZ (a.num * b.den) (b.num * a.den) := by
  unfold cmpQ cmpZ
  simp only [Rat.lt_iff]
theorem cmpQ_whole {a b : Rat} (ha : a.den = 1) (hb : b.den = 1) : cmpQ a b = cmpZ a.num b.num := by
  rw [cmpQ_cross, ha, hb]; simp
theorem cmpQ_sign {a b : Rat} (h : a.num.sign ≠ b.num.sign) : cmpQ a b = cmpZ a.num b.num := by
  rw [cmpQ_cross]
  have h1 := a.den_pos
  have h2 := b.den_pos
  generalize a.num = x at *
  generalize b.num = y at *
  generalize a.den = p at *
  generalize b.den = q at *
  have hx : (x * (q : Int)).sign = x.sign := by rw [Int.sign_mul, Int.sign_eq_one_of_pos (a := (q : Int)) (by omega), Int.mul_one]
  have hy : (y * (p : Int)).sign = y.sign := by rw [Int.sign_mul, Int.sign_eq_one_of_pos (a := (p : Int)) (by omega), Int.mul_one]
  rw [← hx, ← hy] at h
  have key : ∀ u v : Int, u.sign ≠ v.sign → cmpZ u v = cmpZ u.sign v.sign := by
    intro u v huv
    unfold cmpZ
    rcases Int.lt_trichotomy u 0 with hu | hu | hu <;> rcases Int.lt_trichotomy v 0 with hv | hv | hv <;>
      (first | (rw [Int.sign_eq_neg_one_of_neg hu] at huv ⊢) | (rw [hu, Int.sign_zero] at huv ⊢) | (rw [Int.sign_eq_one_of_pos hu] at huv ⊢)) <;>
      (first | (rw [Int.sign_eq_neg_one_of_neg hv] at huv ⊢) | (rw [hv, Int.sign_zero] at huv ⊢) | (rw [Int.sign_eq_one_of_pos hv] at huv ⊢)) <;>
      first | (exact absurd rfl huv) | (split <;> (try split) <;> simp <;> omega)
  rw [key _ _ h, hx, hy]
  rw [hx, hy] at h
  exact (key _ _ h).symm

/-- a fraction's size in bits -/
def qs (q : Rat) : Nat := max (bl q.num.natAbs) (bl q.den)
theorem qs_num (q : Rat) : bl q.num.natAbs ≤ qs q := Nat.le_max_left _ _
theorem qs_den (q : Rat) : bl q.den ≤ qs q := Nat.le_max_right _ _
theorem natAbs_tdiv_le (n : Int) (g : Nat) : (n.tdiv g).natAbs ≤ n.natAbs := by
  rw [Int.natAbs_tdiv]; exact Nat.div_le_self _ _
theorem qs_mul (a b : Rat) : qs (a * b) ≤ qs a + qs b := by
  refine Nat.max_le.2 ⟨?_, ?_⟩
  · rw [num_mul_, Int.natAbs_mul]
    refine Nat.le_trans (bl_mul_le _ _) ?_
    have h1 := bl_mono (natAbs_tdiv_le a.num (Nat.gcd a.num.natAbs b.den))
    have h2 := bl_mono (natAbs_tdiv_le b.num (Nat.gcd b.num.natAbs a.den))
    have := qs_num a
    have := qs_num b
    omega
  · rw [den_mul_]
    refine Nat.le_trans (bl_mul_le _ _) ?_
    have h1 := bl_div_le a.den (Nat.gcd b.num.natAbs a.den)
    have h2 := bl_div_le b.den (Nat.gcd a.num.natAbs b.den)
    have := qs_den a
    have := qs_den b
    omega
theorem bl_up (a b : Rat) : bl (upOf a b).natAbs ≤ qs a + qs b + 1 := by
  unfold upOf
  have h1 := bl_mul_le a.num.natAbs (b.den / Nat.gcd a.den b.den)
  have h2 := bl_mul_le b.num.natAbs (a.den / Nat.gcd a.den b.den)
  have h3 := bl_div_le b.den (Nat.gcd a.den b.den)
  have h4 := bl_div_le a.den (Nat.gcd a.den b.den)
  have := qs_num a
  have := qs_den a
  have := qs_num b
  have := qs_den b
  refine Nat.le_trans (bl_mono (Int.natAbs_add_le _ _)) ?_
  rw [Int.natAbs_mul, Int.natAbs_mul, Int.natAbs_natCast, Int.natAbs_natCast]
  refine Nat.le_trans (bl_add_le _ _) ?_
  omega
theorem qs_add (a b : Rat) : qs (a + b) ≤ qs a + qs b + 1 := by
  refine Nat.max_le.2 ⟨?_, ?_⟩
  · rw [num_add_]
    exact Nat.le_trans (bl_mono (natAbs_tdiv_le _ _)) (bl_up a b)
  · rw [den_add_]
    refine Nat.le_trans (bl_mul_le _ _) ?_
    have h1 := bl_div_le a.den (Nat.gcd a.den b.den)
    have h2 := bl_div_le b.den (hOf a b)
    have := qs_den a
    have := qs_den b
    omega
theorem qs_neg (a : Rat) : qs (-a) = qs a := by
  unfold qs; rw [Rat.neg_num, Rat.neg_den, Int.natAbs_neg]
theorem qs_sub (a b : Rat) : qs (a - b) ≤ qs a + qs b + 1 := by
  rw [Rat.sub_eq_add_neg]
  have := qs_add a (-b)
  rw [qs_neg] at this
  exact this
theorem qs_inv (a : Rat) (h : a ≠ 0) : qs a⁻¹ = qs a := by
  have h0 : a.num ≠ 0 := fun e => h (Rat.num_eq_zero.1 e)
  unfold qs
  rw [Rat.num_inv, Rat.den_inv, if_neg h0, Int.natAbs_mul, Int.natAbs_natCast, Int.natAbs_sign_of_ne_zero h0, Nat.one_mul, Nat.max_comm]
theorem qs_div (a b : Rat) : qs (a / b) ≤ qs a + qs b := by
  by_cases h : b = 0
  · subst h
    have : a / 0 = 0 := by rw [Rat.div_def, Rat.inv_zero, Rat.mul_zero]
    rw [this]
    have h0 : qs 0 = 1 := by show max (bl 0) (bl 1) = 1; rw [bl_zero, bl_eq_one.2 rfl]; rfl
    have : 0 < bl a.den := bl_pos.2 a.den_nz
    have := qs_den a
    omega
  · rw [Rat.div_def, ← qs_inv b h]
    exact qs_mul _ _
theorem qs_pos (a : Rat) : 1 ≤ qs a := by
  have : 0 < bl a.den := bl_pos.2 a.den_nz
  have := qs_den a
  omega
theorem qs_int (n : Int) (k : Nat) (h : n.natAbs < 2 ^ k) (hk : 1 ≤ k) : qs (n : Rat) ≤ k := by
  refine Nat.max_le.2 ⟨?_, ?_⟩
  · rw [Rat.num_intCast]; exact bl_le.2 h
  · rw [Rat.den_intCast]; exact Nat.le_trans (by decide) hk
end Go.Proofs.YtimjnkfcnpfoeaaGreatDoor

/-
  Contracts of package frac: small ones, Make, Cmp.
-/
namespace Go.Proofs.YtimjnkfcnpfoeaaGreatDoor
open Go.RowKit

theorem ret_qV {p q : Rat} (h : p = q) : Ending.returned (qV p) = .returned (qV q) := by rw [h]
theorem ret_nqV {n : Int} {d : Nat} {q : Rat} (h1 : q.num = n) (h2 : q.den = d) : Ending.returned (nqV n d) = .returned (qV q) := by rw [nqV_eq h1 h2]
theorem ret_natV {a b : Nat} (h : a = b) : Ending.returned (natV a) = .returned (natV b) := by rw [h]
theorem kept_big {d : Nat} (h : bl d ≤ 1099511627776) : bl (keptDen d) ≤ 1099511627776 := by
  unfold keptDen; split
  · rw [bl_zero]; omega
  · exact h

--! frac_isWhole = frac_isWhole _ SIDE _
set_option maxHeartbeats 400000 in
set_option maxRecDepth 100000 in
theorem frac_isWhole (q : Rat) (h : bl q.den ≤ 1099511627776) (w : World) : Calls Tryz.prog 65 #[qV q] w fun e w' => e = .returned (.bool (decide (q.den = 1))) ∧ Grow w w' := by
  have hk := kept_big h
  have hd : decide (q.den = 1) = ((bl (keptDen q.den) : Int) == 0) := by
    have h2 := q.den_pos
    by_cases h1 : q.den = 1
    · rw [h1, keptDen_one, bl_zero]; rfl
    · rw [keptDen_ne h1, decide_eq_false h1]
      have : bl q.den ≠ 0 := fun e => by have := bl_eq_zero.1 e; omega
      symm
      simpa using this
  rw [hd]
  clear hd
  go_enter Tryz.func65, Tryz.ntmps65
  refine wp_seq (wp_r0 ?_)
  intro K hN
  go_wp2_with fail
  generalize hu : World.alloc w _ = u
  obtain ⟨hB, hG⟩ := bx_first [(_, _)] w u hu
  have hF := fr_first w [(32, #[])]
  simp only [numbered, List.map_cons, List.map_nil] at hB hF
  clear hu
  generalize w.heap.size = b1 at hB hF ⊢
  refine NoK.norm (hN _ _ ?_)
  clear hN K
  refine then_norm ?_
  refine wp_seq ?_
  refine wp_rs (w := w) allocs 5 [0, 0, 1, 0, 0] (by kernel_rfl) (by simp only [List.drop_succ_cons, List.drop_nil]; exact rfl) (fun _ => True) noG hB hG trivial ?_
  intro K L hN hL
  simp only [List.zip_cons_cons, List.zip_nil_left]
  apply gy
  · exact rfl
  · (rintro v - N hN; go_simp; exact hN)
  refine okf (by simp only [Act.put, List.setIfInBounds_toArray, List.set_cons_succ, List.set_cons_zero]; exact rfl) ?_
  apply gy
  · exact rfl
  · (rintro v ⟨hgu, hB, hG, -⟩ N hN; have r := hB.r; simp only [BxR] at r; go_simp; exact hN)
  refine okf (by simp only [Act.put, List.setIfInBounds_toArray, List.set_cons_succ, List.set_cons_zero]; exact rfl) ?_
  apply gm
  · exact rfl
  · (rintro v ⟨hgu, hB, hG, -⟩ N hN; go_simp; ((with_reducible refine (nat_Bits _ (by assumption) _).mono ?_); rintro e w1 ⟨rfl, hb⟩; exact ⟨_, rfl, hN _ hb⟩))
  refine okf (by simp only [Act.put, List.setIfInBounds_toArray, List.set_cons_succ, List.set_cons_zero]; exact rfl) ?_
  apply gy
  · exact rfl
  · (rintro v - N hN; go_simp; exact hN)
  refine okf (by simp only [Act.put, List.setIfInBounds_toArray, List.set_cons_succ, List.set_cons_zero]; exact rfl) ?_
  apply gy
  · exact rfl
  · (rintro v - N hN; go_simp; exact hN)
  refine okf (by simp only [Act.put, List.setIfInBounds_toArray, List.set_cons_succ, List.set_cons_zero]; exact rfl) ?_
  refine gend ?_
  rintro v ⟨hgu, hB1, hG1, -⟩
  clear hB hG
  have hB := hB1
  have hG := hG1
  clear hB1 hG1
  refine hL _ _ ?_
  clear hL L hgu
  obtain ⟨u, rfl⟩ : ∃ x, x = v := ⟨_, rfl⟩
  refine wpList_nil ?_
  refine NoK.norm (hN _ _ ?_)
  clear hN K
  refine then_norm ?_
  refine wp_ret ?_
  refine ret_b rfl ?_
  intro N hN
  have r := hB.r
  simp only [BxR] at r
  simp only [results, Tryz.results65]
  go_simp
  refine hN _ ?_
  clear hN N r
  exact ⟨rfl, hG⟩

theorem nat_Of_1 (w : World) : Calls Tryz.prog 125 #[.int .u64 1] w fun e w' => e = .returned (natV 1) ∧ Grow w w' := nat_Of 1 (by unfold W64; omega) w
--! frac_Den = frac_Den _ SIDE _
set_option maxHeartbeats 400000 in
set_option maxRecDepth 100000 in
theorem frac_Den (q : Rat) (h : bl q.den ≤ 1099511627776) (w : World) : Calls Tryz.prog 69 #[qV q] w fun e w' => e = .returned (natV q.den) ∧ Grow w w' := by
  go_enter Tryz.func69, Tryz.ntmps69
  refine wp_seq (wp_r0 ?_)
  intro K hN
  go_wp2_with fail
  generalize hu : World.alloc (World.alloc w _) _ = u
  obtain ⟨hB, hG⟩ := bx_first [(_, _), (_, _)] w u hu
  have hF := fr_first w [(32, #[]), (28, #[])]
  simp only [numbered, List.map_cons, List.map_nil] at hB hF
  clear hu
  generalize w.heap.size + 1 = b2 at hB hF ⊢
  generalize w.heap.size = b1 at hB hF ⊢
  refine NoK.norm (hN _ _ ?_)
  clear hN K
  refine then_norm ?_
  refine wp_seq ?_
  refine wp_seq ?_
  refine wp_rs (w := w) allocs 2 [0, 1] (by kernel_rfl) (by simp only [List.drop_succ_cons, List.drop_nil]; exact rfl) (fun _ => True) noG hB hG trivial ?_
  intro K L hN hL
  simp only [List.zip_cons_cons, List.zip_nil_left]
  apply gy
  · exact rfl
  · (rintro v ⟨hgu, hB, hG, -⟩ N hN; have r := hB.r; simp only [BxR] at r; go_simp; exact hN)
  refine okf (by simp only [Act.put, List.setIfInBounds_toArray, List.set_cons_succ, List.set_cons_zero]; exact rfl) ?_
  apply gm
  · exact rfl
  · (rintro v ⟨hgu, hB, hG, -⟩ N hN; go_simp; ((with_reducible refine (frac_isWhole _ (by assumption) _).mono ?_); rintro e w1 ⟨rfl, hb⟩; exact ⟨_, rfl, hN _ hb⟩))
  refine okf (by simp only [Act.put, List.setIfInBounds_toArray, List.set_cons_succ, List.set_cons_zero]; exact rfl) ?_
  refine gend ?_
  rintro v ⟨hgu, hB1, hG1, -⟩
  clear hB hG
  have hB := hB1
  have hG := hG1
  clear hB1 hG1
  refine hL _ _ ?_
  clear hL L hgu
  obtain ⟨u, rfl⟩ : ∃ x, x = v := ⟨_, rfl⟩
  refine wpList_nil ?_
  refine NoK.norm (hN _ _ ?_)
  clear hN K
  refine then_norm ?_
  refine wp_cond_split rfl ?_ ?_
  · intro ht
    have ht4 := ht
    refine wp_seq ?_
    refine wp_rs (w := w) allocs 1 [1] (by kernel_rfl) (by simp only [List.drop_succ_cons, List.drop_zero]; exact rfl) (fun _ => True) noG hB hG trivial ?_
    intro K L hN hL
    simp only [List.zip_cons_cons, List.zip_nil_left]
    apply gm
    · exact rfl
    · (rintro v ⟨hgu, hB, hG, -⟩ N hN; go_simp; ((with_reducible refine (nat_Of_1 _).mono ?_); rintro e w1 ⟨rfl, hb⟩; exact ⟨_, rfl, hN _ hb⟩))
    refine okf (by simp only [Act.put, List.setIfInBounds_toArray, List.set_cons_succ, List.set_cons_zero]; exact rfl) ?_
    refine gend ?_
    rintro v ⟨hgu, hB1, hG1, -⟩
    clear hB hG
    have hB := hB1
    have hG := hG1
    clear hB1 hG1
    refine hL _ _ ?_
    clear hL L hgu
    obtain ⟨u, rfl⟩ : ∃ x, x = v := ⟨_, rfl⟩
    have r := hB.r
    simp only [BxR] at r
    go_wp2_with fail
    clear r
    generalize hu0 : World.setCell (World.setCell u _ _) _ _ = u0
    have hBG := hB.over hF hG 1 rfl 0 [_, _] hu0
    clear hB hG hu0
    simp only [List.modify_succ_cons, List.modify_zero_cons, wrAll, List.setIfInBounds_toArray, List.set_cons_zero, List.set_cons_succ, Nat.zero_add, Nat.reduceAdd] at hBG
    obtain ⟨hB, hG⟩ := hBG
    clear u
    obtain ⟨u, rfl⟩ : ∃ x, x = u0 := ⟨_, rfl⟩
    refine NoK.norm (hN _ _ ?_)
    clear hN K
    refine then_norm ?_
    refine wp_ret ?_
    refine then_ret ?_
    refine ret_b rfl ?_
    intro N hN
    have r := hB.r
    simp only [BxR] at r
    simp only [results, Tryz.results69]
    go_simp
    refine hN _ ?_
    clear hN N r
    have e : q.den = 1 := of_decide_eq_true ht
    exact ⟨ret_natV e.symm, hG⟩
  · intro ht
    have ht4 := ht
    refine wp_skip ?_
    refine then_norm ?_
    refine wp_seq ?_
    refine wp_r0 ?_
    intro K hN
    have r := hB.r
    simp only [BxR] at r
    go_wp2_with fail
    clear r
    generalize hu0 : World.setCell (World.setCell u _ _) _ _ = u0
    have hBG := hB.over hF hG 1 rfl 0 [_, _] hu0
    clear hB hG hu0
    simp only [List.modify_succ_cons, List.modify_zero_cons, wrAll, List.setIfInBounds_toArray, List.set_cons_zero, List.set_cons_succ, Nat.zero_add, Nat.reduceAdd] at hBG
    obtain ⟨hB, hG⟩ := hBG
    clear u
    obtain ⟨u, rfl⟩ : ∃ x, x = u0 := ⟨_, rfl⟩
    refine NoK.norm (hN _ _ ?_)
    clear hN K
    refine then_norm ?_
    refine wp_ret ?_
    refine ret_b rfl ?_
    intro N hN
    have r := hB.r
    simp only [BxR] at r
    simp only [results, Tryz.results69]
    go_simp
    refine hN _ ?_
    clear hN N r
    have e : q.den ≠ 1 := of_decide_eq_false ht
    exact ⟨ret_natV (keptDen_ne e), hG⟩

--! frac_Num = frac_Num _ _
set_option maxHeartbeats 400000 in
theorem frac_Num (q : Rat) (w : World) : Calls Tryz.prog 117 #[qV q] w fun e w' => e = .returned (intV q.num) ∧ Grow w w' := by
  go_enter Tryz.func117, Tryz.ntmps117
  refine wp_seq (wp_r0 ?_)
  intro K hN
  go_wp2_with fail
  generalize hu : World.alloc (World.alloc w _) _ = u
  obtain ⟨hB, hG⟩ := bx_first [(_, _), (_, _)] w u hu
  have hF := fr_first w [(32, #[]), (30, #[])]
  simp only [numbered, List.map_cons, List.map_nil] at hB hF
  clear hu
  generalize w.heap.size + 1 = b2 at hB hF ⊢
  generalize w.heap.size = b1 at hB hF ⊢
  refine NoK.norm (hN _ _ ?_)
  clear hN K
  refine then_norm ?_
  refine wp_seq ?_
  refine wp_r0 ?_
  intro K hN
  have r := hB.r
  simp only [BxR] at r
  go_wp2_with fail
  clear r
  generalize hu0 : World.setCell (World.setCell (World.setCell u _ _) _ _) _ _ = u0
  have hBG := hB.over hF hG 1 rfl 0 [_, _, _] hu0
  clear hB hG hu0
  simp only [List.modify_succ_cons, List.modify_zero_cons, wrAll, List.setIfInBounds_toArray, List.set_cons_zero, List.set_cons_succ, Nat.zero_add, Nat.reduceAdd] at hBG
  obtain ⟨hB, hG⟩ := hBG
  clear u
  obtain ⟨u, rfl⟩ : ∃ x, x = u0 := ⟨_, rfl⟩
  refine NoK.norm (hN _ _ ?_)
  clear hN K
  refine then_norm ?_
  refine wp_ret ?_
  refine ret_b rfl ?_
  intro N hN
  have r := hB.r
  simp only [BxR] at r
  simp only [results, Tryz.results117]
  go_simp
  refine hN _ ?_
  clear hN N r
  exact ⟨rfl, hG⟩

--! frac_Sign = frac_Sign _ SIDE _
set_option maxHeartbeats 400000 in
set_option maxRecDepth 100000 in
theorem frac_Sign (q : Rat) (h : bl q.num.natAbs ≤ 1099511627776) (w : World) : Calls Tryz.prog 48 #[qV q] w fun e w' => e = .returned (.int .i64 q.num.sign) ∧ Grow w w' := by
  go_enter Tryz.func48, Tryz.ntmps48
  refine wp_seq (wp_r0 ?_)
  intro K hN
  go_wp2_with fail
  generalize hu : World.alloc w _ = u
  obtain ⟨hB, hG⟩ := bx_first [(_, _)] w u hu
  have hF := fr_first w [(32, #[])]
  simp only [numbered, List.map_cons, List.map_nil] at hB hF
  clear hu
  generalize w.heap.size = b1 at hB hF ⊢
  refine NoK.norm (hN _ _ ?_)
  clear hN K
  refine then_norm ?_
  refine wp_seq ?_
  refine wp_rs (w := w) allocs 4 [0, 0, 1, 0] (by kernel_rfl) (by simp only [List.drop_succ_cons, List.drop_nil]; exact rfl) (fun _ => True) noG hB hG trivial ?_
  intro K L hN hL
  simp only [List.zip_cons_cons, List.zip_nil_left]
  apply gy
  · exact rfl
  · (rintro v - N hN; go_simp; exact hN)
  refine okf (by simp only [Act.put, List.setIfInBounds_toArray, List.set_cons_succ, List.set_cons_zero]; exact rfl) ?_
  apply gy
  · exact rfl
  · (rintro v ⟨hgu, hB, hG, -⟩ N hN; have r := hB.r; simp only [BxR] at r; go_simp; exact hN)
  refine okf (by simp only [Act.put, List.setIfInBounds_toArray, List.set_cons_succ, List.set_cons_zero]; exact rfl) ?_
  apply gm
  · exact rfl
  · (rintro v ⟨hgu, hB, hG, -⟩ N hN; go_simp; ((with_reducible refine (whole_Sign _ (by assumption) _).mono ?_); rintro e w1 ⟨rfl, hb⟩; exact ⟨_, rfl, hN _ hb⟩))
  refine okf (by simp only [Act.put, List.setIfInBounds_toArray, List.set_cons_succ, List.set_cons_zero]; exact rfl) ?_
  apply gy
  · exact rfl
  · (rintro v - N hN; go_simp; exact hN)
  refine okf (by simp only [Act.put, List.setIfInBounds_toArray, List.set_cons_succ, List.set_cons_zero]; exact rfl) ?_
  refine gend ?_
  rintro v ⟨hgu, hB1, hG1, -⟩
  clear hB hG
  have hB := hB1
  have hG := hG1
  clear hB1 hG1
  refine hL _ _ ?_
  clear hL L hgu
  obtain ⟨u, rfl⟩ : ∃ x, x = v := ⟨_, rfl⟩
  refine wpList_nil ?_
  refine NoK.norm (hN _ _ ?_)
  clear hN K
  refine then_norm ?_
  refine wp_ret ?_
  refine ret_b rfl ?_
  intro N hN
  have r := hB.r
  simp only [BxR] at r
  simp only [results, Tryz.results48]
  go_simp
  refine hN _ ?_
  clear hN N r
  exact ⟨rfl, hG⟩

--! frac_pack = frac_pack _ _ SIDE _
set_option maxHeartbeats 400000 in
set_option maxRecDepth 100000 in
theorem frac_pack (n : Int) (d : Nat) (h : bl d ≤ 1099511627776) (w : World) : Calls Tryz.prog 72 #[intV n, natV d] w fun e w' => e = .returned (nqV n d) ∧ Grow w w' := by
  go_enter Tryz.func72, Tryz.ntmps72
  refine wp_seq (wp_r0 ?_)
  intro K hN
  go_wp2_with fail
  generalize hu : World.alloc (World.alloc (World.alloc w _) _) _ = u
  obtain ⟨hB, hG⟩ := bx_first [(_, _), (_, _), (_, _)] w u hu
  have hF := fr_first w [(30, #[]), (28, #[]), (32, #[])]
  simp only [numbered, List.map_cons, List.map_nil] at hB hF
  clear hu
  generalize w.heap.size + 1 + 1 = b4 at hB hF ⊢
  generalize w.heap.size + 1 = b3 at hB hF ⊢
  generalize w.heap.size = b2 at hB hF ⊢
  refine NoK.norm (hN _ _ ?_)
  clear hN K
  refine then_norm ?_
  refine wp_seq ?_
  refine wp_seq ?_
  refine wp_rs (w := w) allocs 3 [0, 1, 0] (by kernel_rfl) (by simp only [List.drop_succ_cons, List.drop_nil]; exact rfl) (fun _ => True) noG hB hG trivial ?_
  intro K L hN hL
  simp only [List.zip_cons_cons, List.zip_nil_left]
  apply gy
  · exact rfl
  · (rintro v ⟨hgu, hB, hG, -⟩ N hN; have r := hB.r; simp only [BxR] at r; go_simp; exact hN)
  refine okf (by simp only [Act.put, List.setIfInBounds_toArray, List.set_cons_succ, List.set_cons_zero]; exact rfl) ?_
  apply gm
  · exact rfl
  · (rintro v ⟨hgu, hB, hG, -⟩ N hN; go_simp; ((with_reducible refine (nat_Bits _ (by assumption) _).mono ?_); rintro e w1 ⟨rfl, hb⟩; exact ⟨_, rfl, hN _ hb⟩))
  refine okf (by simp only [Act.put, List.setIfInBounds_toArray, List.set_cons_succ, List.set_cons_zero]; exact rfl) ?_
  apply gy
  · exact rfl
  · (rintro v - N hN; go_simp; exact hN)
  refine okf (by simp only [Act.put, List.setIfInBounds_toArray, List.set_cons_succ, List.set_cons_zero]; exact rfl) ?_
  refine gend ?_
  rintro v ⟨hgu, hB1, hG1, -⟩
  clear hB hG
  have hB := hB1
  have hG := hG1
  clear hB1 hG1
  refine hL _ _ ?_
  clear hL L hgu
  obtain ⟨u, rfl⟩ : ∃ x, x = v := ⟨_, rfl⟩
  refine wpList_nil ?_
  refine NoK.norm (hN _ _ ?_)
  clear hN K
  refine then_norm ?_
  refine wp_cond_split rfl ?_ ?_
  · intro ht
    have ht7 := ht
    refine wp_seq ?_
    refine wp_r0 ?_
    intro K hN
    have r := hB.r
    simp only [BxR] at r
    go_wp2_with fail
    clear r
    generalize hu0 : World.setCell (World.setCell (World.setCell (World.setCell (World.setCell u _ _) _ _) _ _) _ _) _ _ = u0
    have hBG := hB.over hF hG 2 rfl 0 [_, _, _, _, _] hu0
    clear hB hG hu0
    simp only [List.modify_succ_cons, List.modify_zero_cons, wrAll, List.setIfInBounds_toArray, List.set_cons_zero, List.set_cons_succ, Nat.zero_add, Nat.reduceAdd] at hBG
    obtain ⟨hB, hG⟩ := hBG
    clear u
    obtain ⟨u, rfl⟩ : ∃ x, x = u0 := ⟨_, rfl⟩
    refine NoK.norm (hN _ _ ?_)
    clear hN K
    refine then_norm ?_
    refine wp_ret ?_
    refine then_ret ?_
    refine ret_b rfl ?_
    intro N hN
    have r := hB.r
    simp only [BxR] at r
    simp only [results, Tryz.results72]
    go_simp
    refine hN _ ?_
    clear hN N r
    have e : d = 1 := bl_eq_one.1 (by simp at ht; omega)
    subst e
    exact ⟨rfl, hG⟩
  · intro ht
    have ht7 := ht
    refine wp_skip ?_
    refine then_norm ?_
    refine wp_seq ?_
    refine wp_r0 ?_
    intro K hN
    have r := hB.r
    simp only [BxR] at r
    go_wp2_with fail
    clear r
    generalize hu0 : World.setCell (World.setCell (World.setCell (World.setCell (World.setCell u _ _) _ _) _ _) _ _) _ _ = u0
    have hBG := hB.over hF hG 2 rfl 0 [_, _, _, _, _] hu0
    clear hB hG hu0
    simp only [List.modify_succ_cons, List.modify_zero_cons, wrAll, List.setIfInBounds_toArray, List.set_cons_zero, List.set_cons_succ, Nat.zero_add, Nat.reduceAdd] at hBG
    obtain ⟨hB, hG⟩ := hBG
    clear u
    obtain ⟨u, rfl⟩ : ∃ x, x = u0 := ⟨_, rfl⟩
    refine NoK.norm (hN _ _ ?_)
    clear hN K
    refine then_norm ?_
    refine wp_ret ?_
    refine ret_b rfl ?_
    intro N hN
    have r := hB.r
    simp only [BxR] at r
    simp only [results, Tryz.results72]
    go_simp
    refine hN _ ?_
    clear hN N r
    have e : d ≠ 1 := fun e => by
      have h2 := bl_eq_one.2 e
      rw [h2] at ht
      simp at ht
    exact ⟨by rw [nqV, keptDen_ne e], hG⟩

--! frac_over = frac_over _ _ SIDE SIDE SIDE _
set_option maxHeartbeats 400000 in
set_option maxRecDepth 100000 in
theorem frac_over (a b : Nat) (ha : bl a ≤ BIG) (hb : bl b ≤ BIG) (h0 : b ≠ 0) (w : World) : Calls Tryz.prog 70 #[natV a, natV b] w fun e w' => e = .returned (natV (a / b)) ∧ Grow w w' := by
  have hb' := fits_most hb
  go_enter Tryz.func70, Tryz.ntmps70
  refine wp_seq (wp_r0 ?_)
  intro K hN
  go_wp2_with fail
  generalize hu : World.alloc (World.alloc (World.alloc w _) _) _ = u
  obtain ⟨hB, hG⟩ := bx_first [(_, _), (_, _), (_, _)] w u hu
  have hF := fr_first w [(28, #[]), (28, #[]), (28, #[])]
  simp only [numbered, List.map_cons, List.map_nil] at hB hF
  clear hu
  generalize w.heap.size + 1 + 1 = b4 at hB hF ⊢
  generalize w.heap.size + 1 = b3 at hB hF ⊢
  generalize w.heap.size = b2 at hB hF ⊢
  refine NoK.norm (hN _ _ ?_)
  clear hN K
  refine then_norm ?_
  refine wp_seq ?_
  refine wp_seq ?_
  refine wp_rs (w := w) allocs 3 [0, 1, 0] (by kernel_rfl) (by simp only [List.drop_succ_cons, List.drop_nil]; exact rfl) (fun _ => True) noG hB hG trivial ?_
  intro K L hN hL
  simp only [List.zip_cons_cons, List.zip_nil_left]
  apply gy
  · exact rfl
  · (rintro v ⟨hgu, hB, hG, -⟩ N hN; have r := hB.r; simp only [BxR] at r; go_simp; exact hN)
  refine okf (by simp only [Act.put, List.setIfInBounds_toArray, List.set_cons_succ, List.set_cons_zero]; exact rfl) ?_
  apply gm
  · exact rfl
  · (rintro v ⟨hgu, hB, hG, -⟩ N hN; go_simp; ((with_reducible refine (nat_Bits _ (by assumption) _).mono ?_); rintro e w1 ⟨rfl, hb⟩; exact ⟨_, rfl, hN _ hb⟩))
  refine okf (by simp only [Act.put, List.setIfInBounds_toArray, List.set_cons_succ, List.set_cons_zero]; exact rfl) ?_
  apply gy
  · exact rfl
  · (rintro v - N hN; go_simp; exact hN)
  refine okf (by simp only [Act.put, List.setIfInBounds_toArray, List.set_cons_succ, List.set_cons_zero]; exact rfl) ?_
  refine gend ?_
  rintro v ⟨hgu, hB1, hG1, -⟩
  clear hB hG
  have hB := hB1
  have hG := hG1
  clear hB1 hG1
  refine hL _ _ ?_
  clear hL L hgu
  obtain ⟨u, rfl⟩ : ∃ x, x = v := ⟨_, rfl⟩
  refine wpList_nil ?_
  refine NoK.norm (hN _ _ ?_)
  clear hN K
  refine then_norm ?_
  refine wp_cond_split rfl ?_ ?_
  · intro ht
    have ht10 := ht
    refine wp_seq ?_
    refine wp_r0 ?_
    intro K hN
    have r := hB.r
    simp only [BxR] at r
    go_wp2_with fail
    clear r
    generalize hu0 : World.setCell (World.setCell u _ _) _ _ = u0
    have hBG := hB.over hF hG 2 rfl 0 [_, _] hu0
    clear hB hG hu0
    simp only [List.modify_succ_cons, List.modify_zero_cons, wrAll, List.setIfInBounds_toArray, List.set_cons_zero, List.set_cons_succ, Nat.zero_add, Nat.reduceAdd] at hBG
    obtain ⟨hB, hG⟩ := hBG
    clear u
    obtain ⟨u, rfl⟩ : ∃ x, x = u0 := ⟨_, rfl⟩
    refine NoK.norm (hN _ _ ?_)
    clear hN K
    refine then_norm ?_
    refine wp_ret ?_
    refine then_ret ?_
    refine ret_b rfl ?_
    intro N hN
    have r := hB.r
    simp only [BxR] at r
    simp only [results, Tryz.results70]
    go_simp
    refine hN _ ?_
    clear hN N r
    have e : b = 1 := bl_eq_one.1 (by simp at ht; omega)
    exact ⟨ret_natV (by rw [e, Nat.div_one]), hG⟩
  · intro ht
    have ht10 := ht
    refine wp_skip ?_
    refine then_norm ?_
    refine wp_seq ?_
    refine wp_rs (w := w) allocs 9 [0, 0, 1, 0, 0, 0, 0, 2, 2] (by kernel_rfl) (by simp only [List.drop_succ_cons, List.drop_zero]; exact rfl) (fun _ => True) noG hB hG trivial ?_
    intro K L hN hL
    simp only [List.zip_cons_cons, List.zip_nil_left]
    apply gy
    · exact rfl
    · (rintro v ⟨hgu, hB, hG, -⟩ N hN; have r := hB.r; simp only [BxR] at r; go_simp; exact hN)
    refine okf (by simp only [Act.put, List.setIfInBounds_toArray, List.set_cons_succ, List.set_cons_zero]; exact rfl) ?_
    apply gy
    · exact rfl
    · (rintro v ⟨hgu, hB, hG, -⟩ N hN; have r := hB.r; simp only [BxR] at r; go_simp; exact hN)
    refine okf (by simp only [Act.put, List.setIfInBounds_toArray, List.set_cons_succ, List.set_cons_zero]; exact rfl) ?_
    apply gm
    · exact rfl
    · (rintro v ⟨hgu, hB, hG, -⟩ N hN; go_simp; ((with_reducible refine (nat_Div _ _ (by assumption) (by assumption) (by assumption) _).mono ?_); rintro e w1 ⟨rfl, hb⟩; exact ⟨_, rfl, hN _ hb⟩))
    refine okf (by simp only [Act.put, List.setIfInBounds_toArray, List.set_cons_succ, List.set_cons_zero]; exact rfl) ?_
    apply gy
    · exact rfl
    · (rintro v - N hN; go_simp; exact hN)
    refine okf (by simp only [Act.put, List.setIfInBounds_toArray, List.set_cons_succ, List.set_cons_zero]; exact rfl) ?_
    apply gy
    · exact rfl
    · (rintro v - N hN; go_simp; exact hN)
    refine okf (by simp only [Act.put, List.setIfInBounds_toArray, List.set_cons_succ, List.set_cons_zero]; exact rfl) ?_
    apply gy
    · exact rfl
    · (rintro v - N hN; go_simp; exact hN)
    refine okf (by simp only [Act.put, List.setIfInBounds_toArray, List.set_cons_succ, List.set_cons_zero]; exact rfl) ?_
    apply gy
    · exact rfl
    · (rintro v - N hN; go_simp; exact hN)
    refine okf (by simp only [Act.put, List.setIfInBounds_toArray, List.set_cons_succ, List.set_cons_zero]; exact rfl) ?_
    refine ga (newObj_Nat _ _ _ _ _) fun b5 hb5 hn5 => ?_
    refine okf (by simp only [Act.put, List.setIfInBounds_toArray, List.set_cons_succ, List.set_cons_zero]; exact rfl) ?_
    refine ga (newObj_Nat _ _ _ _ _) fun b6 hb6 hn6 => ?_
    refine okf (by simp only [Act.put, List.setIfInBounds_toArray, List.set_cons_succ, List.set_cons_zero]; exact rfl) ?_
    refine gend ?_
    rintro v ⟨⟨⟨hgu, hB1, hG1, -⟩, h5⟩, h6⟩
    have hF := Fr.new (tk := []) hF hB hG hb5 hn5
    have hF := Fr.new (tk := [b5]) hF hB hG hb6 hn6
    simp only [List.cons_append, List.nil_append, List.map_cons, List.map_nil] at hF
    clear hB hG
    have hB := (Bx.cons h6 (Bx.cons h5 hB1))
    have hG := hG1
    clear hB1 hG1 h5 h6
    refine hL _ _ ?_
    clear hL L hgu
    obtain ⟨u, rfl⟩ : ∃ x, x = v := ⟨_, rfl⟩
    have hD : b5 ≠ b6 ∧ b6 ≠ b5 := ⟨hF.ne 1 0 rfl rfl (by decide), hF.ne 0 1 rfl rfl (by decide)⟩
    have r := hB.r
    simp only [BxR] at r
    go_wp2_with fail
    clear r
    clear hD
    generalize hu0 : World.setCell (World.setCell u _ _) _ _ = u0
    have hBG := hB.over hF hG 1 rfl 0 [_, _] hu0
    clear hB hG hu0
    simp only [List.modify_succ_cons, List.modify_zero_cons, wrAll, List.setIfInBounds_toArray, List.set_cons_zero, List.set_cons_succ, Nat.zero_add, Nat.reduceAdd] at hBG
    obtain ⟨hB, hG⟩ := hBG
    clear u
    generalize hu1 : World.setCell (World.setCell u0 _ _) _ _ = u1
    have hBG := hB.over hF hG 0 rfl 0 [_, _] hu1
    clear hB hG hu1
    simp only [List.modify_succ_cons, List.modify_zero_cons, wrAll, List.setIfInBounds_toArray, List.set_cons_zero, List.set_cons_succ, Nat.zero_add, Nat.reduceAdd] at hBG
    obtain ⟨hB, hG⟩ := hBG
    clear u0
    obtain ⟨u, rfl⟩ : ∃ x, x = u1 := ⟨_, rfl⟩
    refine NoK.norm (hN _ _ ?_)
    clear hN K
    refine then_norm ?_
    refine wp_seq ?_
    refine wp_r0 ?_
    intro K hN
    have r := hB.r
    simp only [BxR] at r
    go_wp2_with fail
    clear r
    generalize hu0 : World.setCell (World.setCell u _ _) _ _ = u0
    have hBG := hB.over hF hG 4 rfl 0 [_, _] hu0
    clear hB hG hu0
    simp only [List.modify_succ_cons, List.modify_zero_cons, wrAll, List.setIfInBounds_toArray, List.set_cons_zero, List.set_cons_succ, Nat.zero_add, Nat.reduceAdd] at hBG
    obtain ⟨hB, hG⟩ := hBG
    clear u
    obtain ⟨u, rfl⟩ : ∃ x, x = u0 := ⟨_, rfl⟩
    refine NoK.norm (hN _ _ ?_)
    clear hN K
    refine then_norm ?_
    refine wp_ret ?_
    refine ret_b rfl ?_
    intro N hN
    have r := hB.r
    simp only [BxR] at r
    simp only [results, Tryz.results70]
    go_simp
    refine hN _ ?_
    clear hN N r
    exact ⟨rfl, hG⟩

--! frac_part = frac_part _ _ SIDE SIDE SIDE _
set_option maxHeartbeats 400000 in
set_option maxRecDepth 100000 in
theorem frac_part (n : Int) (b : Nat) (ha : bl n.natAbs ≤ BIG) (hb : bl b ≤ BIG) (h0 : b ≠ 0) (w : World) : Calls Tryz.prog 73 #[intV n, natV b] w fun e w' => e = .returned (intV (ztd n b)) ∧ Grow w w' := by
  have ha' := fits_most ha
  have hd : bl (n.natAbs / b) ≤ 1099511627776 := Nat.le_trans (bl_div_le _ _) ha'
  go_enter Tryz.func73, Tryz.ntmps73
  refine wp_seq (wp_r0 ?_)
  intro K hN
  go_wp2_with fail
  generalize hu : World.alloc (World.alloc (World.alloc w _) _) _ = u
  obtain ⟨hB, hG⟩ := bx_first [(_, _), (_, _), (_, _)] w u hu
  have hF := fr_first w [(30, #[]), (28, #[]), (30, #[])]
  simp only [numbered, List.map_cons, List.map_nil] at hB hF
  clear hu
  generalize w.heap.size + 1 + 1 = b4 at hB hF ⊢
  generalize w.heap.size + 1 = b3 at hB hF ⊢
  generalize w.heap.size = b2 at hB hF ⊢
  refine NoK.norm (hN _ _ ?_)
  clear hN K
  refine then_norm ?_
  refine wp_seq ?_
  refine wp_rd (w := w) allocs 8 [] [(0, 0), (0, 3), (0, 5), (1, 1), (0, 2), (1, 4), (1, 6), (1, 7)] (by kernel_rfl) (by kernel_rfl) (by simp only [List.drop_succ_cons, List.drop_zero]; exact rfl) (fun _ => True) noG hB hG trivial ?_
  intro K L hN hL
  simp only [pickOps, List.getElem?_toArray, List.getElem?_cons_zero, List.getElem?_cons_succ]
  apply gy
  · exact rfl
  · (rintro v ⟨hgu, hB, hG, -⟩ N hN; have r := hB.r; simp only [BxR] at r; go_simp; exact hN)
  refine okf (by simp only [Act.put, List.setIfInBounds_toArray, List.set_cons_succ, List.set_cons_zero]; exact rfl) ?_
  apply gy
  · exact rfl
  · (rintro v ⟨hgu, hB, hG, -⟩ N hN; have r := hB.r; simp only [BxR] at r; go_simp; exact hN)
  refine okf (by simp only [Act.put, List.setIfInBounds_toArray, List.set_cons_succ, List.set_cons_zero]; exact rfl) ?_
  apply gy
  · exact rfl
  · (rintro v ⟨hgu, hB, hG, -⟩ N hN; have r := hB.r; simp only [BxR] at r; go_simp; exact hN)
  refine okf (by simp only [Act.put, List.setIfInBounds_toArray, List.set_cons_succ, List.set_cons_zero]; exact rfl) ?_
  apply gm
  · exact rfl
  · (rintro v ⟨hgu, hB, hG, -⟩ N hN; go_simp; ((with_reducible refine (whole_Sign _ (by assumption) _).mono ?_); rintro e w1 ⟨rfl, hb⟩; exact ⟨_, rfl, hN _ hb⟩))
  refine okf (by simp only [Act.put, List.setIfInBounds_toArray, List.set_cons_succ, List.set_cons_zero]; exact rfl) ?_
  apply gy
  · exact rfl
  · (rintro v - N hN; go_simp; exact hN)
  refine okf (by simp only [Act.put, List.setIfInBounds_toArray, List.set_cons_succ, List.set_cons_zero]; exact rfl) ?_
  apply gm
  · exact rfl
  · (rintro v ⟨hgu, hB, hG, -⟩ N hN; go_simp; ((with_reducible refine (whole_Abs _ _).mono ?_); rintro e w1 ⟨rfl, hb⟩; exact ⟨_, rfl, hN _ hb⟩))
  refine okf (by simp only [Act.put, List.setIfInBounds_toArray, List.set_cons_succ, List.set_cons_zero]; exact rfl) ?_
  apply gm
  · exact rfl
  · (rintro v ⟨hgu, hB, hG, -⟩ N hN; go_simp; ((with_reducible refine (frac_over _ _ (by assumption) (by assumption) (by assumption) _).mono ?_); rintro e w1 ⟨rfl, hb⟩; exact ⟨_, rfl, hN _ hb⟩))
  refine okf (by simp only [Act.put, List.setIfInBounds_toArray, List.set_cons_succ, List.set_cons_zero]; exact rfl) ?_
  apply gm
  · exact rfl
  · (rintro v ⟨hgu, hB, hG, -⟩ N hN; go_simp; ((with_reducible refine (whole_From _ _ (by assumption) _).mono ?_); rintro e w1 ⟨rfl, hb⟩; exact ⟨_, rfl, hN _ hb⟩))
  refine okf (by simp only [Act.put, List.setIfInBounds_toArray, List.set_cons_succ, List.set_cons_zero]; exact rfl) ?_
  refine gend ?_
  rintro v ⟨hgu, hB1, hG1, -⟩
  clear hB hG
  have hB := hB1
  have hG := hG1
  clear hB1 hG1
  refine hL _ _ ?_
  clear hL L hgu
  obtain ⟨u, rfl⟩ : ∃ x, x = v := ⟨_, rfl⟩
  have r := hB.r
  simp only [BxR] at r
  go_wp2_with fail
  clear r
  generalize hu0 : World.setCell (World.setCell (World.setCell u _ _) _ _) _ _ = u0
  have hBG := hB.over hF hG 2 rfl 0 [_, _, _] hu0
  clear hB hG hu0
  simp only [List.modify_succ_cons, List.modify_zero_cons, wrAll, List.setIfInBounds_toArray, List.set_cons_zero, List.set_cons_succ, Nat.zero_add, Nat.reduceAdd] at hBG
  obtain ⟨hB, hG⟩ := hBG
  clear u
  obtain ⟨u, rfl⟩ : ∃ x, x = u0 := ⟨_, rfl⟩
  refine NoK.norm (hN _ _ ?_)
  clear hN K
  refine then_norm ?_
  refine wp_ret ?_
  refine ret_b rfl ?_
  intro N hN
  have r := hB.r
  simp only [BxR] at r
  simp only [results, Tryz.results73]
  go_simp
  refine hN _ ?_
  clear hN N r
  exact ⟨ret_intV (sgn_div n b), hG⟩

--! frac_times = frac_times _ _ SIDE _
set_option maxHeartbeats 400000 in
set_option maxRecDepth 100000 in
theorem frac_times (n : Int) (d : Nat) (h : bl n.natAbs + bl d ≤ 1099511627776) (w : World) : Calls Tryz.prog 71 #[intV n, natV d] w fun e w' => e = .returned (intV (ztm n d)) ∧ Grow w w' := by
  have hd : bl d ≤ 1099511627776 := by omega
  have h' : bl n.natAbs + bl (sgn false d).natAbs ≤ 1099511627776 := h
  go_enter Tryz.func71, Tryz.ntmps71
  refine wp_seq (wp_r0 ?_)
  intro K hN
  go_wp2_with fail
  generalize hu : World.alloc (World.alloc (World.alloc w _) _) _ = u
  obtain ⟨hB, hG⟩ := bx_first [(_, _), (_, _), (_, _)] w u hu
  have hF := fr_first w [(30, #[]), (28, #[]), (30, #[])]
  simp only [numbered, List.map_cons, List.map_nil] at hB hF
  clear hu
  generalize w.heap.size + 1 + 1 = b4 at hB hF ⊢
  generalize w.heap.size + 1 = b3 at hB hF ⊢
  generalize w.heap.size = b2 at hB hF ⊢
  refine NoK.norm (hN _ _ ?_)
  clear hN K
  refine then_norm ?_
  refine wp_seq ?_
  refine wp_rd (w := w) allocs 4 [] [(0, 0), (0, 1), (1, 2), (1, 3)] (by kernel_rfl) (by kernel_rfl) (by simp only [List.drop_succ_cons, List.drop_zero]; exact rfl) (fun _ => True) noG hB hG trivial ?_
  intro K L hN hL
  simp only [pickOps, List.getElem?_toArray, List.getElem?_cons_zero, List.getElem?_cons_succ]
  apply gy
  · exact rfl
  · (rintro v ⟨hgu, hB, hG, -⟩ N hN; have r := hB.r; simp only [BxR] at r; go_simp; exact hN)
  refine okf (by simp only [Act.put, List.setIfInBounds_toArray, List.set_cons_succ, List.set_cons_zero]; exact rfl) ?_
  apply gy
  · exact rfl
  · (rintro v ⟨hgu, hB, hG, -⟩ N hN; have r := hB.r; simp only [BxR] at r; go_simp; exact hN)
  refine okf (by simp only [Act.put, List.setIfInBounds_toArray, List.set_cons_succ, List.set_cons_zero]; exact rfl) ?_
  apply gm
  · exact rfl
  · (rintro v ⟨hgu, hB, hG, -⟩ N hN; go_simp; ((with_reducible refine (whole_From _ _ (by assumption) _).mono ?_); rintro e w1 ⟨rfl, hb⟩; exact ⟨_, rfl, hN _ hb⟩))
  refine okf (by simp only [Act.put, List.setIfInBounds_toArray, List.set_cons_succ, List.set_cons_zero]; exact rfl) ?_
  apply gm
  · exact rfl
  · (rintro v ⟨hgu, hB, hG, -⟩ N hN; go_simp; ((with_reducible refine (whole_Mul _ _ (by assumption) _).mono ?_); rintro e w1 ⟨rfl, hb⟩; exact ⟨_, rfl, hN _ hb⟩))
  refine okf (by simp only [Act.put, List.setIfInBounds_toArray, List.set_cons_succ, List.set_cons_zero]; exact rfl) ?_
  refine gend ?_
  rintro v ⟨hgu, hB1, hG1, -⟩
  clear hB hG
  have hB := hB1
  have hG := hG1
  clear hB1 hG1
  refine hL _ _ ?_
  clear hL L hgu
  obtain ⟨u, rfl⟩ : ∃ x, x = v := ⟨_, rfl⟩
  have r := hB.r
  simp only [BxR] at r
  go_wp2_with fail
  clear r
  generalize hu0 : World.setCell (World.setCell (World.setCell u _ _) _ _) _ _ = u0
  have hBG := hB.over hF hG 2 rfl 0 [_, _, _] hu0
  clear hB hG hu0
  simp only [List.modify_succ_cons, List.modify_zero_cons, wrAll, List.setIfInBounds_toArray, List.set_cons_zero, List.set_cons_succ, Nat.zero_add, Nat.reduceAdd] at hBG
  obtain ⟨hB, hG⟩ := hBG
  clear u
  obtain ⟨u, rfl⟩ : ∃ x, x = u0 := ⟨_, rfl⟩
  refine NoK.norm (hN _ _ ?_)
  clear hN K
  refine then_norm ?_
  refine wp_ret ?_
  refine ret_b rfl ?_
  intro N hN
  have r := hB.r
  simp only [BxR] at r
  simp only [results, Tryz.results71]
  go_simp
  refine hN _ ?_
  clear hN N r
  exact ⟨rfl, hG⟩

theorem gcd_nd (n : Int) (d : Nat) (hn : bl n.natAbs ≤ BIG) (hd : bl d ≤ BIG) (w : World) (HT : Tab w) : Calls Tryz.prog 67 #[intV n, intV (sgn false d)] w fun e w' => e = .returned (natV (Nat.gcd n.natAbs d)) ∧ Grow w w' := by
  have := whole_Gcd n (sgn false d) hn (by rw [sgn_abs]; exact hd) w HT
  rw [sgn_abs] at this
  exact this
theorem gcd_dd (c d : Nat) (hc : bl c ≤ BIG) (hd : bl d ≤ BIG) (w : World) (HT : Tab w) : Calls Tryz.prog 67 #[intV (sgn false c), intV (sgn false d)] w fun e w' => e = .returned (natV (Nat.gcd c d)) ∧ Grow w w' := by
  have := gcd_nd (sgn false c) d (by rw [sgn_abs]; exact hc) hd w HT
  rw [sgn_abs] at this
  exact this
--! frac_lowest = frac_lowest _ _ SIDE SIDE SIDE _ (HT.grow hG)
set_option maxHeartbeats 1000000 in
set_option maxRecDepth 100000 in
theorem frac_lowest (n : Int) (d : Nat) (hn : bl n.natAbs ≤ BIG) (hd : bl d ≤ BIG) (h0 : d ≠ 0) (w : World) (HT : Tab w) : Calls Tryz.prog 140 #[intV n, natV d] w fun e w' => e = .returned (qV (mkRat n d)) ∧ Grow w w' := by
  have hd' := fits_most hd
  have hg : bl (Nat.gcd n.natAbs d) ≤ BIG := Nat.le_trans (bl_gcd_le' _ _ h0) hd
  have hg0 : Nat.gcd n.natAbs d ≠ 0 := fun e => h0 (Nat.eq_zero_of_gcd_eq_zero_right e)
  have hdd : bl (d / Nat.gcd n.natAbs d) ≤ 1099511627776 := Nat.le_trans (bl_div_le _ _) hd'
  go_enter Tryz.func140, Tryz.ntmps140
  refine wp_seq (wp_r0 ?_)
  intro K hN
  go_wp2_with fail
  generalize hu : World.alloc (World.alloc (World.alloc w _) _) _ = u
  obtain ⟨hB, hG⟩ := bx_first [(_, _), (_, _), (_, _)] w u hu
  have hF := fr_first w [(30, #[]), (28, #[]), (32, #[])]
  simp only [numbered, List.map_cons, List.map_nil] at hB hF
  clear hu
  generalize w.heap.size + 1 + 1 = b4 at hB hF ⊢
  generalize w.heap.size + 1 = b3 at hB hF ⊢
  generalize w.heap.size = b2 at hB hF ⊢
  refine NoK.norm (hN _ _ ?_)
  clear hN K
  refine then_norm ?_
  refine wp_seq ?_
  refine wp_rd (w := w) allocs 5 [] [(0, 0), (0, 1), (1, 2), (1, 3), (2, 4)] (by kernel_rfl) (by kernel_rfl) (by simp only [List.drop_succ_cons, List.drop_zero]; exact rfl) (fun _ => True) noG hB hG trivial ?_
  intro K L hN hL
  simp only [pickOps, List.getElem?_toArray, List.getElem?_cons_zero, List.getElem?_cons_succ]
  apply gy
  · exact rfl
  · (rintro v ⟨hgu, hB, hG, -⟩ N hN; have r := hB.r; simp only [BxR] at r; go_simp; exact hN)
  refine okf (by simp only [Act.put, List.setIfInBounds_toArray, List.set_cons_succ, List.set_cons_zero]; exact rfl) ?_
  apply gy
  · exact rfl
  · (rintro v ⟨hgu, hB, hG, -⟩ N hN; have r := hB.r; simp only [BxR] at r; go_simp; exact hN)
  refine okf (by simp only [Act.put, List.setIfInBounds_toArray, List.set_cons_succ, List.set_cons_zero]; exact rfl) ?_
  apply gm
  · exact rfl
  · (rintro v ⟨hgu, hB, hG, -⟩ N hN; go_simp; ((with_reducible refine (whole_From _ _ (by assumption) _).mono ?_); rintro e w1 ⟨rfl, hb⟩; exact ⟨_, rfl, hN _ hb⟩))
  refine okf (by simp only [Act.put, List.setIfInBounds_toArray, List.set_cons_succ, List.set_cons_zero]; exact rfl) ?_
  apply gm
  · exact rfl
  · (rintro v ⟨hgu, hB, hG, -⟩ N hN; go_simp; ((with_reducible refine (gcd_nd n d hn hd _ (HT.grow hG)).mono ?_); rintro e w1 ⟨rfl, hb⟩; exact ⟨_, rfl, hN _ hb⟩))
  refine okf (by simp only [Act.put, List.setIfInBounds_toArray, List.set_cons_succ, List.set_cons_zero]; exact rfl) ?_
  refine ga (newObj_Nat _ _ _ _ _) fun b5 hb5 hn5 => ?_
  refine okf (by simp only [Act.put, List.setIfInBounds_toArray, List.set_cons_succ, List.set_cons_zero]; exact rfl) ?_
  refine gend ?_
  rintro v ⟨⟨hgu, hB1, hG1, -⟩, h5⟩
  have hF := Fr.new (tk := []) hF hB hG hb5 hn5
  simp only [List.cons_append, List.nil_append, List.map_cons, List.map_nil] at hF
  clear hB hG
  have hB := (Bx.cons h5 hB1)
  have hG := hG1
  clear hB1 hG1 h5
  refine hL _ _ ?_
  clear hL L hgu
  obtain ⟨u, rfl⟩ : ∃ x, x = v := ⟨_, rfl⟩
  have r := hB.r
  simp only [BxR] at r
  go_wp2_with fail
  clear r
  generalize hu0 : World.setCell (World.setCell u _ _) _ _ = u0
  have hBG := hB.over hF hG 0 rfl 0 [_, _] hu0
  clear hB hG hu0
  simp only [List.modify_succ_cons, List.modify_zero_cons, wrAll, List.setIfInBounds_toArray, List.set_cons_zero, List.set_cons_succ, Nat.zero_add, Nat.reduceAdd] at hBG
  obtain ⟨hB, hG⟩ := hBG
  clear u
  obtain ⟨u, rfl⟩ : ∃ x, x = u0 := ⟨_, rfl⟩
  refine NoK.norm (hN _ _ ?_)
  clear hN K
  refine then_norm ?_
  refine wp_seq ?_
  refine wp_rd (w := w) allocs 7 [] [(0, 0), (0, 1), (0, 3), (0, 4), (1, 2), (1, 5), (1, 6)] (by kernel_rfl) (by kernel_rfl) (by simp only [List.drop_succ_cons, List.drop_zero]; exact rfl) (fun _ => True) noG hB hG trivial ?_
  intro K L hN hL
  simp only [pickOps, List.getElem?_toArray, List.getElem?_cons_zero, List.getElem?_cons_succ]
  apply gy
  · exact rfl
  · (rintro v ⟨hgu, hB, hG, -⟩ N hN; have r := hB.r; simp only [BxR] at r; go_simp; exact hN)
  refine okf (by simp only [Act.put, List.setIfInBounds_toArray, List.set_cons_succ, List.set_cons_zero]; exact rfl) ?_
  apply gy
  · exact rfl
  · (rintro v ⟨hgu, hB, hG, -⟩ N hN; have r := hB.r; simp only [BxR] at r; go_simp; exact hN)
  refine okf (by simp only [Act.put, List.setIfInBounds_toArray, List.set_cons_succ, List.set_cons_zero]; exact rfl) ?_
  apply gy
  · exact rfl
  · (rintro v ⟨hgu, hB, hG, -⟩ N hN; have r := hB.r; simp only [BxR] at r; go_simp; exact hN)
  refine okf (by simp only [Act.put, List.setIfInBounds_toArray, List.set_cons_succ, List.set_cons_zero]; exact rfl) ?_
  apply gy
  · exact rfl
  · (rintro v ⟨hgu, hB, hG, -⟩ N hN; have r := hB.r; simp only [BxR] at r; go_simp; exact hN)
  refine okf (by simp only [Act.put, List.setIfInBounds_toArray, List.set_cons_succ, List.set_cons_zero]; exact rfl) ?_
  apply gm
  · exact rfl
  · (rintro v ⟨hgu, hB, hG, -⟩ N hN; go_simp; ((with_reducible refine (frac_part n (Nat.gcd n.natAbs d) hn hg hg0 _).mono ?_); rintro e w1 ⟨rfl, hb⟩; exact ⟨_, rfl, hN _ hb⟩))
  refine okf (by simp only [Act.put, List.setIfInBounds_toArray, List.set_cons_succ, List.set_cons_zero]; exact rfl) ?_
  apply gm
  · exact rfl
  · (rintro v ⟨hgu, hB, hG, -⟩ N hN; go_simp; ((with_reducible refine (frac_over d (Nat.gcd n.natAbs d) hd hg hg0 _).mono ?_); rintro e w1 ⟨rfl, hb⟩; exact ⟨_, rfl, hN _ hb⟩))
  refine okf (by simp only [Act.put, List.setIfInBounds_toArray, List.set_cons_succ, List.set_cons_zero]; exact rfl) ?_
  apply gm
  · exact rfl
  · (rintro v ⟨hgu, hB, hG, -⟩ N hN; go_simp; ((with_reducible refine (frac_pack _ _ (by assumption) _).mono ?_); rintro e w1 ⟨rfl, hb⟩; exact ⟨_, rfl, hN _ hb⟩))
  refine okf (by simp only [Act.put, List.setIfInBounds_toArray, List.set_cons_succ, List.set_cons_zero]; exact rfl) ?_
  refine gend ?_
  rintro v ⟨hgu, hB1, hG1, -⟩
  clear hB hG
  have hB := hB1
  have hG := hG1
  clear hB1 hG1
  refine hL _ _ ?_
  clear hL L hgu
  obtain ⟨u, rfl⟩ : ∃ x, x = v := ⟨_, rfl⟩
  have r := hB.r
  simp only [BxR] at r
  go_wp2_with fail
  clear r
  generalize hu0 : World.setCell (World.setCell (World.setCell (World.setCell (World.setCell u _ _) _ _) _ _) _ _) _ _ = u0
  have hBG := hB.over hF hG 3 rfl 0 [_, _, _, _, _] hu0
  clear hB hG hu0
  simp only [List.modify_succ_cons, List.modify_zero_cons, wrAll, List.setIfInBounds_toArray, List.set_cons_zero, List.set_cons_succ, Nat.zero_add, Nat.reduceAdd] at hBG
  obtain ⟨hB, hG⟩ := hBG
  clear u
  obtain ⟨u, rfl⟩ : ∃ x, x = u0 := ⟨_, rfl⟩
  refine NoK.norm (hN _ _ ?_)
  clear hN K
  refine then_norm ?_
  refine wp_ret ?_
  refine ret_b rfl ?_
  intro N hN
  have r := hB.r
  simp only [BxR] at r
  simp only [results, Tryz.results140]
  go_simp
  refine hN _ ?_
  clear hN N r
  exact ⟨ret_nqV (num_low n d h0) (den_low n d h0), hG⟩
end Go.Proofs.YtimjnkfcnpfoeaaGreatDoor

/-
  Contracts of package frac: Of, Make, Over, Cmp, Neg, Abs, Add, Sub, Mul, Div.
-/
namespace Go.Proofs.YtimjnkfcnpfoeaaGreatDoor
open Go.RowKit

/-- the operations under names that simp does not open -/
def qadd (a b : Rat) : Rat := a + b
def qsub (a b : Rat) : Rat := a - b
def qmul (a b : Rat) : Rat := a * b
def qdiv (a b : Rat) : Rat := a / b
def qneg (a : Rat) : Rat := -a
def qabs (a : Rat) : Rat := a.abs
def qint (n : Int) : Rat := (n : Rat)
def nz (d : Int) : Bool := decide (d ≠ 0)
def nzq (q : Rat) : Bool := decide (q ≠ 0)
def qover (n d : Int) : Rat := Rat.divInt n d
theorem qint_num (n : Int) : (qint n).num = n := Rat.num_intCast n
theorem qint_den (n : Int) : (qint n).den = 1 := Rat.den_intCast n

--! frac_Of = frac_Of _ SIDE SIDE _
set_option maxHeartbeats 400000 in
set_option maxRecDepth 100000 in
theorem frac_Of (n : Int) (h0 : -9223372036854775808 ≤ n) (h1 : n ≤ 9223372036854775807) (w : World) : Calls Tryz.prog 23 #[.int .i64 n] w fun e w' => e = .returned (qV (qint n)) ∧ Grow w w' := by
  go_enter Tryz.func23, Tryz.ntmps23
  refine wp_seq (wp_r0 ?_)
  intro K hN
  go_wp2_with fail
  generalize hu : World.alloc w _ = u
  obtain ⟨hB, hG⟩ := bx_first [(_, _)] w u hu
  have hF := fr_first w [(32, #[])]
  simp only [numbered, List.map_cons, List.map_nil] at hB hF
  clear hu
  generalize w.heap.size = b2 at hB hF ⊢
  refine NoK.norm (hN _ _ ?_)
  clear hN K
  refine then_norm ?_
  refine wp_seq ?_
  refine wp_rs (w := w) allocs 3 [0, 1, 0] (by kernel_rfl) (by simp only [List.drop_succ_cons, List.drop_zero]; exact rfl) (fun _ => True) noG hB hG trivial ?_
  intro K L hN hL
  simp only [List.zip_cons_cons, List.zip_nil_left]
  apply gy
  · exact rfl
  · (rintro v - N hN; go_simp; exact hN)
  refine okf (by simp only [Act.put, List.setIfInBounds_toArray, List.set_cons_succ, List.set_cons_zero]; exact rfl) ?_
  apply gm
  · exact rfl
  · (rintro v ⟨hgu, hB, hG, -⟩ N hN; go_simp; ((with_reducible refine (whole_Of _ (by assumption) (by assumption) _).mono ?_); rintro e w1 ⟨rfl, hb⟩; exact ⟨_, rfl, hN _ hb⟩))
  refine okf (by simp only [Act.put, List.setIfInBounds_toArray, List.set_cons_succ, List.set_cons_zero]; exact rfl) ?_
  apply gy
  · exact rfl
  · (rintro v - N hN; go_simp; exact hN)
  refine okf (by simp only [Act.put, List.setIfInBounds_toArray, List.set_cons_succ, List.set_cons_zero]; exact rfl) ?_
  refine gend ?_
  rintro v ⟨hgu, hB1, hG1, -⟩
  clear hB hG
  have hB := hB1
  have hG := hG1
  clear hB1 hG1
  refine hL _ _ ?_
  clear hL L hgu
  obtain ⟨u, rfl⟩ : ∃ x, x = v := ⟨_, rfl⟩
  have r := hB.r
  simp only [BxR] at r
  go_wp2_with fail
  clear r
  generalize hu0 : World.setCell (World.setCell (World.setCell (World.setCell (World.setCell u _ _) _ _) _ _) _ _) _ _ = u0
  have hBG := hB.over hF hG 0 rfl 0 [_, _, _, _, _] hu0
  clear hB hG hu0
  simp only [List.modify_succ_cons, List.modify_zero_cons, wrAll, List.setIfInBounds_toArray, List.set_cons_zero, List.set_cons_succ, Nat.zero_add, Nat.reduceAdd] at hBG
  obtain ⟨hB, hG⟩ := hBG
  clear u
  obtain ⟨u, rfl⟩ : ∃ x, x = u0 := ⟨_, rfl⟩
  refine NoK.norm (hN _ _ ?_)
  clear hN K
  refine then_norm ?_
  refine wp_ret ?_
  refine ret_b rfl ?_
  intro N hN
  have r := hB.r
  simp only [BxR] at r
  simp only [results, Tryz.results23]
  go_simp
  refine hN _ ?_
  clear hN N r
  exact ⟨ret_nqV (d := 1) (qint_num n) (qint_den n), hG⟩

theorem over_pos (n d : Int) (h : ¬ d < 0) : qover n d = mkRat n d.natAbs := by
  obtain ⟨m, rfl⟩ : ∃ m : Nat, d = (m : Int) := ⟨d.natAbs, by omega⟩
  unfold qover
  rw [Rat.divInt_ofNat, Int.natAbs_natCast]
theorem over_neg (n d : Int) (h : d < 0) : qover n d = mkRat (zneg n) d.natAbs := by
  obtain ⟨m, rfl⟩ : ∃ m : Nat, d = -(m : Int) := ⟨d.natAbs, by omega⟩
  unfold qover zneg
  rw [Rat.divInt_neg', Rat.divInt_ofNat, Int.natAbs_neg, Int.natAbs_natCast]
theorem bl_zneg (z : Int) : bl (zneg z).natAbs = bl z.natAbs := by unfold zneg; rw [Int.natAbs_neg]
theorem ret_qb {p q : Rat} {a b : Bool} (h : p = q) (h' : a = b) : Ending.returned (.tuple #[qV p, .bool a]) = .returned (.tuple #[qV q, .bool b]) := by rw [h, h']

--! frac_Make = frac_Make _ _ SIDE SIDE _ (HT.grow hG)
set_option maxHeartbeats 1000000 in
set_option maxRecDepth 100000 in
theorem frac_Make (n d : Int) (hn : bl n.natAbs ≤ BIG) (hd : bl d.natAbs ≤ BIG) (w : World) (HT : Tab w) : Calls Tryz.prog 99 #[intV n, intV d] w fun e w' => e = .returned (.tuple #[qV (qover n d), .bool (nz d)]) ∧ Grow w w' := by
  have hn' := fits_most hn
  have hd' := fits_most hd
  have hz : bl (zneg n).natAbs ≤ BIG := by rw [bl_zneg]; exact hn
  go_enter Tryz.func99, Tryz.ntmps99
  refine wp_seq (wp_r0 ?_)
  intro K hN
  go_wp2_with fail
  generalize hu : World.alloc (World.alloc (World.alloc w _) _) _ = u
  obtain ⟨hB, hG⟩ := bx_first [(_, _), (_, _), (_, _)] w u hu
  have hF := fr_first w [(30, #[]), (30, #[]), (32, #[])]
  simp only [numbered, List.map_cons, List.map_nil] at hB hF
  clear hu
  generalize w.heap.size + 1 + 1 = b4 at hB hF ⊢
  generalize w.heap.size + 1 = b3 at hB hF ⊢
  generalize w.heap.size = b2 at hB hF ⊢
  refine NoK.norm (hN _ _ ?_)
  clear hN K
  refine then_norm ?_
  refine wp_seq ?_
  refine wp_seq ?_
  refine wp_rs (w := w) allocs 3 [0, 1, 0] (by kernel_rfl) (by simp only [List.drop_succ_cons, List.drop_nil]; exact rfl) (fun _ => True) noG hB hG trivial ?_
  intro K L hN hL
  simp only [List.zip_cons_cons, List.zip_nil_left]
  apply gy
  · exact rfl
  · (rintro v ⟨hgu, hB, hG, -⟩ N hN; have r := hB.r; simp only [BxR] at r; go_simp; exact hN)
  refine okf (by simp only [Act.put, List.setIfInBounds_toArray, List.set_cons_succ, List.set_cons_zero]; exact rfl) ?_
  apply gm
  · exact rfl
  · (rintro v ⟨hgu, hB, hG, -⟩ N hN; go_simp; ((with_reducible refine (whole_Sign _ (by assumption) _).mono ?_); rintro e w1 ⟨rfl, hb⟩; exact ⟨_, rfl, hN _ hb⟩))
  refine okf (by simp only [Act.put, List.setIfInBounds_toArray, List.set_cons_succ, List.set_cons_zero]; exact rfl) ?_
  apply gy
  · exact rfl
  · (rintro v - N hN; go_simp; exact hN)
  refine okf (by simp only [Act.put, List.setIfInBounds_toArray, List.set_cons_succ, List.set_cons_zero]; exact rfl) ?_
  refine gend ?_
  rintro v ⟨hgu, hB1, hG1, -⟩
  clear hB hG
  have hB := hB1
  have hG := hG1
  clear hB1 hG1
  refine hL _ _ ?_
  clear hL L hgu
  obtain ⟨u, rfl⟩ : ∃ x, x = v := ⟨_, rfl⟩
  refine wpList_nil ?_
  refine NoK.norm (hN _ _ ?_)
  clear hN K
  refine then_norm ?_
  refine wp_cond_split rfl ?_ ?_
  · intro ht
    have ht8 := ht
    refine wp_seq ?_
    refine wp_r0 ?_
    intro K hN
    have r := hB.r
    simp only [BxR] at r
    go_wp2_with fail
    clear r
    generalize hu0 : World.setCell (World.setCell (World.setCell (World.setCell (World.setCell u _ _) _ _) _ _) _ _) _ _ = u0
    have hBG := hB.over hF hG 2 rfl 0 [_, _, _, _, _] hu0
    clear hB hG hu0
    simp only [List.modify_succ_cons, List.modify_zero_cons, wrAll, List.setIfInBounds_toArray, List.set_cons_zero, List.set_cons_succ, Nat.zero_add, Nat.reduceAdd] at hBG
    obtain ⟨hB, hG⟩ := hBG
    clear u
    obtain ⟨u, rfl⟩ : ∃ x, x = u0 := ⟨_, rfl⟩
    refine NoK.norm (hN _ _ ?_)
    clear hN K
    refine then_norm ?_
    refine wp_ret ?_
    refine then_ret ?_
    refine ret_b rfl ?_
    intro N hN
    have r := hB.r
    simp only [BxR] at r
    simp only [results, Tryz.results99]
    go_simp
    refine hN _ ?_
    clear hN N r
    have e : d = 0 := by simpa using ht
    subst e
    exact ⟨ret_qb (p := 0) (by unfold qover; rw [Rat.divInt_zero]) rfl, hG⟩
  · intro ht
    have ht8 := ht
    have hd0 : d.natAbs ≠ 0 := fun e => by
      have : d = 0 := by omega
      rw [this] at ht
      simp at ht
    refine wp_skip ?_
    refine then_norm ?_
    refine wp_seq ?_
    refine wp_seq ?_
    refine wp_rs (w := w) allocs 3 [0, 1, 0] (by kernel_rfl) (by simp only [List.drop_succ_cons, List.drop_nil]; exact rfl) (fun _ => True) noG hB hG trivial ?_
    intro K L hN hL
    simp only [List.zip_cons_cons, List.zip_nil_left]
    apply gy
    · exact rfl
    · (rintro v ⟨hgu, hB, hG, -⟩ N hN; have r := hB.r; simp only [BxR] at r; go_simp; exact hN)
    refine okf (by simp only [Act.put, List.setIfInBounds_toArray, List.set_cons_succ, List.set_cons_zero]; exact rfl) ?_
    apply gm
    · exact rfl
    · (rintro v ⟨hgu, hB, hG, -⟩ N hN; go_simp; ((with_reducible refine (whole_Sign _ (by assumption) _).mono ?_); rintro e w1 ⟨rfl, hb⟩; exact ⟨_, rfl, hN _ hb⟩))
    refine okf (by simp only [Act.put, List.setIfInBounds_toArray, List.set_cons_succ, List.set_cons_zero]; exact rfl) ?_
    apply gy
    · exact rfl
    · (rintro v - N hN; go_simp; exact hN)
    refine okf (by simp only [Act.put, List.setIfInBounds_toArray, List.set_cons_succ, List.set_cons_zero]; exact rfl) ?_
    refine gend ?_
    rintro v ⟨hgu, hB1, hG1, -⟩
    clear hB hG
    have hB := hB1
    have hG := hG1
    clear hB1 hG1
    refine hL _ _ ?_
    clear hL L hgu
    obtain ⟨u, rfl⟩ : ∃ x, x = v := ⟨_, rfl⟩
    refine wpList_nil ?_
    refine NoK.norm (hN _ _ ?_)
    clear hN K
    refine then_norm ?_
    refine wp_cond_split rfl ?_ ?_
    · intro ht
      have ht12 := ht
      refine wp_rs (w := w) allocs 2 [0, 1] (by kernel_rfl) (by simp only [List.drop_succ_cons, List.drop_zero]; exact rfl) (fun _ => True) noG hB hG trivial ?_
      intro K L hN hL
      simp only [List.zip_cons_cons, List.zip_nil_left]
      apply gy
      · exact rfl
      · (rintro v ⟨hgu, hB, hG, -⟩ N hN; have r := hB.r; simp only [BxR] at r; go_simp; exact hN)
      refine okf (by simp only [Act.put, List.setIfInBounds_toArray, List.set_cons_succ, List.set_cons_zero]; exact rfl) ?_
      apply gm
      · exact rfl
      · (rintro v ⟨hgu, hB, hG, -⟩ N hN; go_simp; ((with_reducible refine (whole_Neg _ (by assumption) _).mono ?_); rintro e w1 ⟨rfl, hb⟩; exact ⟨_, rfl, hN _ hb⟩))
      refine okf (by simp only [Act.put, List.setIfInBounds_toArray, List.set_cons_succ, List.set_cons_zero]; exact rfl) ?_
      refine gend ?_
      rintro v ⟨hgu, hB1, hG1, -⟩
      clear hB hG
      have hB := hB1
      have hG := hG1
      clear hB1 hG1
      refine hL _ _ ?_
      clear hL L hgu
      obtain ⟨u, rfl⟩ : ∃ x, x = v := ⟨_, rfl⟩
      have r := hB.r
      simp only [BxR] at r
      go_wp2_with fail
      clear r
      generalize hu0 : World.setCell (World.setCell (World.setCell u _ _) _ _) _ _ = u0
      have hBG := hB.over hF hG 0 rfl 0 [_, _, _] hu0
      clear hB hG hu0
      simp only [List.modify_succ_cons, List.modify_zero_cons, wrAll, List.setIfInBounds_toArray, List.set_cons_zero, List.set_cons_succ, Nat.zero_add, Nat.reduceAdd] at hBG
      obtain ⟨hB, hG⟩ := hBG
      clear u
      obtain ⟨u, rfl⟩ : ∃ x, x = u0 := ⟨_, rfl⟩
      refine NoK.norm (hN _ _ ?_)
      clear hN K
      refine then_norm ?_
      refine wp_seq ?_
      refine wp_rd (w := w) allocs 4 [] [(0, 0), (0, 1), (1, 2), (1, 3)] (by kernel_rfl) (by kernel_rfl) (by simp only [List.drop_succ_cons, List.drop_zero]; exact rfl) (fun _ => True) noG hB hG trivial ?_
      intro K L hN hL
      simp only [pickOps, List.getElem?_toArray, List.getElem?_cons_zero, List.getElem?_cons_succ]
      apply gy
      · exact rfl
      · (rintro v ⟨hgu, hB, hG, -⟩ N hN; have r := hB.r; simp only [BxR] at r; go_simp; exact hN)
      refine okf (by simp only [Act.put, List.setIfInBounds_toArray, List.set_cons_succ, List.set_cons_zero]; exact rfl) ?_
      apply gy
      · exact rfl
      · (rintro v ⟨hgu, hB, hG, -⟩ N hN; have r := hB.r; simp only [BxR] at r; go_simp; exact hN)
      refine okf (by simp only [Act.put, List.setIfInBounds_toArray, List.set_cons_succ, List.set_cons_zero]; exact rfl) ?_
      apply gm
      · exact rfl
      · (rintro v ⟨hgu, hB, hG, -⟩ N hN; go_simp; ((with_reducible refine (whole_Abs _ _).mono ?_); rintro e w1 ⟨rfl, hb⟩; exact ⟨_, rfl, hN _ hb⟩))
      refine okf (by simp only [Act.put, List.setIfInBounds_toArray, List.set_cons_succ, List.set_cons_zero]; exact rfl) ?_
      apply gm
      · exact rfl
      · (rintro v ⟨hgu, hB, hG, -⟩ N hN; go_simp; ((with_reducible refine (frac_lowest _ _ (by assumption) (by assumption) (by assumption) _ (HT.grow hG)).mono ?_); rintro e w1 ⟨rfl, hb⟩; exact ⟨_, rfl, hN _ hb⟩))
      refine okf (by simp only [Act.put, List.setIfInBounds_toArray, List.set_cons_succ, List.set_cons_zero]; exact rfl) ?_
      refine gend ?_
      rintro v ⟨hgu, hB1, hG1, -⟩
      clear hB hG
      have hB := hB1
      have hG := hG1
      clear hB1 hG1
      refine hL _ _ ?_
      clear hL L hgu
      obtain ⟨u, rfl⟩ : ∃ x, x = v := ⟨_, rfl⟩
      have r := hB.r
      simp only [BxR] at r
      go_wp2_with fail
      clear r
      generalize hu0 : World.setCell (World.setCell (World.setCell (World.setCell (World.setCell u _ _) _ _) _ _) _ _) _ _ = u0
      have hBG := hB.over hF hG 2 rfl 0 [_, _, _, _, _] hu0
      clear hB hG hu0
      simp only [List.modify_succ_cons, List.modify_zero_cons, wrAll, List.setIfInBounds_toArray, List.set_cons_zero, List.set_cons_succ, Nat.zero_add, Nat.reduceAdd] at hBG
      obtain ⟨hB, hG⟩ := hBG
      clear u
      obtain ⟨u, rfl⟩ : ∃ x, x = u0 := ⟨_, rfl⟩
      refine NoK.norm (hN _ _ ?_)
      clear hN K
      refine then_norm ?_
      refine wp_ret ?_
      refine ret_b rfl ?_
      intro N hN
      have r := hB.r
      simp only [BxR] at r
      simp only [results, Tryz.results99]
      go_simp
      refine hN _ ?_
      clear hN N r
      have e : d < 0 := by simpa using ht
      exact ⟨ret_qb (over_neg n d e).symm (decide_eq_true (by omega)).symm, hG⟩
    · intro ht
      have ht12 := ht
      refine wp_skip ?_
      refine then_norm ?_
      refine wp_seq ?_
      refine wp_rd (w := w) allocs 4 [] [(0, 0), (0, 1), (1, 2), (1, 3)] (by kernel_rfl) (by kernel_rfl) (by simp only [List.drop_succ_cons, List.drop_zero]; exact rfl) (fun _ => True) noG hB hG trivial ?_
      intro K L hN hL
      simp only [pickOps, List.getElem?_toArray, List.getElem?_cons_zero, List.getElem?_cons_succ]
      apply gy
      · exact rfl
      · (rintro v ⟨hgu, hB, hG, -⟩ N hN; have r := hB.r; simp only [BxR] at r; go_simp; exact hN)
      refine okf (by simp only [Act.put, List.setIfInBounds_toArray, List.set_cons_succ, List.set_cons_zero]; exact rfl) ?_
      apply gy
      · exact rfl
      · (rintro v ⟨hgu, hB, hG, -⟩ N hN; have r := hB.r; simp only [BxR] at r; go_simp; exact hN)
      refine okf (by simp only [Act.put, List.setIfInBounds_toArray, List.set_cons_succ, List.set_cons_zero]; exact rfl) ?_
      apply gm
      · exact rfl
      · (rintro v ⟨hgu, hB, hG, -⟩ N hN; go_simp; ((with_reducible refine (whole_Abs _ _).mono ?_); rintro e w1 ⟨rfl, hb⟩; exact ⟨_, rfl, hN _ hb⟩))
      refine okf (by simp only [Act.put, List.setIfInBounds_toArray, List.set_cons_succ, List.set_cons_zero]; exact rfl) ?_
      apply gm
      · exact rfl
      · (rintro v ⟨hgu, hB, hG, -⟩ N hN; go_simp; ((with_reducible refine (frac_lowest _ _ (by assumption) (by assumption) (by assumption) _ (HT.grow hG)).mono ?_); rintro e w1 ⟨rfl, hb⟩; exact ⟨_, rfl, hN _ hb⟩))
      refine okf (by simp only [Act.put, List.setIfInBounds_toArray, List.set_cons_succ, List.set_cons_zero]; exact rfl) ?_
      refine gend ?_
      rintro v ⟨hgu, hB1, hG1, -⟩
      clear hB hG
      have hB := hB1
      have hG := hG1
      clear hB1 hG1
      refine hL _ _ ?_
      clear hL L hgu
      obtain ⟨u, rfl⟩ : ∃ x, x = v := ⟨_, rfl⟩
      have r := hB.r
      simp only [BxR] at r
      go_wp2_with fail
      clear r
      generalize hu0 : World.setCell (World.setCell (World.setCell (World.setCell (World.setCell u _ _) _ _) _ _) _ _) _ _ = u0
      have hBG := hB.over hF hG 2 rfl 0 [_, _, _, _, _] hu0
      clear hB hG hu0
      simp only [List.modify_succ_cons, List.modify_zero_cons, wrAll, List.setIfInBounds_toArray, List.set_cons_zero, List.set_cons_succ, Nat.zero_add, Nat.reduceAdd] at hBG
      obtain ⟨hB, hG⟩ := hBG
      clear u
      obtain ⟨u, rfl⟩ : ∃ x, x = u0 := ⟨_, rfl⟩
      refine NoK.norm (hN _ _ ?_)
      clear hN K
      refine then_norm ?_
      refine wp_ret ?_
      refine ret_b rfl ?_
      intro N hN
      have r := hB.r
      simp only [BxR] at r
      simp only [results, Tryz.results99]
      go_simp
      refine hN _ ?_
      clear hN N r
      have e : ¬ d < 0 := by simpa using ht
      exact ⟨ret_qb (over_pos n d e).symm (decide_eq_true (by omega)).symm, hG⟩

theorem bl_i64 {n : Int} (h0 : -9223372036854775808 ≤ n) (h1 : n ≤ 9223372036854775807) : bl n.natAbs ≤ BIG := by
  refine Nat.le_trans (bl_le.2 ?_) BIG_ge
  have : (2 : Nat) ^ 64 = 18446744073709551616 := rfl
  omega
--! frac_Over = frac_Over _ _ SIDE SIDE SIDE SIDE _ (HT.grow hG)
set_option maxHeartbeats 400000 in
set_option maxRecDepth 100000 in
theorem frac_Over (n d : Int) (h0 : -9223372036854775808 ≤ n) (h1 : n ≤ 9223372036854775807) (h2 : -9223372036854775808 ≤ d) (h3 : d ≤ 9223372036854775807) (w : World) (HT : Tab w) : Calls Tryz.prog 51 #[.int .i64 n, .int .i64 d] w fun e w' => e = .returned (.tuple #[qV (qover n d), .bool (nz d)]) ∧ Grow w w' := by
  have hn := bl_i64 h0 h1
  have hd := bl_i64 h2 h3
  go_enter Tryz.func51, Tryz.ntmps51
  refine wp_seq (wp_r0 ?_)
  intro K hN
  go_wp2_with fail
  generalize hu : World.alloc w _ = u
  obtain ⟨hB, hG⟩ := bx_first [(_, _)] w u hu
  have hF := fr_first w [(32, #[])]
  simp only [numbered, List.map_cons, List.map_nil] at hB hF
  clear hu
  generalize w.heap.size = b4 at hB hF ⊢
  refine NoK.norm (hN _ _ ?_)
  clear hN K
  refine then_norm ?_
  refine wp_seq ?_
  refine wp_rs (w := w) allocs 7 [0, 1, 0, 1, 1, 0, 0] (by kernel_rfl) (by simp only [List.drop_succ_cons, List.drop_zero]; exact rfl) (fun _ => True) noG hB hG trivial ?_
  intro K L hN hL
  simp only [List.zip_cons_cons, List.zip_nil_left]
  apply gy
  · exact rfl
  · (rintro v - N hN; go_simp; exact hN)
  refine okf (by simp only [Act.put, List.setIfInBounds_toArray, List.set_cons_succ, List.set_cons_zero]; exact rfl) ?_
  apply gm
  · exact rfl
  · (rintro v ⟨hgu, hB, hG, -⟩ N hN; go_simp; ((with_reducible refine (whole_Of _ (by assumption) (by assumption) _).mono ?_); rintro e w1 ⟨rfl, hb⟩; exact ⟨_, rfl, hN _ hb⟩))
  refine okf (by simp only [Act.put, List.setIfInBounds_toArray, List.set_cons_succ, List.set_cons_zero]; exact rfl) ?_
  apply gy
  · exact rfl
  · (rintro v - N hN; go_simp; exact hN)
  refine okf (by simp only [Act.put, List.setIfInBounds_toArray, List.set_cons_succ, List.set_cons_zero]; exact rfl) ?_
  apply gm
  · exact rfl
  · (rintro v ⟨hgu, hB, hG, -⟩ N hN; go_simp; ((with_reducible refine (whole_Of _ (by assumption) (by assumption) _).mono ?_); rintro e w1 ⟨rfl, hb⟩; exact ⟨_, rfl, hN _ hb⟩))
  refine okf (by simp only [Act.put, List.setIfInBounds_toArray, List.set_cons_succ, List.set_cons_zero]; exact rfl) ?_
  apply gm
  · exact rfl
  · (rintro v ⟨hgu, hB, hG, -⟩ N hN; go_simp; ((with_reducible refine (frac_Make _ _ (by assumption) (by assumption) _ (HT.grow hG)).mono ?_); rintro e w1 ⟨rfl, hb⟩; exact ⟨_, rfl, hN _ hb⟩))
  refine okf (by simp only [Act.put, List.setIfInBounds_toArray, List.set_cons_succ, List.set_cons_zero]; exact rfl) ?_
  apply gy
  · exact rfl
  · (rintro v - N hN; go_simp; exact hN)
  refine okf (by simp only [Act.put, List.setIfInBounds_toArray, List.set_cons_succ, List.set_cons_zero]; exact rfl) ?_
  apply gy
  · exact rfl
  · (rintro v - N hN; go_simp; exact hN)
  refine okf (by simp only [Act.put, List.setIfInBounds_toArray, List.set_cons_succ, List.set_cons_zero]; exact rfl) ?_
  refine gend ?_
  rintro v ⟨hgu, hB1, hG1, -⟩
  clear hB hG
  have hB := hB1
  have hG := hG1
  clear hB1 hG1
  refine hL _ _ ?_
  clear hL L hgu
  obtain ⟨u, rfl⟩ : ∃ x, x = v := ⟨_, rfl⟩
  have r := hB.r
  simp only [BxR] at r
  go_wp2_with fail
  clear r
  generalize hu0 : World.setCell (World.setCell (World.setCell (World.setCell (World.setCell u _ _) _ _) _ _) _ _) _ _ = u0
  have hBG := hB.over hF hG 0 rfl 0 [_, _, _, _, _] hu0
  clear hB hG hu0
  simp only [List.modify_succ_cons, List.modify_zero_cons, wrAll, List.setIfInBounds_toArray, List.set_cons_zero, List.set_cons_succ, Nat.zero_add, Nat.reduceAdd] at hBG
  obtain ⟨hB, hG⟩ := hBG
  clear u
  obtain ⟨u, rfl⟩ : ∃ x, x = u0 := ⟨_, rfl⟩
  refine NoK.norm (hN _ _ ?_)
  clear hN K
  refine then_norm ?_
  refine wp_ret ?_
  refine ret_b rfl ?_
  intro N hN
  have r := hB.r
  simp only [BxR] at r
  simp only [results, Tryz.results51]
  go_simp
  refine hN _ ?_
  clear hN N r
  exact ⟨rfl, hG⟩

--! frac_Neg = frac_Neg _ SIDE _
set_option maxHeartbeats 400000 in
set_option maxRecDepth 100000 in
theorem frac_Neg (q : Rat) (h : bl q.num.natAbs ≤ 1099511627776) (w : World) : Calls Tryz.prog 45 #[qV q] w fun e w' => e = .returned (qV (qneg q)) ∧ Grow w w' := by
  go_enter Tryz.func45, Tryz.ntmps45
  refine wp_seq (wp_r0 ?_)
  intro K hN
  go_wp2_with fail
  generalize hu : World.alloc (World.alloc w _) _ = u
  obtain ⟨hB, hG⟩ := bx_first [(_, _), (_, _)] w u hu
  have hF := fr_first w [(32, #[]), (32, #[])]
  simp only [numbered, List.map_cons, List.map_nil] at hB hF
  clear hu
  generalize w.heap.size + 1 = b2 at hB hF ⊢
  generalize w.heap.size = b1 at hB hF ⊢
  refine NoK.norm (hN _ _ ?_)
  clear hN K
  refine then_norm ?_
  refine wp_seq ?_
  refine wp_rd (w := w) allocs 6 [] [(0, 0), (0, 1), (0, 3), (0, 4), (1, 2), (0, 5)] (by kernel_rfl) (by kernel_rfl) (by simp only [List.drop_succ_cons, List.drop_zero]; exact rfl) (fun _ => True) noG hB hG trivial ?_
  intro K L hN hL
  simp only [pickOps, List.getElem?_toArray, List.getElem?_cons_zero, List.getElem?_cons_succ]
  apply gy
  · exact rfl
  · (rintro v - N hN; go_simp; exact hN)
  refine okf (by simp only [Act.put, List.setIfInBounds_toArray, List.set_cons_succ, List.set_cons_zero]; exact rfl) ?_
  apply gy
  · exact rfl
  · (rintro v ⟨hgu, hB, hG, -⟩ N hN; have r := hB.r; simp only [BxR] at r; go_simp; exact hN)
  refine okf (by simp only [Act.put, List.setIfInBounds_toArray, List.set_cons_succ, List.set_cons_zero]; exact rfl) ?_
  apply gy
  · exact rfl
  · (rintro v - N hN; go_simp; exact hN)
  refine okf (by simp only [Act.put, List.setIfInBounds_toArray, List.set_cons_succ, List.set_cons_zero]; exact rfl) ?_
  apply gy
  · exact rfl
  · (rintro v ⟨hgu, hB, hG, -⟩ N hN; have r := hB.r; simp only [BxR] at r; go_simp; exact hN)
  refine okf (by simp only [Act.put, List.setIfInBounds_toArray, List.set_cons_succ, List.set_cons_zero]; exact rfl) ?_
  apply gm
  · exact rfl
  · (rintro v ⟨hgu, hB, hG, -⟩ N hN; go_simp; ((with_reducible refine (whole_Neg _ (by assumption) _).mono ?_); rintro e w1 ⟨rfl, hb⟩; exact ⟨_, rfl, hN _ hb⟩))
  refine okf (by simp only [Act.put, List.setIfInBounds_toArray, List.set_cons_succ, List.set_cons_zero]; exact rfl) ?_
  apply gy
  · exact rfl
  · (rintro v - N hN; go_simp; exact hN)
  refine okf (by simp only [Act.put, List.setIfInBounds_toArray, List.set_cons_succ, List.set_cons_zero]; exact rfl) ?_
  refine gend ?_
  rintro v ⟨hgu, hB1, hG1, -⟩
  clear hB hG
  have hB := hB1
  have hG := hG1
  clear hB1 hG1
  refine hL _ _ ?_
  clear hL L hgu
  obtain ⟨u, rfl⟩ : ∃ x, x = v := ⟨_, rfl⟩
  have r := hB.r
  simp only [BxR] at r
  go_wp2_with fail
  clear r
  generalize hu0 : World.setCell (World.setCell (World.setCell (World.setCell (World.setCell u _ _) _ _) _ _) _ _) _ _ = u0
  have hBG := hB.over hF hG 1 rfl 0 [_, _, _, _, _] hu0
  clear hB hG hu0
  simp only [List.modify_succ_cons, List.modify_zero_cons, wrAll, List.setIfInBounds_toArray, List.set_cons_zero, List.set_cons_succ, Nat.zero_add, Nat.reduceAdd] at hBG
  obtain ⟨hB, hG⟩ := hBG
  clear u
  obtain ⟨u, rfl⟩ : ∃ x, x = u0 := ⟨_, rfl⟩
  refine NoK.norm (hN _ _ ?_)
  clear hN K
  refine then_norm ?_
  refine wp_ret ?_
  refine ret_b rfl ?_
  intro N hN
  have r := hB.r
  simp only [BxR] at r
  simp only [results, Tryz.results45]
  go_simp
  refine hN _ ?_
  clear hN N r
  exact ⟨ret_nqV (Rat.neg_num q) (Rat.neg_den q), hG⟩
theorem abs_num (q : Rat) : q.abs.num = sgn false q.num.natAbs := by
  rw [sgn_false]
  by_cases h : 0 ≤ q
  · rw [Rat.abs_of_nonneg h]
    have := Rat.num_nonneg.2 h
    omega
  · have h' : q ≤ 0 := by rcases Rat.le_total (a := 0) (b := q) with h1 | h1; exact absurd h1 h; exact h1
    rw [Rat.abs_of_nonpos h', Rat.neg_num]
    have : ¬ 0 ≤ q.num := fun h2 => h (Rat.num_nonneg.1 h2)
    omega
theorem abs_den (q : Rat) : q.abs.den = q.den := by
  by_cases h : 0 ≤ q
  · rw [Rat.abs_of_nonneg h]
  · have h' : q ≤ 0 := by rcases Rat.le_total (a := 0) (b := q) with h1 | h1; exact absurd h1 h; exact h1
    rw [Rat.abs_of_nonpos h', Rat.neg_den]
--! frac_Abs = frac_Abs _ SIDE _
set_option maxHeartbeats 400000 in
set_option maxRecDepth 100000 in
theorem frac_Abs (q : Rat) (h : bl q.num.natAbs ≤ 1099511627776) (w : World) : Calls Tryz.prog 44 #[qV q] w fun e w' => e = .returned (qV (qabs q)) ∧ Grow w w' := by
  go_enter Tryz.func44, Tryz.ntmps44
  refine wp_seq (wp_r0 ?_)
  intro K hN
  go_wp2_with fail
  generalize hu : World.alloc (World.alloc w _) _ = u
  obtain ⟨hB, hG⟩ := bx_first [(_, _), (_, _)] w u hu
  have hF := fr_first w [(32, #[]), (32, #[])]
  simp only [numbered, List.map_cons, List.map_nil] at hB hF
  clear hu
  generalize w.heap.size + 1 = b2 at hB hF ⊢
  generalize w.heap.size = b1 at hB hF ⊢
  refine NoK.norm (hN _ _ ?_)
  clear hN K
  refine then_norm ?_
  refine wp_seq ?_
  refine wp_rd (w := w) allocs 7 [] [(0, 0), (0, 1), (0, 4), (0, 5), (1, 2), (1, 3), (0, 6)] (by kernel_rfl) (by kernel_rfl) (by simp only [List.drop_succ_cons, List.drop_zero]; exact rfl) (fun _ => True) noG hB hG trivial ?_
  intro K L hN hL
  simp only [pickOps, List.getElem?_toArray, List.getElem?_cons_zero, List.getElem?_cons_succ]
  apply gy
  · exact rfl
  · (rintro v - N hN; go_simp; exact hN)
  refine okf (by simp only [Act.put, List.setIfInBounds_toArray, List.set_cons_succ, List.set_cons_zero]; exact rfl) ?_
  apply gy
  · exact rfl
  · (rintro v ⟨hgu, hB, hG, -⟩ N hN; have r := hB.r; simp only [BxR] at r; go_simp; exact hN)
  refine okf (by simp only [Act.put, List.setIfInBounds_toArray, List.set_cons_succ, List.set_cons_zero]; exact rfl) ?_
  apply gy
  · exact rfl
  · (rintro v - N hN; go_simp; exact hN)
  refine okf (by simp only [Act.put, List.setIfInBounds_toArray, List.set_cons_succ, List.set_cons_zero]; exact rfl) ?_
  apply gy
  · exact rfl
  · (rintro v ⟨hgu, hB, hG, -⟩ N hN; have r := hB.r; simp only [BxR] at r; go_simp; exact hN)
  refine okf (by simp only [Act.put, List.setIfInBounds_toArray, List.set_cons_succ, List.set_cons_zero]; exact rfl) ?_
  apply gm
  · exact rfl
  · (rintro v ⟨hgu, hB, hG, -⟩ N hN; go_simp; ((with_reducible refine (whole_Abs _ _).mono ?_); rintro e w1 ⟨rfl, hb⟩; exact ⟨_, rfl, hN _ hb⟩))
  refine okf (by simp only [Act.put, List.setIfInBounds_toArray, List.set_cons_succ, List.set_cons_zero]; exact rfl) ?_
  apply gm
  · exact rfl
  · (rintro v ⟨hgu, hB, hG, -⟩ N hN; go_simp; ((with_reducible refine (whole_From _ _ (by assumption) _).mono ?_); rintro e w1 ⟨rfl, hb⟩; exact ⟨_, rfl, hN _ hb⟩))
  refine okf (by simp only [Act.put, List.setIfInBounds_toArray, List.set_cons_succ, List.set_cons_zero]; exact rfl) ?_
  apply gy
  · exact rfl
  · (rintro v - N hN; go_simp; exact hN)
  refine okf (by simp only [Act.put, List.setIfInBounds_toArray, List.set_cons_succ, List.set_cons_zero]; exact rfl) ?_
  refine gend ?_
  rintro v ⟨hgu, hB1, hG1, -⟩
  clear hB hG
  have hB := hB1
  have hG := hG1
  clear hB1 hG1
  refine hL _ _ ?_
  clear hL L hgu
  obtain ⟨u, rfl⟩ : ∃ x, x = v := ⟨_, rfl⟩
  have r := hB.r
  simp only [BxR] at r
  go_wp2_with fail
  clear r
  generalize hu0 : World.setCell (World.setCell (World.setCell (World.setCell (World.setCell u _ _) _ _) _ _) _ _) _ _ = u0
  have hBG := hB.over hF hG 1 rfl 0 [_, _, _, _, _] hu0
  clear hB hG hu0
  simp only [List.modify_succ_cons, List.modify_zero_cons, wrAll, List.setIfInBounds_toArray, List.set_cons_zero, List.set_cons_succ, Nat.zero_add, Nat.reduceAdd] at hBG
  obtain ⟨hB, hG⟩ := hBG
  clear u
  obtain ⟨u, rfl⟩ : ∃ x, x = u0 := ⟨_, rfl⟩
  refine NoK.norm (hN _ _ ?_)
  clear hN K
  refine then_norm ?_
  refine wp_ret ?_
  refine ret_b rfl ?_
  intro N hN
  have r := hB.r
  simp only [BxR] at r
  simp only [results, Tryz.results44]
  go_simp
  refine hN _ ?_
  clear hN N r
  exact ⟨ret_nqV (abs_num q) (abs_den q), hG⟩
theorem isWhole_t (q : Rat) (h : bl q.den ≤ 1099511627776) (h1 : q.den = 1) (w : World) : Calls Tryz.prog 65 #[qV q] w fun e w' => e = .returned (.bool true) ∧ Grow w w' := by
  have := frac_isWhole q h w
  rw [decide_eq_true h1] at this
  exact this
theorem isWhole_f (q : Rat) (h : bl q.den ≤ 1099511627776) (h1 : ¬ q.den = 1) (w : World) : Calls Tryz.prog 65 #[qV q] w fun e w' => e = .returned (.bool false) ∧ Grow w w' := by
  have := frac_isWhole q h w
  rw [decide_eq_false h1] at this
  exact this
section
variable (a b : Rat) (w : World)
set_option maxHeartbeats 1000000 in
set_option maxRecDepth 100000 in
theorem frac_Cmp_ww (h : qs a + qs b + 1 ≤ BIG) (ha1 : a.den = 1) (hb1 : b.den = 1) : Calls Tryz.prog 25 #[qV a, qV b] w fun e w' => e = .returned (.int .i64 (cmpQ a b)) ∧ Grow w w' := by
  have hB40 := BIG_le
  have h1 : bl a.num.natAbs ≤ 1099511627776 := by have := qs_num a; omega
  have h2 : bl b.num.natAbs ≤ 1099511627776 := by have := qs_num b; omega
  have h3 : bl a.den ≤ 1099511627776 := by have := qs_den a; omega
  have h4 : bl b.den ≤ 1099511627776 := by have := qs_den b; omega
  have Ha1 := Lib.hid ha1
  have Hb1 := Lib.hid hb1
  clear ha1 hb1
  go_enter Tryz.func25, Tryz.ntmps25
  refine wp_seq (wp_r0 ?_)
  intro K hN
  go_wp2_with fail
  generalize hu : World.alloc (World.alloc w _) _ = u
  obtain ⟨hB, hG⟩ := bx_first [(_, _), (_, _)] w u hu
  have hF := fr_first w [(32, #[]), (32, #[])]
  simp only [numbered, List.map_cons, List.map_nil] at hB hF
  clear hu
  generalize w.heap.size + 1 = b3 at hB hF ⊢
  generalize w.heap.size = b2 at hB hF ⊢
  refine NoK.norm (hN _ _ ?_)
  clear hN K
  refine then_norm ?_
  refine wp_seq ?_
  refine wp_seq ?_
  refine wp_rd (w := w) allocs 12 [] [(0, 0), (1, 1), (0, 2), (0, 3), (1, 4), (0, 5), (0, 6), (0, 7), (0, 9), (1, 8), (1, 10), (0, 11)] (by kernel_rfl) (by kernel_rfl) (by simp only [List.drop_succ_cons, List.drop_zero]; exact rfl) (fun _ => True) noG hB hG trivial ?_
  intro K L hN hL
  simp only [pickOps, List.getElem?_toArray, List.getElem?_cons_zero, List.getElem?_cons_succ]
  apply gy
  · exact rfl
  · (rintro v ⟨hgu, hB, hG, -⟩ N hN; have r := hB.r; simp only [BxR] at r; go_simp; exact hN)
  refine okf (by simp only [Act.put, List.setIfInBounds_toArray, List.set_cons_succ, List.set_cons_zero]; exact rfl) ?_
  apply gm
  · exact rfl
  · (rintro v ⟨hgu, hB, hG, -⟩ N hN; go_simp; ((with_reducible refine (isWhole_t a h3 Ha1.out _).mono ?_); rintro e w1 ⟨rfl, hb⟩; exact ⟨_, rfl, hN _ hb⟩))
  refine okf (by simp only [Act.put, List.setIfInBounds_toArray, List.set_cons_succ, List.set_cons_zero]; exact rfl) ?_
  apply gy
  · exact rfl
  · (rintro v - N hN; go_simp; exact hN)
  refine okf (by simp only [Act.put, List.setIfInBounds_toArray, List.set_cons_succ, List.set_cons_zero]; exact rfl) ?_
  first
    | (apply gy
       · exact rfl
       · (rintro v ⟨hgu, hB, hG, -⟩ N hN; have r := hB.r; simp only [BxR] at r; go_simp; exact hN))
    | (apply gn; exact rfl)
  refine okf (by simp only [Act.put, List.setIfInBounds_toArray, List.set_cons_succ, List.set_cons_zero]; exact rfl) ?_
  first
    | (apply gm
       · exact rfl
       · (rintro v ⟨hgu, hB, hG, -⟩ N hN; go_simp; ((with_reducible refine (isWhole_t b h4 Hb1.out _).mono ?_); rintro e w1 ⟨rfl, hb⟩; exact ⟨_, rfl, hN _ hb⟩)))
    | (apply gmn; exact rfl)
  refine okf (by simp only [Act.put, List.setIfInBounds_toArray, List.set_cons_succ, List.set_cons_zero]; exact rfl) ?_
  apply gy
  · exact rfl
  · (rintro v - N hN; go_simp; exact hN)
  refine okf (by simp only [Act.put, List.setIfInBounds_toArray, List.set_cons_succ, List.set_cons_zero]; exact rfl) ?_
  apply gy
  · exact rfl
  · (rintro v - N hN; go_simp; exact hN)
  refine okf (by simp only [Act.put, List.setIfInBounds_toArray, List.set_cons_succ, List.set_cons_zero]; exact rfl) ?_
  first
    | (apply gy
       · exact rfl
       · (rintro v ⟨hgu, hB, hG, -⟩ N hN; have r := hB.r; simp only [BxR] at r; go_simp; exact hN))
    | (apply gn; exact rfl)
  refine okf (by simp only [Act.put, List.setIfInBounds_toArray, List.set_cons_succ, List.set_cons_zero]; exact rfl) ?_
  first
    | (apply gy
       · exact rfl
       · (rintro v ⟨hgu, hB, hG, -⟩ N hN; have r := hB.r; simp only [BxR] at r; go_simp; exact hN))
    | (apply gn; exact rfl)
  refine okf (by simp only [Act.put, List.setIfInBounds_toArray, List.set_cons_succ, List.set_cons_zero]; exact rfl) ?_
  first
    | (apply gm
       · exact rfl
       · (rintro v ⟨hgu, hB, hG, -⟩ N hN; go_simp; ((with_reducible refine (frac_Sign _ (by assumption) _).mono ?_); rintro e w1 ⟨rfl, hb⟩; exact ⟨_, rfl, hN _ hb⟩)))
    | (apply gmn; exact rfl)
  refine okf (by simp only [Act.put, List.setIfInBounds_toArray, List.set_cons_succ, List.set_cons_zero]; exact rfl) ?_
  first
    | (apply gm
       · exact rfl
       · (rintro v ⟨hgu, hB, hG, -⟩ N hN; go_simp; ((with_reducible refine (frac_Sign _ (by assumption) _).mono ?_); rintro e w1 ⟨rfl, hb⟩; exact ⟨_, rfl, hN _ hb⟩)))
    | (apply gmn; exact rfl)
  refine okf (by simp only [Act.put, List.setIfInBounds_toArray, List.set_cons_succ, List.set_cons_zero]; exact rfl) ?_
  first
    | (apply gy
       · exact rfl
       · (rintro v - N hN; go_simp; exact hN))
    | (apply gn; exact rfl)
  refine okf (by simp only [Act.put, List.setIfInBounds_toArray, List.set_cons_succ, List.set_cons_zero]; exact rfl) ?_
  refine gend ?_
  rintro v ⟨hgu, hB1, hG1, -⟩
  clear hB hG
  have hB := hB1
  have hG := hG1
  clear hB1 hG1
  refine hL _ _ ?_
  clear hL L hgu
  obtain ⟨u, rfl⟩ : ∃ x, x = v := ⟨_, rfl⟩
  go_wp2_with fail
  refine NoK.norm (hN _ _ ?_)
  clear hN K
  refine then_norm ?_
  refine wp_cond_true (rfl) ?_
  refine wp_seq ?_
  refine wp_rs (w := w) allocs 6 [0, 0, 0, 0, 1, 0] (by kernel_rfl) (by simp only [List.drop_succ_cons, List.drop_nil]; exact rfl) (fun _ => True) noG hB hG trivial ?_
  intro K L hN hL
  simp only [List.zip_cons_cons, List.zip_nil_left]
  apply gy
  · exact rfl
  · (rintro v - N hN; go_simp; exact hN)
  refine okf (by simp only [Act.put, List.setIfInBounds_toArray, List.set_cons_succ, List.set_cons_zero]; exact rfl) ?_
  apply gy
  · exact rfl
  · (rintro v ⟨hgu, hB, hG, -⟩ N hN; have r := hB.r; simp only [BxR] at r; go_simp; exact hN)
  refine okf (by simp only [Act.put, List.setIfInBounds_toArray, List.set_cons_succ, List.set_cons_zero]; exact rfl) ?_
  apply gy
  · exact rfl
  · (rintro v - N hN; go_simp; exact hN)
  refine okf (by simp only [Act.put, List.setIfInBounds_toArray, List.set_cons_succ, List.set_cons_zero]; exact rfl) ?_
  apply gy
  · exact rfl
  · (rintro v ⟨hgu, hB, hG, -⟩ N hN; have r := hB.r; simp only [BxR] at r; go_simp; exact hN)
  refine okf (by simp only [Act.put, List.setIfInBounds_toArray, List.set_cons_succ, List.set_cons_zero]; exact rfl) ?_
  apply gm
  · exact rfl
  · (rintro v ⟨hgu, hB, hG, -⟩ N hN; go_simp; ((with_reducible refine (whole_Cmp _ _ (by assumption) (by assumption) _).mono ?_); rintro e w1 ⟨rfl, hb⟩; exact ⟨_, rfl, hN _ hb⟩))
  refine okf (by simp only [Act.put, List.setIfInBounds_toArray, List.set_cons_succ, List.set_cons_zero]; exact rfl) ?_
  apply gy
  · exact rfl
  · (rintro v - N hN; go_simp; exact hN)
  refine okf (by simp only [Act.put, List.setIfInBounds_toArray, List.set_cons_succ, List.set_cons_zero]; exact rfl) ?_
  refine gend ?_
  rintro v ⟨hgu, hB1, hG1, -⟩
  clear hB hG
  have hB := hB1
  have hG := hG1
  clear hB1 hG1
  refine hL _ _ ?_
  clear hL L hgu
  obtain ⟨u, rfl⟩ : ∃ x, x = v := ⟨_, rfl⟩
  refine wpList_nil ?_
  refine NoK.norm (hN _ _ ?_)
  clear hN K
  refine then_norm ?_
  refine wp_ret ?_
  refine then_ret ?_
  refine ret_b rfl ?_
  intro N hN
  have r := hB.r
  simp only [BxR] at r
  simp only [results, Tryz.results25]
  go_simp
  refine hN _ ?_
  clear hN N r
  exact ⟨ret_i64 (cmpQ_whole Ha1.out Hb1.out).symm, hG⟩
def signNe (a b : Rat) : Bool := a.num.sign != b.num.sign
set_option maxHeartbeats 2000000 in
set_option maxRecDepth 100000 in
theorem frac_Cmp_wn (h : qs a + qs b + 1 ≤ BIG) (ha1 : a.den = 1) (hb1 : ¬ b.den = 1) : Calls Tryz.prog 25 #[qV a, qV b] w fun e w' => e = .returned (.int .i64 (cmpQ a b)) ∧ Grow w w' := by
  have hB40 := BIG_le
  have h1 : bl a.num.natAbs ≤ 1099511627776 := by have := qs_num a; omega
  have h2 : bl b.num.natAbs ≤ 1099511627776 := by have := qs_num b; omega
  have h3 : bl a.den ≤ 1099511627776 := by have := qs_den a; omega
  have h4 : bl b.den ≤ 1099511627776 := by have := qs_den b; omega
  have h5 : bl a.num.natAbs + bl b.den ≤ 1099511627776 := by have := qs_num a; have := qs_den b; omega
  have h6 : bl b.num.natAbs + bl a.den ≤ 1099511627776 := by have := qs_num b; have := qs_den a; omega
  have h7 : bl (ztm a.num b.den).natAbs ≤ 1099511627776 := by unfold ztm; rw [Int.natAbs_mul]; exact Nat.le_trans (bl_mul_le _ _) h5
  have h8 : bl (ztm b.num a.den).natAbs ≤ 1099511627776 := by unfold ztm; rw [Int.natAbs_mul]; exact Nat.le_trans (bl_mul_le _ _) h6
  have Ha1 := Lib.hid ha1
  have Hb1 := Lib.hid hb1
  clear ha1 hb1
  go_enter Tryz.func25, Tryz.ntmps25
  refine wp_seq (wp_r0 ?_)
  intro K hN
  go_wp2_with fail
  generalize hu : World.alloc (World.alloc w _) _ = u
  obtain ⟨hB, hG⟩ := bx_first [(_, _), (_, _)] w u hu
  have hF := fr_first w [(32, #[]), (32, #[])]
  simp only [numbered, List.map_cons, List.map_nil] at hB hF
  clear hu
  generalize w.heap.size + 1 = b3 at hB hF ⊢
  generalize w.heap.size = b2 at hB hF ⊢
  refine NoK.norm (hN _ _ ?_)
  clear hN K
  refine then_norm ?_
  refine wp_seq ?_
  refine wp_seq ?_
  refine wp_rd (w := w) allocs 12 [] [(0, 0), (1, 1), (0, 2), (0, 3), (1, 4), (0, 5), (0, 6), (0, 7), (0, 9), (1, 8), (1, 10), (0, 11)] (by kernel_rfl) (by kernel_rfl) (by simp only [List.drop_succ_cons, List.drop_zero]; exact rfl) (fun _ => True) noG hB hG trivial ?_
  intro K L hN hL
  simp only [pickOps, List.getElem?_toArray, List.getElem?_cons_zero, List.getElem?_cons_succ]
  apply gy
  · exact rfl
  · (rintro v ⟨hgu, hB, hG, -⟩ N hN; have r := hB.r; simp only [BxR] at r; go_simp; exact hN)
  refine okf (by simp only [Act.put, List.setIfInBounds_toArray, List.set_cons_succ, List.set_cons_zero]; exact rfl) ?_
  apply gm
  · exact rfl
  · (rintro v ⟨hgu, hB, hG, -⟩ N hN; go_simp; ((with_reducible refine (isWhole_t a h3 Ha1.out _).mono ?_); rintro e w1 ⟨rfl, hb⟩; exact ⟨_, rfl, hN _ hb⟩))
  refine okf (by simp only [Act.put, List.setIfInBounds_toArray, List.set_cons_succ, List.set_cons_zero]; exact rfl) ?_
  apply gy
  · exact rfl
  · (rintro v - N hN; go_simp; exact hN)
  refine okf (by simp only [Act.put, List.setIfInBounds_toArray, List.set_cons_succ, List.set_cons_zero]; exact rfl) ?_
  first
    | (apply gy
       · exact rfl
       · (rintro v ⟨hgu, hB, hG, -⟩ N hN; have r := hB.r; simp only [BxR] at r; go_simp; exact hN))
    | (apply gn; exact rfl)
  refine okf (by simp only [Act.put, List.setIfInBounds_toArray, List.set_cons_succ, List.set_cons_zero]; exact rfl) ?_
  first
    | (apply gm
       · exact rfl
       · (rintro v ⟨hgu, hB, hG, -⟩ N hN; go_simp; ((with_reducible refine (isWhole_f b h4 Hb1.out _).mono ?_); rintro e w1 ⟨rfl, hb⟩; exact ⟨_, rfl, hN _ hb⟩)))
    | (apply gmn; exact rfl)
  refine okf (by simp only [Act.put, List.setIfInBounds_toArray, List.set_cons_succ, List.set_cons_zero]; exact rfl) ?_
  apply gy
  · exact rfl
  · (rintro v - N hN; go_simp; exact hN)
  refine okf (by simp only [Act.put, List.setIfInBounds_toArray, List.set_cons_succ, List.set_cons_zero]; exact rfl) ?_
  apply gy
  · exact rfl
  · (rintro v - N hN; go_simp; exact hN)
  refine okf (by simp only [Act.put, List.setIfInBounds_toArray, List.set_cons_succ, List.set_cons_zero]; exact rfl) ?_
  first
    | (apply gy
       · exact rfl
       · (rintro v ⟨hgu, hB, hG, -⟩ N hN; have r := hB.r; simp only [BxR] at r; go_simp; exact hN))
    | (apply gn; exact rfl)
  refine okf (by simp only [Act.put, List.setIfInBounds_toArray, List.set_cons_succ, List.set_cons_zero]; exact rfl) ?_
  first
    | (apply gy
       · exact rfl
       · (rintro v ⟨hgu, hB, hG, -⟩ N hN; have r := hB.r; simp only [BxR] at r; go_simp; exact hN))
    | (apply gn; exact rfl)
  refine okf (by simp only [Act.put, List.setIfInBounds_toArray, List.set_cons_succ, List.set_cons_zero]; exact rfl) ?_
  first
    | (apply gm
       · exact rfl
       · (rintro v ⟨hgu, hB, hG, -⟩ N hN; go_simp; ((with_reducible refine (frac_Sign _ (by assumption) _).mono ?_); rintro e w1 ⟨rfl, hb⟩; exact ⟨_, rfl, hN _ hb⟩)))
    | (apply gmn; exact rfl)
  refine okf (by simp only [Act.put, List.setIfInBounds_toArray, List.set_cons_succ, List.set_cons_zero]; exact rfl) ?_
  first
    | (apply gm
       · exact rfl
       · (rintro v ⟨hgu, hB, hG, -⟩ N hN; go_simp; ((with_reducible refine (frac_Sign _ (by assumption) _).mono ?_); rintro e w1 ⟨rfl, hb⟩; exact ⟨_, rfl, hN _ hb⟩)))
    | (apply gmn; exact rfl)
  refine okf (by simp only [Act.put, List.setIfInBounds_toArray, List.set_cons_succ, List.set_cons_zero]; exact rfl) ?_
  first
    | (apply gy
       · exact rfl
       · (rintro v - N hN; go_simp; exact hN))
    | (apply gn; exact rfl)
  refine okf (by simp only [Act.put, List.setIfInBounds_toArray, List.set_cons_succ, List.set_cons_zero]; exact rfl) ?_
  refine gend ?_
  rintro v ⟨hgu, hB1, hG1, -⟩
  clear hB hG
  have hB := hB1
  have hG := hG1
  clear hB1 hG1
  refine hL _ _ ?_
  clear hL L hgu
  obtain ⟨u, rfl⟩ : ∃ x, x = v := ⟨_, rfl⟩
  go_wp2_with fail
  refine NoK.norm (hN _ _ ?_)
  clear hN K
  refine then_norm ?_
  refine wp_cond_split rfl ?_ ?_
  · intro ht
    have ht17 := ht
    refine wp_seq ?_
    refine wp_rs (w := w) allocs 6 [0, 0, 0, 0, 1, 0] (by kernel_rfl) (by simp only [List.drop_succ_cons, List.drop_nil]; exact rfl) (fun _ => True) noG hB hG trivial ?_
    intro K L hN hL
    simp only [List.zip_cons_cons, List.zip_nil_left]
    apply gy
    · exact rfl
    · (rintro v - N hN; go_simp; exact hN)
    refine okf (by simp only [Act.put, List.setIfInBounds_toArray, List.set_cons_succ, List.set_cons_zero]; exact rfl) ?_
    apply gy
    · exact rfl
    · (rintro v ⟨hgu, hB, hG, -⟩ N hN; have r := hB.r; simp only [BxR] at r; go_simp; exact hN)
    refine okf (by simp only [Act.put, List.setIfInBounds_toArray, List.set_cons_succ, List.set_cons_zero]; exact rfl) ?_
    apply gy
    · exact rfl
    · (rintro v - N hN; go_simp; exact hN)
    refine okf (by simp only [Act.put, List.setIfInBounds_toArray, List.set_cons_succ, List.set_cons_zero]; exact rfl) ?_
    apply gy
    · exact rfl
    · (rintro v ⟨hgu, hB, hG, -⟩ N hN; have r := hB.r; simp only [BxR] at r; go_simp; exact hN)
    refine okf (by simp only [Act.put, List.setIfInBounds_toArray, List.set_cons_succ, List.set_cons_zero]; exact rfl) ?_
    apply gm
    · exact rfl
    · (rintro v ⟨hgu, hB, hG, -⟩ N hN; go_simp; ((with_reducible refine (whole_Cmp _ _ (by assumption) (by assumption) _).mono ?_); rintro e w1 ⟨rfl, hb⟩; exact ⟨_, rfl, hN _ hb⟩))
    refine okf (by simp only [Act.put, List.setIfInBounds_toArray, List.set_cons_succ, List.set_cons_zero]; exact rfl) ?_
    apply gy
    · exact rfl
    · (rintro v - N hN; go_simp; exact hN)
    refine okf (by simp only [Act.put, List.setIfInBounds_toArray, List.set_cons_succ, List.set_cons_zero]; exact rfl) ?_
    refine gend ?_
    rintro v ⟨hgu, hB1, hG1, -⟩
    clear hB hG
    have hB := hB1
    have hG := hG1
    clear hB1 hG1
    refine hL _ _ ?_
    clear hL L hgu
    obtain ⟨u, rfl⟩ : ∃ x, x = v := ⟨_, rfl⟩
    refine wpList_nil ?_
    refine NoK.norm (hN _ _ ?_)
    clear hN K
    refine then_norm ?_
    refine wp_ret ?_
    refine then_ret ?_
    refine ret_b rfl ?_
    intro N hN
    have r := hB.r
    simp only [BxR] at r
    simp only [results, Tryz.results25]
    go_simp
    refine hN _ ?_
    clear hN N r
    exact ⟨ret_i64 (cmpQ_sign (by simpa using ht)).symm, hG⟩
  · intro ht
    have ht17 := ht
    refine wp_skip ?_
    refine then_norm ?_
    refine wp_seq ?_
    refine wp_rd (w := w) allocs 11 [] [(0, 0), (0, 1), (0, 2), (0, 5), (0, 6), (0, 7), (1, 3), (1, 4), (1, 8), (1, 9), (1, 10)] (by kernel_rfl) (by kernel_rfl) (by simp only [List.drop_succ_cons, List.drop_zero]; exact rfl) (fun _ => True) noG hB hG trivial ?_
    intro K L hN hL
    simp only [pickOps, List.getElem?_toArray, List.getElem?_cons_zero, List.getElem?_cons_succ]
    apply gy
    · exact rfl
    · (rintro v - N hN; go_simp; exact hN)
    refine okf (by simp only [Act.put, List.setIfInBounds_toArray, List.set_cons_succ, List.set_cons_zero]; exact rfl) ?_
    apply gy
    · exact rfl
    · (rintro v ⟨hgu, hB, hG, -⟩ N hN; have r := hB.r; simp only [BxR] at r; go_simp; exact hN)
    refine okf (by simp only [Act.put, List.setIfInBounds_toArray, List.set_cons_succ, List.set_cons_zero]; exact rfl) ?_
    apply gy
    · exact rfl
    · (rintro v ⟨hgu, hB, hG, -⟩ N hN; have r := hB.r; simp only [BxR] at r; go_simp; exact hN)
    refine okf (by simp only [Act.put, List.setIfInBounds_toArray, List.set_cons_succ, List.set_cons_zero]; exact rfl) ?_
    apply gy
    · exact rfl
    · (rintro v - N hN; go_simp; exact hN)
    refine okf (by simp only [Act.put, List.setIfInBounds_toArray, List.set_cons_succ, List.set_cons_zero]; exact rfl) ?_
    apply gy
    · exact rfl
    · (rintro v ⟨hgu, hB, hG, -⟩ N hN; have r := hB.r; simp only [BxR] at r; go_simp; exact hN)
    refine okf (by simp only [Act.put, List.setIfInBounds_toArray, List.set_cons_succ, List.set_cons_zero]; exact rfl) ?_
    apply gy
    · exact rfl
    · (rintro v ⟨hgu, hB, hG, -⟩ N hN; have r := hB.r; simp only [BxR] at r; go_simp; exact hN)
    refine okf (by simp only [Act.put, List.setIfInBounds_toArray, List.set_cons_succ, List.set_cons_zero]; exact rfl) ?_
    apply gm
    · exact rfl
    · (rintro v ⟨hgu, hB, hG, -⟩ N hN; go_simp; ((with_reducible refine (frac_Den _ (by assumption) _).mono ?_); rintro e w1 ⟨rfl, hb⟩; exact ⟨_, rfl, hN _ hb⟩))
    refine okf (by simp only [Act.put, List.setIfInBounds_toArray, List.set_cons_succ, List.set_cons_zero]; exact rfl) ?_
    apply gm
    · exact rfl
    · (rintro v ⟨hgu, hB, hG, -⟩ N hN; go_simp; ((with_reducible refine (frac_times _ _ (by assumption) _).mono ?_); rintro e w1 ⟨rfl, hb⟩; exact ⟨_, rfl, hN _ hb⟩))
    refine okf (by simp only [Act.put, List.setIfInBounds_toArray, List.set_cons_succ, List.set_cons_zero]; exact rfl) ?_
    apply gm
    · exact rfl
    · (rintro v ⟨hgu, hB, hG, -⟩ N hN; go_simp; ((with_reducible refine (frac_Den _ (by assumption) _).mono ?_); rintro e w1 ⟨rfl, hb⟩; exact ⟨_, rfl, hN _ hb⟩))
    refine okf (by simp only [Act.put, List.setIfInBounds_toArray, List.set_cons_succ, List.set_cons_zero]; exact rfl) ?_
    apply gm
    · exact rfl
    · (rintro v ⟨hgu, hB, hG, -⟩ N hN; go_simp; ((with_reducible refine (frac_times _ _ (by assumption) _).mono ?_); rintro e w1 ⟨rfl, hb⟩; exact ⟨_, rfl, hN _ hb⟩))
    refine okf (by simp only [Act.put, List.setIfInBounds_toArray, List.set_cons_succ, List.set_cons_zero]; exact rfl) ?_
    apply gm
    · exact rfl
    · (rintro v ⟨hgu, hB, hG, -⟩ N hN; go_simp; ((with_reducible refine (whole_Cmp _ _ (by assumption) (by assumption) _).mono ?_); rintro e w1 ⟨rfl, hb⟩; exact ⟨_, rfl, hN _ hb⟩))
    refine okf (by simp only [Act.put, List.setIfInBounds_toArray, List.set_cons_succ, List.set_cons_zero]; exact rfl) ?_
    refine gend ?_
    rintro v ⟨hgu, hB1, hG1, -⟩
    clear hB hG
    have hB := hB1
    have hG := hG1
    clear hB1 hG1
    refine hL _ _ ?_
    clear hL L hgu
    obtain ⟨u, rfl⟩ : ∃ x, x = v := ⟨_, rfl⟩
    go_wp2_with fail
    refine NoK.norm (hN _ _ ?_)
    clear hN K
    refine then_norm ?_
    refine wp_ret ?_
    refine ret_b rfl ?_
    intro N hN
    have r := hB.r
    simp only [BxR] at r
    simp only [results, Tryz.results25]
    go_simp
    refine hN _ ?_
    clear hN N r
    exact ⟨ret_i64 (cmpQ_cross a b).symm, hG⟩
set_option maxHeartbeats 2000000 in
set_option maxRecDepth 100000 in
theorem frac_Cmp_n (h : qs a + qs b + 1 ≤ BIG) (ha1 : ¬ a.den = 1) : Calls Tryz.prog 25 #[qV a, qV b] w fun e w' => e = .returned (.int .i64 (cmpQ a b)) ∧ Grow w w' := by
  have hB40 := BIG_le
  have h1 : bl a.num.natAbs ≤ 1099511627776 := by have := qs_num a; omega
  have h2 : bl b.num.natAbs ≤ 1099511627776 := by have := qs_num b; omega
  have h3 : bl a.den ≤ 1099511627776 := by have := qs_den a; omega
  have h4 : bl b.den ≤ 1099511627776 := by have := qs_den b; omega
  have h5 : bl a.num.natAbs + bl b.den ≤ 1099511627776 := by have := qs_num a; have := qs_den b; omega
  have h6 : bl b.num.natAbs + bl a.den ≤ 1099511627776 := by have := qs_num b; have := qs_den a; omega
  have h7 : bl (ztm a.num b.den).natAbs ≤ 1099511627776 := by unfold ztm; rw [Int.natAbs_mul]; exact Nat.le_trans (bl_mul_le _ _) h5
  have h8 : bl (ztm b.num a.den).natAbs ≤ 1099511627776 := by unfold ztm; rw [Int.natAbs_mul]; exact Nat.le_trans (bl_mul_le _ _) h6
  have Ha1 := Lib.hid ha1
  clear ha1
  go_enter Tryz.func25, Tryz.ntmps25
  refine wp_seq (wp_r0 ?_)
  intro K hN
  go_wp2_with fail
  generalize hu : World.alloc (World.alloc w _) _ = u
  obtain ⟨hB, hG⟩ := bx_first [(_, _), (_, _)] w u hu
  have hF := fr_first w [(32, #[]), (32, #[])]
  simp only [numbered, List.map_cons, List.map_nil] at hB hF
  clear hu
  generalize w.heap.size + 1 = b3 at hB hF ⊢
  generalize w.heap.size = b2 at hB hF ⊢
  refine NoK.norm (hN _ _ ?_)
  clear hN K
  refine then_norm ?_
  refine wp_seq ?_
  refine wp_seq ?_
  refine wp_rd (w := w) allocs 12 [] [(0, 0), (1, 1), (0, 2), (0, 3), (1, 4), (0, 5), (0, 6), (0, 7), (0, 9), (1, 8), (1, 10), (0, 11)] (by kernel_rfl) (by kernel_rfl) (by simp only [List.drop_succ_cons, List.drop_zero]; exact rfl) (fun _ => True) noG hB hG trivial ?_
  intro K L hN hL
  simp only [pickOps, List.getElem?_toArray, List.getElem?_cons_zero, List.getElem?_cons_succ]
  apply gy
  · exact rfl
  · (rintro v ⟨hgu, hB, hG, -⟩ N hN; have r := hB.r; simp only [BxR] at r; go_simp; exact hN)
  refine okf (by simp only [Act.put, List.setIfInBounds_toArray, List.set_cons_succ, List.set_cons_zero]; exact rfl) ?_
  apply gm
  · exact rfl
  · (rintro v ⟨hgu, hB, hG, -⟩ N hN; go_simp; ((with_reducible refine (isWhole_f a h3 Ha1.out _).mono ?_); rintro e w1 ⟨rfl, hb⟩; exact ⟨_, rfl, hN _ hb⟩))
  refine okf (by simp only [Act.put, List.setIfInBounds_toArray, List.set_cons_succ, List.set_cons_zero]; exact rfl) ?_
  apply gy
  · exact rfl
  · (rintro v - N hN; go_simp; exact hN)
  refine okf (by simp only [Act.put, List.setIfInBounds_toArray, List.set_cons_succ, List.set_cons_zero]; exact rfl) ?_
  first
    | (apply gy
       · exact rfl
       · (rintro v ⟨hgu, hB, hG, -⟩ N hN; have r := hB.r; simp only [BxR] at r; go_simp; exact hN))
    | (apply gn; exact rfl)
  refine okf (by simp only [Act.put, List.setIfInBounds_toArray, List.set_cons_succ, List.set_cons_zero]; exact rfl) ?_
  first
    | (apply gm
       · exact rfl
       · (rintro v ⟨hgu, hB, hG, -⟩ N hN; go_simp; ((with_reducible refine (isWhole_f a h3 Ha1.out _).mono ?_); rintro e w1 ⟨rfl, hb⟩; exact ⟨_, rfl, hN _ hb⟩)))
    | (apply gmn; exact rfl)
  refine okf (by simp only [Act.put, List.setIfInBounds_toArray, List.set_cons_succ, List.set_cons_zero]; exact rfl) ?_
  apply gy
  · exact rfl
  · (rintro v - N hN; go_simp; exact hN)
  refine okf (by simp only [Act.put, List.setIfInBounds_toArray, List.set_cons_succ, List.set_cons_zero]; exact rfl) ?_
  apply gy
  · exact rfl
  · (rintro v - N hN; go_simp; exact hN)
  refine okf (by simp only [Act.put, List.setIfInBounds_toArray, List.set_cons_succ, List.set_cons_zero]; exact rfl) ?_
  first
    | (apply gy
       · exact rfl
       · (rintro v ⟨hgu, hB, hG, -⟩ N hN; have r := hB.r; simp only [BxR] at r; go_simp; exact hN))
    | (apply gn; exact rfl)
  refine okf (by simp only [Act.put, List.setIfInBounds_toArray, List.set_cons_succ, List.set_cons_zero]; exact rfl) ?_
  first
    | (apply gy
       · exact rfl
       · (rintro v ⟨hgu, hB, hG, -⟩ N hN; have r := hB.r; simp only [BxR] at r; go_simp; exact hN))
    | (apply gn; exact rfl)
  refine okf (by simp only [Act.put, List.setIfInBounds_toArray, List.set_cons_succ, List.set_cons_zero]; exact rfl) ?_
  first
    | (apply gm
       · exact rfl
       · (rintro v ⟨hgu, hB, hG, -⟩ N hN; go_simp; ((with_reducible refine (frac_Sign _ (by assumption) _).mono ?_); rintro e w1 ⟨rfl, hb⟩; exact ⟨_, rfl, hN _ hb⟩)))
    | (apply gmn; exact rfl)
  refine okf (by simp only [Act.put, List.setIfInBounds_toArray, List.set_cons_succ, List.set_cons_zero]; exact rfl) ?_
  first
    | (apply gm
       · exact rfl
       · (rintro v ⟨hgu, hB, hG, -⟩ N hN; go_simp; ((with_reducible refine (frac_Sign _ (by assumption) _).mono ?_); rintro e w1 ⟨rfl, hb⟩; exact ⟨_, rfl, hN _ hb⟩)))
    | (apply gmn; exact rfl)
  refine okf (by simp only [Act.put, List.setIfInBounds_toArray, List.set_cons_succ, List.set_cons_zero]; exact rfl) ?_
  first
    | (apply gy
       · exact rfl
       · (rintro v - N hN; go_simp; exact hN))
    | (apply gn; exact rfl)
  refine okf (by simp only [Act.put, List.setIfInBounds_toArray, List.set_cons_succ, List.set_cons_zero]; exact rfl) ?_
  refine gend ?_
  rintro v ⟨hgu, hB1, hG1, -⟩
  clear hB hG
  have hB := hB1
  have hG := hG1
  clear hB1 hG1
  refine hL _ _ ?_
  clear hL L hgu
  obtain ⟨u, rfl⟩ : ∃ x, x = v := ⟨_, rfl⟩
  go_wp2_with fail
  refine NoK.norm (hN _ _ ?_)
  clear hN K
  refine then_norm ?_
  refine wp_cond_split rfl ?_ ?_
  · intro ht
    have ht17 := ht
    refine wp_seq ?_
    refine wp_rs (w := w) allocs 6 [0, 0, 0, 0, 1, 0] (by kernel_rfl) (by simp only [List.drop_succ_cons, List.drop_nil]; exact rfl) (fun _ => True) noG hB hG trivial ?_
    intro K L hN hL
    simp only [List.zip_cons_cons, List.zip_nil_left]
    apply gy
    · exact rfl
    · (rintro v - N hN; go_simp; exact hN)
    refine okf (by simp only [Act.put, List.setIfInBounds_toArray, List.set_cons_succ, List.set_cons_zero]; exact rfl) ?_
    apply gy
    · exact rfl
    · (rintro v ⟨hgu, hB, hG, -⟩ N hN; have r := hB.r; simp only [BxR] at r; go_simp; exact hN)
    refine okf (by simp only [Act.put, List.setIfInBounds_toArray, List.set_cons_succ, List.set_cons_zero]; exact rfl) ?_
    apply gy
    · exact rfl
    · (rintro v - N hN; go_simp; exact hN)
    refine okf (by simp only [Act.put, List.setIfInBounds_toArray, List.set_cons_succ, List.set_cons_zero]; exact rfl) ?_
    apply gy
    · exact rfl
    · (rintro v ⟨hgu, hB, hG, -⟩ N hN; have r := hB.r; simp only [BxR] at r; go_simp; exact hN)
    refine okf (by simp only [Act.put, List.setIfInBounds_toArray, List.set_cons_succ, List.set_cons_zero]; exact rfl) ?_
    apply gm
    · exact rfl
    · (rintro v ⟨hgu, hB, hG, -⟩ N hN; go_simp; ((with_reducible refine (whole_Cmp _ _ (by assumption) (by assumption) _).mono ?_); rintro e w1 ⟨rfl, hb⟩; exact ⟨_, rfl, hN _ hb⟩))
    refine okf (by simp only [Act.put, List.setIfInBounds_toArray, List.set_cons_succ, List.set_cons_zero]; exact rfl) ?_
    apply gy
    · exact rfl
    · (rintro v - N hN; go_simp; exact hN)
    refine okf (by simp only [Act.put, List.setIfInBounds_toArray, List.set_cons_succ, List.set_cons_zero]; exact rfl) ?_
    refine gend ?_
    rintro v ⟨hgu, hB1, hG1, -⟩
    clear hB hG
    have hB := hB1
    have hG := hG1
    clear hB1 hG1
    refine hL _ _ ?_
    clear hL L hgu
    obtain ⟨u, rfl⟩ : ∃ x, x = v := ⟨_, rfl⟩
    refine wpList_nil ?_
    refine NoK.norm (hN _ _ ?_)
    clear hN K
    refine then_norm ?_
    refine wp_ret ?_
    refine then_ret ?_
    refine ret_b rfl ?_
    intro N hN
    have r := hB.r
    simp only [BxR] at r
    simp only [results, Tryz.results25]
    go_simp
    refine hN _ ?_
    clear hN N r
    exact ⟨ret_i64 (cmpQ_sign (by simpa using ht)).symm, hG⟩
  · intro ht
    have ht17 := ht
    refine wp_skip ?_
    refine then_norm ?_
    refine wp_seq ?_
    refine wp_rd (w := w) allocs 11 [] [(0, 0), (0, 1), (0, 2), (0, 5), (0, 6), (0, 7), (1, 3), (1, 4), (1, 8), (1, 9), (1, 10)] (by kernel_rfl) (by kernel_rfl) (by simp only [List.drop_succ_cons, List.drop_zero]; exact rfl) (fun _ => True) noG hB hG trivial ?_
    intro K L hN hL
    simp only [pickOps, List.getElem?_toArray, List.getElem?_cons_zero, List.getElem?_cons_succ]
    apply gy
    · exact rfl
    · (rintro v - N hN; go_simp; exact hN)
    refine okf (by simp only [Act.put, List.setIfInBounds_toArray, List.set_cons_succ, List.set_cons_zero]; exact rfl) ?_
    apply gy
    · exact rfl
    · (rintro v ⟨hgu, hB, hG, -⟩ N hN; have r := hB.r; simp only [BxR] at r; go_simp; exact hN)
    refine okf (by simp only [Act.put, List.setIfInBounds_toArray, List.set_cons_succ, List.set_cons_zero]; exact rfl) ?_
    apply gy
    · exact rfl
    · (rintro v ⟨hgu, hB, hG, -⟩ N hN; have r := hB.r; simp only [BxR] at r; go_simp; exact hN)
    refine okf (by simp only [Act.put, List.setIfInBounds_toArray, List.set_cons_succ, List.set_cons_zero]; exact rfl) ?_
    apply gy
    · exact rfl
    · (rintro v - N hN; go_simp; exact hN)
    refine okf (by simp only [Act.put, List.setIfInBounds_toArray, List.set_cons_succ, List.set_cons_zero]; exact rfl) ?_
    apply gy
    · exact rfl
    · (rintro v ⟨hgu, hB, hG, -⟩ N hN; have r := hB.r; simp only [BxR] at r; go_simp; exact hN)
    refine okf (by simp only [Act.put, List.setIfInBounds_toArray, List.set_cons_succ, List.set_cons_zero]; exact rfl) ?_
    apply gy
    · exact rfl
    · (rintro v ⟨hgu, hB, hG, -⟩ N hN; have r := hB.r; simp only [BxR] at r; go_simp; exact hN)
    refine okf (by simp only [Act.put, List.setIfInBounds_toArray, List.set_cons_succ, List.set_cons_zero]; exact rfl) ?_
    apply gm
    · exact rfl
    · (rintro v ⟨hgu, hB, hG, -⟩ N hN; go_simp; ((with_reducible refine (frac_Den _ (by assumption) _).mono ?_); rintro e w1 ⟨rfl, hb⟩; exact ⟨_, rfl, hN _ hb⟩))
    refine okf (by simp only [Act.put, List.setIfInBounds_toArray, List.set_cons_succ, List.set_cons_zero]; exact rfl) ?_
    apply gm
    · exact rfl
    · (rintro v ⟨hgu, hB, hG, -⟩ N hN; go_simp; ((with_reducible refine (frac_times _ _ (by assumption) _).mono ?_); rintro e w1 ⟨rfl, hb⟩; exact ⟨_, rfl, hN _ hb⟩))
    refine okf (by simp only [Act.put, List.setIfInBounds_toArray, List.set_cons_succ, List.set_cons_zero]; exact rfl) ?_
    apply gm
    · exact rfl
    · (rintro v ⟨hgu, hB, hG, -⟩ N hN; go_simp; ((with_reducible refine (frac_Den _ (by assumption) _).mono ?_); rintro e w1 ⟨rfl, hb⟩; exact ⟨_, rfl, hN _ hb⟩))
    refine okf (by simp only [Act.put, List.setIfInBounds_toArray, List.set_cons_succ, List.set_cons_zero]; exact rfl) ?_
    apply gm
    · exact rfl
    · (rintro v ⟨hgu, hB, hG, -⟩ N hN; go_simp; ((with_reducible refine (frac_times _ _ (by assumption) _).mono ?_); rintro e w1 ⟨rfl, hb⟩; exact ⟨_, rfl, hN _ hb⟩))
    refine okf (by simp only [Act.put, List.setIfInBounds_toArray, List.set_cons_succ, List.set_cons_zero]; exact rfl) ?_
    apply gm
    · exact rfl
    · (rintro v ⟨hgu, hB, hG, -⟩ N hN; go_simp; ((with_reducible refine (whole_Cmp _ _ (by assumption) (by assumption) _).mono ?_); rintro e w1 ⟨rfl, hb⟩; exact ⟨_, rfl, hN _ hb⟩))
    refine okf (by simp only [Act.put, List.setIfInBounds_toArray, List.set_cons_succ, List.set_cons_zero]; exact rfl) ?_
    refine gend ?_
    rintro v ⟨hgu, hB1, hG1, -⟩
    clear hB hG
    have hB := hB1
    have hG := hG1
    clear hB1 hG1
    refine hL _ _ ?_
    clear hL L hgu
    obtain ⟨u, rfl⟩ : ∃ x, x = v := ⟨_, rfl⟩
    go_wp2_with fail
    refine NoK.norm (hN _ _ ?_)
    clear hN K
    refine then_norm ?_
    refine wp_ret ?_
    refine ret_b rfl ?_
    intro N hN
    have r := hB.r
    simp only [BxR] at r
    simp only [results, Tryz.results25]
    go_simp
    refine hN _ ?_
    clear hN N r
    exact ⟨ret_i64 (cmpQ_cross a b).symm, hG⟩
--! frac_Cmp = frac_Cmp _ _ _ SIDE
theorem frac_Cmp (h : qs a + qs b + 1 ≤ BIG) : Calls Tryz.prog 25 #[qV a, qV b] w fun e w' => e = .returned (.int .i64 (cmpQ a b)) ∧ Grow w w' := by
  by_cases ha1 : a.den = 1
  · by_cases hb1 : b.den = 1
    · exact frac_Cmp_ww a b w h ha1 hb1
    · exact frac_Cmp_wn a b w h ha1 hb1
  · exact frac_Cmp_n a b w h ha1
theorem whole_is (q : Rat) (h : q.den = 1) : q = (q.num : Rat) := Rat.ext (Rat.num_intCast _).symm (by rw [h]; exact (Rat.den_intCast _).symm)
set_option maxHeartbeats 1000000 in
set_option maxRecDepth 100000 in
theorem frac_Add_ww (h : qs a + qs b + 1 ≤ BIG) (ha1 : a.den = 1) (hb1 : b.den = 1) : Calls Tryz.prog 21 #[qV a, qV b] w fun e w' => e = .returned (qV (qadd a b)) ∧ Grow w w' := by
  have hB40 := BIG_le
  have h1 : bl a.num.natAbs < 1099511627776 := by have := qs_num a; omega
  have h2 : bl b.num.natAbs < 1099511627776 := by have := qs_num b; have := qs_pos a; omega
  have h3 : bl a.den ≤ 1099511627776 := by have := qs_den a; omega
  have h4 : bl b.den ≤ 1099511627776 := by have := qs_den b; omega
  have e : qadd a b = ((a.num + b.num : Int) : Rat) := by
    unfold qadd
    rw [Rat.intCast_add, ← whole_is a ha1, ← whole_is b hb1]
  have e1 : (qadd a b).num = zadd a.num b.num := by rw [e, Rat.num_intCast]; rfl
  have e2 : (qadd a b).den = 1 := by rw [e, Rat.den_intCast]
  have He := Lib.hid (And.intro e1 e2)
  clear e e1 e2
  have Ha1 := Lib.hid ha1
  have Hb1 := Lib.hid hb1
  clear ha1 hb1
  go_enter Tryz.func21, Tryz.ntmps21
  refine wp_seq (wp_r0 ?_)
  intro K hN
  go_wp2_with fail
  generalize hu : World.alloc (World.alloc (World.alloc w _) _) _ = u
  obtain ⟨hB, hG⟩ := bx_first [(_, _), (_, _), (_, _)] w u hu
  have hF := fr_first w [(32, #[]), (32, #[]), (32, #[])]
  simp only [numbered, List.map_cons, List.map_nil] at hB hF
  clear hu
  generalize w.heap.size + 1 + 1 = b4 at hB hF ⊢
  generalize w.heap.size + 1 = b3 at hB hF ⊢
  generalize w.heap.size = b2 at hB hF ⊢
  refine NoK.norm (hN _ _ ?_)
  clear hN K
  refine then_norm ?_
  refine wp_seq ?_
  refine wp_seq ?_
  refine wp_rs (w := w) allocs 6 [0, 1, 0, 0, 1, 0] (by kernel_rfl) (by simp only [List.drop_succ_cons, List.drop_nil]; exact rfl) (fun _ => True) noG hB hG trivial ?_
  intro K L hN hL
  simp only [List.zip_cons_cons, List.zip_nil_left]
  apply gy
  · exact rfl
  · (rintro v ⟨hgu, hB, hG, -⟩ N hN; have r := hB.r; simp only [BxR] at r; go_simp; exact hN)
  refine okf (by simp only [Act.put, List.setIfInBounds_toArray, List.set_cons_succ, List.set_cons_zero]; exact rfl) ?_
  apply gm
  · exact rfl
  · (rintro v ⟨hgu, hB, hG, -⟩ N hN; go_simp; ((with_reducible refine (isWhole_t a h3 Ha1.out _).mono ?_); rintro e w1 ⟨rfl, hb⟩; exact ⟨_, rfl, hN _ hb⟩))
  refine okf (by simp only [Act.put, List.setIfInBounds_toArray, List.set_cons_succ, List.set_cons_zero]; exact rfl) ?_
  apply gy
  · exact rfl
  · (rintro v - N hN; go_simp; exact hN)
  refine okf (by simp only [Act.put, List.setIfInBounds_toArray, List.set_cons_succ, List.set_cons_zero]; exact rfl) ?_
  first
    | (apply gy
       · exact rfl
       · (rintro v ⟨hgu, hB, hG, -⟩ N hN; have r := hB.r; simp only [BxR] at r; go_simp; exact hN))
    | (apply gn; exact rfl)
  refine okf (by simp only [Act.put, List.setIfInBounds_toArray, List.set_cons_succ, List.set_cons_zero]; exact rfl) ?_
  first
    | (apply gm
       · exact rfl
       · (rintro v ⟨hgu, hB, hG, -⟩ N hN; go_simp; ((with_reducible refine (isWhole_t b h4 Hb1.out _).mono ?_); rintro e w1 ⟨rfl, hb⟩; exact ⟨_, rfl, hN _ hb⟩)))
    | (apply gmn; exact rfl)
  refine okf (by simp only [Act.put, List.setIfInBounds_toArray, List.set_cons_succ, List.set_cons_zero]; exact rfl) ?_
  apply gy
  · exact rfl
  · (rintro v - N hN; go_simp; exact hN)
  refine okf (by simp only [Act.put, List.setIfInBounds_toArray, List.set_cons_succ, List.set_cons_zero]; exact rfl) ?_
  refine gend ?_
  rintro v ⟨hgu, hB1, hG1, -⟩
  clear hB hG
  have hB := hB1
  have hG := hG1
  clear hB1 hG1
  refine hL _ _ ?_
  clear hL L hgu
  obtain ⟨u, rfl⟩ : ∃ x, x = v := ⟨_, rfl⟩
  refine wpList_nil ?_
  refine NoK.norm (hN _ _ ?_)
  clear hN K
  refine then_norm ?_
  refine wp_cond_true (rfl) ?_
  refine wp_seq ?_
  refine wp_rs (w := w) allocs 6 [0, 0, 0, 0, 1, 0] (by kernel_rfl) (by simp only [List.drop_succ_cons, List.drop_zero]; exact rfl) (fun _ => True) noG hB hG trivial ?_
  intro K L hN hL
  simp only [List.zip_cons_cons, List.zip_nil_left]
  apply gy
  · exact rfl
  · (rintro v - N hN; go_simp; exact hN)
  refine okf (by simp only [Act.put, List.setIfInBounds_toArray, List.set_cons_succ, List.set_cons_zero]; exact rfl) ?_
  apply gy
  · exact rfl
  · (rintro v ⟨hgu, hB, hG, -⟩ N hN; have r := hB.r; simp only [BxR] at r; go_simp; exact hN)
  refine okf (by simp only [Act.put, List.setIfInBounds_toArray, List.set_cons_succ, List.set_cons_zero]; exact rfl) ?_
  apply gy
  · exact rfl
  · (rintro v - N hN; go_simp; exact hN)
  refine okf (by simp only [Act.put, List.setIfInBounds_toArray, List.set_cons_succ, List.set_cons_zero]; exact rfl) ?_
  apply gy
  · exact rfl
  · (rintro v ⟨hgu, hB, hG, -⟩ N hN; have r := hB.r; simp only [BxR] at r; go_simp; exact hN)
  refine okf (by simp only [Act.put, List.setIfInBounds_toArray, List.set_cons_succ, List.set_cons_zero]; exact rfl) ?_
  apply gm
  · exact rfl
  · (rintro v ⟨hgu, hB, hG, -⟩ N hN; go_simp; ((with_reducible refine (whole_Add _ _ (by assumption) (by assumption) _).mono ?_); rintro e w1 ⟨rfl, hb⟩; exact ⟨_, rfl, hN _ hb⟩))
  refine okf (by simp only [Act.put, List.setIfInBounds_toArray, List.set_cons_succ, List.set_cons_zero]; exact rfl) ?_
  apply gy
  · exact rfl
  · (rintro v - N hN; go_simp; exact hN)
  refine okf (by simp only [Act.put, List.setIfInBounds_toArray, List.set_cons_succ, List.set_cons_zero]; exact rfl) ?_
  refine gend ?_
  rintro v ⟨hgu, hB1, hG1, -⟩
  clear hB hG
  have hB := hB1
  have hG := hG1
  clear hB1 hG1
  refine hL _ _ ?_
  clear hL L hgu
  obtain ⟨u, rfl⟩ : ∃ x, x = v := ⟨_, rfl⟩
  have r := hB.r
  simp only [BxR] at r
  go_wp2_with fail
  clear r
  generalize hu0 : World.setCell (World.setCell (World.setCell (World.setCell (World.setCell u _ _) _ _) _ _) _ _) _ _ = u0
  have hBG := hB.over hF hG 2 rfl 0 [_, _, _, _, _] hu0
  clear hB hG hu0
  simp only [List.modify_succ_cons, List.modify_zero_cons, wrAll, List.setIfInBounds_toArray, List.set_cons_zero, List.set_cons_succ, Nat.zero_add, Nat.reduceAdd] at hBG
  obtain ⟨hB, hG⟩ := hBG
  clear u
  obtain ⟨u, rfl⟩ : ∃ x, x = u0 := ⟨_, rfl⟩
  refine NoK.norm (hN _ _ ?_)
  clear hN K
  refine then_norm ?_
  refine wp_ret ?_
  refine then_ret ?_
  refine ret_b rfl ?_
  intro N hN
  have r := hB.r
  simp only [BxR] at r
  simp only [results, Tryz.results21]
  go_simp
  refine hN _ ?_
  clear hN N r
  exact ⟨ret_nqV He.out.1 He.out.2, hG⟩
theorem add_sizes (h : qs a + qs b + 1 ≤ BIG) : bl (Nat.gcd a.den b.den) ≤ BIG ∧ Nat.gcd a.den b.den ≠ 0 ∧ bl a.den ≤ BIG ∧ bl b.den ≤ BIG ∧ bl a.num.natAbs + bl (b.den / Nat.gcd a.den b.den) ≤ 1099511627776 ∧ bl b.num.natAbs + bl (a.den / Nat.gcd a.den b.den) ≤ 1099511627776 ∧
    bl (ztm a.num (b.den / Nat.gcd a.den b.den)).natAbs < 1099511627776 ∧ bl (ztm b.num (a.den / Nat.gcd a.den b.den)).natAbs < 1099511627776 ∧ bl (zadd (ztm a.num (b.den / Nat.gcd a.den b.den)) (ztm b.num (a.den / Nat.gcd a.den b.den))).natAbs ≤ BIG ∧
    bl (Nat.gcd (zadd (ztm a.num (b.den / Nat.gcd a.den b.den)) (ztm b.num (a.den / Nat.gcd a.den b.den))).natAbs (Nat.gcd a.den b.den)) ≤ BIG ∧ Nat.gcd (zadd (ztm a.num (b.den / Nat.gcd a.den b.den)) (ztm b.num (a.den / Nat.gcd a.den b.den))).natAbs (Nat.gcd a.den b.den) ≠ 0 := by
  have hB40 := BIG_le
  have s1 := qs_num a
  have s2 := qs_den a
  have s3 := qs_num b
  have s4 := qs_den b
  have s5 := bl_div_le b.den (Nat.gcd a.den b.den)
  have s6 := bl_div_le a.den (Nat.gcd a.den b.den)
  have g0 : Nat.gcd a.den b.den ≠ 0 := fun e => a.den_nz (Nat.eq_zero_of_gcd_eq_zero_left e)
  have g1 := bl_gcd_le a.den b.den a.den_nz
  have up : bl (upOf a b).natAbs ≤ qs a + qs b + 1 := bl_up a b
  have m1 : bl (ztm a.num (b.den / Nat.gcd a.den b.den)).natAbs ≤ bl a.num.natAbs + bl (b.den / Nat.gcd a.den b.den) := by unfold ztm; rw [Int.natAbs_mul]; exact bl_mul_le _ _
  have m2 : bl (ztm b.num (a.den / Nat.gcd a.den b.den)).natAbs ≤ bl b.num.natAbs + bl (a.den / Nat.gcd a.den b.den) := by unfold ztm; rw [Int.natAbs_mul]; exact bl_mul_le _ _
  refine ⟨by omega, g0, by omega, by omega, by omega, by omega, by omega, by omega, Nat.le_trans up h, Nat.le_trans (bl_gcd_le' _ _ g0) (by omega), fun e => g0 (Nat.eq_zero_of_gcd_eq_zero_right e)⟩
end
end Go.Proofs.YtimjnkfcnpfoeaaGreatDoor
