/-
  Contracts and plain laws, part 6: lemmas for the claim; each says its own conditions.
-/
import Derived.Test.YtimjnkfcnpfoeaaGreatDoorK1
import Derived.Test.YtimjnkfcnpfoeaaGreatDoorK2
import Derived.Test.YtimjnkfcnpfoeaaGreatDoorK3
import Derived.Test.YtimjnkfcnpfoeaaGreatDoorK4
import Derived.Test.YtimjnkfcnpfoeaaGreatDoorK5
set_option linter.unusedSimpArgs false
set_option linter.unusedVariables false
/-
  Slices of fractions; score: mean, square, paired.
-/
namespace Go.Proofs.YtimjnkfcnpfoeaaGreatDoor
open Go.RowKit
/-- these fractions lie from the address on -/
def Lq (u : World) (A : Option Addr) (l : List Rat) : Prop :=
  l ≠ [] → ∃ b off, A = some ⟨b, off, none⟩ ∧ b < u.heap.size ∧ ∀ i q, l[i]? = some q → ∀ j v, (qL q)[j]? = some v → u.cell? ⟨b, off + i * 5 + j, none⟩ = some v
theorem Lq.nil (u : World) (A : Option Addr) : Lq u A [] := fun h => absurd rfl h
theorem Lq.grow {u u' : World} {A : Option Addr} {l : List Rat} (h : Lq u A l) (hg : Grow u u') : Lq u' A l := fun hn => by
  obtain ⟨b, off, e, hb, hc⟩ := h hn
  exact ⟨b, off, e, Nat.lt_of_lt_of_le hb hg.size, fun i x hi j v hj => (hg.cell (p := ⟨b, off + i * 5 + j, none⟩) hb).trans (hc i x hi j v hj)⟩
def gq (l : List Rat) (i : Nat) : Rat := (l[i]?).getD 0
theorem gq_eq {l : List Rat} {i : Nat} (h : i < l.length) : l[i]? = some (gq l i) := by
  unfold gq; rw [List.getElem?_eq_getElem h]; rfl
theorem gq_mem {l : List Rat} {i : Nat} (h : i < l.length) : gq l i ∈ l := List.mem_of_getElem? (gq_eq h)
/-- the five cells of a fraction -/
def Cq (u : World) (b o : Nat) (q : Rat) : Prop := u.cell? ⟨b, o, none⟩ = some (.bool (intNeg q.num)) ∧ u.cell? ⟨b, o + 1, none⟩ = some (.int .u64 (natLo q.num.natAbs)) ∧ u.cell? ⟨b, o + 2, none⟩ = some (.string (natMo q.num.natAbs)) ∧
  u.cell? ⟨b, o + 3, none⟩ = some (.int .u64 (natLo (keptDen q.den))) ∧ u.cell? ⟨b, o + 4, none⟩ = some (.string (natMo (keptDen q.den)))
theorem Lq.at {u : World} {A : Option Addr} {l : List Rat} (h : Lq u A l) (hne : l ≠ []) : ∃ b off, A = some ⟨b, off, none⟩ ∧ b < u.heap.size ∧ ∀ i, i < l.length → Cq u b (off + i * 5) (gq l i) := by
  obtain ⟨b, off, e, hb, hc⟩ := h hne
  exact ⟨b, off, e, hb, fun i hi => ⟨hc i _ (gq_eq hi) 0 _ rfl, hc i _ (gq_eq hi) 1 _ rfl, hc i _ (gq_eq hi) 2 _ rfl, hc i _ (gq_eq hi) 3 _ rfl, hc i _ (gq_eq hi) 4 _ rfl⟩⟩
/-- a slice that is read at an index -/
theorem Lq.read {u : World} {b off : Nat} {l : List Rat} (h : Lq u (some ⟨b, off, none⟩) l) {i : Nat} (hi : i < l.length) : Cq u b (off + i * 5) (gq l i) := by
  obtain ⟨b', off', e, _, hc⟩ := h.at (fun h0 => by rw [h0] at hi; cases hi)
  cases e
  exact hc i hi
theorem Lq.addr {u : World} {A : Option Addr} {l : List Rat} (h : Lq u A l) (hl : 0 < l.length) : ∃ b off, A = some ⟨b, off, none⟩ := by
  obtain ⟨b, off, e, _⟩ := h (fun h0 => by rw [h0] at hl; cases hl)
  exact ⟨b, off, e⟩
/-- sums -/
def qsum (f : Nat → Rat) : Nat → Rat
  | 0 => 0
  | n + 1 => qadd (qsum f n) (f n)
theorem qs_zero : qs 0 = 1 := by show max (bl 0) (bl 1) = 1; rw [bl_zero, bl_eq_one.2 rfl]; rfl
theorem qsum_size (f : Nat → Rat) (s n : Nat) (h : ∀ i, i < n → qs (f i) ≤ s) : ∀ j, j ≤ n → qs (qsum f j) ≤ j * (s + 1) + 1
  | 0, _ => by rw [qsum, qs_zero]; omega
  | j + 1, hj => by
    have ih := qsum_size f s n h j (by omega)
    have h1 := qs_add (qsum f j) (f j)
    have h2 := h j (by omega)
    show qs (qsum f j + f j) ≤ _
    rw [Nat.add_mul]
    omega
theorem qint_sz (n : Nat) (h : n ≤ 1099511627776) : qs (qint (n : Nat)) ≤ 41 := by
  refine qs_int (n : Int) 41 ?_ (by omega)
  rw [Int.natAbs_natCast]
  omega
--! score_square = score_square _ SIDE _ (HT.grow hG)
set_option maxHeartbeats 400000 in
set_option maxRecDepth 100000 in
theorem score_square (q : Rat) (h : qs q + qs q ≤ BIG) (w : World) (HT : Tab w) : Calls Tryz.prog 88 #[qV q] w fun e w' => e = .returned (qV (qmul q q)) ∧ Grow w w' := by
  go_enter Tryz.func88, Tryz.ntmps88
  refine wp_seq (wp_r0 ?_)
  intro K hN
  go_wp2_with fail
  generalize hu : World.alloc (World.alloc w _) _ = u
  obtain ⟨hB, hG⟩ := bx_first [(_, _), (_, _)] w u hu
  have hF := fr_first w [(32, #[]), (32, #[])]
  simp only [numbered, List.map_cons, List.map_nil] at hB hF
  clear hu
  generalize w.heap.size + 1 = b2 at hB hF ⊢
  generalize w.heap.size = b1 at hB hF ⊢
  refine NoK.norm (hN _ _ ?_)
  clear hN K
  refine then_norm ?_
  refine wp_seq ?_
  refine wp_rs (w := w) allocs 3 [0, 0, 1] (by kernel_rfl) (by simp only [List.drop_succ_cons, List.drop_zero]; exact rfl) (fun _ => True) noG hB hG trivial ?_
  intro K L hN hL
  simp only [List.zip_cons_cons, List.zip_nil_left]
  apply gy
  · exact rfl
  · (rintro v ⟨hgu, hB, hG, -⟩ N hN; have r := hB.r; simp only [BxR] at r; go_simp; exact hN)
  refine okf (by simp only [Act.put, List.setIfInBounds_toArray, List.set_cons_succ, List.set_cons_zero]; exact rfl) ?_
  apply gy
  · exact rfl
  · (rintro v ⟨hgu, hB, hG, -⟩ N hN; have r := hB.r; simp only [BxR] at r; go_simp; exact hN)
  refine okf (by simp only [Act.put, List.setIfInBounds_toArray, List.set_cons_succ, List.set_cons_zero]; exact rfl) ?_
  apply gm
  · exact rfl
  · (rintro v ⟨hgu, hB, hG, -⟩ N hN; go_simp; ((with_reducible refine (frac_Mul _ _ _ (by assumption) (HT.grow hG)).mono ?_); rintro e w1 ⟨rfl, hb⟩; exact ⟨_, rfl, hN _ hb⟩))
  refine okf (by simp only [Act.put, List.setIfInBounds_toArray, List.set_cons_succ, List.set_cons_zero]; exact rfl) ?_
  refine gend ?_
  rintro v ⟨hgu, hB1, hG1, -⟩
  clear hB hG
  have hB := hB1
  have hG := hG1
  clear hB1 hG1
  refine hL _ _ ?_
  clear hL L hgu
  obtain ⟨u, rfl⟩ : ∃ x, x = v := ⟨_, rfl⟩
  have r := hB.r
  simp only [BxR] at r
  go_wp2_with fail
  clear r
  generalize hu0 : World.setCell (World.setCell (World.setCell (World.setCell (World.setCell u _ _) _ _) _ _) _ _) _ _ = u0
  have hBG := hB.over hF hG 1 rfl 0 [_, _, _, _, _] hu0
  clear hB hG hu0
  simp only [List.modify_succ_cons, List.modify_zero_cons, wrAll, List.setIfInBounds_toArray, List.set_cons_zero, List.set_cons_succ, Nat.zero_add, Nat.reduceAdd] at hBG
  obtain ⟨hB, hG⟩ := hBG
  clear u
  obtain ⟨u, rfl⟩ : ∃ x, x = u0 := ⟨_, rfl⟩
  refine NoK.norm (hN _ _ ?_)
  clear hN K
  refine then_norm ?_
  refine wp_ret ?_
  refine ret_b rfl ?_
  intro N hN
  have r := hB.r
  simp only [BxR] at r
  simp only [results, Tryz.results88]
  go_simp
  refine hN _ ?_
  clear hN N r
  exact ⟨rfl, hG⟩
set_option maxHeartbeats 1000000 in
set_option maxRecDepth 100000 in
theorem score_mean (n : Nat) (hn : n ≤ 1099511627776) (k : FuncId) (hcf : ∀ (args : Array Value) (W : World), Sem.run Tryz.prog (callFunc k args) W = .ok (.enter k args) W) (caps : Array Value) (f : Nat → Rat) (P : World → Prop) (hPm : ∀ u u', Grow u u' → P u → P u') (M s : Nat)
    (hM : ∀ j, j ≤ n → qs (qsum f j) ≤ M) (hs : ∀ i, i < n → qs (f i) ≤ s) (hB : M + s + 100 ≤ BIG) (w : World) (hP : P w) (HT : Tab w)
    (hf : ∀ i, i < n → ∀ W, P W → Tab W → Calls Tryz.prog k (#[.int .i64 (i : Nat)] ++ caps) W fun e w' => e = .returned (qV (f i)) ∧ Grow W w') :
    Calls Tryz.prog 86 #[.int .i64 n, .func (.func k) #[] caps] w fun e w' => e = .returned (qV (qdiv (qsum f n) (qint n))) ∧ Grow w w' := by
  have Hf := Lib.hid hf
  have HP := Lib.hid hP
  have HM := Lib.hid hM
  have Hs := Lib.hid hs
  have HPm := Lib.hid hPm
  have hn64 := qint_sz n hn
  clear hf hP hM hs hPm
  go_enter Tryz.func86, Tryz.ntmps86
  refine wp_seq (wp_r0 ?_)
  intro K hN
  go_wp2_with fail
  generalize hu : World.alloc w _ = u
  obtain ⟨hB, hG⟩ := bx_first [(_, _)] w u hu
  have hF := fr_first w [(32, #[])]
  simp only [numbered, List.map_cons, List.map_nil] at hB hF
  clear hu
  generalize w.heap.size = b4 at hB hF ⊢
  refine NoK.norm (hN _ _ ?_)
  clear hN K
  refine then_norm ?_
  refine wp_seq ?_
  refine wp_rs (w := w) allocs 1 [2] (by kernel_rfl) (by simp only [List.drop_succ_cons, List.drop_nil]; exact rfl) (fun _ => True) noG hB hG trivial ?_
  intro K L hN hL
  simp only [List.zip_cons_cons, List.zip_nil_left]
  refine ga (newObj_Q _ _ _ _ _) fun b5 hb5 hn5 => ?_
  refine okf (by simp only [Act.put, List.setIfInBounds_toArray, List.set_cons_succ, List.set_cons_zero]; exact rfl) ?_
  refine gend ?_
  rintro v ⟨⟨hgu, hB1, hG1, -⟩, h5⟩
  have hF := Fr.new (tk := []) hF hB hG hb5 hn5
  simp only [List.cons_append, List.nil_append, List.map_cons, List.map_nil] at hF
  clear hB hG
  have hB := (Bx.cons h5 hB1)
  have hG := hG1
  clear hB1 hG1 h5
  refine hL _ _ ?_
  clear hL L hgu
  obtain ⟨u, rfl⟩ : ∃ x, x = v := ⟨_, rfl⟩
  refine wpList_nil ?_
  refine NoK.norm (hN _ _ ?_)
  clear hN K
  refine then_norm ?_
  refine wp_seq ?_
  refine wp_seq ?_
  refine wp_r0 ?_
  intro K hN
  go_wp2_with fail
  refine NoK.norm (hN _ _ ?_)
  clear hN K
  refine then_norm ?_
  refine wp_block ?_
  go_loopw [10] (fun s0 wr => ∃ (j : Nat) (S : Rat), j ≤ n ∧ s0 = .int .i64 j ∧ (S = qsum f j) ∧ Bx wr [(b5, 32, #[.bool (intNeg S.num), .int .u64 (natLo S.num.natAbs), .string (natMo S.num.natAbs), .int .u64 (natLo (keptDen S.den)), .string (natMo (keptDen S.den))]), (b4, 32, #[.bool false, .int .u64 0, .string ⟨#[]⟩, .int .u64 0, .string ⟨#[]⟩])] ∧ Grow w wr) (fun s0 _ => n - (intOf s0).toNat)
  case atStart => exact ⟨0, 0, Nat.zero_le _, rfl, rfl, hB, hG⟩
  case round =>
    clear hB hG
    obtain ⟨j, S, hj, rfl, hrel0, hB, hG⟩ := hrel
    obtain ⟨u, rfl⟩ : ∃ x, x = wr := ⟨_, rfl⟩
    have H0 := Lib.hid hrel0
    clear hrel0
    rcases Nat.lt_or_ge j n with hlt0 | hge0
    · have hdec : decide ((j : Int) < (n : Int)) = true := by simp; omega
      have hc := Hf.out j hlt0
      have z1 := HM.out j (by omega)
      have z2 := Hs.out j hlt0
      have hnx : qsum f (j + 1) = qadd (qsum f j) (f j) := rfl
      rw [← H0.out] at z1 hnx
      obtain ⟨F, hFj⟩ : ∃ F, F = f j := ⟨_, rfl⟩
      rw [← hFj] at hc z2 hnx
      have Hc := Lib.hid hc
      have Hnx := Lib.hid hnx
      clear hc hnx hFj
      refine wp_seq ?_
      refine wp_r0 ?_
      intro K hN
      go_wp2_with fail
      refine NoK.norm (hN _ _ ?_)
      clear hN K
      refine then_norm ?_
      refine wp_seq ?_
      refine wp_cond_true (rfl) ?_
      refine wp_skip ?_
      refine then_norm ?_
      refine wp_seq ?_
      refine wp_block ?_
      refine wp_seq ?_
      refine wp_r0 ?_
      intro K hN
      go_wp2_with fail
      refine NoK.norm (hN _ _ ?_)
      clear hN K
      refine then_norm ?_
      refine wp_rd (w := w) allocs 5 [] [(0, 0), (0, 1), (0, 2), (1, 3), (1, 4)] (by kernel_rfl) (by kernel_rfl) (by simp only [List.drop_succ_cons, List.drop_zero]; exact rfl) (fun _ => True) noG hB hG trivial ?_
      intro K L hN hL
      simp only [pickOps, List.getElem?_toArray, List.getElem?_cons_zero, List.getElem?_cons_succ]
      apply gy
      · exact rfl
      · (rintro v ⟨hgu, hB, hG, -⟩ N hN; have r := hB.r; simp only [BxR] at r; go_simp; exact hN)
      refine okf (by simp only [Act.put, List.setIfInBounds_toArray, List.set_cons_succ, List.set_cons_zero]; exact rfl) ?_
      apply gy
      · exact rfl
      · (rintro v - N hN; go_simp; exact hN)
      refine okf (by simp only [Act.put, List.setIfInBounds_toArray, List.set_cons_succ, List.set_cons_zero]; exact rfl) ?_
      apply gy
      · exact rfl
      · (rintro v - N hN; go_simp; exact hN)
      refine okf (by simp only [Act.put, List.setIfInBounds_toArray, List.set_cons_succ, List.set_cons_zero]; exact rfl) ?_
      apply gm
      · exact rfl
      · (rintro v ⟨hgu, hB, hG, -⟩ N hN; go_simp; ((with_reducible refine (Hc.out _ (HPm.out _ _ hG HP.out) (HT.grow hG)).mono ?_); rintro e w1 ⟨rfl, hb⟩; exact ⟨_, rfl, hN _ hb⟩))
      refine okf (by simp only [Act.put, List.setIfInBounds_toArray, List.set_cons_succ, List.set_cons_zero]; exact rfl) ?_
      apply gm
      · exact rfl
      · (rintro v ⟨hgu, hB, hG, -⟩ N hN; go_simp; ((with_reducible refine (frac_Add _ _ _ (by omega) (HT.grow hG)).mono ?_); rintro e w1 ⟨rfl, hb⟩; exact ⟨_, rfl, hN _ hb⟩))
      refine okf (by simp only [Act.put, List.setIfInBounds_toArray, List.set_cons_succ, List.set_cons_zero]; exact rfl) ?_
      refine gend ?_
      rintro v ⟨hgu, hB1, hG1, -⟩
      clear hB hG
      have hB := hB1
      have hG := hG1
      clear hB1 hG1
      refine hL _ _ ?_
      clear hL L hgu
      obtain ⟨u, rfl⟩ : ∃ x, x = v := ⟨_, rfl⟩
      have r := hB.r
      simp only [BxR] at r
      go_wp2_with fail
      clear r
      generalize hu0 : World.setCell (World.setCell (World.setCell (World.setCell (World.setCell u _ _) _ _) _ _) _ _) _ _ = u0
      have hBG := hB.over hF hG 0 rfl 0 [_, _, _, _, _] hu0
      clear hB hG hu0
      simp only [List.modify_succ_cons, List.modify_zero_cons, wrAll, List.setIfInBounds_toArray, List.set_cons_zero, List.set_cons_succ, Nat.zero_add, Nat.reduceAdd] at hBG
      obtain ⟨hB, hG⟩ := hBG
      clear u
      obtain ⟨u, rfl⟩ : ∃ x, x = u0 := ⟨_, rfl⟩
      refine NoK.norm (hN _ _ ?_)
      clear hN K
      refine blk_norm ?_
      refine then_norm ?_
      refine wp_r0 ?_
      intro K hN
      go_wp2_with fail
      refine NoK.norm (hN _ _ ?_)
      clear hN K
      refine then_norm ?_
      go_roundw
      case rel => exact ⟨j + 1, qadd S F, by omega, by go_num, Hnx.out.symm, hB, hG⟩
      case measure => simp [intOf]; try omega
    · obtain rfl : n = j := by omega
      have hdec : decide ((n : Int) < (n : Int)) = false := by simp
      have z1 := HM.out n (Nat.le_refl _)
      rw [← H0.out] at z1
      refine wp_seq ?_
      refine wp_r0 ?_
      intro K hN
      go_wp2_with fail
      refine NoK.norm (hN _ _ ?_)
      clear hN K
      refine then_norm ?_
      refine wp_seq ?_
      refine wp_cond_false (rfl) ?_
      refine wp_exit ?_
      refine then_exit ?_
      refine then_exit ?_
      refine blk_exit ?_
      refine then_norm ?_
      refine wp_seq ?_
      refine wp_rd (w := w) allocs 8 [6] [(0, 0), (0, 1), (1, 2), (1, 3), (0, 4), (0, 5), (0, 6), (2, 7)] (by kernel_rfl) (by kernel_rfl) (by simp only [List.drop_succ_cons, List.drop_zero]; exact rfl) (fun _ => True) noG hB hG trivial ?_
      intro K L hN hL
      simp only [pickOps, List.getElem?_toArray, List.getElem?_cons_zero, List.getElem?_cons_succ]
      apply gy
      · exact rfl
      · (rintro v ⟨hgu, hB, hG, -⟩ N hN; have r := hB.r; simp only [BxR] at r; go_simp; exact hN)
      refine okf (by simp only [Act.put, List.setIfInBounds_toArray, List.set_cons_succ, List.set_cons_zero]; exact rfl) ?_
      apply gy
      · exact rfl
      · (rintro v - N hN; go_simp; exact hN)
      refine okf (by simp only [Act.put, List.setIfInBounds_toArray, List.set_cons_succ, List.set_cons_zero]; exact rfl) ?_
      apply gm
      · exact rfl
      · (rintro v ⟨hgu, hB, hG, -⟩ N hN; go_simp; ((with_reducible refine (frac_Of _ (by omega) (by omega) _).mono ?_); rintro e w1 ⟨rfl, hb⟩; exact ⟨_, rfl, hN _ hb⟩))
      refine okf (by simp only [Act.put, List.setIfInBounds_toArray, List.set_cons_succ, List.set_cons_zero]; exact rfl) ?_
      apply gm
      · exact rfl
      · (rintro v ⟨hgu, hB, hG, -⟩ N hN; go_simp; ((with_reducible refine (frac_Div _ _ _ (by omega) (HT.grow hG)).mono ?_); rintro e w1 ⟨rfl, hb⟩; exact ⟨_, rfl, hN _ hb⟩))
      refine okf (by simp only [Act.put, List.setIfInBounds_toArray, List.set_cons_succ, List.set_cons_zero]; exact rfl) ?_
      apply gy
      · exact rfl
      · (rintro v - N hN; go_simp; exact hN)
      refine okf (by simp only [Act.put, List.setIfInBounds_toArray, List.set_cons_succ, List.set_cons_zero]; exact rfl) ?_
      apply gy
      · exact rfl
      · (rintro v - N hN; go_simp; exact hN)
      refine okf (by simp only [Act.put, List.setIfInBounds_toArray, List.set_cons_succ, List.set_cons_zero]; exact rfl) ?_
      apply gy
      · exact rfl
      · (rintro v - N hN; go_simp; exact hN)
      refine okf (by simp only [Act.put, List.setIfInBounds_toArray, List.set_cons_succ, List.set_cons_zero]; exact rfl) ?_
      refine ga (newObj_Q _ _ _ _ _) fun b7 hb7 hn7 => ?_
      refine okf (by simp only [Act.put, List.setIfInBounds_toArray, List.set_cons_succ, List.set_cons_zero]; exact rfl) ?_
      refine gend ?_
      rintro v ⟨⟨hgu, hB1, hG1, -⟩, h7⟩
      have hF := Fr.new (tk := []) hF hB hG hb7 hn7
      simp only [List.cons_append, List.nil_append, List.map_cons, List.map_nil] at hF
      clear hB hG
      have hB := (Bx.cons h7 hB1)
      have hG := hG1
      clear hB1 hG1 h7
      refine hL _ _ ?_
      clear hL L hgu
      obtain ⟨u, rfl⟩ : ∃ x, x = v := ⟨_, rfl⟩
      have r := hB.r
      simp only [BxR] at r
      go_wp2_with fail
      clear r
      generalize hu0 : World.setCell (World.setCell (World.setCell (World.setCell (World.setCell u _ _) _ _) _ _) _ _) _ _ = u0
      have hBG := hB.over hF hG 0 rfl 0 [_, _, _, _, _] hu0
      clear hB hG hu0
      simp only [List.modify_succ_cons, List.modify_zero_cons, wrAll, List.setIfInBounds_toArray, List.set_cons_zero, List.set_cons_succ, Nat.zero_add, Nat.reduceAdd] at hBG
      obtain ⟨hB, hG⟩ := hBG
      clear u
      obtain ⟨u, rfl⟩ : ∃ x, x = u0 := ⟨_, rfl⟩
      refine NoK.norm (hN _ _ ?_)
      clear hN K
      refine then_norm ?_
      refine wp_seq ?_
      refine wp_r0 ?_
      intro K hN
      have r := hB.r
      simp only [BxR] at r
      go_wp2_with fail
      clear r
      generalize hu0 : World.setCell (World.setCell (World.setCell (World.setCell (World.setCell u _ _) _ _) _ _) _ _) _ _ = u0
      have hBG := hB.over hF hG 2 rfl 0 [_, _, _, _, _] hu0
      clear hB hG hu0
      simp only [List.modify_succ_cons, List.modify_zero_cons, wrAll, List.setIfInBounds_toArray, List.set_cons_zero, List.set_cons_succ, Nat.zero_add, Nat.reduceAdd] at hBG
      obtain ⟨hB, hG⟩ := hBG
      clear u
      obtain ⟨u, rfl⟩ : ∃ x, x = u0 := ⟨_, rfl⟩
      refine NoK.norm (hN _ _ ?_)
      clear hN K
      refine then_norm ?_
      refine wp_ret ?_
      refine ret_b rfl ?_
      intro N hN
      have r := hB.r
      simp only [BxR] at r
      simp only [results, Tryz.results86]
      go_simp
      refine hN _ ?_
      clear hN N r
      exact ⟨ret_qV (by rw [H0.out]), hG⟩
end Go.Proofs.YtimjnkfcnpfoeaaGreatDoor

/-
  score: paired at the other types, Squares, Sizes; frac.Sum, Mean; score.Told, Tilt.
-/
namespace Go.Proofs.YtimjnkfcnpfoeaaGreatDoor
open Go.RowKit
set_option maxHeartbeats 400000 in
theorem score_paired_qq (A B : Option Addr) (m n c d : Nat) (w : World) : Calls Tryz.prog 85 #[.slice A m c, .slice B n d] w fun e w' => e = .returned (.bool (pairedB m n)) ∧ Grow w w' := by
  by_cases h : m = n
  · subst h
    by_cases h0 : 0 < m
    · have e : pairedB m m = true := by unfold pairedB; simp [h0]
      rw [e]
      clear e
      go_enter Tryz.func85, Tryz.ntmps85
      go_wp2_with fail
      go_ret
      exact ⟨rfl, Grow.refl _⟩
    · have e : pairedB m m = false := by unfold pairedB; simp; omega
      rw [e]
      clear e
      go_enter Tryz.func85, Tryz.ntmps85
      go_wp2_with fail
      go_ret
      exact ⟨rfl, Grow.refl _⟩
  · have e : pairedB m n = false := by unfold pairedB; simp [h]
    have hb : ((m : Int) == (n : Int)) = false := by simp; omega
    rw [e]
    clear e
    go_enter Tryz.func85, Tryz.ntmps85
    go_wp2_with fail
    go_ret
    exact ⟨rfl, Grow.refl _⟩
set_option maxHeartbeats 400000 in
theorem score_paired_bq (A B : Option Addr) (m n c d : Nat) (w : World) : Calls Tryz.prog 144 #[.slice A m c, .slice B n d] w fun e w' => e = .returned (.bool (pairedB m n)) ∧ Grow w w' := by
  by_cases h : m = n
  · subst h
    by_cases h0 : 0 < m
    · have e : pairedB m m = true := by unfold pairedB; simp [h0]
      rw [e]
      clear e
      go_enter Tryz.func144, Tryz.ntmps144
      go_wp2_with fail
      go_ret
      exact ⟨rfl, Grow.refl _⟩
    · have e : pairedB m m = false := by unfold pairedB; simp; omega
      rw [e]
      clear e
      go_enter Tryz.func144, Tryz.ntmps144
      go_wp2_with fail
      go_ret
      exact ⟨rfl, Grow.refl _⟩
  · have e : pairedB m n = false := by unfold pairedB; simp [h]
    have hb : ((m : Int) == (n : Int)) = false := by simp; omega
    rw [e]
    clear e
    go_enter Tryz.func144, Tryz.ntmps144
    go_wp2_with fail
    go_ret
    exact ⟨rfl, Grow.refl _⟩
set_option maxHeartbeats 400000 in
theorem score_paired_iq (A B : Option Addr) (m n c d : Nat) (w : World) : Calls Tryz.prog 105 #[.slice A m c, .slice B n d] w fun e w' => e = .returned (.bool (pairedB m n)) ∧ Grow w w' := by
  by_cases h : m = n
  · subst h
    by_cases h0 : 0 < m
    · have e : pairedB m m = true := by unfold pairedB; simp [h0]
      rw [e]
      clear e
      go_enter Tryz.func105, Tryz.ntmps105
      go_wp2_with fail
      go_ret
      exact ⟨rfl, Grow.refl _⟩
    · have e : pairedB m m = false := by unfold pairedB; simp; omega
      rw [e]
      clear e
      go_enter Tryz.func105, Tryz.ntmps105
      go_wp2_with fail
      go_ret
      exact ⟨rfl, Grow.refl _⟩
  · have e : pairedB m n = false := by unfold pairedB; simp [h]
    have hb : ((m : Int) == (n : Int)) = false := by simp; omega
    rw [e]
    clear e
    go_enter Tryz.func105, Tryz.ntmps105
    go_wp2_with fail
    go_ret
    exact ⟨rfl, Grow.refl _⟩
theorem pairedB_yes {m : Nat} (h : 0 < m) : pairedB m m = true := by unfold pairedB; simp [h]
/-- what the closures of Squares and Sizes read -/
def TwoLq (b2 b3 : Nat) (A B : Option Addr) (m c d : Nat) (l l' : List Rat) (W : World) : Prop :=
  Blk W b2 67 #[.slice A m c] ∧ Blk W b3 67 #[.slice B m d] ∧ Lq W A l ∧ Lq W B l'
theorem TwoLq.mk {b2 b3 : Nat} {A B : Option Addr} {m c d : Nat} {l l' : List Rat} {u : World} (h1 : Blk u b2 67 #[.slice A m c]) (h2 : Blk u b3 67 #[.slice B m d]) (h3 : Lq u A l) (h4 : Lq u B l') : TwoLq b2 b3 A B m c d l l' u := ⟨h1, h2, h3, h4⟩
theorem TwoLq.grow {b2 b3 : Nat} {A B : Option Addr} {m c d : Nat} {l l' : List Rat} {u u' : World} (hg : Grow u u') (h : TwoLq b2 b3 A B m c d l l' u) : TwoLq b2 b3 A B m c d l l' u' := ⟨h.1.grow hg, h.2.1.grow hg, h.2.2.1.grow hg, h.2.2.2.grow hg⟩
theorem TwoLq.cells {b2 b3 ba oa bb ob : Nat} {m c d : Nat} {l l' : List Rat} {W : World} (h : TwoLq b2 b3 (some ⟨ba, oa, none⟩) (some ⟨bb, ob, none⟩) m c d l l' W) {i : Nat} (h1 : i < l.length) (h2 : i < l'.length) :
    (W.cell? ⟨b2, 0, none⟩ = some (.slice (some ⟨ba, oa, none⟩) m c) ∧ W.cell? ⟨b3, 0, none⟩ = some (.slice (some ⟨bb, ob, none⟩) m d)) ∧ Cq W ba (oa + i * 5) (gq l i) ∧ Cq W bb (ob + i * 5) (gq l' i) :=
  ⟨⟨h.1.cell 0, h.2.1.cell 0⟩, h.2.2.1.read h1, h.2.2.2.read h2⟩
def sqd (x y : Rat) : Rat := qmul (qsub x y) (qsub x y)
def absd (x y : Rat) : Rat := qabs (qsub x y)
theorem qs_qabs (a : Rat) : qs (qabs a) = qs a := by
  unfold qs qabs
  rw [abs_num, abs_den, sgn_abs]
theorem qs_sqd (x y : Rat) (s : Nat) (h1 : qs x ≤ s) (h2 : qs y ≤ s) : qs (sqd x y) ≤ 4 * s + 2 := by
  have h3 : qs (qsub x y) ≤ 2 * s + 1 := by have := qs_sub x y; unfold qsub; omega
  have h4 : qs (qmul (qsub x y) (qsub x y)) ≤ qs (qsub x y) + qs (qsub x y) := qs_mul _ _
  unfold sqd
  omega
theorem qs_absd (x y : Rat) (s : Nat) (h1 : qs x ≤ s) (h2 : qs y ≤ s) : qs (absd x y) ≤ 2 * s + 1 := by
  have h3 : qs (qsub x y) ≤ 2 * s + 1 := by have := qs_sub x y; unfold qsub; omega
  unfold absd
  rw [qs_qabs]
  exact h3
set_option maxHeartbeats 400000 in
set_option maxRecDepth 100000 in
theorem score_Squares_c1 (b2 b3 ba oa bb ob : Nat) (m c d : Nat) (l l' : List Rat) (hl : l.length = m) (hl' : l'.length = m) (s : Nat) (hs : ∀ x ∈ l, qs x ≤ s) (hs' : ∀ x ∈ l', qs x ≤ s) (hB : 4 * s + 10 ≤ BIG) (i : Nat) (hi : i < m) (w : World) (h : TwoLq b2 b3 (some ⟨ba, oa, none⟩) (some ⟨bb, ob, none⟩) m c d l l' w) (HT : Tab w) :
    Calls Tryz.prog 87 #[.int .i64 (i : Nat), .pointer (some ⟨b2, 0, none⟩), .pointer (some ⟨b3, 0, none⟩)] w fun e w' => e = .returned (qV (sqd (gq l i) (gq l' i))) ∧ Grow w w' := by
  have hc : ∀ W, Grow w W → (W.cell? ⟨b2, 0, none⟩ = some (.slice (some ⟨ba, oa, none⟩) m c) ∧ W.cell? ⟨b3, 0, none⟩ = some (.slice (some ⟨bb, ob, none⟩) m d)) ∧ Cq W ba (oa + i * 5) (gq l i) ∧ Cq W bb (ob + i * 5) (gq l' i) := fun W hg => (h.grow hg).cells (by omega) (by omega)
  have z1 := hs _ (gq_mem (l := l) (i := i) (by omega))
  have z2 := hs' _ (gq_mem (l := l') (i := i) (by omega))
  have z3 : qs (qsub (gq l i) (gq l' i)) ≤ 2 * s + 1 := by have := qs_sub (gq l i) (gq l' i); unfold qsub; omega
  generalize gq l i = X at *
  generalize gq l' i = Y at *
  have hBl := BIG_le
  have z4 : bl (qsub X Y).num.natAbs ≤ 1099511627776 := by have := qs_num (qsub X Y); omega
  have Hc := Lib.hid hc
  clear hc h hs hs' hl hl'
  show Calls Tryz.prog 87 #[.int .i64 (i : Nat), .pointer (some ⟨b2, 0, none⟩), .pointer (some ⟨b3, 0, none⟩)] w fun e w' => e = .returned (qV (qmul (qsub X Y) (qsub X Y))) ∧ Grow w w'
  go_enter Tryz.func87, Tryz.ntmps87
  refine wp_seq (wp_r0 ?_)
  intro K hN
  go_wp2_with fail
  generalize hu : World.alloc w _ = u
  obtain ⟨hB, hG⟩ := bx_first [(_, _)] w u hu
  have hF := fr_first w [(32, #[])]
  simp only [numbered, List.map_cons, List.map_nil] at hB hF
  clear hu
  generalize w.heap.size = b4 at hB hF ⊢
  refine NoK.norm (hN _ _ ?_)
  clear hN K
  refine then_norm ?_
  refine wp_seq ?_
  refine wp_rd (w := w) allocs 10 [] [(0, 0), (0, 1), (0, 2), (0, 3), (0, 4), (0, 5), (0, 6), (0, 7), (1, 8), (1, 9)] (by kernel_rfl) (by kernel_rfl) (by simp only [List.drop_succ_cons, List.drop_zero]; exact rfl) (fun _ => True) noG hB hG trivial ?_
  intro K L hN hL
  simp only [pickOps, List.getElem?_toArray, List.getElem?_cons_zero, List.getElem?_cons_succ]
  apply gy
  · exact rfl
  · (rintro v ⟨hgu, hB, hG, -⟩ N hN; have r := hB.r; simp only [BxR] at r; obtain ⟨⟨p1, p2⟩, ⟨q1, q2, q3, q4, q5⟩, ⟨y1, y2, y3, y4, y5⟩⟩ := Hc.out v hG; go_simp; exact hN)
  refine okf (by simp only [Act.put, List.setIfInBounds_toArray, List.set_cons_succ, List.set_cons_zero]; exact rfl) ?_
  apply gy
  · exact rfl
  · (rintro v - N hN; go_simp; exact hN)
  refine okf (by simp only [Act.put, List.setIfInBounds_toArray, List.set_cons_succ, List.set_cons_zero]; exact rfl) ?_
  apply gy
  · exact rfl
  · (rintro v - N hN; go_simp; exact hN)
  refine okf (by simp only [Act.put, List.setIfInBounds_toArray, List.set_cons_succ, List.set_cons_zero]; exact rfl) ?_
  apply gy
  · exact rfl
  · (rintro v ⟨hgu, hB, hG, -⟩ N hN; have r := hB.r; simp only [BxR] at r; obtain ⟨⟨p1, p2⟩, ⟨q1, q2, q3, q4, q5⟩, ⟨y1, y2, y3, y4, y5⟩⟩ := Hc.out v hG; go_simp; exact hN)
  refine okf (by simp only [Act.put, List.setIfInBounds_toArray, List.set_cons_succ, List.set_cons_zero]; exact rfl) ?_
  apply gy
  · exact rfl
  · (rintro v ⟨hgu, hB, hG, -⟩ N hN; have r := hB.r; simp only [BxR] at r; obtain ⟨⟨p1, p2⟩, ⟨q1, q2, q3, q4, q5⟩, ⟨y1, y2, y3, y4, y5⟩⟩ := Hc.out v hG; go_simp; exact hN)
  refine okf (by simp only [Act.put, List.setIfInBounds_toArray, List.set_cons_succ, List.set_cons_zero]; exact rfl) ?_
  apply gy
  · exact rfl
  · (rintro v - N hN; go_simp; exact hN)
  refine okf (by simp only [Act.put, List.setIfInBounds_toArray, List.set_cons_succ, List.set_cons_zero]; exact rfl) ?_
  apply gy
  · exact rfl
  · (rintro v - N hN; go_simp; exact hN)
  refine okf (by simp only [Act.put, List.setIfInBounds_toArray, List.set_cons_succ, List.set_cons_zero]; exact rfl) ?_
  apply gy
  · exact rfl
  · (rintro v ⟨hgu, hB, hG, -⟩ N hN; have r := hB.r; simp only [BxR] at r; obtain ⟨⟨p1, p2⟩, ⟨q1, q2, q3, q4, q5⟩, ⟨y1, y2, y3, y4, y5⟩⟩ := Hc.out v hG; go_simp; exact hN)
  refine okf (by simp only [Act.put, List.setIfInBounds_toArray, List.set_cons_succ, List.set_cons_zero]; exact rfl) ?_
  apply gm
  · exact rfl
  · (rintro v ⟨hgu, hB, hG, -⟩ N hN; go_simp; ((with_reducible refine (frac_Sub _ _ _ (by omega) (HT.grow hG)).mono ?_); rintro e w1 ⟨rfl, hb⟩; exact ⟨_, rfl, hN _ hb⟩))
  refine okf (by simp only [Act.put, List.setIfInBounds_toArray, List.set_cons_succ, List.set_cons_zero]; exact rfl) ?_
  apply gm
  · exact rfl
  · (rintro v ⟨hgu, hB, hG, -⟩ N hN; go_simp; ((with_reducible refine (score_square _ (by omega) _ (HT.grow hG)).mono ?_); rintro e w1 ⟨rfl, hb⟩; exact ⟨_, rfl, hN _ hb⟩))
  refine okf (by simp only [Act.put, List.setIfInBounds_toArray, List.set_cons_succ, List.set_cons_zero]; exact rfl) ?_
  refine gend ?_
  rintro v ⟨hgu, hB1, hG1, -⟩
  clear hB hG
  have hB := hB1
  have hG := hG1
  clear hB1 hG1
  refine hL _ _ ?_
  clear hL L hgu
  obtain ⟨u, rfl⟩ : ∃ x, x = v := ⟨_, rfl⟩
  have r := hB.r
  simp only [BxR] at r
  go_wp2_with fail
  clear r
  generalize hu0 : World.setCell (World.setCell (World.setCell (World.setCell (World.setCell u _ _) _ _) _ _) _ _) _ _ = u0
  have hBG := hB.over hF hG 0 rfl 0 [_, _, _, _, _] hu0
  clear hB hG hu0
  simp only [List.modify_succ_cons, List.modify_zero_cons, wrAll, List.setIfInBounds_toArray, List.set_cons_zero, List.set_cons_succ, Nat.zero_add, Nat.reduceAdd] at hBG
  obtain ⟨hB, hG⟩ := hBG
  clear u
  obtain ⟨u, rfl⟩ : ∃ x, x = u0 := ⟨_, rfl⟩
  refine NoK.norm (hN _ _ ?_)
  clear hN K
  refine then_norm ?_
  refine wp_ret ?_
  refine ret_b rfl ?_
  intro N hN
  have r := hB.r
  simp only [BxR] at r
  simp only [results, Tryz.results87]
  go_simp
  refine hN _ ?_
  clear hN N r
  exact ⟨rfl, hG⟩
theorem cf_Squares (args : Array Value) (W : World) : Sem.run Tryz.prog (callFunc 87 args) W = .ok (.enter 87 args) W := by kernel_rfl
def qSquares (l l' : List Rat) (m : Nat) : Rat := qdiv (qsum (fun i => sqd (gq l i) (gq l' i)) m) (qint m)
theorem score_mean_Squares (b2 b3 ba oa bb ob : Nat) (m c d : Nat) (l l' : List Rat) (hl : l.length = m) (hl' : l'.length = m) (hm : m ≤ 1099511627776) (s : Nat) (hs : ∀ x ∈ l, qs x ≤ s) (hs' : ∀ x ∈ l', qs x ≤ s) (hB : m * (4 * s + 3) + 4 * s + 200 ≤ BIG) (w : World) (h : TwoLq b2 b3 (some ⟨ba, oa, none⟩) (some ⟨bb, ob, none⟩) m c d l l' w) (HT : Tab w) :
    Calls Tryz.prog 86 #[.int .i64 m, .func (.func 87) #[] #[.pointer (some ⟨b2, 0, none⟩), .pointer (some ⟨b3, 0, none⟩)]] w fun e w' => e = .returned (qV (qSquares l l' m)) ∧ Grow w w' := by
  have hz : ∀ i, i < m → qs (sqd (gq l i) (gq l' i)) ≤ 4 * s + 2 := fun i hi => Nat.le_trans (qs_sqd _ _ s (hs _ (gq_mem (by omega))) (hs' _ (gq_mem (by omega)))) (by omega)
  refine score_mean m hm 87 cf_Squares _ (fun i => sqd (gq l i) (gq l' i)) (TwoLq b2 b3 (some ⟨ba, oa, none⟩) (some ⟨bb, ob, none⟩) m c d l l') (fun _ _ hg h => h.grow hg) (m * (4 * s + 3) + 1) (4 * s + 2) (fun j hj => ?_) hz (by omega) w h HT
    (fun i hi W hW hTW => score_Squares_c1 b2 b3 ba oa bb ob m c d l l' hl hl' s hs hs' (by omega) i hi W hW hTW)
  exact Nat.le_trans (qsum_size _ (4 * s + 2) m hz j hj) (Nat.add_le_add_right (Nat.mul_le_mul_right _ hj) 1)
set_option maxHeartbeats 1000000 in
set_option maxRecDepth 100000 in
theorem score_Squares_ok (A B : Option Addr) (m c d : Nat) (l l' : List Rat) (hl : l.length = m) (hl' : l'.length = m) (hm0 : 0 < m) (hm : m ≤ 1099511627776) (s : Nat) (hs : ∀ x ∈ l, qs x ≤ s) (hs' : ∀ x ∈ l', qs x ≤ s) (hB : m * (4 * s + 3) + 4 * s + 200 ≤ BIG) (w : World) (h1 : Lq w A l) (h2 : Lq w B l') (HT : Tab w) :
    Calls Tryz.prog 32 #[.slice A m c, .slice B m d] w fun e w' => e = .returned (.tuple #[qV (qSquares l l' m), .int .i64 0]) ∧ Grow w w' := by
  obtain ⟨ba, oa, rfl⟩ := h1.addr (by omega)
  obtain ⟨bb, ob, rfl⟩ := h2.addr (by omega)
  have hp : ∀ W, Calls Tryz.prog 85 #[.slice (some ⟨ba, oa, none⟩) m c, .slice (some ⟨bb, ob, none⟩) m d] W fun e w' => e = .returned (.bool true) ∧ Grow W w' := fun W => by
    have := score_paired_qq (some ⟨ba, oa, none⟩) (some ⟨bb, ob, none⟩) m m c d W
    rw [pairedB_yes hm0] at this
    exact this
  have hme := fun b2 b3 W => score_mean_Squares b2 b3 ba oa bb ob m c d l l' hl hl' hm s hs hs' hB W
  obtain ⟨S, hS⟩ : ∃ S, S = qSquares l l' m := ⟨_, rfl⟩
  rw [← hS]
  rw [← hS] at hme
  have Hp := Lib.hid hp
  have Hme := Lib.hid hme
  have H1 := Lib.hid h1
  have H2 := Lib.hid h2
  clear hp hme h1 h2 hl hl' hS hs hs' hB
  go_enter Tryz.func32, Tryz.ntmps32
  refine wp_seq (wp_r0 ?_)
  intro K hN
  go_wp2_with fail
  generalize hu : World.alloc (World.alloc (World.alloc w _) _) _ = u
  obtain ⟨hB, hG⟩ := bx_first [(_, _), (_, _), (_, _)] w u hu
  have hF := fr_first w [(67, #[]), (67, #[]), (32, #[])]
  simp only [numbered, List.map_cons, List.map_nil] at hB hF
  clear hu
  generalize w.heap.size + 1 + 1 = b4 at hB hF ⊢
  generalize w.heap.size + 1 = b3 at hB hF ⊢
  generalize w.heap.size = b2 at hB hF ⊢
  refine NoK.norm (hN _ _ ?_)
  clear hN K
  refine then_norm ?_
  refine wp_seq ?_
  refine wp_seq ?_
  refine wp_rs (w := w) allocs 4 [0, 0, 1, 0] (by kernel_rfl) (by simp only [List.drop_succ_cons, List.drop_nil]; exact rfl) (fun _ => True) noG hB hG trivial ?_
  intro K L hN hL
  simp only [List.zip_cons_cons, List.zip_nil_left]
  apply gy
  · exact rfl
  · (rintro v ⟨hgu, hB, hG, -⟩ N hN; have r := hB.r; simp only [BxR] at r; go_simp; exact hN)
  refine okf (by simp only [Act.put, List.setIfInBounds_toArray, List.set_cons_succ, List.set_cons_zero]; exact rfl) ?_
  apply gy
  · exact rfl
  · (rintro v ⟨hgu, hB, hG, -⟩ N hN; have r := hB.r; simp only [BxR] at r; go_simp; exact hN)
  refine okf (by simp only [Act.put, List.setIfInBounds_toArray, List.set_cons_succ, List.set_cons_zero]; exact rfl) ?_
  apply gm
  · exact rfl
  · (rintro v ⟨hgu, hB, hG, -⟩ N hN; go_simp; ((with_reducible refine (Hp.out _).mono ?_); rintro e w1 ⟨rfl, hb⟩; exact ⟨_, rfl, hN _ hb⟩))
  refine okf (by simp only [Act.put, List.setIfInBounds_toArray, List.set_cons_succ, List.set_cons_zero]; exact rfl) ?_
  apply gy
  · exact rfl
  · (rintro v - N hN; go_simp; exact hN)
  refine okf (by simp only [Act.put, List.setIfInBounds_toArray, List.set_cons_succ, List.set_cons_zero]; exact rfl) ?_
  refine gend ?_
  rintro v ⟨hgu, hB1, hG1, -⟩
  clear hB hG
  have hB := hB1
  have hG := hG1
  clear hB1 hG1
  refine hL _ _ ?_
  clear hL L hgu
  obtain ⟨u, rfl⟩ : ∃ x, x = v := ⟨_, rfl⟩
  refine wpList_nil ?_
  refine NoK.norm (hN _ _ ?_)
  clear hN K
  refine then_norm ?_
  refine wp_cond_false (rfl) ?_
  refine wp_skip ?_
  refine then_norm ?_
  refine wp_seq ?_
  refine wp_rs (w := w) allocs 4 [0, 0, 0, 1] (by kernel_rfl) (by simp only [List.drop_succ_cons, List.drop_zero]; exact rfl) (fun _ => True) noG hB hG trivial ?_
  intro K L hN hL
  simp only [List.zip_cons_cons, List.zip_nil_left]
  apply gy
  · exact rfl
  · (rintro v ⟨hgu, hB, hG, -⟩ N hN; have r := hB.r; simp only [BxR] at r; go_simp; exact hN)
  refine okf (by simp only [Act.put, List.setIfInBounds_toArray, List.set_cons_succ, List.set_cons_zero]; exact rfl) ?_
  apply gy
  · exact rfl
  · (rintro v - N hN; go_simp; exact hN)
  refine okf (by simp only [Act.put, List.setIfInBounds_toArray, List.set_cons_succ, List.set_cons_zero]; exact rfl) ?_
  apply gy
  · exact rfl
  · (rintro v - N hN; go_simp; exact hN)
  refine okf (by simp only [Act.put, List.setIfInBounds_toArray, List.set_cons_succ, List.set_cons_zero]; exact rfl) ?_
  apply gm
  · exact rfl
  · (rintro v ⟨hgu, hB, hG, -⟩ N hN; go_simp; ((with_reducible refine (Hme.out b2 b3 _ (TwoLq.mk hB.head hB.tail.head (H1.out.grow hG) (H2.out.grow hG)) (HT.grow hG)).mono ?_); rintro e w1 ⟨rfl, hb⟩; exact ⟨_, rfl, hN _ hb⟩))
  refine okf (by simp only [Act.put, List.setIfInBounds_toArray, List.set_cons_succ, List.set_cons_zero]; exact rfl) ?_
  refine gend ?_
  rintro v ⟨hgu, hB1, hG1, -⟩
  clear hB hG
  have hB := hB1
  have hG := hG1
  clear hB1 hG1
  refine hL _ _ ?_
  clear hL L hgu
  obtain ⟨u, rfl⟩ : ∃ x, x = v := ⟨_, rfl⟩
  have r := hB.r
  simp only [BxR] at r
  go_wp2_with fail
  clear r
  generalize hu0 : World.setCell (World.setCell (World.setCell (World.setCell (World.setCell u _ _) _ _) _ _) _ _) _ _ = u0
  have hBG := hB.over hF hG 2 rfl 0 [_, _, _, _, _] hu0
  clear hB hG hu0
  simp only [List.modify_succ_cons, List.modify_zero_cons, wrAll, List.setIfInBounds_toArray, List.set_cons_zero, List.set_cons_succ, Nat.zero_add, Nat.reduceAdd] at hBG
  obtain ⟨hB, hG⟩ := hBG
  clear u
  obtain ⟨u, rfl⟩ : ∃ x, x = u0 := ⟨_, rfl⟩
  refine NoK.norm (hN _ _ ?_)
  clear hN K
  refine then_norm ?_
  refine wp_ret ?_
  refine ret_b rfl ?_
  intro N hN
  have r := hB.r
  simp only [BxR] at r
  simp only [results, Tryz.results32]
  go_simp
  refine hN _ ?_
  clear hN N r
  exact ⟨rfl, hG⟩
set_option maxHeartbeats 1000000 in
set_option maxRecDepth 100000 in
theorem score_Squares_no (A B : Option Addr) (m n c d : Nat) (h : pairedB m n = false) (w : World) :
    Calls Tryz.prog 32 #[.slice A m c, .slice B n d] w fun e w' => e = .returned (.tuple #[qV 0, .int .i64 5]) ∧ Grow w w' := by
  have hp : ∀ W, Calls Tryz.prog 85 #[.slice A m c, .slice B n d] W fun e w' => e = .returned (.bool false) ∧ Grow W w' := fun W => by
    have := score_paired_qq A B m n c d W
    rw [h] at this
    exact this
  have Hp := Lib.hid hp
  clear hp h
  go_enter Tryz.func32, Tryz.ntmps32
  refine wp_seq (wp_r0 ?_)
  intro K hN
  go_wp2_with fail
  generalize hu : World.alloc (World.alloc (World.alloc w _) _) _ = u
  obtain ⟨hB, hG⟩ := bx_first [(_, _), (_, _), (_, _)] w u hu
  have hF := fr_first w [(67, #[]), (67, #[]), (32, #[])]
  simp only [numbered, List.map_cons, List.map_nil] at hB hF
  clear hu
  generalize w.heap.size + 1 + 1 = b4 at hB hF ⊢
  generalize w.heap.size + 1 = b3 at hB hF ⊢
  generalize w.heap.size = b2 at hB hF ⊢
  refine NoK.norm (hN _ _ ?_)
  clear hN K
  refine then_norm ?_
  refine wp_seq ?_
  refine wp_seq ?_
  refine wp_rs (w := w) allocs 4 [0, 0, 1, 0] (by kernel_rfl) (by simp only [List.drop_succ_cons, List.drop_nil]; exact rfl) (fun _ => True) noG hB hG trivial ?_
  intro K L hN hL
  simp only [List.zip_cons_cons, List.zip_nil_left]
  apply gy
  · exact rfl
  · (rintro v ⟨hgu, hB, hG, -⟩ N hN; have r := hB.r; simp only [BxR] at r; go_simp; exact hN)
  refine okf (by simp only [Act.put, List.setIfInBounds_toArray, List.set_cons_succ, List.set_cons_zero]; exact rfl) ?_
  apply gy
  · exact rfl
  · (rintro v ⟨hgu, hB, hG, -⟩ N hN; have r := hB.r; simp only [BxR] at r; go_simp; exact hN)
  refine okf (by simp only [Act.put, List.setIfInBounds_toArray, List.set_cons_succ, List.set_cons_zero]; exact rfl) ?_
  apply gm
  · exact rfl
  · (rintro v ⟨hgu, hB, hG, -⟩ N hN; go_simp; ((with_reducible refine (Hp.out _).mono ?_); rintro e w1 ⟨rfl, hb⟩; exact ⟨_, rfl, hN _ hb⟩))
  refine okf (by simp only [Act.put, List.setIfInBounds_toArray, List.set_cons_succ, List.set_cons_zero]; exact rfl) ?_
  apply gy
  · exact rfl
  · (rintro v - N hN; go_simp; exact hN)
  refine okf (by simp only [Act.put, List.setIfInBounds_toArray, List.set_cons_succ, List.set_cons_zero]; exact rfl) ?_
  refine gend ?_
  rintro v ⟨hgu, hB1, hG1, -⟩
  clear hB hG
  have hB := hB1
  have hG := hG1
  clear hB1 hG1
  refine hL _ _ ?_
  clear hL L hgu
  obtain ⟨u, rfl⟩ : ∃ x, x = v := ⟨_, rfl⟩
  refine wpList_nil ?_
  refine NoK.norm (hN _ _ ?_)
  clear hN K
  refine then_norm ?_
  refine wp_cond_true (rfl) ?_
  refine wp_seq ?_
  refine wp_r0 ?_
  intro K hN
  have r := hB.r
  simp only [BxR] at r
  go_wp2_with fail
  clear r
  generalize hu0 : World.setCell (World.setCell (World.setCell (World.setCell (World.setCell u _ _) _ _) _ _) _ _) _ _ = u0
  have hBG := hB.over hF hG 2 rfl 0 [_, _, _, _, _] hu0
  clear hB hG hu0
  simp only [List.modify_succ_cons, List.modify_zero_cons, wrAll, List.setIfInBounds_toArray, List.set_cons_zero, List.set_cons_succ, Nat.zero_add, Nat.reduceAdd] at hBG
  obtain ⟨hB, hG⟩ := hBG
  clear u
  obtain ⟨u, rfl⟩ : ∃ x, x = u0 := ⟨_, rfl⟩
  refine NoK.norm (hN _ _ ?_)
  clear hN K
  refine then_norm ?_
  refine wp_ret ?_
  refine then_ret ?_
  refine ret_b rfl ?_
  intro N hN
  have r := hB.r
  simp only [BxR] at r
  simp only [results, Tryz.results32]
  go_simp
  refine hN _ ?_
  clear hN N r
  exact ⟨rfl, hG⟩
set_option maxHeartbeats 400000 in
set_option maxRecDepth 100000 in
theorem score_Sizes_c1 (b2 b3 ba oa bb ob : Nat) (m c d : Nat) (l l' : List Rat) (hl : l.length = m) (hl' : l'.length = m) (s : Nat) (hs : ∀ x ∈ l, qs x ≤ s) (hs' : ∀ x ∈ l', qs x ≤ s) (hB : 4 * s + 10 ≤ BIG) (i : Nat) (hi : i < m) (w : World) (h : TwoLq b2 b3 (some ⟨ba, oa, none⟩) (some ⟨bb, ob, none⟩) m c d l l' w) (HT : Tab w) :
    Calls Tryz.prog 91 #[.int .i64 (i : Nat), .pointer (some ⟨b2, 0, none⟩), .pointer (some ⟨b3, 0, none⟩)] w fun e w' => e = .returned (qV (absd (gq l i) (gq l' i))) ∧ Grow w w' := by
  have hc : ∀ W, Grow w W → (W.cell? ⟨b2, 0, none⟩ = some (.slice (some ⟨ba, oa, none⟩) m c) ∧ W.cell? ⟨b3, 0, none⟩ = some (.slice (some ⟨bb, ob, none⟩) m d)) ∧ Cq W ba (oa + i * 5) (gq l i) ∧ Cq W bb (ob + i * 5) (gq l' i) := fun W hg => (h.grow hg).cells (by omega) (by omega)
  have z1 := hs _ (gq_mem (l := l) (i := i) (by omega))
  have z2 := hs' _ (gq_mem (l := l') (i := i) (by omega))
  have z3 : qs (qsub (gq l i) (gq l' i)) ≤ 2 * s + 1 := by have := qs_sub (gq l i) (gq l' i); unfold qsub; omega
  generalize gq l i = X at *
  generalize gq l' i = Y at *
  have hBl := BIG_le
  have z4 : bl (qsub X Y).num.natAbs ≤ 1099511627776 := by have := qs_num (qsub X Y); omega
  have Hc := Lib.hid hc
  clear hc h hs hs' hl hl'
  show Calls Tryz.prog 91 #[.int .i64 (i : Nat), .pointer (some ⟨b2, 0, none⟩), .pointer (some ⟨b3, 0, none⟩)] w fun e w' => e = .returned (qV (qabs (qsub X Y))) ∧ Grow w w'
  go_enter Tryz.func91, Tryz.ntmps91
  refine wp_seq (wp_r0 ?_)
  intro K hN
  go_wp2_with fail
  generalize hu : World.alloc w _ = u
  obtain ⟨hB, hG⟩ := bx_first [(_, _)] w u hu
  have hF := fr_first w [(32, #[])]
  simp only [numbered, List.map_cons, List.map_nil] at hB hF
  clear hu
  generalize w.heap.size = b4 at hB hF ⊢
  refine NoK.norm (hN _ _ ?_)
  clear hN K
  refine then_norm ?_
  refine wp_seq ?_
  refine wp_rd (w := w) allocs 10 [] [(0, 0), (0, 1), (0, 2), (0, 3), (0, 4), (0, 5), (0, 6), (0, 7), (1, 8), (1, 9)] (by kernel_rfl) (by kernel_rfl) (by simp only [List.drop_succ_cons, List.drop_zero]; exact rfl) (fun _ => True) noG hB hG trivial ?_
  intro K L hN hL
  simp only [pickOps, List.getElem?_toArray, List.getElem?_cons_zero, List.getElem?_cons_succ]
  apply gy
  · exact rfl
  · (rintro v ⟨hgu, hB, hG, -⟩ N hN; have r := hB.r; simp only [BxR] at r; obtain ⟨⟨p1, p2⟩, ⟨q1, q2, q3, q4, q5⟩, ⟨y1, y2, y3, y4, y5⟩⟩ := Hc.out v hG; go_simp; exact hN)
  refine okf (by simp only [Act.put, List.setIfInBounds_toArray, List.set_cons_succ, List.set_cons_zero]; exact rfl) ?_
  apply gy
  · exact rfl
  · (rintro v - N hN; go_simp; exact hN)
  refine okf (by simp only [Act.put, List.setIfInBounds_toArray, List.set_cons_succ, List.set_cons_zero]; exact rfl) ?_
  apply gy
  · exact rfl
  · (rintro v - N hN; go_simp; exact hN)
  refine okf (by simp only [Act.put, List.setIfInBounds_toArray, List.set_cons_succ, List.set_cons_zero]; exact rfl) ?_
  apply gy
  · exact rfl
  · (rintro v ⟨hgu, hB, hG, -⟩ N hN; have r := hB.r; simp only [BxR] at r; obtain ⟨⟨p1, p2⟩, ⟨q1, q2, q3, q4, q5⟩, ⟨y1, y2, y3, y4, y5⟩⟩ := Hc.out v hG; go_simp; exact hN)
  refine okf (by simp only [Act.put, List.setIfInBounds_toArray, List.set_cons_succ, List.set_cons_zero]; exact rfl) ?_
  apply gy
  · exact rfl
  · (rintro v ⟨hgu, hB, hG, -⟩ N hN; have r := hB.r; simp only [BxR] at r; obtain ⟨⟨p1, p2⟩, ⟨q1, q2, q3, q4, q5⟩, ⟨y1, y2, y3, y4, y5⟩⟩ := Hc.out v hG; go_simp; exact hN)
  refine okf (by simp only [Act.put, List.setIfInBounds_toArray, List.set_cons_succ, List.set_cons_zero]; exact rfl) ?_
  apply gy
  · exact rfl
  · (rintro v - N hN; go_simp; exact hN)
  refine okf (by simp only [Act.put, List.setIfInBounds_toArray, List.set_cons_succ, List.set_cons_zero]; exact rfl) ?_
  apply gy
  · exact rfl
  · (rintro v - N hN; go_simp; exact hN)
  refine okf (by simp only [Act.put, List.setIfInBounds_toArray, List.set_cons_succ, List.set_cons_zero]; exact rfl) ?_
  apply gy
  · exact rfl
  · (rintro v ⟨hgu, hB, hG, -⟩ N hN; have r := hB.r; simp only [BxR] at r; obtain ⟨⟨p1, p2⟩, ⟨q1, q2, q3, q4, q5⟩, ⟨y1, y2, y3, y4, y5⟩⟩ := Hc.out v hG; go_simp; exact hN)
  refine okf (by simp only [Act.put, List.setIfInBounds_toArray, List.set_cons_succ, List.set_cons_zero]; exact rfl) ?_
  apply gm
  · exact rfl
  · (rintro v ⟨hgu, hB, hG, -⟩ N hN; go_simp; ((with_reducible refine (frac_Sub _ _ _ (by omega) (HT.grow hG)).mono ?_); rintro e w1 ⟨rfl, hb⟩; exact ⟨_, rfl, hN _ hb⟩))
  refine okf (by simp only [Act.put, List.setIfInBounds_toArray, List.set_cons_succ, List.set_cons_zero]; exact rfl) ?_
  apply gm
  · exact rfl
  · (rintro v ⟨hgu, hB, hG, -⟩ N hN; go_simp; ((with_reducible refine (frac_Abs _ (by omega) _).mono ?_); rintro e w1 ⟨rfl, hb⟩; exact ⟨_, rfl, hN _ hb⟩))
  refine okf (by simp only [Act.put, List.setIfInBounds_toArray, List.set_cons_succ, List.set_cons_zero]; exact rfl) ?_
  refine gend ?_
  rintro v ⟨hgu, hB1, hG1, -⟩
  clear hB hG
  have hB := hB1
  have hG := hG1
  clear hB1 hG1
  refine hL _ _ ?_
  clear hL L hgu
  obtain ⟨u, rfl⟩ : ∃ x, x = v := ⟨_, rfl⟩
  have r := hB.r
  simp only [BxR] at r
  go_wp2_with fail
  clear r
  generalize hu0 : World.setCell (World.setCell (World.setCell (World.setCell (World.setCell u _ _) _ _) _ _) _ _) _ _ = u0
  have hBG := hB.over hF hG 0 rfl 0 [_, _, _, _, _] hu0
  clear hB hG hu0
  simp only [List.modify_succ_cons, List.modify_zero_cons, wrAll, List.setIfInBounds_toArray, List.set_cons_zero, List.set_cons_succ, Nat.zero_add, Nat.reduceAdd] at hBG
  obtain ⟨hB, hG⟩ := hBG
  clear u
  obtain ⟨u, rfl⟩ : ∃ x, x = u0 := ⟨_, rfl⟩
  refine NoK.norm (hN _ _ ?_)
  clear hN K
  refine then_norm ?_
  refine wp_ret ?_
  refine ret_b rfl ?_
  intro N hN
  have r := hB.r
  simp only [BxR] at r
  simp only [results, Tryz.results91]
  go_simp
  refine hN _ ?_
  clear hN N r
  exact ⟨rfl, hG⟩
theorem cf_Sizes (args : Array Value) (W : World) : Sem.run Tryz.prog (callFunc 91 args) W = .ok (.enter 91 args) W := by kernel_rfl
def qSizes (l l' : List Rat) (m : Nat) : Rat := qdiv (qsum (fun i => absd (gq l i) (gq l' i)) m) (qint m)
theorem score_mean_Sizes (b2 b3 ba oa bb ob : Nat) (m c d : Nat) (l l' : List Rat) (hl : l.length = m) (hl' : l'.length = m) (hm : m ≤ 1099511627776) (s : Nat) (hs : ∀ x ∈ l, qs x ≤ s) (hs' : ∀ x ∈ l', qs x ≤ s) (hB : m * (4 * s + 3) + 4 * s + 200 ≤ BIG) (w : World) (h : TwoLq b2 b3 (some ⟨ba, oa, none⟩) (some ⟨bb, ob, none⟩) m c d l l' w) (HT : Tab w) :
    Calls Tryz.prog 86 #[.int .i64 m, .func (.func 91) #[] #[.pointer (some ⟨b2, 0, none⟩), .pointer (some ⟨b3, 0, none⟩)]] w fun e w' => e = .returned (qV (qSizes l l' m)) ∧ Grow w w' := by
  have hz : ∀ i, i < m → qs (absd (gq l i) (gq l' i)) ≤ 4 * s + 2 := fun i hi => Nat.le_trans (qs_absd _ _ s (hs _ (gq_mem (by omega))) (hs' _ (gq_mem (by omega)))) (by omega)
  refine score_mean m hm 91 cf_Sizes _ (fun i => absd (gq l i) (gq l' i)) (TwoLq b2 b3 (some ⟨ba, oa, none⟩) (some ⟨bb, ob, none⟩) m c d l l') (fun _ _ hg h => h.grow hg) (m * (4 * s + 3) + 1) (4 * s + 2) (fun j hj => ?_) hz (by omega) w h HT
    (fun i hi W hW hTW => score_Sizes_c1 b2 b3 ba oa bb ob m c d l l' hl hl' s hs hs' (by omega) i hi W hW hTW)
  exact Nat.le_trans (qsum_size _ (4 * s + 2) m hz j hj) (Nat.add_le_add_right (Nat.mul_le_mul_right _ hj) 1)
set_option maxHeartbeats 1000000 in
set_option maxRecDepth 100000 in
theorem score_Sizes_ok (A B : Option Addr) (m c d : Nat) (l l' : List Rat) (hl : l.length = m) (hl' : l'.length = m) (hm0 : 0 < m) (hm : m ≤ 1099511627776) (s : Nat) (hs : ∀ x ∈ l, qs x ≤ s) (hs' : ∀ x ∈ l', qs x ≤ s) (hB : m * (4 * s + 3) + 4 * s + 200 ≤ BIG) (w : World) (h1 : Lq w A l) (h2 : Lq w B l') (HT : Tab w) :
    Calls Tryz.prog 34 #[.slice A m c, .slice B m d] w fun e w' => e = .returned (.tuple #[qV (qSizes l l' m), .int .i64 0]) ∧ Grow w w' := by
  obtain ⟨ba, oa, rfl⟩ := h1.addr (by omega)
  obtain ⟨bb, ob, rfl⟩ := h2.addr (by omega)
  have hp : ∀ W, Calls Tryz.prog 85 #[.slice (some ⟨ba, oa, none⟩) m c, .slice (some ⟨bb, ob, none⟩) m d] W fun e w' => e = .returned (.bool true) ∧ Grow W w' := fun W => by
    have := score_paired_qq (some ⟨ba, oa, none⟩) (some ⟨bb, ob, none⟩) m m c d W
    rw [pairedB_yes hm0] at this
    exact this
  have hme := fun b2 b3 W => score_mean_Sizes b2 b3 ba oa bb ob m c d l l' hl hl' hm s hs hs' hB W
  obtain ⟨S, hS⟩ : ∃ S, S = qSizes l l' m := ⟨_, rfl⟩
  rw [← hS]
  rw [← hS] at hme
  have Hp := Lib.hid hp
  have Hme := Lib.hid hme
  have H1 := Lib.hid h1
  have H2 := Lib.hid h2
  clear hp hme h1 h2 hl hl' hS hs hs' hB
  go_enter Tryz.func34, Tryz.ntmps34
  refine wp_seq (wp_r0 ?_)
  intro K hN
  go_wp2_with fail
  generalize hu : World.alloc (World.alloc (World.alloc w _) _) _ = u
  obtain ⟨hB, hG⟩ := bx_first [(_, _), (_, _), (_, _)] w u hu
  have hF := fr_first w [(67, #[]), (67, #[]), (32, #[])]
  simp only [numbered, List.map_cons, List.map_nil] at hB hF
  clear hu
  generalize w.heap.size + 1 + 1 = b4 at hB hF ⊢
  generalize w.heap.size + 1 = b3 at hB hF ⊢
  generalize w.heap.size = b2 at hB hF ⊢
  refine NoK.norm (hN _ _ ?_)
  clear hN K
  refine then_norm ?_
  refine wp_seq ?_
  refine wp_seq ?_
  refine wp_rs (w := w) allocs 4 [0, 0, 1, 0] (by kernel_rfl) (by simp only [List.drop_succ_cons, List.drop_nil]; exact rfl) (fun _ => True) noG hB hG trivial ?_
  intro K L hN hL
  simp only [List.zip_cons_cons, List.zip_nil_left]
  apply gy
  · exact rfl
  · (rintro v ⟨hgu, hB, hG, -⟩ N hN; have r := hB.r; simp only [BxR] at r; go_simp; exact hN)
  refine okf (by simp only [Act.put, List.setIfInBounds_toArray, List.set_cons_succ, List.set_cons_zero]; exact rfl) ?_
  apply gy
  · exact rfl
  · (rintro v ⟨hgu, hB, hG, -⟩ N hN; have r := hB.r; simp only [BxR] at r; go_simp; exact hN)
  refine okf (by simp only [Act.put, List.setIfInBounds_toArray, List.set_cons_succ, List.set_cons_zero]; exact rfl) ?_
  apply gm
  · exact rfl
  · (rintro v ⟨hgu, hB, hG, -⟩ N hN; go_simp; ((with_reducible refine (Hp.out _).mono ?_); rintro e w1 ⟨rfl, hb⟩; exact ⟨_, rfl, hN _ hb⟩))
  refine okf (by simp only [Act.put, List.setIfInBounds_toArray, List.set_cons_succ, List.set_cons_zero]; exact rfl) ?_
  apply gy
  · exact rfl
  · (rintro v - N hN; go_simp; exact hN)
  refine okf (by simp only [Act.put, List.setIfInBounds_toArray, List.set_cons_succ, List.set_cons_zero]; exact rfl) ?_
  refine gend ?_
  rintro v ⟨hgu, hB1, hG1, -⟩
  clear hB hG
  have hB := hB1
  have hG := hG1
  clear hB1 hG1
  refine hL _ _ ?_
  clear hL L hgu
  obtain ⟨u, rfl⟩ : ∃ x, x = v := ⟨_, rfl⟩
  refine wpList_nil ?_
  refine NoK.norm (hN _ _ ?_)
  clear hN K
  refine then_norm ?_
  refine wp_cond_false (rfl) ?_
  refine wp_skip ?_
  refine then_norm ?_
  refine wp_seq ?_
  refine wp_rs (w := w) allocs 4 [0, 0, 0, 1] (by kernel_rfl) (by simp only [List.drop_succ_cons, List.drop_zero]; exact rfl) (fun _ => True) noG hB hG trivial ?_
  intro K L hN hL
  simp only [List.zip_cons_cons, List.zip_nil_left]
  apply gy
  · exact rfl
  · (rintro v ⟨hgu, hB, hG, -⟩ N hN; have r := hB.r; simp only [BxR] at r; go_simp; exact hN)
  refine okf (by simp only [Act.put, List.setIfInBounds_toArray, List.set_cons_succ, List.set_cons_zero]; exact rfl) ?_
  apply gy
  · exact rfl
  · (rintro v - N hN; go_simp; exact hN)
  refine okf (by simp only [Act.put, List.setIfInBounds_toArray, List.set_cons_succ, List.set_cons_zero]; exact rfl) ?_
  apply gy
  · exact rfl
  · (rintro v - N hN; go_simp; exact hN)
  refine okf (by simp only [Act.put, List.setIfInBounds_toArray, List.set_cons_succ, List.set_cons_zero]; exact rfl) ?_
  apply gm
  · exact rfl
  · (rintro v ⟨hgu, hB, hG, -⟩ N hN; go_simp; ((with_reducible refine (Hme.out b2 b3 _ (TwoLq.mk hB.head hB.tail.head (H1.out.grow hG) (H2.out.grow hG)) (HT.grow hG)).mono ?_); rintro e w1 ⟨rfl, hb⟩; exact ⟨_, rfl, hN _ hb⟩))
  refine okf (by simp only [Act.put, List.setIfInBounds_toArray, List.set_cons_succ, List.set_cons_zero]; exact rfl) ?_
  refine gend ?_
  rintro v ⟨hgu, hB1, hG1, -⟩
  clear hB hG
  have hB := hB1
  have hG := hG1
  clear hB1 hG1
  refine hL _ _ ?_
  clear hL L hgu
  obtain ⟨u, rfl⟩ : ∃ x, x = v := ⟨_, rfl⟩
  have r := hB.r
  simp only [BxR] at r
  go_wp2_with fail
  clear r
  generalize hu0 : World.setCell (World.setCell (World.setCell (World.setCell (World.setCell u _ _) _ _) _ _) _ _) _ _ = u0
  have hBG := hB.over hF hG 2 rfl 0 [_, _, _, _, _] hu0
  clear hB hG hu0
  simp only [List.modify_succ_cons, List.modify_zero_cons, wrAll, List.setIfInBounds_toArray, List.set_cons_zero, List.set_cons_succ, Nat.zero_add, Nat.reduceAdd] at hBG
  obtain ⟨hB, hG⟩ := hBG
  clear u
  obtain ⟨u, rfl⟩ : ∃ x, x = u0 := ⟨_, rfl⟩
  refine NoK.norm (hN _ _ ?_)
  clear hN K
  refine then_norm ?_
  refine wp_ret ?_
  refine ret_b rfl ?_
  intro N hN
  have r := hB.r
  simp only [BxR] at r
  simp only [results, Tryz.results34]
  go_simp
  refine hN _ ?_
  clear hN N r
  exact ⟨rfl, hG⟩
set_option maxHeartbeats 1000000 in
set_option maxRecDepth 100000 in
theorem score_Sizes_no (A B : Option Addr) (m n c d : Nat) (h : pairedB m n = false) (w : World) :
    Calls Tryz.prog 34 #[.slice A m c, .slice B n d] w fun e w' => e = .returned (.tuple #[qV 0, .int .i64 5]) ∧ Grow w w' := by
  have hp : ∀ W, Calls Tryz.prog 85 #[.slice A m c, .slice B n d] W fun e w' => e = .returned (.bool false) ∧ Grow W w' := fun W => by
    have := score_paired_qq A B m n c d W
    rw [h] at this
    exact this
  have Hp := Lib.hid hp
  clear hp h
  go_enter Tryz.func34, Tryz.ntmps34
  refine wp_seq (wp_r0 ?_)
  intro K hN
  go_wp2_with fail
  generalize hu : World.alloc (World.alloc (World.alloc w _) _) _ = u
  obtain ⟨hB, hG⟩ := bx_first [(_, _), (_, _), (_, _)] w u hu
  have hF := fr_first w [(67, #[]), (67, #[]), (32, #[])]
  simp only [numbered, List.map_cons, List.map_nil] at hB hF
  clear hu
  generalize w.heap.size + 1 + 1 = b4 at hB hF ⊢
  generalize w.heap.size + 1 = b3 at hB hF ⊢
  generalize w.heap.size = b2 at hB hF ⊢
  refine NoK.norm (hN _ _ ?_)
  clear hN K
  refine then_norm ?_
  refine wp_seq ?_
  refine wp_seq ?_
  refine wp_rs (w := w) allocs 4 [0, 0, 1, 0] (by kernel_rfl) (by simp only [List.drop_succ_cons, List.drop_nil]; exact rfl) (fun _ => True) noG hB hG trivial ?_
  intro K L hN hL
  simp only [List.zip_cons_cons, List.zip_nil_left]
  apply gy
  · exact rfl
  · (rintro v ⟨hgu, hB, hG, -⟩ N hN; have r := hB.r; simp only [BxR] at r; go_simp; exact hN)
  refine okf (by simp only [Act.put, List.setIfInBounds_toArray, List.set_cons_succ, List.set_cons_zero]; exact rfl) ?_
  apply gy
  · exact rfl
  · (rintro v ⟨hgu, hB, hG, -⟩ N hN; have r := hB.r; simp only [BxR] at r; go_simp; exact hN)
  refine okf (by simp only [Act.put, List.setIfInBounds_toArray, List.set_cons_succ, List.set_cons_zero]; exact rfl) ?_
  apply gm
  · exact rfl
  · (rintro v ⟨hgu, hB, hG, -⟩ N hN; go_simp; ((with_reducible refine (Hp.out _).mono ?_); rintro e w1 ⟨rfl, hb⟩; exact ⟨_, rfl, hN _ hb⟩))
  refine okf (by simp only [Act.put, List.setIfInBounds_toArray, List.set_cons_succ, List.set_cons_zero]; exact rfl) ?_
  apply gy
  · exact rfl
  · (rintro v - N hN; go_simp; exact hN)
  refine okf (by simp only [Act.put, List.setIfInBounds_toArray, List.set_cons_succ, List.set_cons_zero]; exact rfl) ?_
  refine gend ?_
  rintro v ⟨hgu, hB1, hG1, -⟩
  clear hB hG
  have hB := hB1
  have hG := hG1
  clear hB1 hG1
  refine hL _ _ ?_
  clear hL L hgu
  obtain ⟨u, rfl⟩ : ∃ x, x = v := ⟨_, rfl⟩
  refine wpList_nil ?_
  refine NoK.norm (hN _ _ ?_)
  clear hN K
  refine then_norm ?_
  refine wp_cond_true (rfl) ?_
  refine wp_seq ?_
  refine wp_r0 ?_
  intro K hN
  have r := hB.r
  simp only [BxR] at r
  go_wp2_with fail
  clear r
  generalize hu0 : World.setCell (World.setCell (World.setCell (World.setCell (World.setCell u _ _) _ _) _ _) _ _) _ _ = u0
  have hBG := hB.over hF hG 2 rfl 0 [_, _, _, _, _] hu0
  clear hB hG hu0
  simp only [List.modify_succ_cons, List.modify_zero_cons, wrAll, List.setIfInBounds_toArray, List.set_cons_zero, List.set_cons_succ, Nat.zero_add, Nat.reduceAdd] at hBG
  obtain ⟨hB, hG⟩ := hBG
  clear u
  obtain ⟨u, rfl⟩ : ∃ x, x = u0 := ⟨_, rfl⟩
  refine NoK.norm (hN _ _ ?_)
  clear hN K
  refine then_norm ?_
  refine wp_ret ?_
  refine then_ret ?_
  refine ret_b rfl ?_
  intro N hN
  have r := hB.r
  simp only [BxR] at r
  simp only [results, Tryz.results34]
  go_simp
  refine hN _ ?_
  clear hN N r
  exact ⟨rfl, hG⟩
def qSum (l : List Rat) : Rat := qsum (gq l) l.length
set_option maxHeartbeats 1000000 in
set_option maxRecDepth 100000 in
theorem frac_Sum (A : Option Addr) (l : List Rat) (c n : Nat) (hn : n = l.length) (hm : n ≤ 1099511627776) (s M : Nat) (hs : ∀ x ∈ l, qs x ≤ s) (hM : ∀ j, j ≤ n → qs (qsum (gq l) j) ≤ M) (hB : M + s + 100 ≤ BIG) (w : World) (h : Lq w A l) (HT : Tab w) :
    Calls Tryz.prog 111 #[.slice A n c] w fun e w' => e = .returned (qV (qsum (gq l) n)) ∧ Grow w w' := by
  have H := Lib.hid h
  have Hs := Lib.hid hs
  have HM := Lib.hid hM
  have Hn := Lib.hid hn
  clear h hs hM hn
  go_enter Tryz.func111, Tryz.ntmps111
  refine wp_seq (wp_r0 ?_)
  intro K hN
  go_wp2_with fail
  generalize hu : World.alloc w _ = u
  obtain ⟨hB, hG⟩ := bx_first [(_, _)] w u hu
  have hF := fr_first w [(32, #[])]
  simp only [numbered, List.map_cons, List.map_nil] at hB hF
  clear hu
  generalize w.heap.size = b2 at hB hF ⊢
  refine NoK.norm (hN _ _ ?_)
  clear hN K
  refine then_norm ?_
  refine wp_seq ?_
  refine wp_rs (w := w) allocs 1 [2] (by kernel_rfl) (by simp only [List.drop_succ_cons, List.drop_nil]; exact rfl) (fun _ => True) noG hB hG trivial ?_
  intro K L hN hL
  simp only [List.zip_cons_cons, List.zip_nil_left]
  refine ga (newObj_Q _ _ _ _ _) fun b3 hb3 hn3 => ?_
  refine okf (by simp only [Act.put, List.setIfInBounds_toArray, List.set_cons_succ, List.set_cons_zero]; exact rfl) ?_
  refine gend ?_
  rintro v ⟨⟨hgu, hB1, hG1, -⟩, h3⟩
  have hF := Fr.new (tk := []) hF hB hG hb3 hn3
  simp only [List.cons_append, List.nil_append, List.map_cons, List.map_nil] at hF
  clear hB hG
  have hB := (Bx.cons h3 hB1)
  have hG := hG1
  clear hB1 hG1 h3
  refine hL _ _ ?_
  clear hL L hgu
  obtain ⟨u, rfl⟩ : ∃ x, x = v := ⟨_, rfl⟩
  refine wpList_nil ?_
  refine NoK.norm (hN _ _ ?_)
  clear hN K
  refine then_norm ?_
  refine wp_seq ?_
  refine wp_seq ?_
  refine wp_r0 ?_
  intro K hN
  go_wp2_with fail
  refine NoK.norm (hN _ _ ?_)
  clear hN K
  refine then_norm ?_
  refine wp_block ?_
  go_loopw [8] (fun s0 wr => ∃ (j : Nat) (S : Rat), j ≤ n ∧ s0 = .int .i64 j ∧ (S = qsum (gq l) j) ∧ Bx wr [(b3, 32, #[.bool (intNeg S.num), .int .u64 (natLo S.num.natAbs), .string (natMo S.num.natAbs), .int .u64 (natLo (keptDen S.den)), .string (natMo (keptDen S.den))]), (b2, 32, #[.bool false, .int .u64 0, .string ⟨#[]⟩, .int .u64 0, .string ⟨#[]⟩])] ∧ Grow w wr) (fun s0 _ => n - (intOf s0).toNat)
  case atStart => exact ⟨0, 0, Nat.zero_le _, rfl, rfl, hB, hG⟩
  case round =>
    clear hB hG
    obtain ⟨j, S, hj, rfl, hrel0, hB, hG⟩ := hrel
    obtain ⟨u, rfl⟩ : ∃ x, x = wr := ⟨_, rfl⟩
    have H0 := Lib.hid hrel0
    clear hrel0
    rcases Nat.lt_or_ge j n with hlt0 | hge0
    · have hdec : decide ((j : Int) < (n : Int)) = true := by simp; omega
      have hjl : j < l.length := by rw [← Hn.out]; exact hlt0
      have z1 := HM.out j (by omega)
      have z2 := Hs.out _ (gq_mem hjl)
      have hnx : qsum (gq l) (j + 1) = qadd (qsum (gq l) j) (gq l j) := rfl
      rw [← H0.out] at z1 hnx
      obtain ⟨ba, oa, rfl⟩ := H.out.addr (by omega)
      have hcl : ∀ W, Grow w W → Cq W ba (oa + j * 5) (gq l j) := fun W hg => (H.out.grow hg).read hjl
      obtain ⟨F, hFj⟩ : ∃ F, F = gq l j := ⟨_, rfl⟩
      rw [← hFj] at z2 hnx
      simp only [← hFj] at hcl
      have Hcl := Lib.hid hcl
      have Hnx := Lib.hid hnx
      clear hcl hnx hFj hjl
      refine wp_seq ?_
      refine wp_r0 ?_
      intro K hN
      go_wp2_with fail
      refine NoK.norm (hN _ _ ?_)
      clear hN K
      refine then_norm ?_
      refine wp_seq ?_
      refine wp_cond_true (rfl) ?_
      refine wp_skip ?_
      refine then_norm ?_
      refine wp_seq ?_
      refine wp_block ?_
      refine wp_seq ?_
      refine wp_rs (w := w) allocs 3 [0, 0, 2] (by kernel_rfl) (by simp only [List.drop_succ_cons, List.drop_zero]; exact rfl) (fun _ => True) noG hB hG trivial ?_
      intro K L hN hL
      simp only [List.zip_cons_cons, List.zip_nil_left]
      apply gy
      · exact rfl
      · (rintro v - N hN; go_simp; exact hN)
      refine okf (by simp only [Act.put, List.setIfInBounds_toArray, List.set_cons_succ, List.set_cons_zero]; exact rfl) ?_
      apply gy
      · exact rfl
      · (rintro v ⟨hgu, hB, hG, -⟩ N hN; have r := hB.r; simp only [BxR] at r; obtain ⟨q1, q2, q3, q4, q5⟩ := Hcl.out v hG; go_simp; exact hN)
      refine okf (by simp only [Act.put, List.setIfInBounds_toArray, List.set_cons_succ, List.set_cons_zero]; exact rfl) ?_
      refine ga (newObj_Q _ _ _ _ _) fun b5 hb5 hn5 => ?_
      refine okf (by simp only [Act.put, List.setIfInBounds_toArray, List.set_cons_succ, List.set_cons_zero]; exact rfl) ?_
      refine gend ?_
      rintro v ⟨⟨hgu, hB1, hG1, -⟩, h5⟩
      have hF := Fr.new (tk := []) hF hB hG hb5 hn5
      simp only [List.cons_append, List.nil_append, List.map_cons, List.map_nil] at hF
      clear hB hG
      have hB := (Bx.cons h5 hB1)
      have hG := hG1
      clear hB1 hG1 h5
      refine hL _ _ ?_
      clear hL L hgu
      obtain ⟨u, rfl⟩ : ∃ x, x = v := ⟨_, rfl⟩
      have r := hB.r
      simp only [BxR] at r
      go_wp2_with fail
      clear r
      generalize hu0 : World.setCell (World.setCell (World.setCell (World.setCell (World.setCell u _ _) _ _) _ _) _ _) _ _ = u0
      have hBG := hB.over hF hG 0 rfl 0 [_, _, _, _, _] hu0
      clear hB hG hu0
      simp only [List.modify_succ_cons, List.modify_zero_cons, wrAll, List.setIfInBounds_toArray, List.set_cons_zero, List.set_cons_succ, Nat.zero_add, Nat.reduceAdd] at hBG
      obtain ⟨hB, hG⟩ := hBG
      clear u
      obtain ⟨u, rfl⟩ : ∃ x, x = u0 := ⟨_, rfl⟩
      refine NoK.norm (hN _ _ ?_)
      clear hN K
      refine then_norm ?_
      refine wp_rs (w := w) allocs 3 [0, 0, 1] (by kernel_rfl) (by simp only [List.drop_succ_cons, List.drop_zero]; exact rfl) (fun _ => True) noG hB hG trivial ?_
      intro K L hN hL
      simp only [List.zip_cons_cons, List.zip_nil_left]
      apply gy
      · exact rfl
      · (rintro v ⟨hgu, hB, hG, -⟩ N hN; have r := hB.r; simp only [BxR] at r; obtain ⟨q1, q2, q3, q4, q5⟩ := Hcl.out v hG; go_simp; exact hN)
      refine okf (by simp only [Act.put, List.setIfInBounds_toArray, List.set_cons_succ, List.set_cons_zero]; exact rfl) ?_
      apply gy
      · exact rfl
      · (rintro v ⟨hgu, hB, hG, -⟩ N hN; have r := hB.r; simp only [BxR] at r; obtain ⟨q1, q2, q3, q4, q5⟩ := Hcl.out v hG; go_simp; exact hN)
      refine okf (by simp only [Act.put, List.setIfInBounds_toArray, List.set_cons_succ, List.set_cons_zero]; exact rfl) ?_
      apply gm
      · exact rfl
      · (rintro v ⟨hgu, hB, hG, -⟩ N hN; go_simp; ((with_reducible refine (frac_Add _ _ _ (by omega) (HT.grow hG)).mono ?_); rintro e w1 ⟨rfl, hb⟩; exact ⟨_, rfl, hN _ hb⟩))
      refine okf (by simp only [Act.put, List.setIfInBounds_toArray, List.set_cons_succ, List.set_cons_zero]; exact rfl) ?_
      refine gend ?_
      rintro v ⟨hgu, hB1, hG1, -⟩
      clear hB hG
      have hB := hB1
      have hG := hG1
      clear hB1 hG1
      refine hL _ _ ?_
      clear hL L hgu
      obtain ⟨u, rfl⟩ : ∃ x, x = v := ⟨_, rfl⟩
      have r := hB.r
      simp only [BxR] at r
      go_wp2_with fail
      clear r
      generalize hu0 : World.setCell (World.setCell (World.setCell (World.setCell (World.setCell u _ _) _ _) _ _) _ _) _ _ = u0
      have hBG := hB.over hF hG 1 rfl 0 [_, _, _, _, _] hu0
      clear hB hG hu0
      simp only [List.modify_succ_cons, List.modify_zero_cons, wrAll, List.setIfInBounds_toArray, List.set_cons_zero, List.set_cons_succ, Nat.zero_add, Nat.reduceAdd] at hBG
      obtain ⟨hB, hG⟩ := hBG
      clear u
      obtain ⟨u, rfl⟩ : ∃ x, x = u0 := ⟨_, rfl⟩
      refine NoK.norm (hN _ _ ?_)
      clear hN K
      refine blk_norm ?_
      refine then_norm ?_
      refine wp_r0 ?_
      intro K hN
      go_wp2_with fail
      refine NoK.norm (hN _ _ ?_)
      clear hN K
      refine then_norm ?_
      go_roundw
      case rel => exact ⟨j + 1, qadd S F, by omega, by go_num, Hnx.out.symm, hB.tail, hG⟩
      case measure => simp [intOf]; omega
    · obtain rfl : n = j := by omega
      have hdec : decide ((n : Int) < (n : Int)) = false := by simp
      skip
      refine wp_seq ?_
      refine wp_r0 ?_
      intro K hN
      go_wp2_with fail
      refine NoK.norm (hN _ _ ?_)
      clear hN K
      refine then_norm ?_
      refine wp_seq ?_
      refine wp_cond_false (rfl) ?_
      refine wp_exit ?_
      refine then_exit ?_
      refine then_exit ?_
      refine blk_exit ?_
      refine then_norm ?_
      refine wp_seq ?_
      refine wp_r0 ?_
      intro K hN
      have r := hB.r
      simp only [BxR] at r
      go_wp2_with fail
      clear r
      generalize hu0 : World.setCell (World.setCell (World.setCell (World.setCell (World.setCell u _ _) _ _) _ _) _ _) _ _ = u0
      have hBG := hB.over hF hG 1 rfl 0 [_, _, _, _, _] hu0
      clear hB hG hu0
      simp only [List.modify_succ_cons, List.modify_zero_cons, wrAll, List.setIfInBounds_toArray, List.set_cons_zero, List.set_cons_succ, Nat.zero_add, Nat.reduceAdd] at hBG
      obtain ⟨hB, hG⟩ := hBG
      clear u
      obtain ⟨u, rfl⟩ : ∃ x, x = u0 := ⟨_, rfl⟩
      refine NoK.norm (hN _ _ ?_)
      clear hN K
      refine then_norm ?_
      refine wp_ret ?_
      refine ret_b rfl ?_
      intro N hN
      have r := hB.r
      simp only [BxR] at r
      simp only [results, Tryz.results111]
      go_simp
      refine hN _ ?_
      clear hN N r
      exact ⟨ret_qV (by rw [H0.out]), hG⟩
def qMean (l : List Rat) (n : Nat) : Rat := qdiv (qsum (gq l) n) (qint n)
set_option maxHeartbeats 1000000 in
set_option maxRecDepth 100000 in
theorem frac_Mean (A : Option Addr) (l : List Rat) (c n : Nat) (hn : n = l.length) (hn0 : 0 < n) (hm : n ≤ 1099511627776) (s : Nat) (hs : ∀ x ∈ l, qs x ≤ s) (hB : n * (s + 1) + s + 200 ≤ BIG) (w : World) (h : Lq w A l) (HT : Tab w) :
    Calls Tryz.prog 49 #[.slice A n c] w fun e w' => e = .returned (.tuple #[qV (qMean l n), .bool true]) ∧ Grow w w' := by
  have hsz := qsum_size (gq l) s n (fun i hi => hs _ (gq_mem (by omega)))
  have hsz2 : ∀ j, j ≤ n → qs (qsum (gq l) j) ≤ n * (s + 1) + 1 := fun j hj => Nat.le_trans (hsz j hj) (Nat.add_le_add_right (Nat.mul_le_mul_right _ hj) 1)
  have hsum : ∀ W, Grow w W → Calls Tryz.prog 111 #[.slice A n c] W fun e w' => e = .returned (qV (qsum (gq l) n)) ∧ Grow W w' := fun W hg => frac_Sum A l c n hn hm s (n * (s + 1) + 1) hs hsz2 (by omega) W (h.grow hg) (HT.grow hg)
  have z1 := hsz2 n (Nat.le_refl _)
  have z2 := qint_sz n hm
  have hnz : nzq (qint (n : Nat)) = true := decide_eq_true (fun h0 => by
    have h1 := qint_num (n : Int)
    rw [h0] at h1
    have : (0 : Rat).num = 0 := rfl
    omega)
  obtain ⟨S, hS⟩ : ∃ S, S = qsum (gq l) n := ⟨_, rfl⟩
  have hqm : qMean l n = qdiv S (qint n) := by rw [hS]; rfl
  rw [← hS] at hsum z1
  rw [hqm, ← hnz]
  have Hsum := Lib.hid hsum
  clear hsum hsz hsz2 hS hqm hs h hn hnz
  go_enter Tryz.func49, Tryz.ntmps49
  refine wp_seq (wp_r0 ?_)
  intro K hN
  go_wp2_with fail
  generalize hu : World.alloc w _ = u
  obtain ⟨hB, hG⟩ := bx_first [(_, _)] w u hu
  have hF := fr_first w [(32, #[])]
  simp only [numbered, List.map_cons, List.map_nil] at hB hF
  clear hu
  generalize w.heap.size = b2 at hB hF ⊢
  refine NoK.norm (hN _ _ ?_)
  clear hN K
  refine then_norm ?_
  refine wp_seq ?_
  refine wp_rs (w := w) allocs 8 [0, 1, 0, 0, 1, 1, 0, 0] (by kernel_rfl) (by simp only [List.drop_succ_cons, List.drop_zero]; exact rfl) (fun _ => True) noG hB hG trivial ?_
  intro K L hN hL
  simp only [List.zip_cons_cons, List.zip_nil_left]
  apply gy
  · exact rfl
  · (rintro v - N hN; go_simp; exact hN)
  refine okf (by simp only [Act.put, List.setIfInBounds_toArray, List.set_cons_succ, List.set_cons_zero]; exact rfl) ?_
  apply gm
  · exact rfl
  · (rintro v ⟨hgu, hB, hG, -⟩ N hN; go_simp; ((with_reducible refine (Hsum.out _ hG).mono ?_); rintro e w1 ⟨rfl, hb⟩; exact ⟨_, rfl, hN _ hb⟩))
  refine okf (by simp only [Act.put, List.setIfInBounds_toArray, List.set_cons_succ, List.set_cons_zero]; exact rfl) ?_
  apply gy
  · exact rfl
  · (rintro v - N hN; go_simp; exact hN)
  refine okf (by simp only [Act.put, List.setIfInBounds_toArray, List.set_cons_succ, List.set_cons_zero]; exact rfl) ?_
  apply gy
  · exact rfl
  · (rintro v - N hN; go_simp; exact hN)
  refine okf (by simp only [Act.put, List.setIfInBounds_toArray, List.set_cons_succ, List.set_cons_zero]; exact rfl) ?_
  apply gm
  · exact rfl
  · (rintro v ⟨hgu, hB, hG, -⟩ N hN; go_simp; ((with_reducible refine (frac_Of _ (by omega) (by omega) _).mono ?_); rintro e w1 ⟨rfl, hb⟩; exact ⟨_, rfl, hN _ hb⟩))
  refine okf (by simp only [Act.put, List.setIfInBounds_toArray, List.set_cons_succ, List.set_cons_zero]; exact rfl) ?_
  apply gm
  · exact rfl
  · (rintro v ⟨hgu, hB, hG, -⟩ N hN; go_simp; ((with_reducible refine (frac_Div _ _ _ (by omega) (HT.grow hG)).mono ?_); rintro e w1 ⟨rfl, hb⟩; exact ⟨_, rfl, hN _ hb⟩))
  refine okf (by simp only [Act.put, List.setIfInBounds_toArray, List.set_cons_succ, List.set_cons_zero]; exact rfl) ?_
  apply gy
  · exact rfl
  · (rintro v - N hN; go_simp; exact hN)
  refine okf (by simp only [Act.put, List.setIfInBounds_toArray, List.set_cons_succ, List.set_cons_zero]; exact rfl) ?_
  apply gy
  · exact rfl
  · (rintro v - N hN; go_simp; exact hN)
  refine okf (by simp only [Act.put, List.setIfInBounds_toArray, List.set_cons_succ, List.set_cons_zero]; exact rfl) ?_
  refine gend ?_
  rintro v ⟨hgu, hB1, hG1, -⟩
  clear hB hG
  have hB := hB1
  have hG := hG1
  clear hB1 hG1
  refine hL _ _ ?_
  clear hL L hgu
  obtain ⟨u, rfl⟩ : ∃ x, x = v := ⟨_, rfl⟩
  have r := hB.r
  simp only [BxR] at r
  go_wp2_with fail
  clear r
  generalize hu0 : World.setCell (World.setCell (World.setCell (World.setCell (World.setCell u _ _) _ _) _ _) _ _) _ _ = u0
  have hBG := hB.over hF hG 0 rfl 0 [_, _, _, _, _] hu0
  clear hB hG hu0
  simp only [List.modify_succ_cons, List.modify_zero_cons, wrAll, List.setIfInBounds_toArray, List.set_cons_zero, List.set_cons_succ, Nat.zero_add, Nat.reduceAdd] at hBG
  obtain ⟨hB, hG⟩ := hBG
  clear u
  obtain ⟨u, rfl⟩ : ∃ x, x = u0 := ⟨_, rfl⟩
  refine NoK.norm (hN _ _ ?_)
  clear hN K
  refine then_norm ?_
  refine wp_ret ?_
  refine ret_b rfl ?_
  intro N hN
  have r := hB.r
  simp only [BxR] at r
  simp only [results, Tryz.results49]
  go_simp
  refine hN _ ?_
  clear hN N r
  exact ⟨rfl, hG⟩
end Go.Proofs.YtimjnkfcnpfoeaaGreatDoor

/-
  score.Told; score.Tilt where the third argument does not lie from 0 to 1.
-/
namespace Go.Proofs.YtimjnkfcnpfoeaaGreatDoor
open Go.RowKit
abbrev qCells (q : Rat) : Array Value := #[.bool (intNeg q.num), .int .u64 (natLo q.num.natAbs), .string (natMo q.num.natAbs), .int .u64 (natLo (keptDen q.den)), .string (natMo (keptDen q.den))]
/-- what the closure of Told reads -/
def OneLq (b2 b8 : Nat) (A : Option Addr) (m c : Nat) (l : List Rat) (q : Rat) (W : World) : Prop :=
  Blk W b2 67 #[.slice A m c] ∧ Blk W b8 32 (qCells q) ∧ Lq W A l
theorem OneLq.mk {b2 b8 : Nat} {A : Option Addr} {m c : Nat} {l : List Rat} {q : Rat} {u : World} (h1 : Blk u b2 67 #[.slice A m c]) (h2 : Blk u b8 32 (qCells q)) (h3 : Lq u A l) : OneLq b2 b8 A m c l q u := ⟨h1, h2, h3⟩
theorem OneLq.grow {b2 b8 : Nat} {A : Option Addr} {m c : Nat} {l : List Rat} {q : Rat} {u u' : World} (hg : Grow u u') (h : OneLq b2 b8 A m c l q u) : OneLq b2 b8 A m c l q u' := ⟨h.1.grow hg, h.2.1.grow hg, h.2.2.grow hg⟩
theorem blk_cq {W : World} {b : Nat} {q : Rat} (h : Blk W b 32 (qCells q)) : Cq W b 0 q := ⟨h.cell 0, h.cell 1, h.cell 2, h.cell 3, h.cell 4⟩
set_option maxHeartbeats 400000 in
set_option maxRecDepth 100000 in
theorem score_Told_c1 (b2 b8 ba oa : Nat) (m c : Nat) (l : List Rat) (Y : Rat) (hl : l.length = m) (s : Nat) (hs : ∀ x ∈ l, qs x ≤ s) (z2 : qs Y ≤ s) (hB : 4 * s + 10 ≤ BIG) (i : Nat) (hi : i < m) (w : World) (h : OneLq b2 b8 (some ⟨ba, oa, none⟩) m c l Y w) (HT : Tab w) :
    Calls Tryz.prog 94 #[.int .i64 (i : Nat), .pointer (some ⟨b2, 0, none⟩), .pointer (some ⟨b8, 0, none⟩)] w fun e w' => e = .returned (qV (sqd (gq l i) Y)) ∧ Grow w w' := by
  have hc : ∀ W, Grow w W → W.cell? ⟨b2, 0, none⟩ = some (.slice (some ⟨ba, oa, none⟩) m c) ∧ Cq W ba (oa + i * 5) (gq l i) ∧ Cq W b8 0 Y := fun W hg => ⟨(h.grow hg).1.cell 0, (h.grow hg).2.2.read (by omega), blk_cq (h.grow hg).2.1⟩
  have z1 := hs _ (gq_mem (l := l) (i := i) (by omega))
  have z3 : qs (qsub (gq l i) Y) ≤ 2 * s + 1 := by have := qs_sub (gq l i) Y; unfold qsub; omega
  generalize gq l i = X at *
  have Hc := Lib.hid hc
  clear hc h hs hl
  show Calls Tryz.prog 94 #[.int .i64 (i : Nat), .pointer (some ⟨b2, 0, none⟩), .pointer (some ⟨b8, 0, none⟩)] w fun e w' => e = .returned (qV (qmul (qsub X Y) (qsub X Y))) ∧ Grow w w'
  go_enter Tryz.func94, Tryz.ntmps94
  refine wp_seq (wp_r0 ?_)
  intro K hN
  go_wp2_with fail
  generalize hu : World.alloc w _ = u
  obtain ⟨hB, hG⟩ := bx_first [(_, _)] w u hu
  have hF := fr_first w [(32, #[])]
  simp only [numbered, List.map_cons, List.map_nil] at hB hF
  clear hu
  generalize w.heap.size = b4 at hB hF ⊢
  refine NoK.norm (hN _ _ ?_)
  clear hN K
  refine then_norm ?_
  refine wp_seq ?_
  refine wp_rd (w := w) allocs 7 [] [(0, 0), (0, 1), (0, 2), (0, 3), (0, 4), (1, 5), (1, 6)] (by kernel_rfl) (by kernel_rfl) (by simp only [List.drop_succ_cons, List.drop_zero]; exact rfl) (fun _ => True) noG hB hG trivial ?_
  intro K L hN hL
  simp only [pickOps, List.getElem?_toArray, List.getElem?_cons_zero, List.getElem?_cons_succ]
  apply gy
  · exact rfl
  · (rintro v ⟨hgu, hB, hG, -⟩ N hN; have r := hB.r; simp only [BxR] at r; obtain ⟨p1, ⟨q1, q2, q3, q4, q5⟩, ⟨y1, y2, y3, y4, y5⟩⟩ := Hc.out v hG; go_simp; exact hN)
  refine okf (by simp only [Act.put, List.setIfInBounds_toArray, List.set_cons_succ, List.set_cons_zero]; exact rfl) ?_
  apply gy
  · exact rfl
  · (rintro v - N hN; go_simp; exact hN)
  refine okf (by simp only [Act.put, List.setIfInBounds_toArray, List.set_cons_succ, List.set_cons_zero]; exact rfl) ?_
  apply gy
  · exact rfl
  · (rintro v - N hN; go_simp; exact hN)
  refine okf (by simp only [Act.put, List.setIfInBounds_toArray, List.set_cons_succ, List.set_cons_zero]; exact rfl) ?_
  apply gy
  · exact rfl
  · (rintro v ⟨hgu, hB, hG, -⟩ N hN; have r := hB.r; simp only [BxR] at r; obtain ⟨p1, ⟨q1, q2, q3, q4, q5⟩, ⟨y1, y2, y3, y4, y5⟩⟩ := Hc.out v hG; go_simp; exact hN)
  refine okf (by simp only [Act.put, List.setIfInBounds_toArray, List.set_cons_succ, List.set_cons_zero]; exact rfl) ?_
  apply gy
  · exact rfl
  · (rintro v ⟨hgu, hB, hG, -⟩ N hN; have r := hB.r; simp only [BxR] at r; obtain ⟨p1, ⟨q1, q2, q3, q4, q5⟩, ⟨y1, y2, y3, y4, y5⟩⟩ := Hc.out v hG; go_simp; exact hN)
  refine okf (by simp only [Act.put, List.setIfInBounds_toArray, List.set_cons_succ, List.set_cons_zero]; exact rfl) ?_
  apply gm
  · exact rfl
  · (rintro v ⟨hgu, hB, hG, -⟩ N hN; go_simp; ((with_reducible refine (frac_Sub _ _ _ (by omega) (HT.grow hG)).mono ?_); rintro e w1 ⟨rfl, hb⟩; exact ⟨_, rfl, hN _ hb⟩))
  refine okf (by simp only [Act.put, List.setIfInBounds_toArray, List.set_cons_succ, List.set_cons_zero]; exact rfl) ?_
  apply gm
  · exact rfl
  · (rintro v ⟨hgu, hB, hG, -⟩ N hN; go_simp; ((with_reducible refine (score_square _ (by omega) _ (HT.grow hG)).mono ?_); rintro e w1 ⟨rfl, hb⟩; exact ⟨_, rfl, hN _ hb⟩))
  refine okf (by simp only [Act.put, List.setIfInBounds_toArray, List.set_cons_succ, List.set_cons_zero]; exact rfl) ?_
  refine gend ?_
  rintro v ⟨hgu, hB1, hG1, -⟩
  clear hB hG
  have hB := hB1
  have hG := hG1
  clear hB1 hG1
  refine hL _ _ ?_
  clear hL L hgu
  obtain ⟨u, rfl⟩ : ∃ x, x = v := ⟨_, rfl⟩
  have r := hB.r
  simp only [BxR] at r
  go_wp2_with fail
  clear r
  generalize hu0 : World.setCell (World.setCell (World.setCell (World.setCell (World.setCell u _ _) _ _) _ _) _ _) _ _ = u0
  have hBG := hB.over hF hG 0 rfl 0 [_, _, _, _, _] hu0
  clear hB hG hu0
  simp only [List.modify_succ_cons, List.modify_zero_cons, wrAll, List.setIfInBounds_toArray, List.set_cons_zero, List.set_cons_succ, Nat.zero_add, Nat.reduceAdd] at hBG
  obtain ⟨hB, hG⟩ := hBG
  clear u
  obtain ⟨u, rfl⟩ : ∃ x, x = u0 := ⟨_, rfl⟩
  refine NoK.norm (hN _ _ ?_)
  clear hN K
  refine then_norm ?_
  refine wp_ret ?_
  refine ret_b rfl ?_
  intro N hN
  have r := hB.r
  simp only [BxR] at r
  simp only [results, Tryz.results94]
  go_simp
  refine hN _ ?_
  clear hN N r
  exact ⟨rfl, hG⟩
theorem cf_Told (args : Array Value) (W : World) : Sem.run Tryz.prog (callFunc 94 args) W = .ok (.enter 94 args) W := by kernel_rfl
def qOff (l : List Rat) (Y : Rat) (m : Nat) : Rat := qdiv (qsum (fun i => sqd (gq l i) Y) m) (qint m)
theorem score_mean_Told (b2 b8 ba oa : Nat) (m c : Nat) (l : List Rat) (Y : Rat) (hl : l.length = m) (hm : m ≤ 1099511627776) (s : Nat) (hs : ∀ x ∈ l, qs x ≤ s) (hY : qs Y ≤ s) (hB : m * (4 * s + 3) + 4 * s + 200 ≤ BIG) (w : World) (h : OneLq b2 b8 (some ⟨ba, oa, none⟩) m c l Y w) (HT : Tab w) :
    Calls Tryz.prog 86 #[.int .i64 m, .func (.func 94) #[] #[.pointer (some ⟨b2, 0, none⟩), .pointer (some ⟨b8, 0, none⟩)]] w fun e w' => e = .returned (qV (qOff l Y m)) ∧ Grow w w' := by
  have hz : ∀ i, i < m → qs (sqd (gq l i) Y) ≤ 4 * s + 2 := fun i hi => qs_sqd _ _ s (hs _ (gq_mem (by omega))) hY
  refine score_mean m hm 94 cf_Told _ (fun i => sqd (gq l i) Y) (OneLq b2 b8 (some ⟨ba, oa, none⟩) m c l Y) (fun _ _ hg h => h.grow hg) (m * (4 * s + 3) + 1) (4 * s + 2) (fun j hj => ?_) hz (by omega) w h HT
    (fun i hi W hW hTW => score_Told_c1 b2 b8 ba oa m c l Y hl s hs hY (by omega) i hi W hW hTW)
  exact Nat.le_trans (qsum_size _ (4 * s + 2) m hz j hj) (Nat.add_le_add_right (Nat.mul_le_mul_right _ hj) 1)
/-- a mean's size -/
theorem mean_size {f : Nat → Rat} {m s : Nat} (hm : m ≤ 1099511627776) (h : ∀ i, i < m → qs (f i) ≤ s) : qs (qdiv (qsum f m) (qint m)) ≤ m * (s + 1) + 42 := by
  have h1 := qsum_size f s m h m (Nat.le_refl _)
  have h2 := qs_div (qsum f m) (qint m)
  have h3 := qint_sz m hm
  unfold qdiv
  omega
def toldQ (l l' : List Rat) (m : Nat) : Rat := qsub (qint 1) (qdiv (qSquares l l' m) (qOff l (qMean l m) m))
set_option maxHeartbeats 2000000 in
set_option maxRecDepth 100000 in
theorem score_Told_ok (A B : Option Addr) (m c d : Nat) (l l' : List Rat) (hl : l.length = m) (hl' : l'.length = m) (hm0 : 0 < m) (hm : m ≤ 1099511627776) (s S : Nat) (hs : ∀ x ∈ l, qs x ≤ s) (hs' : ∀ x ∈ l', qs x ≤ s) (hS1 : s ≤ S) (hS2 : m * (s + 1) + 50 ≤ S) (hB : 4 * (m * (4 * S + 3)) + 100 * S + 1000 ≤ BIG)
    (w : World) (h1 : Lq w A l) (h2 : Lq w B l') (HT : Tab w) :
    Calls Tryz.prog 36 #[.slice A m c, .slice B m d] w fun e w' => e = .returned (if qOff l (qMean l m) m = 0 then .tuple #[qV 0, .int .i64 6] else .tuple #[qV (toldQ l l' m), .int .i64 0]) ∧ Grow w w' := by
  obtain ⟨ba, oa, rfl⟩ := h1.addr (by omega)
  have hsS : ∀ x ∈ l, qs x ≤ S := fun x hx => Nat.le_trans (hs x hx) hS1
  have hsS' : ∀ x ∈ l', qs x ≤ S := fun x hx => Nat.le_trans (hs' x hx) hS1
  have hsq : ∀ W, Grow w W → Calls Tryz.prog 32 #[.slice (some ⟨ba, oa, none⟩) m c, .slice B m d] W fun e w' => e = .returned (.tuple #[qV (qSquares l l' m), .int .i64 0]) ∧ Grow W w' := fun W hg =>
    score_Squares_ok _ B m c d l l' hl hl' hm0 hm S hsS hsS' (by omega) W (h1.grow hg) (h2.grow hg) (HT.grow hg)
  have hmean : ∀ W, Grow w W → Calls Tryz.prog 49 #[.slice (some ⟨ba, oa, none⟩) m c] W fun e w' => e = .returned (.tuple #[qV (qMean l m), .bool true]) ∧ Grow W w' := fun W hg =>
    frac_Mean _ l c m hl.symm hm0 hm s hs (by omega) W (h1.grow hg) (HT.grow hg)
  have z1 : qs (qMean l m) ≤ S := Nat.le_trans (mean_size hm (fun i hi => hs _ (gq_mem (l := l) (by omega)))) (by omega)
  have hoff := fun b2 b8 W => score_mean_Told b2 b8 ba oa m c l (qMean l m) hl hm S hsS z1 (by omega) W
  have z2 : qs (qSquares l l' m) ≤ m * (4 * S + 3) + 42 := mean_size hm (fun i hi => qs_sqd _ _ S (hsS _ (gq_mem (by omega))) (hsS' _ (gq_mem (by omega))))
  have z3 : qs (qOff l (qMean l m) m) ≤ m * (4 * S + 3) + 42 := mean_size hm (fun i hi => qs_sqd _ _ S (hsS _ (gq_mem (by omega))) z1)
  have ht : toldQ l l' m = qsub (qint 1) (qdiv (qSquares l l' m) (qOff l (qMean l m) m)) := rfl
  generalize qMean l m = mid at *
  generalize qSquares l l' m = miss at *
  generalize qOff l mid m = off at *
  rw [ht]
  have z4 : qs (qdiv miss off) ≤ 2 * (m * (4 * S + 3)) + 84 := by have := qs_div miss off; unfold qdiv; omega
  have z5 : qs (qint 1) ≤ 41 := qint_sz 1 (by omega)
  have hdv : ∀ W, Tab W → Calls Tryz.prog 24 #[qV miss, qV off] W fun e w' => e = .returned (.tuple #[qV (qdiv miss off), .bool (nzq off)]) ∧ Grow W w' := fun W hT => frac_Div miss off W (by omega) hT
  obtain ⟨part, hpart⟩ : ∃ p, p = qdiv miss off := ⟨_, rfl⟩
  rw [← hpart] at z4 hdv
  rw [← hpart]
  have Hsq := Lib.hid hsq
  have Hmean := Lib.hid hmean
  have Hoff := Lib.hid hoff
  have H1 := Lib.hid h1
  by_cases h0 : off = 0
  · rw [if_pos h0]
    have hz : nzq off = false := by unfold nzq; simp [h0]
    rw [hz] at hdv
    have Hdv := Lib.hid hdv
    clear hsq hmean hoff h1 h2 hs hs' hsS hsS' hl hl' ht hdv h0 hz hpart
    go_enter Tryz.func36, Tryz.ntmps36
    refine wp_seq (wp_r0 ?_)
    intro K hN
    go_wp2_with fail
    generalize hu : World.alloc (World.alloc w _) _ = u
    obtain ⟨hB, hG⟩ := bx_first [(_, _), (_, _)] w u hu
    have hF := fr_first w [(67, #[]), (32, #[])]
    simp only [numbered, List.map_cons, List.map_nil] at hB hF
    clear hu
    generalize w.heap.size + 1 = b4 at hB hF ⊢
    generalize w.heap.size = b2 at hB hF ⊢
    refine NoK.norm (hN _ _ ?_)
    clear hN K
    refine then_norm ?_
    refine wp_seq ?_
    refine wp_rs (w := w) allocs 7 [0, 0, 1, 0, 0, 0, 2] (by kernel_rfl) (by simp only [List.drop_succ_cons, List.drop_zero]; exact rfl) (fun _ => True) noG hB hG trivial ?_
    intro K L hN hL
    simp only [List.zip_cons_cons, List.zip_nil_left]
    apply gy
    · exact rfl
    · (rintro v ⟨hgu, hB, hG, -⟩ N hN; have r := hB.r; simp only [BxR] at r; go_simp; exact hN)
    refine okf (by simp only [Act.put, List.setIfInBounds_toArray, List.set_cons_succ, List.set_cons_zero]; exact rfl) ?_
    apply gy
    · exact rfl
    · (rintro v - N hN; go_simp; exact hN)
    refine okf (by simp only [Act.put, List.setIfInBounds_toArray, List.set_cons_succ, List.set_cons_zero]; exact rfl) ?_
    apply gm
    · exact rfl
    · (rintro v ⟨hgu, hB, hG, -⟩ N hN; go_simp; ((with_reducible refine (Hsq.out _ hG).mono ?_); rintro e w1 ⟨rfl, hb⟩; exact ⟨_, rfl, hN _ hb⟩))
    refine okf (by simp only [Act.put, List.setIfInBounds_toArray, List.set_cons_succ, List.set_cons_zero]; exact rfl) ?_
    apply gy
    · exact rfl
    · (rintro v - N hN; go_simp; exact hN)
    refine okf (by simp only [Act.put, List.setIfInBounds_toArray, List.set_cons_succ, List.set_cons_zero]; exact rfl) ?_
    apply gy
    · exact rfl
    · (rintro v - N hN; go_simp; exact hN)
    refine okf (by simp only [Act.put, List.setIfInBounds_toArray, List.set_cons_succ, List.set_cons_zero]; exact rfl) ?_
    apply gy
    · exact rfl
    · (rintro v - N hN; go_simp; exact hN)
    refine okf (by simp only [Act.put, List.setIfInBounds_toArray, List.set_cons_succ, List.set_cons_zero]; exact rfl) ?_
    refine ga (newObj_Q _ _ _ _ _) fun b6 hb6 hn6 => ?_
    refine okf (by simp only [Act.put, List.setIfInBounds_toArray, List.set_cons_succ, List.set_cons_zero]; exact rfl) ?_
    refine gend ?_
    rintro v ⟨⟨hgu, hB1, hG1, -⟩, h6⟩
    have hF := Fr.new (tk := []) hF hB hG hb6 hn6
    simp only [List.cons_append, List.nil_append, List.map_cons, List.map_nil] at hF
    clear hB hG
    have hB := (Bx.cons h6 hB1)
    have hG := hG1
    clear hB1 hG1 h6
    refine hL _ _ ?_
    clear hL L hgu
    obtain ⟨u, rfl⟩ : ∃ x, x = v := ⟨_, rfl⟩
    have r := hB.r
    simp only [BxR] at r
    go_wp2_with fail
    clear r
    generalize hu0 : World.setCell (World.setCell (World.setCell (World.setCell (World.setCell u _ _) _ _) _ _) _ _) _ _ = u0
    have hBG := hB.over hF hG 0 rfl 0 [_, _, _, _, _] hu0
    clear hB hG hu0
    simp only [List.modify_succ_cons, List.modify_zero_cons, wrAll, List.setIfInBounds_toArray, List.set_cons_zero, List.set_cons_succ, Nat.zero_add, Nat.reduceAdd] at hBG
    obtain ⟨hB, hG⟩ := hBG
    clear u
    obtain ⟨u, rfl⟩ : ∃ x, x = u0 := ⟨_, rfl⟩
    refine NoK.norm (hN _ _ ?_)
    clear hN K
    refine then_norm ?_
    refine wp_seq ?_
    refine wp_seq ?_
    refine wp_r0 ?_
    intro K hN
    go_wp2_with fail
    refine NoK.norm (hN _ _ ?_)
    clear hN K
    refine then_norm ?_
    refine wp_cond_false (rfl) ?_
    refine wp_skip ?_
    refine then_norm ?_
    refine wp_seq ?_
    refine wp_rs (w := w) allocs 6 [0, 1, 0, 0, 0, 2] (by kernel_rfl) (by simp only [List.drop_succ_cons, List.drop_zero]; exact rfl) (fun _ => True) noG hB hG trivial ?_
    intro K L hN hL
    simp only [List.zip_cons_cons, List.zip_nil_left]
    apply gy
    · exact rfl
    · (rintro v ⟨hgu, hB, hG, -⟩ N hN; have r := hB.r; simp only [BxR] at r; go_simp; exact hN)
    refine okf (by simp only [Act.put, List.setIfInBounds_toArray, List.set_cons_succ, List.set_cons_zero]; exact rfl) ?_
    apply gm
    · exact rfl
    · (rintro v ⟨hgu, hB, hG, -⟩ N hN; go_simp; ((with_reducible refine (Hmean.out _ hG).mono ?_); rintro e w1 ⟨rfl, hb⟩; exact ⟨_, rfl, hN _ hb⟩))
    refine okf (by simp only [Act.put, List.setIfInBounds_toArray, List.set_cons_succ, List.set_cons_zero]; exact rfl) ?_
    apply gy
    · exact rfl
    · (rintro v - N hN; go_simp; exact hN)
    refine okf (by simp only [Act.put, List.setIfInBounds_toArray, List.set_cons_succ, List.set_cons_zero]; exact rfl) ?_
    apply gy
    · exact rfl
    · (rintro v - N hN; go_simp; exact hN)
    refine okf (by simp only [Act.put, List.setIfInBounds_toArray, List.set_cons_succ, List.set_cons_zero]; exact rfl) ?_
    apply gy
    · exact rfl
    · (rintro v - N hN; go_simp; exact hN)
    refine okf (by simp only [Act.put, List.setIfInBounds_toArray, List.set_cons_succ, List.set_cons_zero]; exact rfl) ?_
    refine ga (newObj_Q _ _ _ _ _) fun b8 hb8 hn8 => ?_
    refine okf (by simp only [Act.put, List.setIfInBounds_toArray, List.set_cons_succ, List.set_cons_zero]; exact rfl) ?_
    refine gend ?_
    rintro v ⟨⟨hgu, hB1, hG1, -⟩, h8⟩
    have hF := Fr.new (tk := []) hF hB hG hb8 hn8
    simp only [List.cons_append, List.nil_append, List.map_cons, List.map_nil] at hF
    clear hB hG
    have hB := (Bx.cons h8 hB1)
    have hG := hG1
    clear hB1 hG1 h8
    refine hL _ _ ?_
    clear hL L hgu
    obtain ⟨u, rfl⟩ : ∃ x, x = v := ⟨_, rfl⟩
    have r := hB.r
    simp only [BxR] at r
    go_wp2_with fail
    clear r
    generalize hu0 : World.setCell (World.setCell (World.setCell (World.setCell (World.setCell u _ _) _ _) _ _) _ _) _ _ = u0
    have hBG := hB.over hF hG 0 rfl 0 [_, _, _, _, _] hu0
    clear hB hG hu0
    simp only [List.modify_succ_cons, List.modify_zero_cons, wrAll, List.setIfInBounds_toArray, List.set_cons_zero, List.set_cons_succ, Nat.zero_add, Nat.reduceAdd] at hBG
    obtain ⟨hB, hG⟩ := hBG
    clear u
    obtain ⟨u, rfl⟩ : ∃ x, x = u0 := ⟨_, rfl⟩
    refine NoK.norm (hN _ _ ?_)
    clear hN K
    refine then_norm ?_
    refine wp_seq ?_
    refine wp_rs (w := w) allocs 5 [0, 0, 0, 1, 2] (by kernel_rfl) (by simp only [List.drop_succ_cons, List.drop_zero]; exact rfl) (fun _ => True) noG hB hG trivial ?_
    intro K L hN hL
    simp only [List.zip_cons_cons, List.zip_nil_left]
    apply gy
    · exact rfl
    · (rintro v ⟨hgu, hB, hG, -⟩ N hN; have r := hB.r; simp only [BxR] at r; go_simp; exact hN)
    refine okf (by simp only [Act.put, List.setIfInBounds_toArray, List.set_cons_succ, List.set_cons_zero]; exact rfl) ?_
    apply gy
    · exact rfl
    · (rintro v - N hN; go_simp; exact hN)
    refine okf (by simp only [Act.put, List.setIfInBounds_toArray, List.set_cons_succ, List.set_cons_zero]; exact rfl) ?_
    apply gy
    · exact rfl
    · (rintro v - N hN; go_simp; exact hN)
    refine okf (by simp only [Act.put, List.setIfInBounds_toArray, List.set_cons_succ, List.set_cons_zero]; exact rfl) ?_
    apply gm
    · exact rfl
    · (rintro v ⟨hgu, hB, hG, -⟩ N hN; go_simp; ((with_reducible refine (Hoff.out b2 b8 _ (OneLq.mk hB.tail.tail.head hB.head (H1.out.grow hG)) (HT.grow hG)).mono ?_); rintro e w1 ⟨rfl, hb⟩; exact ⟨_, rfl, hN _ hb⟩))
    refine okf (by simp only [Act.put, List.setIfInBounds_toArray, List.set_cons_succ, List.set_cons_zero]; exact rfl) ?_
    refine ga (newObj_Q _ _ _ _ _) fun b10 hb10 hn10 => ?_
    refine okf (by simp only [Act.put, List.setIfInBounds_toArray, List.set_cons_succ, List.set_cons_zero]; exact rfl) ?_
    refine gend ?_
    rintro v ⟨⟨hgu, hB1, hG1, -⟩, h10⟩
    have hF := Fr.new (tk := []) hF hB hG hb10 hn10
    simp only [List.cons_append, List.nil_append, List.map_cons, List.map_nil] at hF
    clear hB hG
    have hB := (Bx.cons h10 hB1)
    have hG := hG1
    clear hB1 hG1 h10
    refine hL _ _ ?_
    clear hL L hgu
    obtain ⟨u, rfl⟩ : ∃ x, x = v := ⟨_, rfl⟩
    have r := hB.r
    simp only [BxR] at r
    go_wp2_with fail
    clear r
    generalize hu0 : World.setCell (World.setCell (World.setCell (World.setCell (World.setCell u _ _) _ _) _ _) _ _) _ _ = u0
    have hBG := hB.over hF hG 0 rfl 0 [_, _, _, _, _] hu0
    clear hB hG hu0
    simp only [List.modify_succ_cons, List.modify_zero_cons, wrAll, List.setIfInBounds_toArray, List.set_cons_zero, List.set_cons_succ, Nat.zero_add, Nat.reduceAdd] at hBG
    obtain ⟨hB, hG⟩ := hBG
    clear u
    obtain ⟨u, rfl⟩ : ∃ x, x = u0 := ⟨_, rfl⟩
    refine NoK.norm (hN _ _ ?_)
    clear hN K
    refine then_norm ?_
    refine wp_seq ?_
    refine wp_rs (w := w) allocs 7 [0, 0, 1, 0, 0, 0, 2] (by kernel_rfl) (by simp only [List.drop_succ_cons, List.drop_zero]; exact rfl) (fun _ => True) noG hB hG trivial ?_
    intro K L hN hL
    simp only [List.zip_cons_cons, List.zip_nil_left]
    apply gy
    · exact rfl
    · (rintro v ⟨hgu, hB, hG, -⟩ N hN; have r := hB.r; simp only [BxR] at r; go_simp; exact hN)
    refine okf (by simp only [Act.put, List.setIfInBounds_toArray, List.set_cons_succ, List.set_cons_zero]; exact rfl) ?_
    apply gy
    · exact rfl
    · (rintro v ⟨hgu, hB, hG, -⟩ N hN; have r := hB.r; simp only [BxR] at r; go_simp; exact hN)
    refine okf (by simp only [Act.put, List.setIfInBounds_toArray, List.set_cons_succ, List.set_cons_zero]; exact rfl) ?_
    apply gm
    · exact rfl
    · (rintro v ⟨hgu, hB, hG, -⟩ N hN; go_simp; ((with_reducible refine (Hdv.out _ (HT.grow hG)).mono ?_); rintro e w1 ⟨rfl, hb⟩; exact ⟨_, rfl, hN _ hb⟩))
    refine okf (by simp only [Act.put, List.setIfInBounds_toArray, List.set_cons_succ, List.set_cons_zero]; exact rfl) ?_
    apply gy
    · exact rfl
    · (rintro v - N hN; go_simp; exact hN)
    refine okf (by simp only [Act.put, List.setIfInBounds_toArray, List.set_cons_succ, List.set_cons_zero]; exact rfl) ?_
    apply gy
    · exact rfl
    · (rintro v - N hN; go_simp; exact hN)
    refine okf (by simp only [Act.put, List.setIfInBounds_toArray, List.set_cons_succ, List.set_cons_zero]; exact rfl) ?_
    apply gy
    · exact rfl
    · (rintro v - N hN; go_simp; exact hN)
    refine okf (by simp only [Act.put, List.setIfInBounds_toArray, List.set_cons_succ, List.set_cons_zero]; exact rfl) ?_
    refine ga (newObj_Q _ _ _ _ _) fun b11 hb11 hn11 => ?_
    refine okf (by simp only [Act.put, List.setIfInBounds_toArray, List.set_cons_succ, List.set_cons_zero]; exact rfl) ?_
    refine gend ?_
    rintro v ⟨⟨hgu, hB1, hG1, -⟩, h11⟩
    have hF := Fr.new (tk := []) hF hB hG hb11 hn11
    simp only [List.cons_append, List.nil_append, List.map_cons, List.map_nil] at hF
    clear hB hG
    have hB := (Bx.cons h11 hB1)
    have hG := hG1
    clear hB1 hG1 h11
    refine hL _ _ ?_
    clear hL L hgu
    obtain ⟨u, rfl⟩ : ∃ x, x = v := ⟨_, rfl⟩
    have r := hB.r
    simp only [BxR] at r
    go_wp2_with fail
    clear r
    generalize hu0 : World.setCell (World.setCell (World.setCell (World.setCell (World.setCell u _ _) _ _) _ _) _ _) _ _ = u0
    have hBG := hB.over hF hG 0 rfl 0 [_, _, _, _, _] hu0
    clear hB hG hu0
    simp only [List.modify_succ_cons, List.modify_zero_cons, wrAll, List.setIfInBounds_toArray, List.set_cons_zero, List.set_cons_succ, Nat.zero_add, Nat.reduceAdd] at hBG
    obtain ⟨hB, hG⟩ := hBG
    clear u
    obtain ⟨u, rfl⟩ : ∃ x, x = u0 := ⟨_, rfl⟩
    refine NoK.norm (hN _ _ ?_)
    clear hN K
    refine then_norm ?_
    refine wp_seq ?_
    refine wp_seq ?_
    refine wp_r0 ?_
    intro K hN
    go_wp2_with fail
    refine NoK.norm (hN _ _ ?_)
    clear hN K
    refine then_norm ?_
    refine wp_cond_true (rfl) ?_
    refine wp_seq ?_
    refine wp_r0 ?_
    intro K hN
    have r := hB.r
    simp only [BxR] at r
    go_wp2_with fail
    clear r
    generalize hu0 : World.setCell (World.setCell (World.setCell (World.setCell (World.setCell u _ _) _ _) _ _) _ _) _ _ = u0
    have hBG := hB.over hF hG 5 rfl 0 [_, _, _, _, _] hu0
    clear hB hG hu0
    simp only [List.modify_succ_cons, List.modify_zero_cons, wrAll, List.setIfInBounds_toArray, List.set_cons_zero, List.set_cons_succ, Nat.zero_add, Nat.reduceAdd] at hBG
    obtain ⟨hB, hG⟩ := hBG
    clear u
    obtain ⟨u, rfl⟩ : ∃ x, x = u0 := ⟨_, rfl⟩
    refine NoK.norm (hN _ _ ?_)
    clear hN K
    refine then_norm ?_
    refine wp_ret ?_
    refine then_ret ?_
    refine ret_b rfl ?_
    intro N hN
    have r := hB.r
    simp only [BxR] at r
    simp only [results, Tryz.results36]
    go_simp
    refine hN _ ?_
    clear hN N r
    exact ⟨rfl, hG⟩
  · rw [if_neg h0]
    have hz : nzq off = true := decide_eq_true h0
    rw [hz] at hdv
    have Hdv := Lib.hid hdv
    clear hsq hmean hoff h1 h2 hs hs' hsS hsS' hl hl' ht hdv h0 hz hpart
    go_enter Tryz.func36, Tryz.ntmps36
    refine wp_seq (wp_r0 ?_)
    intro K hN
    go_wp2_with fail
    generalize hu : World.alloc (World.alloc w _) _ = u
    obtain ⟨hB, hG⟩ := bx_first [(_, _), (_, _)] w u hu
    have hF := fr_first w [(67, #[]), (32, #[])]
    simp only [numbered, List.map_cons, List.map_nil] at hB hF
    clear hu
    generalize w.heap.size + 1 = b4 at hB hF ⊢
    generalize w.heap.size = b2 at hB hF ⊢
    refine NoK.norm (hN _ _ ?_)
    clear hN K
    refine then_norm ?_
    refine wp_seq ?_
    refine wp_rs (w := w) allocs 7 [0, 0, 1, 0, 0, 0, 2] (by kernel_rfl) (by simp only [List.drop_succ_cons, List.drop_zero]; exact rfl) (fun _ => True) noG hB hG trivial ?_
    intro K L hN hL
    simp only [List.zip_cons_cons, List.zip_nil_left]
    apply gy
    · exact rfl
    · (rintro v ⟨hgu, hB, hG, -⟩ N hN; have r := hB.r; simp only [BxR] at r; go_simp; exact hN)
    refine okf (by simp only [Act.put, List.setIfInBounds_toArray, List.set_cons_succ, List.set_cons_zero]; exact rfl) ?_
    apply gy
    · exact rfl
    · (rintro v - N hN; go_simp; exact hN)
    refine okf (by simp only [Act.put, List.setIfInBounds_toArray, List.set_cons_succ, List.set_cons_zero]; exact rfl) ?_
    apply gm
    · exact rfl
    · (rintro v ⟨hgu, hB, hG, -⟩ N hN; go_simp; ((with_reducible refine (Hsq.out _ hG).mono ?_); rintro e w1 ⟨rfl, hb⟩; exact ⟨_, rfl, hN _ hb⟩))
    refine okf (by simp only [Act.put, List.setIfInBounds_toArray, List.set_cons_succ, List.set_cons_zero]; exact rfl) ?_
    apply gy
    · exact rfl
    · (rintro v - N hN; go_simp; exact hN)
    refine okf (by simp only [Act.put, List.setIfInBounds_toArray, List.set_cons_succ, List.set_cons_zero]; exact rfl) ?_
    apply gy
    · exact rfl
    · (rintro v - N hN; go_simp; exact hN)
    refine okf (by simp only [Act.put, List.setIfInBounds_toArray, List.set_cons_succ, List.set_cons_zero]; exact rfl) ?_
    apply gy
    · exact rfl
    · (rintro v - N hN; go_simp; exact hN)
    refine okf (by simp only [Act.put, List.setIfInBounds_toArray, List.set_cons_succ, List.set_cons_zero]; exact rfl) ?_
    refine ga (newObj_Q _ _ _ _ _) fun b6 hb6 hn6 => ?_
    refine okf (by simp only [Act.put, List.setIfInBounds_toArray, List.set_cons_succ, List.set_cons_zero]; exact rfl) ?_
    refine gend ?_
    rintro v ⟨⟨hgu, hB1, hG1, -⟩, h6⟩
    have hF := Fr.new (tk := []) hF hB hG hb6 hn6
    simp only [List.cons_append, List.nil_append, List.map_cons, List.map_nil] at hF
    clear hB hG
    have hB := (Bx.cons h6 hB1)
    have hG := hG1
    clear hB1 hG1 h6
    refine hL _ _ ?_
    clear hL L hgu
    obtain ⟨u, rfl⟩ : ∃ x, x = v := ⟨_, rfl⟩
    have r := hB.r
    simp only [BxR] at r
    go_wp2_with fail
    clear r
    generalize hu0 : World.setCell (World.setCell (World.setCell (World.setCell (World.setCell u _ _) _ _) _ _) _ _) _ _ = u0
    have hBG := hB.over hF hG 0 rfl 0 [_, _, _, _, _] hu0
    clear hB hG hu0
    simp only [List.modify_succ_cons, List.modify_zero_cons, wrAll, List.setIfInBounds_toArray, List.set_cons_zero, List.set_cons_succ, Nat.zero_add, Nat.reduceAdd] at hBG
    obtain ⟨hB, hG⟩ := hBG
    clear u
    obtain ⟨u, rfl⟩ : ∃ x, x = u0 := ⟨_, rfl⟩
    refine NoK.norm (hN _ _ ?_)
    clear hN K
    refine then_norm ?_
    refine wp_seq ?_
    refine wp_seq ?_
    refine wp_r0 ?_
    intro K hN
    go_wp2_with fail
    refine NoK.norm (hN _ _ ?_)
    clear hN K
    refine then_norm ?_
    refine wp_cond_false (rfl) ?_
    refine wp_skip ?_
    refine then_norm ?_
    refine wp_seq ?_
    refine wp_rs (w := w) allocs 6 [0, 1, 0, 0, 0, 2] (by kernel_rfl) (by simp only [List.drop_succ_cons, List.drop_zero]; exact rfl) (fun _ => True) noG hB hG trivial ?_
    intro K L hN hL
    simp only [List.zip_cons_cons, List.zip_nil_left]
    apply gy
    · exact rfl
    · (rintro v ⟨hgu, hB, hG, -⟩ N hN; have r := hB.r; simp only [BxR] at r; go_simp; exact hN)
    refine okf (by simp only [Act.put, List.setIfInBounds_toArray, List.set_cons_succ, List.set_cons_zero]; exact rfl) ?_
    apply gm
    · exact rfl
    · (rintro v ⟨hgu, hB, hG, -⟩ N hN; go_simp; ((with_reducible refine (Hmean.out _ hG).mono ?_); rintro e w1 ⟨rfl, hb⟩; exact ⟨_, rfl, hN _ hb⟩))
    refine okf (by simp only [Act.put, List.setIfInBounds_toArray, List.set_cons_succ, List.set_cons_zero]; exact rfl) ?_
    apply gy
    · exact rfl
    · (rintro v - N hN; go_simp; exact hN)
    refine okf (by simp only [Act.put, List.setIfInBounds_toArray, List.set_cons_succ, List.set_cons_zero]; exact rfl) ?_
    apply gy
    · exact rfl
    · (rintro v - N hN; go_simp; exact hN)
    refine okf (by simp only [Act.put, List.setIfInBounds_toArray, List.set_cons_succ, List.set_cons_zero]; exact rfl) ?_
    apply gy
    · exact rfl
    · (rintro v - N hN; go_simp; exact hN)
    refine okf (by simp only [Act.put, List.setIfInBounds_toArray, List.set_cons_succ, List.set_cons_zero]; exact rfl) ?_
    refine ga (newObj_Q _ _ _ _ _) fun b8 hb8 hn8 => ?_
    refine okf (by simp only [Act.put, List.setIfInBounds_toArray, List.set_cons_succ, List.set_cons_zero]; exact rfl) ?_
    refine gend ?_
    rintro v ⟨⟨hgu, hB1, hG1, -⟩, h8⟩
    have hF := Fr.new (tk := []) hF hB hG hb8 hn8
    simp only [List.cons_append, List.nil_append, List.map_cons, List.map_nil] at hF
    clear hB hG
    have hB := (Bx.cons h8 hB1)
    have hG := hG1
    clear hB1 hG1 h8
    refine hL _ _ ?_
    clear hL L hgu
    obtain ⟨u, rfl⟩ : ∃ x, x = v := ⟨_, rfl⟩
    have r := hB.r
    simp only [BxR] at r
    go_wp2_with fail
    clear r
    generalize hu0 : World.setCell (World.setCell (World.setCell (World.setCell (World.setCell u _ _) _ _) _ _) _ _) _ _ = u0
    have hBG := hB.over hF hG 0 rfl 0 [_, _, _, _, _] hu0
    clear hB hG hu0
    simp only [List.modify_succ_cons, List.modify_zero_cons, wrAll, List.setIfInBounds_toArray, List.set_cons_zero, List.set_cons_succ, Nat.zero_add, Nat.reduceAdd] at hBG
    obtain ⟨hB, hG⟩ := hBG
    clear u
    obtain ⟨u, rfl⟩ : ∃ x, x = u0 := ⟨_, rfl⟩
    refine NoK.norm (hN _ _ ?_)
    clear hN K
    refine then_norm ?_
    refine wp_seq ?_
    refine wp_rs (w := w) allocs 5 [0, 0, 0, 1, 2] (by kernel_rfl) (by simp only [List.drop_succ_cons, List.drop_zero]; exact rfl) (fun _ => True) noG hB hG trivial ?_
    intro K L hN hL
    simp only [List.zip_cons_cons, List.zip_nil_left]
    apply gy
    · exact rfl
    · (rintro v ⟨hgu, hB, hG, -⟩ N hN; have r := hB.r; simp only [BxR] at r; go_simp; exact hN)
    refine okf (by simp only [Act.put, List.setIfInBounds_toArray, List.set_cons_succ, List.set_cons_zero]; exact rfl) ?_
    apply gy
    · exact rfl
    · (rintro v - N hN; go_simp; exact hN)
    refine okf (by simp only [Act.put, List.setIfInBounds_toArray, List.set_cons_succ, List.set_cons_zero]; exact rfl) ?_
    apply gy
    · exact rfl
    · (rintro v - N hN; go_simp; exact hN)
    refine okf (by simp only [Act.put, List.setIfInBounds_toArray, List.set_cons_succ, List.set_cons_zero]; exact rfl) ?_
    apply gm
    · exact rfl
    · (rintro v ⟨hgu, hB, hG, -⟩ N hN; go_simp; ((with_reducible refine (Hoff.out b2 b8 _ (OneLq.mk hB.tail.tail.head hB.head (H1.out.grow hG)) (HT.grow hG)).mono ?_); rintro e w1 ⟨rfl, hb⟩; exact ⟨_, rfl, hN _ hb⟩))
    refine okf (by simp only [Act.put, List.setIfInBounds_toArray, List.set_cons_succ, List.set_cons_zero]; exact rfl) ?_
    refine ga (newObj_Q _ _ _ _ _) fun b10 hb10 hn10 => ?_
    refine okf (by simp only [Act.put, List.setIfInBounds_toArray, List.set_cons_succ, List.set_cons_zero]; exact rfl) ?_
    refine gend ?_
    rintro v ⟨⟨hgu, hB1, hG1, -⟩, h10⟩
    have hF := Fr.new (tk := []) hF hB hG hb10 hn10
    simp only [List.cons_append, List.nil_append, List.map_cons, List.map_nil] at hF
    clear hB hG
    have hB := (Bx.cons h10 hB1)
    have hG := hG1
    clear hB1 hG1 h10
    refine hL _ _ ?_
    clear hL L hgu
    obtain ⟨u, rfl⟩ : ∃ x, x = v := ⟨_, rfl⟩
    have r := hB.r
    simp only [BxR] at r
    go_wp2_with fail
    clear r
    generalize hu0 : World.setCell (World.setCell (World.setCell (World.setCell (World.setCell u _ _) _ _) _ _) _ _) _ _ = u0
    have hBG := hB.over hF hG 0 rfl 0 [_, _, _, _, _] hu0
    clear hB hG hu0
    simp only [List.modify_succ_cons, List.modify_zero_cons, wrAll, List.setIfInBounds_toArray, List.set_cons_zero, List.set_cons_succ, Nat.zero_add, Nat.reduceAdd] at hBG
    obtain ⟨hB, hG⟩ := hBG
    clear u
    obtain ⟨u, rfl⟩ : ∃ x, x = u0 := ⟨_, rfl⟩
    refine NoK.norm (hN _ _ ?_)
    clear hN K
    refine then_norm ?_
    refine wp_seq ?_
    refine wp_rs (w := w) allocs 7 [0, 0, 1, 0, 0, 0, 2] (by kernel_rfl) (by simp only [List.drop_succ_cons, List.drop_zero]; exact rfl) (fun _ => True) noG hB hG trivial ?_
    intro K L hN hL
    simp only [List.zip_cons_cons, List.zip_nil_left]
    apply gy
    · exact rfl
    · (rintro v ⟨hgu, hB, hG, -⟩ N hN; have r := hB.r; simp only [BxR] at r; go_simp; exact hN)
    refine okf (by simp only [Act.put, List.setIfInBounds_toArray, List.set_cons_succ, List.set_cons_zero]; exact rfl) ?_
    apply gy
    · exact rfl
    · (rintro v ⟨hgu, hB, hG, -⟩ N hN; have r := hB.r; simp only [BxR] at r; go_simp; exact hN)
    refine okf (by simp only [Act.put, List.setIfInBounds_toArray, List.set_cons_succ, List.set_cons_zero]; exact rfl) ?_
    apply gm
    · exact rfl
    · (rintro v ⟨hgu, hB, hG, -⟩ N hN; go_simp; ((with_reducible refine (Hdv.out _ (HT.grow hG)).mono ?_); rintro e w1 ⟨rfl, hb⟩; exact ⟨_, rfl, hN _ hb⟩))
    refine okf (by simp only [Act.put, List.setIfInBounds_toArray, List.set_cons_succ, List.set_cons_zero]; exact rfl) ?_
    apply gy
    · exact rfl
    · (rintro v - N hN; go_simp; exact hN)
    refine okf (by simp only [Act.put, List.setIfInBounds_toArray, List.set_cons_succ, List.set_cons_zero]; exact rfl) ?_
    apply gy
    · exact rfl
    · (rintro v - N hN; go_simp; exact hN)
    refine okf (by simp only [Act.put, List.setIfInBounds_toArray, List.set_cons_succ, List.set_cons_zero]; exact rfl) ?_
    apply gy
    · exact rfl
    · (rintro v - N hN; go_simp; exact hN)
    refine okf (by simp only [Act.put, List.setIfInBounds_toArray, List.set_cons_succ, List.set_cons_zero]; exact rfl) ?_
    refine ga (newObj_Q _ _ _ _ _) fun b11 hb11 hn11 => ?_
    refine okf (by simp only [Act.put, List.setIfInBounds_toArray, List.set_cons_succ, List.set_cons_zero]; exact rfl) ?_
    refine gend ?_
    rintro v ⟨⟨hgu, hB1, hG1, -⟩, h11⟩
    have hF := Fr.new (tk := []) hF hB hG hb11 hn11
    simp only [List.cons_append, List.nil_append, List.map_cons, List.map_nil] at hF
    clear hB hG
    have hB := (Bx.cons h11 hB1)
    have hG := hG1
    clear hB1 hG1 h11
    refine hL _ _ ?_
    clear hL L hgu
    obtain ⟨u, rfl⟩ : ∃ x, x = v := ⟨_, rfl⟩
    have r := hB.r
    simp only [BxR] at r
    go_wp2_with fail
    clear r
    generalize hu0 : World.setCell (World.setCell (World.setCell (World.setCell (World.setCell u _ _) _ _) _ _) _ _) _ _ = u0
    have hBG := hB.over hF hG 0 rfl 0 [_, _, _, _, _] hu0
    clear hB hG hu0
    simp only [List.modify_succ_cons, List.modify_zero_cons, wrAll, List.setIfInBounds_toArray, List.set_cons_zero, List.set_cons_succ, Nat.zero_add, Nat.reduceAdd] at hBG
    obtain ⟨hB, hG⟩ := hBG
    clear u
    obtain ⟨u, rfl⟩ : ∃ x, x = u0 := ⟨_, rfl⟩
    refine NoK.norm (hN _ _ ?_)
    clear hN K
    refine then_norm ?_
    refine wp_seq ?_
    refine wp_seq ?_
    refine wp_r0 ?_
    intro K hN
    go_wp2_with fail
    refine NoK.norm (hN _ _ ?_)
    clear hN K
    refine then_norm ?_
    refine wp_cond_false (rfl) ?_
    refine wp_skip ?_
    refine then_norm ?_
    refine wp_seq ?_
    refine wp_rd (w := w) allocs 3 [] [(0, 1), (1, 0), (1, 2)] (by kernel_rfl) (by kernel_rfl) (by simp only [List.drop_succ_cons, List.drop_zero]; exact rfl) (fun _ => True) noG hB hG trivial ?_
    intro K L hN hL
    simp only [pickOps, List.getElem?_toArray, List.getElem?_cons_zero, List.getElem?_cons_succ]
    apply gy
    · exact rfl
    · (rintro v ⟨hgu, hB, hG, -⟩ N hN; have r := hB.r; simp only [BxR] at r; go_simp; exact hN)
    refine okf (by simp only [Act.put, List.setIfInBounds_toArray, List.set_cons_succ, List.set_cons_zero]; exact rfl) ?_
    apply gm
    · exact rfl
    · (rintro v ⟨hgu, hB, hG, -⟩ N hN; go_simp; ((with_reducible refine (frac_Of _ (by omega) (by omega) _).mono ?_); rintro e w1 ⟨rfl, hb⟩; exact ⟨_, rfl, hN _ hb⟩))
    refine okf (by simp only [Act.put, List.setIfInBounds_toArray, List.set_cons_succ, List.set_cons_zero]; exact rfl) ?_
    apply gm
    · exact rfl
    · (rintro v ⟨hgu, hB, hG, -⟩ N hN; go_simp; ((with_reducible refine (frac_Sub _ _ _ (by omega) (HT.grow hG)).mono ?_); rintro e w1 ⟨rfl, hb⟩; exact ⟨_, rfl, hN _ hb⟩))
    refine okf (by simp only [Act.put, List.setIfInBounds_toArray, List.set_cons_succ, List.set_cons_zero]; exact rfl) ?_
    refine gend ?_
    rintro v ⟨hgu, hB1, hG1, -⟩
    clear hB hG
    have hB := hB1
    have hG := hG1
    clear hB1 hG1
    refine hL _ _ ?_
    clear hL L hgu
    obtain ⟨u, rfl⟩ : ∃ x, x = v := ⟨_, rfl⟩
    have r := hB.r
    simp only [BxR] at r
    go_wp2_with fail
    clear r
    generalize hu0 : World.setCell (World.setCell (World.setCell (World.setCell (World.setCell u _ _) _ _) _ _) _ _) _ _ = u0
    have hBG := hB.over hF hG 5 rfl 0 [_, _, _, _, _] hu0
    clear hB hG hu0
    simp only [List.modify_succ_cons, List.modify_zero_cons, wrAll, List.setIfInBounds_toArray, List.set_cons_zero, List.set_cons_succ, Nat.zero_add, Nat.reduceAdd] at hBG
    obtain ⟨hB, hG⟩ := hBG
    clear u
    obtain ⟨u, rfl⟩ : ∃ x, x = u0 := ⟨_, rfl⟩
    refine NoK.norm (hN _ _ ?_)
    clear hN K
    refine then_norm ?_
    refine wp_ret ?_
    refine ret_b rfl ?_
    intro N hN
    have r := hB.r
    simp only [BxR] at r
    simp only [results, Tryz.results36]
    go_simp
    refine hN _ ?_
    clear hN N r
    exact ⟨rfl, hG⟩
set_option maxHeartbeats 2000000 in
set_option maxRecDepth 100000 in
theorem score_Told_no (A B : Option Addr) (m n c d : Nat) (h : pairedB m n = false) (w : World) :
    Calls Tryz.prog 36 #[.slice A m c, .slice B n d] w fun e w' => e = .returned (.tuple #[qV 0, .int .i64 5]) ∧ Grow w w' := by
  have Hsq := Lib.hid (score_Squares_no A B m n c d h)
  clear h
  go_enter Tryz.func36, Tryz.ntmps36
  refine wp_seq (wp_r0 ?_)
  intro K hN
  go_wp2_with fail
  generalize hu : World.alloc (World.alloc w _) _ = u
  obtain ⟨hB, hG⟩ := bx_first [(_, _), (_, _)] w u hu
  have hF := fr_first w [(67, #[]), (32, #[])]
  simp only [numbered, List.map_cons, List.map_nil] at hB hF
  clear hu
  generalize w.heap.size + 1 = b4 at hB hF ⊢
  generalize w.heap.size = b2 at hB hF ⊢
  refine NoK.norm (hN _ _ ?_)
  clear hN K
  refine then_norm ?_
  refine wp_seq ?_
  refine wp_rs (w := w) allocs 7 [0, 0, 1, 0, 0, 0, 2] (by kernel_rfl) (by simp only [List.drop_succ_cons, List.drop_zero]; exact rfl) (fun _ => True) noG hB hG trivial ?_
  intro K L hN hL
  simp only [List.zip_cons_cons, List.zip_nil_left]
  apply gy
  · exact rfl
  · (rintro v ⟨hgu, hB, hG, -⟩ N hN; have r := hB.r; simp only [BxR] at r; go_simp; exact hN)
  refine okf (by simp only [Act.put, List.setIfInBounds_toArray, List.set_cons_succ, List.set_cons_zero]; exact rfl) ?_
  apply gy
  · exact rfl
  · (rintro v - N hN; go_simp; exact hN)
  refine okf (by simp only [Act.put, List.setIfInBounds_toArray, List.set_cons_succ, List.set_cons_zero]; exact rfl) ?_
  apply gm
  · exact rfl
  · (rintro v ⟨hgu, hB, hG, -⟩ N hN; go_simp; ((with_reducible refine (Hsq.out _).mono ?_); rintro e w1 ⟨rfl, hb⟩; exact ⟨_, rfl, hN _ hb⟩))
  refine okf (by simp only [Act.put, List.setIfInBounds_toArray, List.set_cons_succ, List.set_cons_zero]; exact rfl) ?_
  apply gy
  · exact rfl
  · (rintro v - N hN; go_simp; exact hN)
  refine okf (by simp only [Act.put, List.setIfInBounds_toArray, List.set_cons_succ, List.set_cons_zero]; exact rfl) ?_
  apply gy
  · exact rfl
  · (rintro v - N hN; go_simp; exact hN)
  refine okf (by simp only [Act.put, List.setIfInBounds_toArray, List.set_cons_succ, List.set_cons_zero]; exact rfl) ?_
  apply gy
  · exact rfl
  · (rintro v - N hN; go_simp; exact hN)
  refine okf (by simp only [Act.put, List.setIfInBounds_toArray, List.set_cons_succ, List.set_cons_zero]; exact rfl) ?_
  refine ga (newObj_Q _ _ _ _ _) fun b6 hb6 hn6 => ?_
  refine okf (by simp only [Act.put, List.setIfInBounds_toArray, List.set_cons_succ, List.set_cons_zero]; exact rfl) ?_
  refine gend ?_
  rintro v ⟨⟨hgu, hB1, hG1, -⟩, h6⟩
  have hF := Fr.new (tk := []) hF hB hG hb6 hn6
  simp only [List.cons_append, List.nil_append, List.map_cons, List.map_nil] at hF
  clear hB hG
  have hB := (Bx.cons h6 hB1)
  have hG := hG1
  clear hB1 hG1 h6
  refine hL _ _ ?_
  clear hL L hgu
  obtain ⟨u, rfl⟩ : ∃ x, x = v := ⟨_, rfl⟩
  have r := hB.r
  simp only [BxR] at r
  go_wp2_with fail
  clear r
  generalize hu0 : World.setCell (World.setCell (World.setCell (World.setCell (World.setCell u _ _) _ _) _ _) _ _) _ _ = u0
  have hBG := hB.over hF hG 0 rfl 0 [_, _, _, _, _] hu0
  clear hB hG hu0
  simp only [List.modify_succ_cons, List.modify_zero_cons, wrAll, List.setIfInBounds_toArray, List.set_cons_zero, List.set_cons_succ, Nat.zero_add, Nat.reduceAdd] at hBG
  obtain ⟨hB, hG⟩ := hBG
  clear u
  obtain ⟨u, rfl⟩ : ∃ x, x = u0 := ⟨_, rfl⟩
  refine NoK.norm (hN _ _ ?_)
  clear hN K
  refine then_norm ?_
  refine wp_seq ?_
  refine wp_seq ?_
  refine wp_r0 ?_
  intro K hN
  go_wp2_with fail
  refine NoK.norm (hN _ _ ?_)
  clear hN K
  refine then_norm ?_
  refine wp_cond_true (rfl) ?_
  refine wp_seq ?_
  refine wp_r0 ?_
  intro K hN
  have r := hB.r
  simp only [BxR] at r
  go_wp2_with fail
  clear r
  generalize hu0 : World.setCell (World.setCell (World.setCell (World.setCell (World.setCell u _ _) _ _) _ _) _ _) _ _ = u0
  have hBG := hB.over hF hG 2 rfl 0 [_, _, _, _, _] hu0
  clear hB hG hu0
  simp only [List.modify_succ_cons, List.modify_zero_cons, wrAll, List.setIfInBounds_toArray, List.set_cons_zero, List.set_cons_succ, Nat.zero_add, Nat.reduceAdd] at hBG
  obtain ⟨hB, hG⟩ := hBG
  clear u
  obtain ⟨u, rfl⟩ : ∃ x, x = u0 := ⟨_, rfl⟩
  refine NoK.norm (hN _ _ ?_)
  clear hN K
  refine then_norm ?_
  refine wp_ret ?_
  refine then_ret ?_
  refine ret_b rfl ?_
  intro N hN
  have r := hB.r
  simp only [BxR] at r
  simp only [results, Tryz.results36]
  go_simp
  refine hN _ ?_
  clear hN N r
  exact ⟨rfl, hG⟩
theorem cmpQ_gt {a b : Rat} (h : b < a) : cmpQ a b = 1 := by
  unfold cmpQ
  rw [if_neg (Rat.not_lt.2 (Rat.le_of_lt h)), if_pos h]
set_option maxHeartbeats 2000000 in
set_option maxRecDepth 100000 in
theorem score_Tilt_arg (A B : Option Addr) (m c d : Nat) (at_ : Rat) (hm0 : 0 < m) (ha : at_ < 0 ∨ qint 1 < at_) (hz : qs at_ + 50 ≤ BIG) (w : World) (HT : Tab w) :
    Calls Tryz.prog 38 #[.slice A m c, .slice B m d, qV at_] w fun e w' => e = .returned (.tuple #[qV 0, .int .i64 1]) ∧ Grow w w' := by
  have hp : ∀ W, Calls Tryz.prog 85 #[.slice A m c, .slice B m d] W fun e w' => e = .returned (.bool true) ∧ Grow W w' := fun W => by
    have := score_paired_qq A B m m c d W
    rw [pairedB_yes hm0] at this
    exact this
  have hBl := BIG_le
  have z1 : bl at_.num.natAbs ≤ 1099511627776 := by have := qs_num at_; omega
  have z5 : qs (qint 1) ≤ 41 := qint_sz 1 (by omega)
  have Hp := Lib.hid hp
  by_cases hn : at_.num < 0
  · have hsg : at_.num.sign = -1 := Int.sign_eq_neg_one_of_neg hn
    have hsn : ∀ W, Calls Tryz.prog 48 #[qV at_] W fun e w' => e = .returned (.int .i64 (-1)) ∧ Grow W w' := fun W => by
      have := frac_Sign at_ z1 W
      rw [hsg] at this
      exact this
    have Hsn := Lib.hid hsn
    clear hp hn hsg hsn ha
    go_enter Tryz.func38, Tryz.ntmps38
    refine wp_seq (wp_r0 ?_)
    intro K hN
    go_wp2_with fail
    generalize hu : World.alloc (World.alloc (World.alloc (World.alloc w _) _) _) _ = u
    obtain ⟨hB, hG⟩ := bx_first [(_, _), (_, _), (_, _), (_, _)] w u hu
    have hF := fr_first w [(67, #[]), (67, #[]), (32, #[]), (32, #[])]
    simp only [numbered, List.map_cons, List.map_nil] at hB hF
    clear hu
    generalize w.heap.size + 1 + 1 + 1 = b6 at hB hF ⊢
    generalize w.heap.size + 1 + 1 = b5 at hB hF ⊢
    generalize w.heap.size + 1 = b4 at hB hF ⊢
    generalize w.heap.size = b3 at hB hF ⊢
    refine NoK.norm (hN _ _ ?_)
    clear hN K
    refine then_norm ?_
    refine wp_seq ?_
    refine wp_seq ?_
    refine wp_rs (w := w) allocs 4 [0, 0, 1, 0] (by kernel_rfl) (by simp only [List.drop_succ_cons, List.drop_nil]; exact rfl) (fun _ => True) noG hB hG trivial ?_
    intro K L hN hL
    simp only [List.zip_cons_cons, List.zip_nil_left]
    apply gy
    · exact rfl
    · (rintro v ⟨hgu, hB, hG, -⟩ N hN; have r := hB.r; simp only [BxR] at r; go_simp; exact hN)
    refine okf (by simp only [Act.put, List.setIfInBounds_toArray, List.set_cons_succ, List.set_cons_zero]; exact rfl) ?_
    apply gy
    · exact rfl
    · (rintro v ⟨hgu, hB, hG, -⟩ N hN; have r := hB.r; simp only [BxR] at r; go_simp; exact hN)
    refine okf (by simp only [Act.put, List.setIfInBounds_toArray, List.set_cons_succ, List.set_cons_zero]; exact rfl) ?_
    apply gm
    · exact rfl
    · (rintro v ⟨hgu, hB, hG, -⟩ N hN; go_simp; ((with_reducible refine (Hp.out _).mono ?_); rintro e w1 ⟨rfl, hb⟩; exact ⟨_, rfl, hN _ hb⟩))
    refine okf (by simp only [Act.put, List.setIfInBounds_toArray, List.set_cons_succ, List.set_cons_zero]; exact rfl) ?_
    apply gy
    · exact rfl
    · (rintro v - N hN; go_simp; exact hN)
    refine okf (by simp only [Act.put, List.setIfInBounds_toArray, List.set_cons_succ, List.set_cons_zero]; exact rfl) ?_
    refine gend ?_
    rintro v ⟨hgu, hB1, hG1, -⟩
    clear hB hG
    have hB := hB1
    have hG := hG1
    clear hB1 hG1
    refine hL _ _ ?_
    clear hL L hgu
    obtain ⟨u, rfl⟩ : ∃ x, x = v := ⟨_, rfl⟩
    refine wpList_nil ?_
    refine NoK.norm (hN _ _ ?_)
    clear hN K
    refine then_norm ?_
    refine wp_cond_false (rfl) ?_
    refine wp_skip ?_
    refine then_norm ?_
    refine wp_seq ?_
    refine wp_rs (w := w) allocs 2 [1, 2] (by kernel_rfl) (by simp only [List.drop_succ_cons, List.drop_zero]; exact rfl) (fun _ => True) noG hB hG trivial ?_
    intro K L hN hL
    simp only [List.zip_cons_cons, List.zip_nil_left]
    apply gm
    · exact rfl
    · (rintro v ⟨hgu, hB, hG, -⟩ N hN; go_simp; ((with_reducible refine (frac_Of _ (by omega) (by omega) _).mono ?_); rintro e w1 ⟨rfl, hb⟩; exact ⟨_, rfl, hN _ hb⟩))
    refine okf (by simp only [Act.put, List.setIfInBounds_toArray, List.set_cons_succ, List.set_cons_zero]; exact rfl) ?_
    refine ga (newObj_Q _ _ _ _ _) fun b8 hb8 hn8 => ?_
    refine okf (by simp only [Act.put, List.setIfInBounds_toArray, List.set_cons_succ, List.set_cons_zero]; exact rfl) ?_
    refine gend ?_
    rintro v ⟨⟨hgu, hB1, hG1, -⟩, h8⟩
    have hF := Fr.new (tk := []) hF hB hG hb8 hn8
    simp only [List.cons_append, List.nil_append, List.map_cons, List.map_nil] at hF
    clear hB hG
    have hB := (Bx.cons h8 hB1)
    have hG := hG1
    clear hB1 hG1 h8
    refine hL _ _ ?_
    clear hL L hgu
    obtain ⟨u, rfl⟩ : ∃ x, x = v := ⟨_, rfl⟩
    have r := hB.r
    simp only [BxR] at r
    go_wp2_with fail
    clear r
    generalize hu0 : World.setCell (World.setCell (World.setCell (World.setCell (World.setCell u _ _) _ _) _ _) _ _) _ _ = u0
    have hBG := hB.over hF hG 0 rfl 0 [_, _, _, _, _] hu0
    clear hB hG hu0
    simp only [List.modify_succ_cons, List.modify_zero_cons, wrAll, List.setIfInBounds_toArray, List.set_cons_zero, List.set_cons_succ, Nat.zero_add, Nat.reduceAdd] at hBG
    obtain ⟨hB, hG⟩ := hBG
    clear u
    obtain ⟨u, rfl⟩ : ∃ x, x = u0 := ⟨_, rfl⟩
    refine NoK.norm (hN _ _ ?_)
    clear hN K
    refine then_norm ?_
    refine wp_seq ?_
    refine wp_seq ?_
    refine wp_rs (w := w) allocs 9 [0, 1, 0, 0, 0, 0, 1, 0, 0] (by kernel_rfl) (by simp only [List.drop_succ_cons, List.drop_nil]; exact rfl) (fun _ => True) noG hB hG trivial ?_
    intro K L hN hL
    simp only [List.zip_cons_cons, List.zip_nil_left]
    apply gy
    · exact rfl
    · (rintro v ⟨hgu, hB, hG, -⟩ N hN; have r := hB.r; simp only [BxR] at r; go_simp; exact hN)
    refine okf (by simp only [Act.put, List.setIfInBounds_toArray, List.set_cons_succ, List.set_cons_zero]; exact rfl) ?_
    apply gm
    · exact rfl
    · (rintro v ⟨hgu, hB, hG, -⟩ N hN; go_simp; ((with_reducible refine (Hsn.out _).mono ?_); rintro e w1 ⟨rfl, hb⟩; exact ⟨_, rfl, hN _ hb⟩))
    refine okf (by simp only [Act.put, List.setIfInBounds_toArray, List.set_cons_succ, List.set_cons_zero]; exact rfl) ?_
    apply gy
    · exact rfl
    · (rintro v - N hN; go_simp; exact hN)
    refine okf (by simp only [Act.put, List.setIfInBounds_toArray, List.set_cons_succ, List.set_cons_zero]; exact rfl) ?_
    apply gy
    · exact rfl
    · (rintro v - N hN; go_simp; exact hN)
    refine okf (by simp only [Act.put, List.setIfInBounds_toArray, List.set_cons_succ, List.set_cons_zero]; exact rfl) ?_
    first
      | (apply gy
         · exact rfl
         · (rintro v ⟨hgu, hB, hG, -⟩ N hN; have r := hB.r; simp only [BxR] at r; go_simp; exact hN))
      | (apply gn; exact rfl)
    refine okf (by simp only [Act.put, List.setIfInBounds_toArray, List.set_cons_succ, List.set_cons_zero]; exact rfl) ?_
    first
      | (apply gy
         · exact rfl
         · (rintro v ⟨hgu, hB, hG, -⟩ N hN; have r := hB.r; simp only [BxR] at r; go_simp; exact hN))
      | (apply gn; exact rfl)
    refine okf (by simp only [Act.put, List.setIfInBounds_toArray, List.set_cons_succ, List.set_cons_zero]; exact rfl) ?_
    first
      | (apply gm
         · exact rfl
         · (rintro v ⟨hgu, hB, hG, -⟩ N hN; go_simp; ((with_reducible refine (frac_Cmp _ _ _ (by omega)).mono ?_); rintro e w1 ⟨rfl, hb⟩; exact ⟨_, rfl, hN _ hb⟩)))
      | (apply gmn; exact rfl)
    refine okf (by simp only [Act.put, List.setIfInBounds_toArray, List.set_cons_succ, List.set_cons_zero]; exact rfl) ?_
    first
      | (apply gy
         · exact rfl
         · (rintro v - N hN; go_simp; exact hN))
      | (apply gn; exact rfl)
    refine okf (by simp only [Act.put, List.setIfInBounds_toArray, List.set_cons_succ, List.set_cons_zero]; exact rfl) ?_
    apply gy
    · exact rfl
    · (rintro v - N hN; go_simp; exact hN)
    refine okf (by simp only [Act.put, List.setIfInBounds_toArray, List.set_cons_succ, List.set_cons_zero]; exact rfl) ?_
    refine gend ?_
    rintro v ⟨hgu, hB1, hG1, -⟩
    clear hB hG
    have hB := hB1
    have hG := hG1
    clear hB1 hG1
    refine hL _ _ ?_
    clear hL L hgu
    obtain ⟨u, rfl⟩ : ∃ x, x = v := ⟨_, rfl⟩
    refine wpList_nil ?_
    refine NoK.norm (hN _ _ ?_)
    clear hN K
    refine then_norm ?_
    refine wp_cond_true (rfl) ?_
    refine wp_seq ?_
    refine wp_r0 ?_
    intro K hN
    have r := hB.r
    simp only [BxR] at r
    go_wp2_with fail
    clear r
    generalize hu0 : World.setCell (World.setCell (World.setCell (World.setCell (World.setCell u _ _) _ _) _ _) _ _) _ _ = u0
    have hBG := hB.over hF hG 4 rfl 0 [_, _, _, _, _] hu0
    clear hB hG hu0
    simp only [List.modify_succ_cons, List.modify_zero_cons, wrAll, List.setIfInBounds_toArray, List.set_cons_zero, List.set_cons_succ, Nat.zero_add, Nat.reduceAdd] at hBG
    obtain ⟨hB, hG⟩ := hBG
    clear u
    obtain ⟨u, rfl⟩ : ∃ x, x = u0 := ⟨_, rfl⟩
    refine NoK.norm (hN _ _ ?_)
    clear hN K
    refine then_norm ?_
    refine wp_ret ?_
    refine then_ret ?_
    refine ret_b rfl ?_
    intro N hN
    have r := hB.r
    simp only [BxR] at r
    simp only [results, Tryz.results38]
    go_simp
    refine hN _ ?_
    clear hN N r
    exact ⟨rfl, hG⟩
  · have h1 : qint 1 < at_ := by
      rcases ha with ha | ha
      · exact absurd ha (Rat.not_lt.2 (Rat.num_nonneg.1 (by omega)))
      · exact ha
    have hsg : decide (at_.num.sign < 0) = false := by
      rw [decide_eq_false_iff_not, Int.sign_neg_iff]; exact hn
    obtain ⟨g, hg⟩ : ∃ g, g = at_.num.sign := ⟨_, rfl⟩
    have hsn : ∀ W, Calls Tryz.prog 48 #[qV at_] W fun e w' => e = .returned (.int .i64 g) ∧ Grow W w' := fun W => by
      have := frac_Sign at_ z1 W
      rw [← hg] at this
      exact this
    have hcm : ∀ W, Calls Tryz.prog 25 #[qV at_, qV (qint 1)] W fun e w' => e = .returned (.int .i64 1) ∧ Grow W w' := fun W => by
      have := frac_Cmp at_ (qint 1) W (by omega)
      rw [cmpQ_gt h1] at this
      exact this
    rw [← hg] at hsg
    have Hsn := Lib.hid hsn
    have Hcm := Lib.hid hcm
    clear hp hn hg hsn ha hcm h1
    go_enter Tryz.func38, Tryz.ntmps38
    refine wp_seq (wp_r0 ?_)
    intro K hN
    go_wp2_with fail
    generalize hu : World.alloc (World.alloc (World.alloc (World.alloc w _) _) _) _ = u
    obtain ⟨hB, hG⟩ := bx_first [(_, _), (_, _), (_, _), (_, _)] w u hu
    have hF := fr_first w [(67, #[]), (67, #[]), (32, #[]), (32, #[])]
    simp only [numbered, List.map_cons, List.map_nil] at hB hF
    clear hu
    generalize w.heap.size + 1 + 1 + 1 = b6 at hB hF ⊢
    generalize w.heap.size + 1 + 1 = b5 at hB hF ⊢
    generalize w.heap.size + 1 = b4 at hB hF ⊢
    generalize w.heap.size = b3 at hB hF ⊢
    refine NoK.norm (hN _ _ ?_)
    clear hN K
    refine then_norm ?_
    refine wp_seq ?_
    refine wp_seq ?_
    refine wp_rs (w := w) allocs 4 [0, 0, 1, 0] (by kernel_rfl) (by simp only [List.drop_succ_cons, List.drop_nil]; exact rfl) (fun _ => True) noG hB hG trivial ?_
    intro K L hN hL
    simp only [List.zip_cons_cons, List.zip_nil_left]
    apply gy
    · exact rfl
    · (rintro v ⟨hgu, hB, hG, -⟩ N hN; have r := hB.r; simp only [BxR] at r; go_simp; exact hN)
    refine okf (by simp only [Act.put, List.setIfInBounds_toArray, List.set_cons_succ, List.set_cons_zero]; exact rfl) ?_
    apply gy
    · exact rfl
    · (rintro v ⟨hgu, hB, hG, -⟩ N hN; have r := hB.r; simp only [BxR] at r; go_simp; exact hN)
    refine okf (by simp only [Act.put, List.setIfInBounds_toArray, List.set_cons_succ, List.set_cons_zero]; exact rfl) ?_
    apply gm
    · exact rfl
    · (rintro v ⟨hgu, hB, hG, -⟩ N hN; go_simp; ((with_reducible refine (Hp.out _).mono ?_); rintro e w1 ⟨rfl, hb⟩; exact ⟨_, rfl, hN _ hb⟩))
    refine okf (by simp only [Act.put, List.setIfInBounds_toArray, List.set_cons_succ, List.set_cons_zero]; exact rfl) ?_
    apply gy
    · exact rfl
    · (rintro v - N hN; go_simp; exact hN)
    refine okf (by simp only [Act.put, List.setIfInBounds_toArray, List.set_cons_succ, List.set_cons_zero]; exact rfl) ?_
    refine gend ?_
    rintro v ⟨hgu, hB1, hG1, -⟩
    clear hB hG
    have hB := hB1
    have hG := hG1
    clear hB1 hG1
    refine hL _ _ ?_
    clear hL L hgu
    obtain ⟨u, rfl⟩ : ∃ x, x = v := ⟨_, rfl⟩
    refine wpList_nil ?_
    refine NoK.norm (hN _ _ ?_)
    clear hN K
    refine then_norm ?_
    refine wp_cond_false (rfl) ?_
    refine wp_skip ?_
    refine then_norm ?_
    refine wp_seq ?_
    refine wp_rs (w := w) allocs 2 [1, 2] (by kernel_rfl) (by simp only [List.drop_succ_cons, List.drop_zero]; exact rfl) (fun _ => True) noG hB hG trivial ?_
    intro K L hN hL
    simp only [List.zip_cons_cons, List.zip_nil_left]
    apply gm
    · exact rfl
    · (rintro v ⟨hgu, hB, hG, -⟩ N hN; go_simp; ((with_reducible refine (frac_Of _ (by omega) (by omega) _).mono ?_); rintro e w1 ⟨rfl, hb⟩; exact ⟨_, rfl, hN _ hb⟩))
    refine okf (by simp only [Act.put, List.setIfInBounds_toArray, List.set_cons_succ, List.set_cons_zero]; exact rfl) ?_
    refine ga (newObj_Q _ _ _ _ _) fun b8 hb8 hn8 => ?_
    refine okf (by simp only [Act.put, List.setIfInBounds_toArray, List.set_cons_succ, List.set_cons_zero]; exact rfl) ?_
    refine gend ?_
    rintro v ⟨⟨hgu, hB1, hG1, -⟩, h8⟩
    have hF := Fr.new (tk := []) hF hB hG hb8 hn8
    simp only [List.cons_append, List.nil_append, List.map_cons, List.map_nil] at hF
    clear hB hG
    have hB := (Bx.cons h8 hB1)
    have hG := hG1
    clear hB1 hG1 h8
    refine hL _ _ ?_
    clear hL L hgu
    obtain ⟨u, rfl⟩ : ∃ x, x = v := ⟨_, rfl⟩
    have r := hB.r
    simp only [BxR] at r
    go_wp2_with fail
    clear r
    generalize hu0 : World.setCell (World.setCell (World.setCell (World.setCell (World.setCell u _ _) _ _) _ _) _ _) _ _ = u0
    have hBG := hB.over hF hG 0 rfl 0 [_, _, _, _, _] hu0
    clear hB hG hu0
    simp only [List.modify_succ_cons, List.modify_zero_cons, wrAll, List.setIfInBounds_toArray, List.set_cons_zero, List.set_cons_succ, Nat.zero_add, Nat.reduceAdd] at hBG
    obtain ⟨hB, hG⟩ := hBG
    clear u
    obtain ⟨u, rfl⟩ : ∃ x, x = u0 := ⟨_, rfl⟩
    refine NoK.norm (hN _ _ ?_)
    clear hN K
    refine then_norm ?_
    refine wp_seq ?_
    refine wp_seq ?_
    refine wp_rs (w := w) allocs 9 [0, 1, 0, 0, 0, 0, 1, 0, 0] (by kernel_rfl) (by simp only [List.drop_succ_cons, List.drop_nil]; exact rfl) (fun _ => True) noG hB hG trivial ?_
    intro K L hN hL
    simp only [List.zip_cons_cons, List.zip_nil_left]
    apply gy
    · exact rfl
    · (rintro v ⟨hgu, hB, hG, -⟩ N hN; have r := hB.r; simp only [BxR] at r; go_simp; exact hN)
    refine okf (by simp only [Act.put, List.setIfInBounds_toArray, List.set_cons_succ, List.set_cons_zero]; exact rfl) ?_
    apply gm
    · exact rfl
    · (rintro v ⟨hgu, hB, hG, -⟩ N hN; go_simp; ((with_reducible refine (Hsn.out _).mono ?_); rintro e w1 ⟨rfl, hb⟩; exact ⟨_, rfl, hN _ hb⟩))
    refine okf (by simp only [Act.put, List.setIfInBounds_toArray, List.set_cons_succ, List.set_cons_zero]; exact rfl) ?_
    apply gy
    · exact rfl
    · (rintro v - N hN; go_simp; exact hN)
    refine okf (by simp only [Act.put, List.setIfInBounds_toArray, List.set_cons_succ, List.set_cons_zero]; exact rfl) ?_
    apply gy
    · exact rfl
    · (rintro v - N hN; go_simp; exact hN)
    refine okf (by simp only [Act.put, List.setIfInBounds_toArray, List.set_cons_succ, List.set_cons_zero]; exact rfl) ?_
    first
      | (apply gy
         · exact rfl
         · (rintro v ⟨hgu, hB, hG, -⟩ N hN; have r := hB.r; simp only [BxR] at r; go_simp; exact hN))
      | (apply gn; exact rfl)
    refine okf (by simp only [Act.put, List.setIfInBounds_toArray, List.set_cons_succ, List.set_cons_zero]; exact rfl) ?_
    first
      | (apply gy
         · exact rfl
         · (rintro v ⟨hgu, hB, hG, -⟩ N hN; have r := hB.r; simp only [BxR] at r; go_simp; exact hN))
      | (apply gn; exact rfl)
    refine okf (by simp only [Act.put, List.setIfInBounds_toArray, List.set_cons_succ, List.set_cons_zero]; exact rfl) ?_
    first
      | (apply gm
         · exact rfl
         · (rintro v ⟨hgu, hB, hG, -⟩ N hN; go_simp; ((with_reducible refine (Hcm.out _).mono ?_); rintro e w1 ⟨rfl, hb⟩; exact ⟨_, rfl, hN _ hb⟩)))
      | (apply gmn; exact rfl)
    refine okf (by simp only [Act.put, List.setIfInBounds_toArray, List.set_cons_succ, List.set_cons_zero]; exact rfl) ?_
    first
      | (apply gy
         · exact rfl
         · (rintro v - N hN; go_simp; exact hN))
      | (apply gn; exact rfl)
    refine okf (by simp only [Act.put, List.setIfInBounds_toArray, List.set_cons_succ, List.set_cons_zero]; exact rfl) ?_
    apply gy
    · exact rfl
    · (rintro v - N hN; go_simp; exact hN)
    refine okf (by simp only [Act.put, List.setIfInBounds_toArray, List.set_cons_succ, List.set_cons_zero]; exact rfl) ?_
    refine gend ?_
    rintro v ⟨hgu, hB1, hG1, -⟩
    clear hB hG
    have hB := hB1
    have hG := hG1
    clear hB1 hG1
    refine hL _ _ ?_
    clear hL L hgu
    obtain ⟨u, rfl⟩ : ∃ x, x = v := ⟨_, rfl⟩
    refine wpList_nil ?_
    refine NoK.norm (hN _ _ ?_)
    clear hN K
    refine then_norm ?_
    refine wp_cond_true (rfl) ?_
    refine wp_seq ?_
    refine wp_r0 ?_
    intro K hN
    have r := hB.r
    simp only [BxR] at r
    go_wp2_with fail
    clear r
    generalize hu0 : World.setCell (World.setCell (World.setCell (World.setCell (World.setCell u _ _) _ _) _ _) _ _) _ _ = u0
    have hBG := hB.over hF hG 4 rfl 0 [_, _, _, _, _] hu0
    clear hB hG hu0
    simp only [List.modify_succ_cons, List.modify_zero_cons, wrAll, List.setIfInBounds_toArray, List.set_cons_zero, List.set_cons_succ, Nat.zero_add, Nat.reduceAdd] at hBG
    obtain ⟨hB, hG⟩ := hBG
    clear u
    obtain ⟨u, rfl⟩ : ∃ x, x = u0 := ⟨_, rfl⟩
    refine NoK.norm (hN _ _ ?_)
    clear hN K
    refine then_norm ?_
    refine wp_ret ?_
    refine then_ret ?_
    refine ret_b rfl ?_
    intro N hN
    have r := hB.r
    simp only [BxR] at r
    simp only [results, Tryz.results38]
    go_simp
    refine hN _ ?_
    clear hN N r
    exact ⟨rfl, hG⟩
end Go.Proofs.YtimjnkfcnpfoeaaGreatDoor

/-
  score: sides, Area.
-/
namespace Go.Proofs.YtimjnkfcnpfoeaaGreatDoor
open Go.RowKit
/-- these truth values lie from the address on -/
def Lb (u : World) (A : Option Addr) (l : List Bool) : Prop :=
  l ≠ [] → ∃ b off, A = some ⟨b, off, none⟩ ∧ b < u.heap.size ∧ ∀ i x, l[i]? = some x → u.cell? ⟨b, off + i, none⟩ = some (.bool x)
theorem Lb.nil (u : World) (A : Option Addr) : Lb u A [] := fun h => absurd rfl h
theorem Lb.grow {u u' : World} {A : Option Addr} {l : List Bool} (h : Lb u A l) (hg : Grow u u') : Lb u' A l := fun hn => by
  obtain ⟨b, off, e, hb, hc⟩ := h hn
  exact ⟨b, off, e, Nat.lt_of_lt_of_le hb hg.size, fun i x hi => (hg.cell (p := ⟨b, off + i, none⟩) hb).trans (hc i x hi)⟩
def gb (l : List Bool) (i : Nat) : Bool := (l[i]?).getD false
theorem gb_eq {l : List Bool} {i : Nat} (h : i < l.length) : l[i]? = some (gb l i) := by
  unfold gb; rw [List.getElem?_eq_getElem h]; rfl
theorem Lb.addr {u : World} {A : Option Addr} {l : List Bool} (h : Lb u A l) (hl : 0 < l.length) : ∃ b off, A = some ⟨b, off, none⟩ := by
  obtain ⟨b, off, e, _⟩ := h (fun h0 => by rw [h0] at hl; cases hl)
  exact ⟨b, off, e⟩
theorem Lb.read {u : World} {b off : Nat} {l : List Bool} (h : Lb u (some ⟨b, off, none⟩) l) {i : Nat} (hi : i < l.length) : u.cell? ⟨b, off + i, none⟩ = some (.bool (gb l i)) := by
  obtain ⟨b', off', e, _, hc⟩ := h (fun h0 => by rw [h0] at hi; cases hi)
  cases e
  exact hc i _ (gb_eq hi)
def OneLb (b2 : Nat) (A : Option Addr) (m c : Nat) (l : List Bool) (W : World) : Prop := Blk W b2 79 #[.slice A m c] ∧ Lb W A l
theorem OneLb.mk {b2 : Nat} {A : Option Addr} {m c : Nat} {l : List Bool} {u : World} (h1 : Blk u b2 79 #[.slice A m c]) (h2 : Lb u A l) : OneLb b2 A m c l u := ⟨h1, h2⟩
theorem OneLb.grow {b2 : Nat} {A : Option Addr} {m c : Nat} {l : List Bool} {u u' : World} (hg : Grow u u') (h : OneLb b2 A m c l u) : OneLb b2 A m c l u' := ⟨h.1.grow hg, h.2.grow hg⟩
set_option maxHeartbeats 400000 in
theorem score_sides_c1 (b2 ba oa m c : Nat) (l : List Bool) (hl : l.length = m) (i : Nat) (hi : i < m) (w : World) (h : OneLb b2 (some ⟨ba, oa, none⟩) m c l w) :
    Calls Tryz.prog 145 #[.int .i64 (i : Nat), .pointer (some ⟨b2, 0, none⟩)] w fun e w' => e = .returned (.bool (gb l i)) ∧ Grow w w' := by
  have hc1 := h.1.cell 0
  have hc2 := h.2.read (i := i) (by omega)
  simp only [List.getElem?_toArray, List.getElem?_cons_zero] at hc1
  clear h hl
  go_enter Tryz.func145, Tryz.ntmps145
  go_wp2_with fail
  go_ret
  exact ⟨rfl, Grow.refl _⟩
theorem cf_sides (args : Array Value) (W : World) : Sem.run Tryz.prog (callFunc 145 args) W = .ok (.enter 145 args) W := by kernel_rfl
/-- how many are true -/
def yesN (l : List Bool) (m : Nat) : Nat := cnt (gb l) m
theorem yesN_le (l : List Bool) (m : Nat) : yesN l m ≤ m := cnt_le _ _
theorem score_count_S (b2 ba oa m c : Nat) (l : List Bool) (hl : l.length = m) (hm : m ≤ 1099511627776) (w : World) (h : OneLb b2 (some ⟨ba, oa, none⟩) m c l w) :
    Calls Tryz.prog 58 #[.int .i64 m, .func (.func 145) #[] #[.pointer (some ⟨b2, 0, none⟩)]] w fun e w' => e = .returned (.int .i64 (yesN l m : Nat)) ∧ Grow w w' :=
  score_count m hm 145 cf_sides _ (gb l) (OneLb b2 (some ⟨ba, oa, none⟩) m c l) (fun _ _ hg h => h.grow hg) w h (fun i hi W h => score_sides_c1 b2 ba oa m c l hl i hi W h)
def sidesV (l : List Bool) (m : Nat) : Value := if yesN l m = 0 ∨ yesN l m = m then .tuple #[.int .i64 0, .int .i64 0, .int .i64 7] else .tuple #[.int .i64 ((m - yesN l m : Nat) : Int), .int .i64 (yesN l m : Nat), .int .i64 0]
set_option maxHeartbeats 1000000 in
set_option maxRecDepth 100000 in
theorem score_sides_ok (A B : Option Addr) (m c d : Nat) (l : List Bool) (hl : l.length = m) (hm0 : 0 < m) (hm : m ≤ 1099511627776) (w : World) (h1 : Lb w A l) :
    Calls Tryz.prog 104 #[.slice A m c, .slice B m d] w fun e w' => e = .returned (sidesV l m) ∧ Grow w w' := by
  obtain ⟨ba, oa, rfl⟩ := h1.addr (by omega)
  have hp : ∀ W, Calls Tryz.prog 144 #[.slice (some ⟨ba, oa, none⟩) m c, .slice B m d] W fun e w' => e = .returned (.bool true) ∧ Grow W w' := fun W => by
    have := score_paired_bq (some ⟨ba, oa, none⟩) B m m c d W
    rw [pairedB_yes hm0] at this
    exact this
  have hcnt := fun b2 W => score_count_S b2 ba oa m c l hl hm W
  have hle := yesN_le l m
  unfold sidesV
  obtain ⟨s, hs⟩ : ∃ s, s = yesN l m := ⟨_, rfl⟩
  rw [← hs] at hle ⊢
  rw [← hs] at hcnt
  have Hp := Lib.hid hp
  have Hcnt := Lib.hid hcnt
  have H1 := Lib.hid h1
  clear hp hcnt h1 hl hs
  rcases Nat.eq_zero_or_pos s with rfl | hpos
  · rw [if_pos (.inl rfl)]
    go_enter Tryz.func104, Tryz.ntmps104
    refine wp_seq (wp_r0 ?_)
    intro K hN
    go_wp2_with fail
    generalize hu : World.alloc w _ = u
    obtain ⟨hB, hG⟩ := bx_first [(_, _)] w u hu
    have hF := fr_first w [(79, #[])]
    simp only [numbered, List.map_cons, List.map_nil] at hB hF
    clear hu
    generalize w.heap.size = b2 at hB hF ⊢
    refine NoK.norm (hN _ _ ?_)
    clear hN K
    refine then_norm ?_
    refine wp_seq ?_
    refine wp_seq ?_
    refine wp_rs (w := w) allocs 4 [0, 0, 1, 0] (by kernel_rfl) (by simp only [List.drop_succ_cons, List.drop_nil]; exact rfl) (fun _ => True) noG hB hG trivial ?_
    intro K L hN hL
    simp only [List.zip_cons_cons, List.zip_nil_left]
    apply gy
    · exact rfl
    · (rintro v ⟨hgu, hB, hG, -⟩ N hN; have r := hB.r; simp only [BxR] at r; go_simp; exact hN)
    refine okf (by simp only [Act.put, List.setIfInBounds_toArray, List.set_cons_succ, List.set_cons_zero]; exact rfl) ?_
    apply gy
    · exact rfl
    · (rintro v - N hN; go_simp; exact hN)
    refine okf (by simp only [Act.put, List.setIfInBounds_toArray, List.set_cons_succ, List.set_cons_zero]; exact rfl) ?_
    apply gm
    · exact rfl
    · (rintro v ⟨hgu, hB, hG, -⟩ N hN; go_simp; ((with_reducible refine (Hp.out _).mono ?_); rintro e w1 ⟨rfl, hb⟩; exact ⟨_, rfl, hN _ hb⟩))
    refine okf (by simp only [Act.put, List.setIfInBounds_toArray, List.set_cons_succ, List.set_cons_zero]; exact rfl) ?_
    apply gy
    · exact rfl
    · (rintro v - N hN; go_simp; exact hN)
    refine okf (by simp only [Act.put, List.setIfInBounds_toArray, List.set_cons_succ, List.set_cons_zero]; exact rfl) ?_
    refine gend ?_
    rintro v ⟨hgu, hB1, hG1, -⟩
    clear hB hG
    have hB := hB1
    have hG := hG1
    clear hB1 hG1
    refine hL _ _ ?_
    clear hL L hgu
    obtain ⟨u, rfl⟩ : ∃ x, x = v := ⟨_, rfl⟩
    refine wpList_nil ?_
    refine NoK.norm (hN _ _ ?_)
    clear hN K
    refine then_norm ?_
    refine wp_cond_false (rfl) ?_
    refine wp_skip ?_
    refine then_norm ?_
    refine wp_seq ?_
    refine wp_rs (w := w) allocs 5 [0, 0, 0, 1, 0] (by kernel_rfl) (by simp only [List.drop_succ_cons, List.drop_nil]; exact rfl) (fun _ => True) noG hB hG trivial ?_
    intro K L hN hL
    simp only [List.zip_cons_cons, List.zip_nil_left]
    apply gy
    · exact rfl
    · (rintro v ⟨hgu, hB, hG, -⟩ N hN; have r := hB.r; simp only [BxR] at r; go_simp; exact hN)
    refine okf (by simp only [Act.put, List.setIfInBounds_toArray, List.set_cons_succ, List.set_cons_zero]; exact rfl) ?_
    apply gy
    · exact rfl
    · (rintro v - N hN; go_simp; exact hN)
    refine okf (by simp only [Act.put, List.setIfInBounds_toArray, List.set_cons_succ, List.set_cons_zero]; exact rfl) ?_
    apply gy
    · exact rfl
    · (rintro v - N hN; go_simp; exact hN)
    refine okf (by simp only [Act.put, List.setIfInBounds_toArray, List.set_cons_succ, List.set_cons_zero]; exact rfl) ?_
    apply gm
    · exact rfl
    · (rintro v ⟨hgu, hB, hG, -⟩ N hN; go_simp; ((with_reducible refine (Hcnt.out b2 _ (OneLb.mk hB.head (H1.out.grow hG))).mono ?_); rintro e w1 ⟨rfl, hb⟩; exact ⟨_, rfl, hN _ hb⟩))
    refine okf (by simp only [Act.put, List.setIfInBounds_toArray, List.set_cons_succ, List.set_cons_zero]; exact rfl) ?_
    apply gy
    · exact rfl
    · (rintro v - N hN; go_simp; exact hN)
    refine okf (by simp only [Act.put, List.setIfInBounds_toArray, List.set_cons_succ, List.set_cons_zero]; exact rfl) ?_
    refine gend ?_
    rintro v ⟨hgu, hB1, hG1, -⟩
    clear hB hG
    have hB := hB1
    have hG := hG1
    clear hB1 hG1
    refine hL _ _ ?_
    clear hL L hgu
    obtain ⟨u, rfl⟩ : ∃ x, x = v := ⟨_, rfl⟩
    refine wpList_nil ?_
    refine NoK.norm (hN _ _ ?_)
    clear hN K
    refine then_norm ?_
    refine wp_seq ?_
    refine wp_r0 ?_
    intro K hN
    have r := hB.r
    simp only [BxR] at r
    go_wp2_with fail
    clear r
    refine NoK.norm (hN _ _ ?_)
    clear hN K
    refine then_norm ?_
    refine wp_seq ?_
    refine wp_seq ?_
    refine wp_r0 ?_
    intro K hN
    go_wp2_with fail
    refine NoK.norm (hN _ _ ?_)
    clear hN K
    refine then_norm ?_
    refine wp_cond_true (rfl) ?_
    refine wp_seq ?_
    refine wp_r0 ?_
    intro K hN
    go_wp2_with fail
    refine NoK.norm (hN _ _ ?_)
    clear hN K
    refine then_norm ?_
    refine wp_ret ?_
    refine then_ret ?_
    refine ret_b rfl ?_
    intro N hN
    have r := hB.r
    simp only [BxR] at r
    simp only [results, Tryz.results104]
    go_simp
    refine hN _ ?_
    clear hN N r
    exact ⟨rfl, hG⟩
  · have e1 : ((s : Int) == 0) = false := by simp; omega
    by_cases hsm : s = m
    · subst hsm
      rw [if_pos (.inr rfl)]
      have f1 : IntKind.i64.wrap ((s : Int) - (s : Int)) = 0 := by rw [Int.sub_self]; rfl
      go_enter Tryz.func104, Tryz.ntmps104
      refine wp_seq (wp_r0 ?_)
      intro K hN
      go_wp2_with fail
      generalize hu : World.alloc w _ = u
      obtain ⟨hB, hG⟩ := bx_first [(_, _)] w u hu
      have hF := fr_first w [(79, #[])]
      simp only [numbered, List.map_cons, List.map_nil] at hB hF
      clear hu
      generalize w.heap.size = b2 at hB hF ⊢
      refine NoK.norm (hN _ _ ?_)
      clear hN K
      refine then_norm ?_
      refine wp_seq ?_
      refine wp_seq ?_
      refine wp_rs (w := w) allocs 4 [0, 0, 1, 0] (by kernel_rfl) (by simp only [List.drop_succ_cons, List.drop_nil]; exact rfl) (fun _ => True) noG hB hG trivial ?_
      intro K L hN hL
      simp only [List.zip_cons_cons, List.zip_nil_left]
      apply gy
      · exact rfl
      · (rintro v ⟨hgu, hB, hG, -⟩ N hN; have r := hB.r; simp only [BxR] at r; go_simp; exact hN)
      refine okf (by simp only [Act.put, List.setIfInBounds_toArray, List.set_cons_succ, List.set_cons_zero]; exact rfl) ?_
      apply gy
      · exact rfl
      · (rintro v - N hN; go_simp; exact hN)
      refine okf (by simp only [Act.put, List.setIfInBounds_toArray, List.set_cons_succ, List.set_cons_zero]; exact rfl) ?_
      apply gm
      · exact rfl
      · (rintro v ⟨hgu, hB, hG, -⟩ N hN; go_simp; ((with_reducible refine (Hp.out _).mono ?_); rintro e w1 ⟨rfl, hb⟩; exact ⟨_, rfl, hN _ hb⟩))
      refine okf (by simp only [Act.put, List.setIfInBounds_toArray, List.set_cons_succ, List.set_cons_zero]; exact rfl) ?_
      apply gy
      · exact rfl
      · (rintro v - N hN; go_simp; exact hN)
      refine okf (by simp only [Act.put, List.setIfInBounds_toArray, List.set_cons_succ, List.set_cons_zero]; exact rfl) ?_
      refine gend ?_
      rintro v ⟨hgu, hB1, hG1, -⟩
      clear hB hG
      have hB := hB1
      have hG := hG1
      clear hB1 hG1
      refine hL _ _ ?_
      clear hL L hgu
      obtain ⟨u, rfl⟩ : ∃ x, x = v := ⟨_, rfl⟩
      refine wpList_nil ?_
      refine NoK.norm (hN _ _ ?_)
      clear hN K
      refine then_norm ?_
      refine wp_cond_false (rfl) ?_
      refine wp_skip ?_
      refine then_norm ?_
      refine wp_seq ?_
      refine wp_rs (w := w) allocs 5 [0, 0, 0, 1, 0] (by kernel_rfl) (by simp only [List.drop_succ_cons, List.drop_nil]; exact rfl) (fun _ => True) noG hB hG trivial ?_
      intro K L hN hL
      simp only [List.zip_cons_cons, List.zip_nil_left]
      apply gy
      · exact rfl
      · (rintro v ⟨hgu, hB, hG, -⟩ N hN; have r := hB.r; simp only [BxR] at r; go_simp; exact hN)
      refine okf (by simp only [Act.put, List.setIfInBounds_toArray, List.set_cons_succ, List.set_cons_zero]; exact rfl) ?_
      apply gy
      · exact rfl
      · (rintro v - N hN; go_simp; exact hN)
      refine okf (by simp only [Act.put, List.setIfInBounds_toArray, List.set_cons_succ, List.set_cons_zero]; exact rfl) ?_
      apply gy
      · exact rfl
      · (rintro v - N hN; go_simp; exact hN)
      refine okf (by simp only [Act.put, List.setIfInBounds_toArray, List.set_cons_succ, List.set_cons_zero]; exact rfl) ?_
      apply gm
      · exact rfl
      · (rintro v ⟨hgu, hB, hG, -⟩ N hN; go_simp; ((with_reducible refine (Hcnt.out b2 _ (OneLb.mk hB.head (H1.out.grow hG))).mono ?_); rintro e w1 ⟨rfl, hb⟩; exact ⟨_, rfl, hN _ hb⟩))
      refine okf (by simp only [Act.put, List.setIfInBounds_toArray, List.set_cons_succ, List.set_cons_zero]; exact rfl) ?_
      apply gy
      · exact rfl
      · (rintro v - N hN; go_simp; exact hN)
      refine okf (by simp only [Act.put, List.setIfInBounds_toArray, List.set_cons_succ, List.set_cons_zero]; exact rfl) ?_
      refine gend ?_
      rintro v ⟨hgu, hB1, hG1, -⟩
      clear hB hG
      have hB := hB1
      have hG := hG1
      clear hB1 hG1
      refine hL _ _ ?_
      clear hL L hgu
      obtain ⟨u, rfl⟩ : ∃ x, x = v := ⟨_, rfl⟩
      refine wpList_nil ?_
      refine NoK.norm (hN _ _ ?_)
      clear hN K
      refine then_norm ?_
      refine wp_seq ?_
      refine wp_r0 ?_
      intro K hN
      have r := hB.r
      simp only [BxR] at r
      go_wp2_with fail
      clear r
      refine NoK.norm (hN _ _ ?_)
      clear hN K
      refine then_norm ?_
      refine wp_seq ?_
      refine wp_seq ?_
      refine wp_r0 ?_
      intro K hN
      go_wp2_with fail
      refine NoK.norm (hN _ _ ?_)
      clear hN K
      refine then_norm ?_
      refine wp_cond_true (rfl) ?_
      refine wp_seq ?_
      refine wp_r0 ?_
      intro K hN
      go_wp2_with fail
      refine NoK.norm (hN _ _ ?_)
      clear hN K
      refine then_norm ?_
      refine wp_ret ?_
      refine then_ret ?_
      refine ret_b rfl ?_
      intro N hN
      have r := hB.r
      simp only [BxR] at r
      simp only [results, Tryz.results104]
      go_simp
      refine hN _ ?_
      clear hN N r
      exact ⟨rfl, hG⟩
    · rw [if_neg (by omega)]
      obtain ⟨n, hn⟩ : ∃ n, n = m - s := ⟨_, rfl⟩
      have f1 : IntKind.i64.wrap ((m : Int) - (s : Int)) = (n : Int) := by rw [show (m : Int) - (s : Int) = (n : Int) by omega]; exact IntWalk.i64_in _ (by omega)
      have f2 : (m : Int) - (s : Int) = (n : Int) := by omega
      have e2 : ((n : Int) == 0) = false := by simp; omega
      rw [← hn]
      clear hn
      go_enter Tryz.func104, Tryz.ntmps104
      refine wp_seq (wp_r0 ?_)
      intro K hN
      go_wp2_with fail
      generalize hu : World.alloc w _ = u
      obtain ⟨hB, hG⟩ := bx_first [(_, _)] w u hu
      have hF := fr_first w [(79, #[])]
      simp only [numbered, List.map_cons, List.map_nil] at hB hF
      clear hu
      generalize w.heap.size = b2 at hB hF ⊢
      refine NoK.norm (hN _ _ ?_)
      clear hN K
      refine then_norm ?_
      refine wp_seq ?_
      refine wp_seq ?_
      refine wp_rs (w := w) allocs 4 [0, 0, 1, 0] (by kernel_rfl) (by simp only [List.drop_succ_cons, List.drop_nil]; exact rfl) (fun _ => True) noG hB hG trivial ?_
      intro K L hN hL
      simp only [List.zip_cons_cons, List.zip_nil_left]
      apply gy
      · exact rfl
      · (rintro v ⟨hgu, hB, hG, -⟩ N hN; have r := hB.r; simp only [BxR] at r; go_simp; exact hN)
      refine okf (by simp only [Act.put, List.setIfInBounds_toArray, List.set_cons_succ, List.set_cons_zero]; exact rfl) ?_
      apply gy
      · exact rfl
      · (rintro v - N hN; go_simp; exact hN)
      refine okf (by simp only [Act.put, List.setIfInBounds_toArray, List.set_cons_succ, List.set_cons_zero]; exact rfl) ?_
      apply gm
      · exact rfl
      · (rintro v ⟨hgu, hB, hG, -⟩ N hN; go_simp; ((with_reducible refine (Hp.out _).mono ?_); rintro e w1 ⟨rfl, hb⟩; exact ⟨_, rfl, hN _ hb⟩))
      refine okf (by simp only [Act.put, List.setIfInBounds_toArray, List.set_cons_succ, List.set_cons_zero]; exact rfl) ?_
      apply gy
      · exact rfl
      · (rintro v - N hN; go_simp; exact hN)
      refine okf (by simp only [Act.put, List.setIfInBounds_toArray, List.set_cons_succ, List.set_cons_zero]; exact rfl) ?_
      refine gend ?_
      rintro v ⟨hgu, hB1, hG1, -⟩
      clear hB hG
      have hB := hB1
      have hG := hG1
      clear hB1 hG1
      refine hL _ _ ?_
      clear hL L hgu
      obtain ⟨u, rfl⟩ : ∃ x, x = v := ⟨_, rfl⟩
      refine wpList_nil ?_
      refine NoK.norm (hN _ _ ?_)
      clear hN K
      refine then_norm ?_
      refine wp_cond_false (rfl) ?_
      refine wp_skip ?_
      refine then_norm ?_
      refine wp_seq ?_
      refine wp_rs (w := w) allocs 5 [0, 0, 0, 1, 0] (by kernel_rfl) (by simp only [List.drop_succ_cons, List.drop_nil]; exact rfl) (fun _ => True) noG hB hG trivial ?_
      intro K L hN hL
      simp only [List.zip_cons_cons, List.zip_nil_left]
      apply gy
      · exact rfl
      · (rintro v ⟨hgu, hB, hG, -⟩ N hN; have r := hB.r; simp only [BxR] at r; go_simp; exact hN)
      refine okf (by simp only [Act.put, List.setIfInBounds_toArray, List.set_cons_succ, List.set_cons_zero]; exact rfl) ?_
      apply gy
      · exact rfl
      · (rintro v - N hN; go_simp; exact hN)
      refine okf (by simp only [Act.put, List.setIfInBounds_toArray, List.set_cons_succ, List.set_cons_zero]; exact rfl) ?_
      apply gy
      · exact rfl
      · (rintro v - N hN; go_simp; exact hN)
      refine okf (by simp only [Act.put, List.setIfInBounds_toArray, List.set_cons_succ, List.set_cons_zero]; exact rfl) ?_
      apply gm
      · exact rfl
      · (rintro v ⟨hgu, hB, hG, -⟩ N hN; go_simp; ((with_reducible refine (Hcnt.out b2 _ (OneLb.mk hB.head (H1.out.grow hG))).mono ?_); rintro e w1 ⟨rfl, hb⟩; exact ⟨_, rfl, hN _ hb⟩))
      refine okf (by simp only [Act.put, List.setIfInBounds_toArray, List.set_cons_succ, List.set_cons_zero]; exact rfl) ?_
      apply gy
      · exact rfl
      · (rintro v - N hN; go_simp; exact hN)
      refine okf (by simp only [Act.put, List.setIfInBounds_toArray, List.set_cons_succ, List.set_cons_zero]; exact rfl) ?_
      refine gend ?_
      rintro v ⟨hgu, hB1, hG1, -⟩
      clear hB hG
      have hB := hB1
      have hG := hG1
      clear hB1 hG1
      refine hL _ _ ?_
      clear hL L hgu
      obtain ⟨u, rfl⟩ : ∃ x, x = v := ⟨_, rfl⟩
      refine wpList_nil ?_
      refine NoK.norm (hN _ _ ?_)
      clear hN K
      refine then_norm ?_
      refine wp_seq ?_
      refine wp_r0 ?_
      intro K hN
      have r := hB.r
      simp only [BxR] at r
      go_wp2_with fail
      clear r
      refine NoK.norm (hN _ _ ?_)
      clear hN K
      refine then_norm ?_
      refine wp_seq ?_
      refine wp_seq ?_
      refine wp_r0 ?_
      intro K hN
      go_wp2_with fail
      refine NoK.norm (hN _ _ ?_)
      clear hN K
      refine then_norm ?_
      refine wp_cond_false (rfl) ?_
      refine wp_skip ?_
      refine then_norm ?_
      refine wp_seq ?_
      refine wp_r0 ?_
      intro K hN
      go_wp2_with fail
      refine NoK.norm (hN _ _ ?_)
      clear hN K
      refine then_norm ?_
      refine wp_ret ?_
      refine ret_b rfl ?_
      intro N hN
      have r := hB.r
      simp only [BxR] at r
      simp only [results, Tryz.results104]
      go_simp
      refine hN _ ?_
      clear hN N r
      exact ⟨rfl, hG⟩
theorem score_sides_no (A B : Option Addr) (m n c d : Nat) (h : pairedB m n = false) (w : World) :
    Calls Tryz.prog 104 #[.slice A m c, .slice B n d] w fun e w' => e = .returned (.tuple #[.int .i64 0, .int .i64 0, .int .i64 5]) ∧ Grow w w' := by
  have hp : ∀ W, Calls Tryz.prog 144 #[.slice A m c, .slice B n d] W fun e w' => e = .returned (.bool false) ∧ Grow W w' := fun W => by
    have := score_paired_bq A B m n c d W
    rw [h] at this
    exact this
  have Hp := Lib.hid hp
  clear hp h
  go_enter Tryz.func104, Tryz.ntmps104
  refine wp_seq (wp_r0 ?_)
  intro K hN
  go_wp2_with fail
  generalize hu : World.alloc w _ = u
  obtain ⟨hB, hG⟩ := bx_first [(_, _)] w u hu
  have hF := fr_first w [(79, #[])]
  simp only [numbered, List.map_cons, List.map_nil] at hB hF
  clear hu
  generalize w.heap.size = b2 at hB hF ⊢
  refine NoK.norm (hN _ _ ?_)
  clear hN K
  refine then_norm ?_
  refine wp_seq ?_
  refine wp_seq ?_
  refine wp_rs (w := w) allocs 4 [0, 0, 1, 0] (by kernel_rfl) (by simp only [List.drop_succ_cons, List.drop_nil]; exact rfl) (fun _ => True) noG hB hG trivial ?_
  intro K L hN hL
  simp only [List.zip_cons_cons, List.zip_nil_left]
  apply gy
  · exact rfl
  · (rintro v ⟨hgu, hB, hG, -⟩ N hN; have r := hB.r; simp only [BxR] at r; go_simp; exact hN)
  refine okf (by simp only [Act.put, List.setIfInBounds_toArray, List.set_cons_succ, List.set_cons_zero]; exact rfl) ?_
  apply gy
  · exact rfl
  · (rintro v - N hN; go_simp; exact hN)
  refine okf (by simp only [Act.put, List.setIfInBounds_toArray, List.set_cons_succ, List.set_cons_zero]; exact rfl) ?_
  apply gm
  · exact rfl
  · (rintro v ⟨hgu, hB, hG, -⟩ N hN; go_simp; ((with_reducible refine (Hp.out _).mono ?_); rintro e w1 ⟨rfl, hb⟩; exact ⟨_, rfl, hN _ hb⟩))
  refine okf (by simp only [Act.put, List.setIfInBounds_toArray, List.set_cons_succ, List.set_cons_zero]; exact rfl) ?_
  apply gy
  · exact rfl
  · (rintro v - N hN; go_simp; exact hN)
  refine okf (by simp only [Act.put, List.setIfInBounds_toArray, List.set_cons_succ, List.set_cons_zero]; exact rfl) ?_
  refine gend ?_
  rintro v ⟨hgu, hB1, hG1, -⟩
  clear hB hG
  have hB := hB1
  have hG := hG1
  clear hB1 hG1
  refine hL _ _ ?_
  clear hL L hgu
  obtain ⟨u, rfl⟩ : ∃ x, x = v := ⟨_, rfl⟩
  refine wpList_nil ?_
  refine NoK.norm (hN _ _ ?_)
  clear hN K
  refine then_norm ?_
  refine wp_cond_true (rfl) ?_
  refine wp_seq ?_
  refine wp_r0 ?_
  intro K hN
  go_wp2_with fail
  refine NoK.norm (hN _ _ ?_)
  clear hN K
  refine then_norm ?_
  refine wp_ret ?_
  refine then_ret ?_
  refine ret_b rfl ?_
  intro N hN
  have r := hB.r
  simp only [BxR] at r
  simp only [results, Tryz.results104]
  go_simp
  refine hN _ ?_
  clear hN N r
  exact ⟨rfl, hG⟩
/-- what one pair adds -/
def hv (is : List Bool) (l : List Rat) (i j : Nat) : Int := if gb is i && !gb is j then cmpQ (gq l i) (gq l j) + 1 else 0
theorem cmpQ_range (a b : Rat) : -1 ≤ cmpQ a b ∧ cmpQ a b ≤ 1 := by unfold cmpQ; split <;> (try split) <;> omega
theorem hv_range (is : List Bool) (l : List Rat) (i j : Nat) : 0 ≤ hv is l i j ∧ hv is l i j ≤ 2 := by
  unfold hv
  have := cmpQ_range (gq l i) (gq l j)
  split <;> omega
theorem sumTo_range {f : Nat → Int} {c : Int} (h : ∀ i, 0 ≤ f i ∧ f i ≤ c) (n : Nat) : 0 ≤ sumTo f n ∧ sumTo f n ≤ n * c := by
  induction n with
  | zero => simp [sumTo]
  | succ n ih =>
    have := h n
    simp only [sumTo]
    rw [show ((n + 1 : Nat) : Int) * c = n * c + c by push_cast; grind]
    omega
def halves (is : List Bool) (l : List Rat) (m : Nat) : Int := sumTo (fun a => sumTo (hv is l a) m) m
theorem halves_range (is : List Bool) (l : List Rat) (m i : Nat) (hi : i ≤ m) (hm : m ≤ 1048576) : 0 ≤ sumTo (fun a => sumTo (hv is l a) m) i ∧ sumTo (fun a => sumTo (hv is l a) m) i ≤ 2199023255552 := by
  have h1 := fun a => sumTo_range (hv_range is l a) m
  have h2 := sumTo_range (f := fun a => sumTo (hv is l a) m) (c := 2097152) (fun a => ⟨(h1 a).1, by have := (h1 a).2; omega⟩) i
  omega
theorem qint_i64 {z : Int} (h0 : -9223372036854775808 ≤ z) (h1 : z ≤ 9223372036854775807) : qs (qint z) ≤ 64 := by
  refine qs_int z 64 ?_ (by omega)
  omega
def areaQ (is : List Bool) (l : List Rat) (m : Nat) : Rat := qdiv (qint (halves is l m)) (qadd (qmul (qint ((m - yesN is m : Nat) : Int)) (qint (yesN is m : Nat))) (qmul (qint ((m - yesN is m : Nat) : Int)) (qint (yesN is m : Nat))))
abbrev zCells : Array Value := #[.bool false, .int .u64 0, .string ⟨#[]⟩, .int .u64 0, .string ⟨#[]⟩]
set_option maxHeartbeats 2000000 in
set_option maxRecDepth 100000 in
theorem score_Area_ok (A B : Option Addr) (m c d : Nat) (is : List Bool) (l : List Rat) (hl : is.length = m) (hl' : l.length = m) (hy : 0 < yesN is m) (hn : yesN is m < m) (hm : m ≤ 1048576) (s : Nat) (hs : ∀ x ∈ l, qs x ≤ s) (hB : 2 * s + 1000 ≤ BIG) (w : World) (h1 : Lb w A is) (h2 : Lq w B l) (HT : Tab w) :
    Calls Tryz.prog 41 #[.slice A m c, .slice B m d] w fun e w' => e = .returned (.tuple #[qV (areaQ is l m), .int .i64 0]) ∧ Grow w w' := by
  obtain ⟨ba, oa, rfl⟩ := h1.addr (by omega)
  obtain ⟨bb, ob, rfl⟩ := h2.addr (by omega)
  have hsd : ∀ W, Grow w W → Calls Tryz.prog 104 #[.slice (some ⟨ba, oa, none⟩) m c, .slice (some ⟨bb, ob, none⟩) m d] W fun e w' => e = .returned (.tuple #[.int .i64 ((m - yesN is m : Nat) : Int), .int .i64 (yesN is m : Nat), .int .i64 0]) ∧ Grow W w' := fun W hg => by
    have := score_sides_ok (some ⟨ba, oa, none⟩) (some ⟨bb, ob, none⟩) m c d is hl (by omega) (by omega) W (h1.grow hg)
    unfold sidesV at this
    rw [if_neg (by omega)] at this
    exact this
  have hle := yesN_le is m
  have hrd : ∀ i, i < m → ∀ W, Grow w W → W.cell? ⟨ba, oa + i, none⟩ = some (.bool (gb is i)) ∧ Cq W bb (ob + i * 5) (gq l i) := fun i hi W hg => ⟨(h1.grow hg).read (by omega), (h2.grow hg).read (by omega)⟩
  have hqz : ∀ i, i < m → qs (gq l i) ≤ s := fun i hi => hs _ (gq_mem (by omega))
  have hhr := fun i hi => halves_range is l m i hi hm
  obtain ⟨yes, hyes⟩ : ∃ s, s = yesN is m := ⟨_, rfl⟩
  obtain ⟨no, hno⟩ : ∃ s, s = m - yesN is m := ⟨_, rfl⟩
  have har : areaQ is l m = qdiv (qint (halves is l m)) (qadd (qmul (qint no) (qint yes)) (qmul (qint no) (qint yes))) := by rw [hyes, hno]; rfl
  rw [← hyes] at hy hn hle
  rw [← hyes] at hsd
  rw [hyes, ← hno, ← hyes] at hsd
  have hno1 : no ≤ m := by omega
  have y1 : qs (qint (no : Nat)) ≤ 64 := qint_i64 (by omega) (by omega)
  have y2 : qs (qint (yes : Nat)) ≤ 64 := qint_i64 (by omega) (by omega)
  have y3 : qs (qmul (qint (no : Nat)) (qint (yes : Nat))) ≤ 128 := by have : qs (qmul (qint (no : Nat)) (qint (yes : Nat))) ≤ _ := qs_mul _ _; omega
  have y4 : qs (qadd (qmul (qint (no : Nat)) (qint (yes : Nat))) (qmul (qint (no : Nat)) (qint (yes : Nat)))) ≤ 257 := by have : qs (qadd (qmul (qint (no : Nat)) (qint (yes : Nat))) (qmul (qint (no : Nat)) (qint (yes : Nat)))) ≤ _ := qs_add _ _; omega
  have Hsd := Lib.hid hsd
  have Hrd := Lib.hid hrd
  have Hqz := Lib.hid hqz
  have Hhr := Lib.hid hhr
  have Har := Lib.hid har
  clear hsd hrd hqz hhr har h1 h2 hl hl' hs hyes hno
  go_enter Tryz.func41, Tryz.ntmps41
  refine wp_seq (wp_r0 ?_)
  intro K hN
  go_wp2_with fail
  generalize hu : World.alloc w _ = u
  obtain ⟨hB, hG⟩ := bx_first [(_, _)] w u hu
  have hF := fr_first w [(32, #[])]
  simp only [numbered, List.map_cons, List.map_nil] at hB hF
  clear hu
  generalize w.heap.size = b4 at hB hF ⊢
  refine NoK.norm (hN _ _ ?_)
  clear hN K
  refine then_norm ?_
  refine wp_seq ?_
  refine wp_rs (w := w) allocs 10 [0, 0, 1, 0, 0, 0, 0, 0, 0, 0] (by kernel_rfl) (by simp only [List.drop_succ_cons, List.drop_nil]; exact rfl) (fun _ => True) noG hB hG trivial ?_
  intro K L hN hL
  simp only [List.zip_cons_cons, List.zip_nil_left]
  apply gy
  · exact rfl
  · (rintro v - N hN; go_simp; exact hN)
  refine okf (by simp only [Act.put, List.setIfInBounds_toArray, List.set_cons_succ, List.set_cons_zero]; exact rfl) ?_
  apply gy
  · exact rfl
  · (rintro v - N hN; go_simp; exact hN)
  refine okf (by simp only [Act.put, List.setIfInBounds_toArray, List.set_cons_succ, List.set_cons_zero]; exact rfl) ?_
  apply gm
  · exact rfl
  · (rintro v ⟨hgu, hB, hG, -⟩ N hN; go_simp; ((with_reducible refine (Hsd.out _ hG).mono ?_); rintro e w1 ⟨rfl, hb⟩; exact ⟨_, rfl, hN _ hb⟩))
  refine okf (by simp only [Act.put, List.setIfInBounds_toArray, List.set_cons_succ, List.set_cons_zero]; exact rfl) ?_
  apply gy
  · exact rfl
  · (rintro v - N hN; go_simp; exact hN)
  refine okf (by simp only [Act.put, List.setIfInBounds_toArray, List.set_cons_succ, List.set_cons_zero]; exact rfl) ?_
  apply gy
  · exact rfl
  · (rintro v - N hN; go_simp; exact hN)
  refine okf (by simp only [Act.put, List.setIfInBounds_toArray, List.set_cons_succ, List.set_cons_zero]; exact rfl) ?_
  apply gy
  · exact rfl
  · (rintro v - N hN; go_simp; exact hN)
  refine okf (by simp only [Act.put, List.setIfInBounds_toArray, List.set_cons_succ, List.set_cons_zero]; exact rfl) ?_
  apply gy
  · exact rfl
  · (rintro v - N hN; go_simp; exact hN)
  refine okf (by simp only [Act.put, List.setIfInBounds_toArray, List.set_cons_succ, List.set_cons_zero]; exact rfl) ?_
  apply gy
  · exact rfl
  · (rintro v - N hN; go_simp; exact hN)
  refine okf (by simp only [Act.put, List.setIfInBounds_toArray, List.set_cons_succ, List.set_cons_zero]; exact rfl) ?_
  apply gy
  · exact rfl
  · (rintro v - N hN; go_simp; exact hN)
  refine okf (by simp only [Act.put, List.setIfInBounds_toArray, List.set_cons_succ, List.set_cons_zero]; exact rfl) ?_
  apply gy
  · exact rfl
  · (rintro v - N hN; go_simp; exact hN)
  refine okf (by simp only [Act.put, List.setIfInBounds_toArray, List.set_cons_succ, List.set_cons_zero]; exact rfl) ?_
  refine gend ?_
  rintro v ⟨hgu, hB1, hG1, -⟩
  clear hB hG
  have hB := hB1
  have hG := hG1
  clear hB1 hG1
  refine hL _ _ ?_
  clear hL L hgu
  obtain ⟨u, rfl⟩ : ∃ x, x = v := ⟨_, rfl⟩
  refine wpList_nil ?_
  refine NoK.norm (hN _ _ ?_)
  clear hN K
  refine then_norm ?_
  refine wp_seq ?_
  refine wp_seq ?_
  refine wp_r0 ?_
  intro K hN
  go_wp2_with fail
  refine NoK.norm (hN _ _ ?_)
  clear hN K
  refine then_norm ?_
  refine wp_cond_false (rfl) ?_
  refine wp_skip ?_
  refine then_norm ?_
  refine wp_seq ?_
  refine wp_r0 ?_
  intro K hN
  go_wp2_with fail
  refine NoK.norm (hN _ _ ?_)
  clear hN K
  refine then_norm ?_
  refine wp_seq ?_
  refine wp_seq ?_
  refine wp_r0 ?_
  intro K hN
  go_wp2_with fail
  refine NoK.norm (hN _ _ ?_)
  clear hN K
  refine then_norm ?_
  refine wp_block ?_
  go_loopw [30, 9] (fun s0 s1 wr => ∃ (i : Nat) (H : Int), i ≤ m ∧ s0 = .int .i64 i ∧ s1 = .int .i64 H ∧ (H = sumTo (fun a => sumTo (hv is l a) m) i) ∧ Bx wr [(b4, 32, zCells)] ∧ Grow w wr) (fun s0 _ _ => m - (intOf s0).toNat)
  case atStart => exact ⟨0, 0, Nat.zero_le _, rfl, rfl, rfl, hB, hG⟩
  case round =>
    clear hB hG
    obtain ⟨i, H, hi, rfl, rfl, hrel0, hB, hG⟩ := hrel
    obtain ⟨u, rfl⟩ : ∃ x, x = wr := ⟨_, rfl⟩
    have H0 := Lib.hid hrel0
    clear hrel0
    rcases Nat.lt_or_ge i m with hlt0 | hge0
    · have hdec : decide ((i : Int) < (m : Int)) = true := by simp; omega
      have hri := Hrd.out i hlt0
      have hHr := Hhr.out (i + 1) (by omega)
      have hH1 : sumTo (fun a => sumTo (hv is l a) m) (i + 1) = H + sumTo (hv is l i) m := by rw [H0.out]; rfl
      rw [hH1] at hHr
      have hH0 := (Hhr.out i (by omega)).1
      rw [← H0.out] at hH0
      have hvj : ∀ j, hv is l i j = if gb is i && !gb is j then cmpQ (gq l i) (gq l j) + 1 else 0 := fun _ => rfl
      have zi := Hqz.out i hlt0
      obtain ⟨x, hx⟩ : ∃ x, x = gb is i := ⟨_, rfl⟩
      obtain ⟨X, hX⟩ : ∃ X, X = gq l i := ⟨_, rfl⟩
      simp only [← hx, ← hX] at hri hvj
      rw [← hX] at zi
      have Hri := Lib.hid hri
      have Hvj := Lib.hid hvj
      have HH1 := Lib.hid hH1
      have HHr := Lib.hid hHr
      clear hri hvj hH1 hx hX hHr
      refine wp_seq ?_
      refine wp_r0 ?_
      intro K hN
      go_wp2_with fail
      refine NoK.norm (hN _ _ ?_)
      clear hN K
      refine then_norm ?_
      refine wp_seq ?_
      refine wp_cond_true (rfl) ?_
      refine wp_skip ?_
      refine then_norm ?_
      refine wp_seq ?_
      refine wp_block ?_
      refine wp_seq ?_
      refine wp_r0 ?_
      intro K hN
      have r := hB.r
      simp only [BxR] at r
      obtain ⟨p1, q1, q2, q3, q4, q5⟩ := Hri.out u hG
      go_wp2_with fail
      clear r
      refine NoK.norm (hN _ _ ?_)
      clear hN K
      refine then_norm ?_
      refine wp_seq ?_
      refine wp_r0 ?_
      intro K hN
      go_wp2_with fail
      refine NoK.norm (hN _ _ ?_)
      clear hN K
      refine then_norm ?_
      refine wp_block ?_
      go_loopw [37, 9] (fun s0 s1 wr => ∃ (j : Nat) (G : Int), j ≤ m ∧ s0 = .int .i64 j ∧ s1 = .int .i64 G ∧ G = H + sumTo (hv is l i) j ∧ Bx wr [(b4, 32, zCells)] ∧ Grow w wr) (fun s0 _ _ => m - (intOf s0).toNat)
      case atStart => exact ⟨0, H, Nat.zero_le _, rfl, rfl, by simp [sumTo], hB, hG⟩
      case round =>
        clear hB hG
        obtain ⟨j, G, hj, rfl, rfl, hGe, hB, hG⟩ := hrel
        obtain ⟨u, rfl⟩ : ∃ x, x = wr := ⟨_, rfl⟩
        have hGr := sumTo_range (hv_range is l i) j
        have hG1 : 0 ≤ G ∧ G ≤ H + 2097152 := by rw [hGe]; omega
        have hH2 : H ≤ 2199023255552 := by have := HHr.out; have := (sumTo_range (hv_range is l i) m).1; omega
        have HGe := Lib.hid hGe
        obtain ⟨hG1, hG2⟩ := hG1
        clear hGe hGr
        rcases Nat.lt_or_ge j m with hlt1 | hge1
        · have hdj : decide ((j : Int) < (m : Int)) = true := by simp; omega
          have hrj := Hrd.out j hlt1
          have hvv := Hvj.out j
          have zj := Hqz.out j hlt1
          have hcr := cmpQ_range X (gq l j)
          have hsu : sumTo (hv is l i) (j + 1) = sumTo (hv is l i) j + hv is l i j := rfl
          obtain ⟨y, hy⟩ : ∃ x, x = gb is j := ⟨_, rfl⟩
          obtain ⟨Y, hY⟩ : ∃ X, X = gq l j := ⟨_, rfl⟩
          simp only [← hy, ← hY] at hrj
          rw [← hy, ← hY] at hvv
          rw [← hY] at zj hcr
          have hcmp : ∀ W, Calls Tryz.prog 25 #[qV X, qV Y] W fun e w' => e = .returned (.int .i64 (cmpQ X Y)) ∧ Grow W w' := fun W => frac_Cmp X Y W (by omega)
          obtain ⟨cv, hcv⟩ : ∃ cv, cv = cmpQ X Y := ⟨_, rfl⟩
          rw [← hcv] at hvv hcr hcmp
          have Hcmp := Lib.hid hcmp
          have Hrj := Lib.hid hrj
          have Hvv := Lib.hid hvv
          have Hsu := Lib.hid hsu
          obtain ⟨hc1, hc2⟩ := hcr
          clear hrj hvv hsu hy hY hcmp hcv
          have w1 : IntKind.i64.wrap (cv + 1) = cv + 1 := IntWalk.i64_in _ (by omega)
          have w2 : IntKind.i64.wrap (G + (cv + 1)) = G + (cv + 1) := IntWalk.i64_in _ (by omega)
          cases x
          · skip
            refine wp_seq ?_
            refine wp_r0 ?_
            intro K hN
            go_wp2_with fail
            refine NoK.norm (hN _ _ ?_)
            clear hN K
            refine then_norm ?_
            refine wp_seq ?_
            refine wp_cond_true (rfl) ?_
            refine wp_skip ?_
            refine then_norm ?_
            refine wp_seq ?_
            refine wp_block ?_
            refine wp_seq ?_
            refine wp_r0 ?_
            intro K hN
            have r := hB.r
            simp only [BxR] at r
            obtain ⟨p1, q1, q2, q3, q4, q5⟩ := Hrj.out u hG
            go_wp2_with fail
            clear r
            refine NoK.norm (hN _ _ ?_)
            clear hN K
            refine then_norm ?_
            refine wp_seq ?_
            refine wp_r0 ?_
            intro K hN
            go_wp2_with fail
            refine NoK.norm (hN _ _ ?_)
            clear hN K
            refine then_norm ?_
            refine wp_cond_false (rfl) ?_
            refine wp_skip ?_
            refine blk_norm ?_
            refine then_norm ?_
            refine wp_r0 ?_
            intro K hN
            go_wp2_with fail
            refine NoK.norm (hN _ _ ?_)
            clear hN K
            refine then_norm ?_
            go_roundw
            case rel => exact ⟨j + 1, G, by omega, by go_num, rfl, by rw [Hsu.out, Hvv.out, HGe.out]; simp, hB, hG⟩
            case measure => simp [intOf]; omega
          · cases y
            · skip
              refine wp_seq ?_
              refine wp_r0 ?_
              intro K hN
              go_wp2_with fail
              refine NoK.norm (hN _ _ ?_)
              clear hN K
              refine then_norm ?_
              refine wp_seq ?_
              refine wp_cond_true (rfl) ?_
              refine wp_skip ?_
              refine then_norm ?_
              refine wp_seq ?_
              refine wp_block ?_
              refine wp_seq ?_
              refine wp_r0 ?_
              intro K hN
              have r := hB.r
              simp only [BxR] at r
              obtain ⟨p1, q1, q2, q3, q4, q5⟩ := Hrj.out u hG
              go_wp2_with fail
              clear r
              refine NoK.norm (hN _ _ ?_)
              clear hN K
              refine then_norm ?_
              refine wp_seq ?_
              refine wp_r0 ?_
              intro K hN
              go_wp2_with fail
              refine NoK.norm (hN _ _ ?_)
              clear hN K
              refine then_norm ?_
              refine wp_cond_true (rfl) ?_
              refine wp_rd (w := w) allocs 12 [] [(0, 0), (0, 1), (0, 2), (0, 3), (0, 4), (0, 5), (0, 6), (0, 7), (0, 8), (1, 9), (0, 10), (0, 11)] (by kernel_rfl) (by kernel_rfl) (by simp only [List.drop_succ_cons, List.drop_zero]; exact rfl) (fun _ => True) noG hB hG trivial ?_
              intro K L hN hL
              simp only [pickOps, List.getElem?_toArray, List.getElem?_cons_zero, List.getElem?_cons_succ]
              apply gy
              · exact rfl
              · (rintro v - N hN; go_simp; exact hN)
              refine okf (by simp only [Act.put, List.setIfInBounds_toArray, List.set_cons_succ, List.set_cons_zero]; exact rfl) ?_
              apply gy
              · exact rfl
              · (rintro v - N hN; go_simp; exact hN)
              refine okf (by simp only [Act.put, List.setIfInBounds_toArray, List.set_cons_succ, List.set_cons_zero]; exact rfl) ?_
              apply gy
              · exact rfl
              · (rintro v - N hN; go_simp; exact hN)
              refine okf (by simp only [Act.put, List.setIfInBounds_toArray, List.set_cons_succ, List.set_cons_zero]; exact rfl) ?_
              apply gy
              · exact rfl
              · (rintro v - N hN; go_simp; exact hN)
              refine okf (by simp only [Act.put, List.setIfInBounds_toArray, List.set_cons_succ, List.set_cons_zero]; exact rfl) ?_
              apply gy
              · exact rfl
              · (rintro v ⟨hgu, hB, hG, -⟩ N hN; have r := hB.r; simp only [BxR] at r; obtain ⟨p1, q1, q2, q3, q4, q5⟩ := Hrj.out v hG; obtain ⟨p2, y1, y2, y3, y4, y5⟩ := Hri.out v hG; go_simp; exact hN)
              refine okf (by simp only [Act.put, List.setIfInBounds_toArray, List.set_cons_succ, List.set_cons_zero]; exact rfl) ?_
              apply gy
              · exact rfl
              · (rintro v - N hN; go_simp; exact hN)
              refine okf (by simp only [Act.put, List.setIfInBounds_toArray, List.set_cons_succ, List.set_cons_zero]; exact rfl) ?_
              apply gy
              · exact rfl
              · (rintro v - N hN; go_simp; exact hN)
              refine okf (by simp only [Act.put, List.setIfInBounds_toArray, List.set_cons_succ, List.set_cons_zero]; exact rfl) ?_
              apply gy
              · exact rfl
              · (rintro v - N hN; go_simp; exact hN)
              refine okf (by simp only [Act.put, List.setIfInBounds_toArray, List.set_cons_succ, List.set_cons_zero]; exact rfl) ?_
              apply gy
              · exact rfl
              · (rintro v ⟨hgu, hB, hG, -⟩ N hN; have r := hB.r; simp only [BxR] at r; obtain ⟨p1, q1, q2, q3, q4, q5⟩ := Hrj.out v hG; obtain ⟨p2, y1, y2, y3, y4, y5⟩ := Hri.out v hG; go_simp; exact hN)
              refine okf (by simp only [Act.put, List.setIfInBounds_toArray, List.set_cons_succ, List.set_cons_zero]; exact rfl) ?_
              apply gm
              · exact rfl
              · (rintro v ⟨hgu, hB, hG, -⟩ N hN; go_simp; ((with_reducible refine (Hcmp.out _).mono ?_); rintro e w1 ⟨rfl, hb⟩; exact ⟨_, rfl, hN _ hb⟩))
              refine okf (by simp only [Act.put, List.setIfInBounds_toArray, List.set_cons_succ, List.set_cons_zero]; exact rfl) ?_
              apply gy
              · exact rfl
              · (rintro v - N hN; go_simp; exact hN)
              refine okf (by simp only [Act.put, List.setIfInBounds_toArray, List.set_cons_succ, List.set_cons_zero]; exact rfl) ?_
              apply gy
              · exact rfl
              · (rintro v - N hN; go_simp; exact hN)
              refine okf (by simp only [Act.put, List.setIfInBounds_toArray, List.set_cons_succ, List.set_cons_zero]; exact rfl) ?_
              refine gend ?_
              rintro v ⟨hgu, hB1, hG1, -⟩
              clear hB hG
              have hB := hB1
              have hG := hG1
              clear hB1 hG1
              refine hL _ _ ?_
              clear hL L hgu
              obtain ⟨u, rfl⟩ : ∃ x, x = v := ⟨_, rfl⟩
              go_wp2_with fail
              refine NoK.norm (hN _ _ ?_)
              clear hN K
              refine blk_norm ?_
              refine then_norm ?_
              refine wp_r0 ?_
              intro K hN
              go_wp2_with fail
              refine NoK.norm (hN _ _ ?_)
              clear hN K
              refine then_norm ?_
              go_roundw
              case rel => exact ⟨j + 1, G + (cv + 1), by omega, by go_num, by go_num, by rw [Hsu.out, Hvv.out, HGe.out]; simp; omega, hB, hG⟩
              case measure => simp [intOf]; omega
            · skip
              refine wp_seq ?_
              refine wp_r0 ?_
              intro K hN
              go_wp2_with fail
              refine NoK.norm (hN _ _ ?_)
              clear hN K
              refine then_norm ?_
              refine wp_seq ?_
              refine wp_cond_true (rfl) ?_
              refine wp_skip ?_
              refine then_norm ?_
              refine wp_seq ?_
              refine wp_block ?_
              refine wp_seq ?_
              refine wp_r0 ?_
              intro K hN
              have r := hB.r
              simp only [BxR] at r
              obtain ⟨p1, q1, q2, q3, q4, q5⟩ := Hrj.out u hG
              go_wp2_with fail
              clear r
              refine NoK.norm (hN _ _ ?_)
              clear hN K
              refine then_norm ?_
              refine wp_seq ?_
              refine wp_r0 ?_
              intro K hN
              go_wp2_with fail
              refine NoK.norm (hN _ _ ?_)
              clear hN K
              refine then_norm ?_
              refine wp_cond_false (rfl) ?_
              refine wp_skip ?_
              refine blk_norm ?_
              refine then_norm ?_
              refine wp_r0 ?_
              intro K hN
              go_wp2_with fail
              refine NoK.norm (hN _ _ ?_)
              clear hN K
              refine then_norm ?_
              go_roundw
              case rel => exact ⟨j + 1, G, by omega, by go_num, rfl, by rw [Hsu.out, Hvv.out, HGe.out]; simp, hB, hG⟩
              case measure => simp [intOf]; omega
        · obtain rfl : m = j := by omega
          have hdj : decide ((m : Int) < (m : Int)) = false := by simp
          refine wp_seq ?_
          refine wp_r0 ?_
          intro K hN
          go_wp2_with fail
          refine NoK.norm (hN _ _ ?_)
          clear hN K
          refine then_norm ?_
          refine wp_seq ?_
          refine wp_cond_false (rfl) ?_
          refine wp_exit ?_
          refine then_exit ?_
          refine then_exit ?_
          refine blk_exit ?_
          refine blk_norm ?_
          refine then_norm ?_
          refine wp_r0 ?_
          intro K hN
          go_wp2_with fail
          refine NoK.norm (hN _ _ ?_)
          clear hN K
          refine then_norm ?_
          go_roundw
          case rel => exact ⟨i + 1, G, by omega, by go_num, rfl, by rw [HH1.out, HGe.out], hB, hG⟩
          case measure => simp [intOf]; try omega
    · obtain rfl : m = i := by omega
      have hdec : decide ((m : Int) < (m : Int)) = false := by simp
      have hHr := Hhr.out m (Nat.le_refl _)
      rw [← H0.out] at hHr
      obtain ⟨hHa, hHb⟩ := hHr
      have y5 : qs (qint H) ≤ 64 := qint_i64 (by omega) (by omega)
      refine wp_seq ?_
      refine wp_r0 ?_
      intro K hN
      go_wp2_with fail
      refine NoK.norm (hN _ _ ?_)
      clear hN K
      refine then_norm ?_
      refine wp_seq ?_
      refine wp_cond_false (rfl) ?_
      refine wp_exit ?_
      refine then_exit ?_
      refine then_exit ?_
      refine blk_exit ?_
      refine then_norm ?_
      refine wp_seq ?_
      refine wp_rs (w := w) allocs 6 [0, 1, 0, 1, 1, 2] (by kernel_rfl) (by simp only [List.drop_succ_cons, List.drop_zero]; exact rfl) (fun _ => True) noG hB hG trivial ?_
      intro K L hN hL
      simp only [List.zip_cons_cons, List.zip_nil_left]
      apply gy
      · exact rfl
      · (rintro v - N hN; go_simp; exact hN)
      refine okf (by simp only [Act.put, List.setIfInBounds_toArray, List.set_cons_succ, List.set_cons_zero]; exact rfl) ?_
      apply gm
      · exact rfl
      · (rintro v ⟨hgu, hB, hG, -⟩ N hN; go_simp; ((with_reducible refine (frac_Of _ (by omega) (by omega) _).mono ?_); rintro e w1 ⟨rfl, hb⟩; exact ⟨_, rfl, hN _ hb⟩))
      refine okf (by simp only [Act.put, List.setIfInBounds_toArray, List.set_cons_succ, List.set_cons_zero]; exact rfl) ?_
      apply gy
      · exact rfl
      · (rintro v - N hN; go_simp; exact hN)
      refine okf (by simp only [Act.put, List.setIfInBounds_toArray, List.set_cons_succ, List.set_cons_zero]; exact rfl) ?_
      apply gm
      · exact rfl
      · (rintro v ⟨hgu, hB, hG, -⟩ N hN; go_simp; ((with_reducible refine (frac_Of _ (by omega) (by omega) _).mono ?_); rintro e w1 ⟨rfl, hb⟩; exact ⟨_, rfl, hN _ hb⟩))
      refine okf (by simp only [Act.put, List.setIfInBounds_toArray, List.set_cons_succ, List.set_cons_zero]; exact rfl) ?_
      apply gm
      · exact rfl
      · (rintro v ⟨hgu, hB, hG, -⟩ N hN; go_simp; ((with_reducible refine (frac_Mul _ _ _ (by omega) (HT.grow hG)).mono ?_); rintro e w1 ⟨rfl, hb⟩; exact ⟨_, rfl, hN _ hb⟩))
      refine okf (by simp only [Act.put, List.setIfInBounds_toArray, List.set_cons_succ, List.set_cons_zero]; exact rfl) ?_
      refine ga (newObj_Q _ _ _ _ _) fun b14 hb14 hn14 => ?_
      refine okf (by simp only [Act.put, List.setIfInBounds_toArray, List.set_cons_succ, List.set_cons_zero]; exact rfl) ?_
      refine gend ?_
      rintro v ⟨⟨hgu, hB1, hG1, -⟩, h14⟩
      have hF := Fr.new (tk := []) hF hB hG hb14 hn14
      simp only [List.cons_append, List.nil_append, List.map_cons, List.map_nil] at hF
      clear hB hG
      have hB := (Bx.cons h14 hB1)
      have hG := hG1
      clear hB1 hG1 h14
      refine hL _ _ ?_
      clear hL L hgu
      obtain ⟨u, rfl⟩ : ∃ x, x = v := ⟨_, rfl⟩
      have r := hB.r
      simp only [BxR] at r
      go_wp2_with fail
      clear r
      generalize hu0 : World.setCell (World.setCell (World.setCell (World.setCell (World.setCell u _ _) _ _) _ _) _ _) _ _ = u0
      have hBG := hB.over hF hG 0 rfl 0 [_, _, _, _, _] hu0
      clear hB hG hu0
      simp only [List.modify_succ_cons, List.modify_zero_cons, wrAll, List.setIfInBounds_toArray, List.set_cons_zero, List.set_cons_succ, Nat.zero_add, Nat.reduceAdd] at hBG
      obtain ⟨hB, hG⟩ := hBG
      clear u
      obtain ⟨u, rfl⟩ : ∃ x, x = u0 := ⟨_, rfl⟩
      refine NoK.norm (hN _ _ ?_)
      clear hN K
      refine then_norm ?_
      refine wp_seq ?_
      refine wp_rd (w := w) allocs 10 [8] [(0, 0), (0, 2), (0, 3), (1, 1), (1, 4), (1, 5), (0, 6), (0, 7), (0, 8), (2, 9)] (by kernel_rfl) (by kernel_rfl) (by simp only [List.drop_succ_cons, List.drop_zero]; exact rfl) (fun _ => True) noG hB hG trivial ?_
      intro K L hN hL
      simp only [pickOps, List.getElem?_toArray, List.getElem?_cons_zero, List.getElem?_cons_succ]
      apply gy
      · exact rfl
      · (rintro v - N hN; go_simp; exact hN)
      refine okf (by simp only [Act.put, List.setIfInBounds_toArray, List.set_cons_succ, List.set_cons_zero]; exact rfl) ?_
      apply gy
      · exact rfl
      · (rintro v ⟨hgu, hB, hG, -⟩ N hN; have r := hB.r; simp only [BxR] at r; go_simp; exact hN)
      refine okf (by simp only [Act.put, List.setIfInBounds_toArray, List.set_cons_succ, List.set_cons_zero]; exact rfl) ?_
      apply gy
      · exact rfl
      · (rintro v ⟨hgu, hB, hG, -⟩ N hN; have r := hB.r; simp only [BxR] at r; go_simp; exact hN)
      refine okf (by simp only [Act.put, List.setIfInBounds_toArray, List.set_cons_succ, List.set_cons_zero]; exact rfl) ?_
      apply gm
      · exact rfl
      · (rintro v ⟨hgu, hB, hG, -⟩ N hN; go_simp; ((with_reducible refine (frac_Of _ (by omega) (by omega) _).mono ?_); rintro e w1 ⟨rfl, hb⟩; exact ⟨_, rfl, hN _ hb⟩))
      refine okf (by simp only [Act.put, List.setIfInBounds_toArray, List.set_cons_succ, List.set_cons_zero]; exact rfl) ?_
      apply gm
      · exact rfl
      · (rintro v ⟨hgu, hB, hG, -⟩ N hN; go_simp; ((with_reducible refine (frac_Add _ _ _ (by omega) (HT.grow hG)).mono ?_); rintro e w1 ⟨rfl, hb⟩; exact ⟨_, rfl, hN _ hb⟩))
      refine okf (by simp only [Act.put, List.setIfInBounds_toArray, List.set_cons_succ, List.set_cons_zero]; exact rfl) ?_
      apply gm
      · exact rfl
      · (rintro v ⟨hgu, hB, hG, -⟩ N hN; go_simp; ((with_reducible refine (frac_Div _ _ _ (by omega) (HT.grow hG)).mono ?_); rintro e w1 ⟨rfl, hb⟩; exact ⟨_, rfl, hN _ hb⟩))
      refine okf (by simp only [Act.put, List.setIfInBounds_toArray, List.set_cons_succ, List.set_cons_zero]; exact rfl) ?_
      apply gy
      · exact rfl
      · (rintro v - N hN; go_simp; exact hN)
      refine okf (by simp only [Act.put, List.setIfInBounds_toArray, List.set_cons_succ, List.set_cons_zero]; exact rfl) ?_
      apply gy
      · exact rfl
      · (rintro v - N hN; go_simp; exact hN)
      refine okf (by simp only [Act.put, List.setIfInBounds_toArray, List.set_cons_succ, List.set_cons_zero]; exact rfl) ?_
      apply gy
      · exact rfl
      · (rintro v - N hN; go_simp; exact hN)
      refine okf (by simp only [Act.put, List.setIfInBounds_toArray, List.set_cons_succ, List.set_cons_zero]; exact rfl) ?_
      refine ga (newObj_Q _ _ _ _ _) fun b15 hb15 hn15 => ?_
      refine okf (by simp only [Act.put, List.setIfInBounds_toArray, List.set_cons_succ, List.set_cons_zero]; exact rfl) ?_
      refine gend ?_
      rintro v ⟨⟨hgu, hB1, hG1, -⟩, h15⟩
      have hF := Fr.new (tk := []) hF hB hG hb15 hn15
      simp only [List.cons_append, List.nil_append, List.map_cons, List.map_nil] at hF
      clear hB hG
      have hB := (Bx.cons h15 hB1)
      have hG := hG1
      clear hB1 hG1 h15
      refine hL _ _ ?_
      clear hL L hgu
      obtain ⟨u, rfl⟩ : ∃ x, x = v := ⟨_, rfl⟩
      have r := hB.r
      simp only [BxR] at r
      go_wp2_with fail
      clear r
      generalize hu0 : World.setCell (World.setCell (World.setCell (World.setCell (World.setCell u _ _) _ _) _ _) _ _) _ _ = u0
      have hBG := hB.over hF hG 0 rfl 0 [_, _, _, _, _] hu0
      clear hB hG hu0
      simp only [List.modify_succ_cons, List.modify_zero_cons, wrAll, List.setIfInBounds_toArray, List.set_cons_zero, List.set_cons_succ, Nat.zero_add, Nat.reduceAdd] at hBG
      obtain ⟨hB, hG⟩ := hBG
      clear u
      obtain ⟨u, rfl⟩ : ∃ x, x = u0 := ⟨_, rfl⟩
      refine NoK.norm (hN _ _ ?_)
      clear hN K
      refine then_norm ?_
      refine wp_seq ?_
      refine wp_r0 ?_
      intro K hN
      have r := hB.r
      simp only [BxR] at r
      go_wp2_with fail
      clear r
      generalize hu0 : World.setCell (World.setCell (World.setCell (World.setCell (World.setCell u _ _) _ _) _ _) _ _) _ _ = u0
      have hBG := hB.over hF hG 2 rfl 0 [_, _, _, _, _] hu0
      clear hB hG hu0
      simp only [List.modify_succ_cons, List.modify_zero_cons, wrAll, List.setIfInBounds_toArray, List.set_cons_zero, List.set_cons_succ, Nat.zero_add, Nat.reduceAdd] at hBG
      obtain ⟨hB, hG⟩ := hBG
      clear u
      obtain ⟨u, rfl⟩ : ∃ x, x = u0 := ⟨_, rfl⟩
      refine NoK.norm (hN _ _ ?_)
      clear hN K
      refine then_norm ?_
      refine wp_ret ?_
      refine ret_b rfl ?_
      intro N hN
      have r := hB.r
      simp only [BxR] at r
      simp only [results, Tryz.results41]
      go_simp
      refine hN _ ?_
      clear hN N r
      exact ⟨ret_qe (by rw [Har.out, H0.out]; rfl), hG⟩
set_option maxHeartbeats 2000000 in
set_option maxRecDepth 100000 in
theorem score_Area_err (A B : Option Addr) (m n c d : Nat) (k : Int) (hk : (k != 0) = true) (w : World) (h : ∀ W, Grow w W → Calls Tryz.prog 104 #[.slice A m c, .slice B n d] W fun e w' => e = .returned (.tuple #[.int .i64 0, .int .i64 0, .int .i64 k]) ∧ Grow W w') :
    Calls Tryz.prog 41 #[.slice A m c, .slice B n d] w fun e w' => e = .returned (.tuple #[qV 0, .int .i64 k]) ∧ Grow w w' := by
  have H := Lib.hid h
  clear h
  go_enter Tryz.func41, Tryz.ntmps41
  refine wp_seq (wp_r0 ?_)
  intro K hN
  go_wp2_with fail
  generalize hu : World.alloc w _ = u
  obtain ⟨hB, hG⟩ := bx_first [(_, _)] w u hu
  have hF := fr_first w [(32, #[])]
  simp only [numbered, List.map_cons, List.map_nil] at hB hF
  clear hu
  generalize w.heap.size = b4 at hB hF ⊢
  refine NoK.norm (hN _ _ ?_)
  clear hN K
  refine then_norm ?_
  refine wp_seq ?_
  refine wp_rs (w := w) allocs 10 [0, 0, 1, 0, 0, 0, 0, 0, 0, 0] (by kernel_rfl) (by simp only [List.drop_succ_cons, List.drop_nil]; exact rfl) (fun _ => True) noG hB hG trivial ?_
  intro K L hN hL
  simp only [List.zip_cons_cons, List.zip_nil_left]
  apply gy
  · exact rfl
  · (rintro v - N hN; go_simp; exact hN)
  refine okf (by simp only [Act.put, List.setIfInBounds_toArray, List.set_cons_succ, List.set_cons_zero]; exact rfl) ?_
  apply gy
  · exact rfl
  · (rintro v - N hN; go_simp; exact hN)
  refine okf (by simp only [Act.put, List.setIfInBounds_toArray, List.set_cons_succ, List.set_cons_zero]; exact rfl) ?_
  apply gm
  · exact rfl
  · (rintro v ⟨hgu, hB, hG, -⟩ N hN; go_simp; ((with_reducible refine (H.out _ hG).mono ?_); rintro e w1 ⟨rfl, hb⟩; exact ⟨_, rfl, hN _ hb⟩))
  refine okf (by simp only [Act.put, List.setIfInBounds_toArray, List.set_cons_succ, List.set_cons_zero]; exact rfl) ?_
  apply gy
  · exact rfl
  · (rintro v - N hN; go_simp; exact hN)
  refine okf (by simp only [Act.put, List.setIfInBounds_toArray, List.set_cons_succ, List.set_cons_zero]; exact rfl) ?_
  apply gy
  · exact rfl
  · (rintro v - N hN; go_simp; exact hN)
  refine okf (by simp only [Act.put, List.setIfInBounds_toArray, List.set_cons_succ, List.set_cons_zero]; exact rfl) ?_
  apply gy
  · exact rfl
  · (rintro v - N hN; go_simp; exact hN)
  refine okf (by simp only [Act.put, List.setIfInBounds_toArray, List.set_cons_succ, List.set_cons_zero]; exact rfl) ?_
  apply gy
  · exact rfl
  · (rintro v - N hN; go_simp; exact hN)
  refine okf (by simp only [Act.put, List.setIfInBounds_toArray, List.set_cons_succ, List.set_cons_zero]; exact rfl) ?_
  apply gy
  · exact rfl
  · (rintro v - N hN; go_simp; exact hN)
  refine okf (by simp only [Act.put, List.setIfInBounds_toArray, List.set_cons_succ, List.set_cons_zero]; exact rfl) ?_
  apply gy
  · exact rfl
  · (rintro v - N hN; go_simp; exact hN)
  refine okf (by simp only [Act.put, List.setIfInBounds_toArray, List.set_cons_succ, List.set_cons_zero]; exact rfl) ?_
  apply gy
  · exact rfl
  · (rintro v - N hN; go_simp; exact hN)
  refine okf (by simp only [Act.put, List.setIfInBounds_toArray, List.set_cons_succ, List.set_cons_zero]; exact rfl) ?_
  refine gend ?_
  rintro v ⟨hgu, hB1, hG1, -⟩
  clear hB hG
  have hB := hB1
  have hG := hG1
  clear hB1 hG1
  refine hL _ _ ?_
  clear hL L hgu
  obtain ⟨u, rfl⟩ : ∃ x, x = v := ⟨_, rfl⟩
  refine wpList_nil ?_
  refine NoK.norm (hN _ _ ?_)
  clear hN K
  refine then_norm ?_
  refine wp_seq ?_
  refine wp_seq ?_
  refine wp_r0 ?_
  intro K hN
  go_wp2_with fail
  refine NoK.norm (hN _ _ ?_)
  clear hN K
  refine then_norm ?_
  refine wp_cond_true (rfl) ?_
  refine wp_seq ?_
  refine wp_r0 ?_
  intro K hN
  have r := hB.r
  simp only [BxR] at r
  go_wp2_with fail
  clear r
  generalize hu0 : World.setCell (World.setCell (World.setCell (World.setCell (World.setCell u _ _) _ _) _ _) _ _) _ _ = u0
  have hBG := hB.over hF hG 0 rfl 0 [_, _, _, _, _] hu0
  clear hB hG hu0
  simp only [List.modify_succ_cons, List.modify_zero_cons, wrAll, List.setIfInBounds_toArray, List.set_cons_zero, List.set_cons_succ, Nat.zero_add, Nat.reduceAdd] at hBG
  obtain ⟨hB, hG⟩ := hBG
  clear u
  obtain ⟨u, rfl⟩ : ∃ x, x = u0 := ⟨_, rfl⟩
  refine NoK.norm (hN _ _ ?_)
  clear hN K
  refine then_norm ?_
  refine wp_ret ?_
  refine then_ret ?_
  refine ret_b rfl ?_
  intro N hN
  have r := hB.r
  simp only [BxR] at r
  simp only [results, Tryz.results41]
  go_simp
  refine hN _ ?_
  clear hN N r
  exact ⟨rfl, hG⟩
end Go.Proofs.YtimjnkfcnpfoeaaGreatDoor

/-
  score: Table, Rates, Brier where they refuse.
-/
namespace Go.Proofs.YtimjnkfcnpfoeaaGreatDoor
open Go.RowKit
set_option maxHeartbeats 2000000 in
set_option maxRecDepth 100000 in
theorem score_Table_arg (A B : Option Addr) (m c d k : Nat) (l l' : List Int) (hl : l.length = m) (hl' : l'.length = m) (hm0 : 0 < m) (hm : m ≤ 1099511627776) (hk1 : 1 ≤ k) (hk2 : k ≤ 12)
    (R : Nat) (hR : R < m) (hr : ∀ i, i < R → (0 ≤ gi l i ∧ gi l i < k) ∧ 0 ≤ gi l' i ∧ gi l' i < k) (hbad : gi l R < 0 ∨ gi l' R < 0 ∨ (k : Int) ≤ gi l R ∨ (k : Int) ≤ gi l' R) (w : World) (h1 : Li w A l) (h2 : Li w B l') :
    Calls Tryz.prog 14 #[.slice A m c, .slice B m d, .int .i64 k] w fun e w' => e = .returned (.tuple #[.slice none 0 0, .int .i64 1]) ∧ Grow w w' := by
  have hp : ∀ W, Calls Tryz.prog 57 #[.slice A m c, .slice B m d] W fun e w' => e = .returned (.bool true) ∧ Grow W w' := fun W => by
    have := score_paired_ii A B m m c d W
    rw [show pairedB m m = true by unfold pairedB; simp [hm0]] at this
    exact this
  have Hp := Lib.hid hp
  have H1 := Lib.hid h1
  have H2 := Lib.hid h2
  have Hr := Lib.hid hr
  have Hl := Lib.hid hl
  have Hl' := Lib.hid hl'
  have hmk1 := make_Sint k (by omega) (k : Int) rfl
  have hmk2 := make_int k (by omega) (k : Int) rfl
  clear hp h1 h2 hr hl hl'
  go_enter Tryz.func14, Tryz.ntmps14
  go_wp2_with (go_at_call 57; ((with_reducible refine (Hp.out _).mono ?_); rintro e w1 ⟨rfl, hg1⟩))
  clear hmk1
  obtain ⟨B0, hB0⟩ : ∃ b, b = w1.heap.size := ⟨_, rfl⟩
  rw [← hB0]
  have hw1 := hg1.size
  have hst : Made B0 k 0 (w1.alloc (.cells (cellsS (List.replicate k (.slice none 0 0))) 22)) := ⟨by rw [alloc_size, hB0], by rw [hB0]; unfold outTo; exact Blk.new w1 22 _, fun j hj => by omega⟩
  have Hst := Lib.hid hst
  have hB : w.heap.size ≤ B0 := by rw [hB0]; exact hw1
  clear hst hB0
  go_loopw [27] (fun s wr => ∃ i : Nat, i ≤ k ∧ s = .int .i64 i ∧ Made B0 k i wr ∧ Grow w wr) (fun s _ => k - (intOf s).toNat)
  case atStart => exact ⟨0, Nat.zero_le _, rfl, Hst.out, hg1.trans (Grow.alloc _ _)⟩
  case round =>
    obtain ⟨i, hi, rfl, hM, hG⟩ := hrel
    have HM := Lib.hid hM
    clear hM
    rcases Nat.lt_or_ge i k with hlt | hge
    · have hc := HM.out.2.1.cell i
      have hf := HM.out.2.1.frozen i
      have hz := HM.out.1
      rw [cellsS_get, outTo_get B0 k hlt] at hc
      have hBl : B0 < wr.heap.size := by omega
      clear hz
      go_wp2_with fail
      go_roundw
      case rel => exact ⟨i + 1, by omega, by go_num, HM.out.next hlt, (hG.setCell (p := ⟨B0, i, none⟩) hB _).trans (Grow.alloc _ _)⟩
      case measure => simp [intOf]; omega
    · obtain rfl : i = k := by omega
      have hT : Tabd B0 i l l' 0 wr := ⟨HM.out.2.1, fun j hj => by rw [tabRow_zero]; exact HM.out.2.2 j hj⟩
      have HT := Lib.hid hT
      clear hT
      go_wp2_with fail
      obtain ⟨wo, rfl⟩ : ∃ wo : World, wo = wr := ⟨_, rfl⟩
      go_loopw [38] (fun s wr => ∃ r : Nat, r ≤ R ∧ s = .int .i64 r ∧ Tabd B0 i l l' r wr ∧ Grow w wr) (fun s _ => m - (intOf s).toNat)
      case atStart => exact ⟨0, Nat.zero_le _, rfl, HT.out, hG⟩
      case round =>
        obtain ⟨r, hr, rfl, hT, hG⟩ := hrel
        have HT := Lib.hid hT
        clear hT
        rcases Nat.lt_or_ge r R with hlt | hge
        · obtain ⟨⟨a1, a2⟩, a3, a4⟩ := Hr.out r hlt
          obtain ⟨b1, o1, rfl, hc1⟩ := (H1.out.grow hG).cell (i := r) (by rw [Hl.out]; omega)
          obtain ⟨b2, o2, rfl, hc2⟩ := (H2.out.grow hG).cell (i := r) (by rw [Hl'.out]; omega)
          obtain ⟨p, hp⟩ : ∃ p : Nat, gi l r = (p : Int) := ⟨(gi l r).toNat, by omega⟩
          obtain ⟨q, hq⟩ : ∃ q : Nat, gi l' r = (q : Int) := ⟨(gi l' r).toNat, by omega⟩
          rw [hp] at hc1 a1 a2
          rw [hq] at hc2 a3 a4
          have hc3 := HT.out.1.cell p
          rw [cellsS_get, outTo_full B0 i (by omega)] at hc3
          have hc4 := (HT.out.2 p (by omega)).cell q
          rw [cellsI_get, tabRow_get l l' r i p (by omega)] at hc4
          have hf4 := (HT.out.2 p (by omega)).frozen q
          simp only [Option.map_some, rowPtr] at hc3 hc4
          have hb := tabAt_le l l' r p q
          have hnx := HT.out.next hp hq (by omega)
          obtain ⟨v, hv⟩ : ∃ v, v = tabAt l l' r p q := ⟨_, rfl⟩
          rw [← hv] at hc4 hb hnx
          have Hnx := Lib.hid hnx
          have Hp := Lib.hid hp
          have Hq := Lib.hid hq
          clear hp hq hnx hv a1 a3
          have hpi : (p : Int) < (i : Int) := by omega
          have hqi : (q : Int) < (i : Int) := by omega
          have hmin : ¬ (min (p : Int) (q : Int) < 0) := by omega
          have hmax : ¬ ((i : Int) ≤ max (p : Int) (q : Int)) := by omega
          go_wp2_with fail
          go_roundw
          case rel => exact ⟨r + 1, by omega, by go_num, Hnx.out, hG.setCell (p := ⟨B0 + 1 + p, q, none⟩) (by show _ ≤ B0 + 1 + p; omega) _⟩
          case measure => simp [intOf]; omega
        · obtain rfl : r = R := by omega
          obtain ⟨b1, o1, rfl, hc1⟩ := (H1.out.grow hG).cell (i := r) (by rw [Hl.out]; exact hR)
          obtain ⟨b2, o2, rfl, hc2⟩ := (H2.out.grow hG).cell (i := r) (by rw [Hl'.out]; exact hR)
          obtain ⟨p, hp⟩ : ∃ p, p = gi l r := ⟨_, rfl⟩
          obtain ⟨q, hq⟩ : ∃ q, q = gi l' r := ⟨_, rfl⟩
          rw [← hp] at hc1 hbad
          rw [← hq] at hc2 hbad
          clear hp hq
          by_cases hneg : min p q < 0
          · clear hbad
            go_wp2_with fail
            go_ret2
            exact ⟨rfl, hG⟩
          · have hmax : (i : Int) ≤ max p q := by omega
            clear hbad
            go_wp2_with fail
            go_ret2
            exact ⟨rfl, hG⟩

set_option maxHeartbeats 1000000 in
set_option maxRecDepth 100000 in
/-- a row of another length than the number of rows -/
theorem score_Rates_shape (A : Option Addr) (rs : List Rw) (k c : Nat) (hk : rs.length = k) (R : Nat) (hR : R < k) (hr : ∀ i r, i < R → rs[i]? = some r → r.2.2.length = k) (r0 : Rw) (hr0 : rs[R]? = some r0) (hbad : r0.2.2.length ≠ k) (hm : k ≤ 1099511627776) (w : World) (h : Lrows w A rs) :
    Calls Tryz.prog 20 #[.slice A k c] w fun e w' => e = .returned (.tuple #[.slice none 0 0, .int .i64 5]) ∧ Grow w w' := by
  obtain ⟨b, off, rfl, hb, hc⟩ := h (fun h0 => by rw [h0] at hk; simp at hk; omega)
  have hk0 : ((k : Int) == 0) = false := by simp; omega
  have Hc := Lib.hid hc
  have Hr := Lib.hid hr
  have Hk := Lib.hid hk
  have Hr0 := Lib.hid hr0
  obtain ⟨n0, hn0⟩ : ∃ n, n = r0.2.2.length := ⟨_, rfl⟩
  rw [← hn0] at hbad
  have Hn0 := Lib.hid hn0
  clear h hc hr hk hr0 hn0
  go_enter Tryz.func20, Tryz.ntmps20
  go_wp2_with fail
  go_loopw [22] (fun z wr => ∃ i : Nat, i ≤ R ∧ z = .int .i64 i ∧ wr = w) (fun z _ => k - (intOf z).toNat)
  case atStart => exact ⟨0, Nat.zero_le _, rfl, rfl⟩
  case round =>
    obtain ⟨i, hi, rfl, rfl⟩ := hrel
    have hik : i < k := by omega
    have hdk : decide ((i : Int) < (k : Int)) = true := by simp; omega
    rcases Nat.lt_or_ge i R with hlt | hge
    · have hil : i < rs.length := by rw [Hk.out]; omega
      obtain ⟨r, hri⟩ : ∃ r, rs[i]? = some r := ⟨_, List.getElem?_eq_getElem hil⟩
      have hcell := (Hc.out i r hri).1
      rw [Hr.out i r hlt hri] at hcell
      have hne : ((k : Int) != (k : Int)) = false := by simp
      clear hri hil
      go_wp2_with fail
      go_roundw
      case rel => exact ⟨i + 1, by omega, by go_num, by first | rfl | trivial⟩
      case measure => simp [intOf]; omega
    · obtain rfl : i = R := by omega
      have hcell := (Hc.out i r0 Hr0.out).1
      rw [← Hn0.out] at hcell
      have hne : ((n0 : Int) != (k : Int)) = true := by simp; omega
      go_wp2_with fail
      go_ret2
      exact ⟨rfl, Grow.refl _⟩
theorem score_Rates_none (A : Option Addr) (c : Nat) (w : World) : Calls Tryz.prog 20 #[.slice A 0 c] w fun e w' => e = .returned (.tuple #[.slice none 0 0, .int .i64 5]) ∧ Grow w w' := by
  go_enter Tryz.func20, Tryz.ntmps20
  go_wp2_with fail
  go_ret2
  exact ⟨rfl, Grow.refl _⟩
abbrev Rq := Option Addr × Nat × List Rat
/-- slices of fractions that lie from the address on -/
def Lrq (u : World) (A : Option Addr) (rs : List Rq) : Prop :=
  rs ≠ [] → ∃ b off, A = some ⟨b, off, none⟩ ∧ b < u.heap.size ∧ ∀ i r, rs[i]? = some r → u.cell? ⟨b, off + i, none⟩ = some (.slice r.1 r.2.2.length r.2.1) ∧ Lq u r.1 r.2.2
theorem Lrq.grow {u u' : World} {A : Option Addr} {rs : List Rq} (h : Lrq u A rs) (hg : Grow u u') : Lrq u' A rs := fun hn => by
  obtain ⟨b, off, e, hb, hc⟩ := h hn
  exact ⟨b, off, e, Nat.lt_of_lt_of_le hb hg.size, fun i r hi => ⟨(hg.cell (p := ⟨b, off + i, none⟩) hb).trans (hc i r hi).1, (hc i r hi).2.grow hg⟩⟩
theorem Lrq.addr {u : World} {A : Option Addr} {rs : List Rq} (h : Lrq u A rs) (hl : 0 < rs.length) : ∃ b off, A = some ⟨b, off, none⟩ := by
  obtain ⟨b, off, e, _⟩ := h (fun h0 => by rw [h0] at hl; cases hl)
  exact ⟨b, off, e⟩
theorem Lrq.read {u : World} {b off : Nat} {rs : List Rq} (h : Lrq u (some ⟨b, off, none⟩) rs) {i : Nat} {r : Rq} (hi : rs[i]? = some r) : u.cell? ⟨b, off + i, none⟩ = some (.slice r.1 r.2.2.length r.2.1) ∧ Lq u r.1 r.2.2 := by
  obtain ⟨b', off', e, _, hc⟩ := h (fun h0 => by rw [h0] at hi; simp at hi)
  cases e
  exact hc i r hi
set_option maxHeartbeats 2000000 in
set_option maxRecDepth 100000 in
theorem score_Brier_arg (A B : Option Addr) (m c d L : Nat) (l : List Int) (rs : List Rq) (hl : l.length = m) (hl' : rs.length = m) (hm : m ≤ 1099511627776) (hrl : ∀ (i : Nat) (r : Rq), rs[i]? = some r → r.2.2.length = L) (R : Nat) (hR : R < m) (hgood : ∀ i, i < R → 0 ≤ gi l i ∧ gi l i < L) (hbad : gi l R < 0 ∨ (L : Int) ≤ gi l R)
    (w : World) (h1 : Li w A l) (h2 : Lrq w B rs) :
    Calls Tryz.prog 42 #[.slice A m c, .slice B m d] w fun e w' => e = .returned (.tuple #[qV 0, .int .i64 1]) ∧ Grow w w' := by
  obtain ⟨ba, oa, rfl, -⟩ := h1.cell (i := 0) (by omega)
  obtain ⟨bb, ob, rfl⟩ := h2.addr (by omega)
  have hp : ∀ W, Calls Tryz.prog 105 #[.slice (some ⟨ba, oa, none⟩) m c, .slice (some ⟨bb, ob, none⟩) m d] W fun e w' => e = .returned (.bool true) ∧ Grow W w' := fun W => by
    have := score_paired_iq (some ⟨ba, oa, none⟩) (some ⟨bb, ob, none⟩) m m c d W
    rw [pairedB_yes (by omega)] at this
    exact this
  have hrow : ∀ i, i < m → ∃ (Ar : Option Addr) (cr : Nat), ∀ W, Grow w W → W.cell? ⟨bb, ob + i, none⟩ = some (.slice Ar L cr) := fun i hi => by
    have hil : i < rs.length := by omega
    refine ⟨rs[i].1, rs[i].2.1, fun W hg => ?_⟩
    have h3 := ((h2.grow hg).read (List.getElem?_eq_getElem hil)).1
    rw [hrl i rs[i] (List.getElem?_eq_getElem hil)] at h3
    exact h3
  have hint : ∀ i, i < m → ∀ W, Grow w W → W.cell? ⟨ba, oa + i, none⟩ = some (.int .i64 (gi l i)) := fun i hi W hg => by
    obtain ⟨b', o', e, h3⟩ := (h1.grow hg).cell (i := i) (by omega)
    cases e
    exact h3
  obtain ⟨A0, c0, hrow0⟩ := hrow 0 (by omega)
  have Hp := Lib.hid hp
  have Hrow := Lib.hid hrow
  have Hint := Lib.hid hint
  have Hrow0 := Lib.hid hrow0
  have Hgood := Lib.hid hgood
  have Hbad := Lib.hid hbad
  clear hp hrow hint hrow0 hgood hbad h1 h2 hl hl' hrl
  go_enter Tryz.func42, Tryz.ntmps42
  refine wp_seq (wp_r0 ?_)
  intro K hN
  go_wp2_with fail
  generalize hu : World.alloc (World.alloc (World.alloc w _) _) _ = u
  obtain ⟨hB, hG⟩ := bx_first [(_, _), (_, _), (_, _)] w u hu
  have hF := fr_first w [(22, #[]), (81, #[]), (32, #[])]
  simp only [numbered, List.map_cons, List.map_nil] at hB hF
  clear hu
  generalize w.heap.size + 1 + 1 = b4 at hB hF ⊢
  generalize w.heap.size + 1 = b3 at hB hF ⊢
  generalize w.heap.size = b2 at hB hF ⊢
  refine NoK.norm (hN _ _ ?_)
  clear hN K
  refine then_norm ?_
  refine wp_seq ?_
  refine wp_seq ?_
  refine wp_rs (w := w) allocs 4 [0, 0, 1, 0] (by kernel_rfl) (by simp only [List.drop_succ_cons, List.drop_nil]; exact rfl) (fun _ => True) noG hB hG trivial ?_
  intro K L hN hL
  simp only [List.zip_cons_cons, List.zip_nil_left]
  apply gy
  · exact rfl
  · (rintro v ⟨hgu, hB, hG, -⟩ N hN; have r := hB.r; simp only [BxR] at r; go_simp; exact hN)
  refine okf (by simp only [Act.put, List.setIfInBounds_toArray, List.set_cons_succ, List.set_cons_zero]; exact rfl) ?_
  apply gy
  · exact rfl
  · (rintro v ⟨hgu, hB, hG, -⟩ N hN; have r := hB.r; simp only [BxR] at r; go_simp; exact hN)
  refine okf (by simp only [Act.put, List.setIfInBounds_toArray, List.set_cons_succ, List.set_cons_zero]; exact rfl) ?_
  apply gm
  · exact rfl
  · (rintro v ⟨hgu, hB, hG, -⟩ N hN; go_simp; ((with_reducible refine (Hp.out _).mono ?_); rintro e w1 ⟨rfl, hb⟩; exact ⟨_, rfl, hN _ hb⟩))
  refine okf (by simp only [Act.put, List.setIfInBounds_toArray, List.set_cons_succ, List.set_cons_zero]; exact rfl) ?_
  apply gy
  · exact rfl
  · (rintro v - N hN; go_simp; exact hN)
  refine okf (by simp only [Act.put, List.setIfInBounds_toArray, List.set_cons_succ, List.set_cons_zero]; exact rfl) ?_
  refine gend ?_
  rintro v ⟨hgu, hB1, hG1, -⟩
  clear hB hG
  have hB := hB1
  have hG := hG1
  clear hB1 hG1
  refine hL _ _ ?_
  clear hL L hgu
  obtain ⟨u, rfl⟩ : ∃ x, x = v := ⟨_, rfl⟩
  refine wpList_nil ?_
  refine NoK.norm (hN _ _ ?_)
  clear hN K
  refine then_norm ?_
  refine wp_cond_false (rfl) ?_
  refine wp_skip ?_
  refine then_norm ?_
  refine wp_seq ?_
  refine wp_seq ?_
  refine wp_r0 ?_
  intro K hN
  have r := hB.r
  simp only [BxR] at r
  go_wp2_with fail
  clear r
  refine NoK.norm (hN _ _ ?_)
  clear hN K
  refine then_norm ?_
  refine wp_block ?_
  go_loopw [17] (fun s0 wr => ∃ (i : Nat) , i ≤ m ∧ s0 = .int .i64 i ∧ Bx wr [(b2, 22, #[.slice (some ⟨ba, oa, none⟩) m c]), (b3, 81, #[.slice (some ⟨bb, ob, none⟩) m d]), (b4, 32, zCells)] ∧ Grow w wr) (fun s0 _ => m - (intOf s0).toNat)
  case atStart => exact ⟨0, Nat.zero_le _, rfl, hB, hG⟩
  case round =>
    clear hB hG
    obtain ⟨i, hi, rfl, hB, hG⟩ := hrel
    obtain ⟨u, rfl⟩ : ∃ x, x = wr := ⟨_, rfl⟩
    rcases Nat.lt_or_ge i m with hlt0 | hge0
    · have hdec : decide ((i : Int) < (m : Int)) = true := by simp; omega
      obtain ⟨Ar, cr, hrw⟩ := Hrow.out i hlt0
      have Hrw := Lib.hid hrw
      have hne : ((L : Int) != (L : Int)) = false := by simp
      clear hrw
      refine wp_seq ?_
      refine wp_r0 ?_
      intro K hN
      go_wp2_with fail
      refine NoK.norm (hN _ _ ?_)
      clear hN K
      refine then_norm ?_
      refine wp_seq ?_
      refine wp_cond_true (rfl) ?_
      refine wp_skip ?_
      refine then_norm ?_
      refine wp_seq ?_
      refine wp_block ?_
      refine wp_seq ?_
      have g1 := Hrw.out u hG
      refine wp_r0 ?_
      intro K hN
      have r := hB.r
      simp only [BxR] at r
      go_wp2_with fail
      clear r
      refine NoK.norm (hN _ _ ?_)
      clear hN K
      clear g1
      refine then_norm ?_
      refine wp_seq ?_
      have g0 := Hrow0.out u hG
      rw [Nat.add_zero] at g0
      refine wp_r0 ?_
      intro K hN
      have r := hB.r
      simp only [BxR] at r
      go_wp2_with fail
      clear r
      refine NoK.norm (hN _ _ ?_)
      clear hN K
      clear g0
      refine then_norm ?_
      refine wp_cond_false (rfl) ?_
      refine wp_skip ?_
      refine blk_norm ?_
      refine then_norm ?_
      refine wp_r0 ?_
      intro K hN
      go_wp2_with fail
      refine NoK.norm (hN _ _ ?_)
      clear hN K
      refine then_norm ?_
      go_roundw
      case rel => exact ⟨i + 1, by omega, by go_num, hB, hG⟩
      case measure => simp [intOf]; try omega
    · obtain rfl : m = i := by omega
      have hdec : decide ((m : Int) < (m : Int)) = false := by simp
      skip
      refine wp_seq ?_
      refine wp_r0 ?_
      intro K hN
      go_wp2_with fail
      refine NoK.norm (hN _ _ ?_)
      clear hN K
      refine then_norm ?_
      refine wp_seq ?_
      refine wp_cond_false (rfl) ?_
      refine wp_exit ?_
      refine then_exit ?_
      refine then_exit ?_
      refine blk_exit ?_
      refine then_norm ?_
      refine wp_seq ?_
      refine wp_seq ?_
      refine wp_r0 ?_
      intro K hN
      have r := hB.r
      simp only [BxR] at r
      go_wp2_with fail
      clear r
      refine NoK.norm (hN _ _ ?_)
      clear hN K
      refine then_norm ?_
      refine wp_block ?_
      go_loopw [32] (fun s0 wr => ∃ j : Nat, j ≤ R ∧ s0 = .int .i64 j ∧ Bx wr [(b2, 22, #[.slice (some ⟨ba, oa, none⟩) m c]), (b3, 81, #[.slice (some ⟨bb, ob, none⟩) m d]), (b4, 32, zCells)] ∧ Grow w wr) (fun s0 _ => m - (intOf s0).toNat)
      case atStart => exact ⟨0, Nat.zero_le _, rfl, hB, hG⟩
      case round =>
        clear hB hG
        obtain ⟨j, hj, rfl, hB, hG⟩ := hrel
        obtain ⟨u, rfl⟩ : ∃ x, x = wr := ⟨_, rfl⟩
        have hjm : j < m := by omega
        have hdj : decide ((j : Int) < (m : Int)) = true := by simp; omega
        have hit := Hint.out j hjm
        rcases Nat.lt_or_ge j R with hlt1 | hge1
        · have hgd := Hgood.out j hlt1
          obtain ⟨z, hz⟩ : ∃ z, z = gi l j := ⟨_, rfl⟩
          rw [← hz] at hgd
          simp only [← hz] at hit
          obtain ⟨hg1, hg2⟩ := hgd
          have Hit := Lib.hid hit
          have c1 : decide (z < 0) = false := by simp; omega
          have c2 : decide ((L : Int) ≤ z) = false := by simp; omega
          clear hit hz
          refine wp_seq ?_
          refine wp_r0 ?_
          intro K hN
          go_wp2_with fail
          refine NoK.norm (hN _ _ ?_)
          clear hN K
          refine then_norm ?_
          refine wp_seq ?_
          refine wp_cond_true (rfl) ?_
          refine wp_skip ?_
          refine then_norm ?_
          refine wp_seq ?_
          refine wp_block ?_
          refine wp_seq ?_
          have g1 := Hit.out u hG
          refine wp_r0 ?_
          intro K hN
          have r := hB.r
          simp only [BxR] at r
          go_wp2_with fail
          clear r
          refine NoK.norm (hN _ _ ?_)
          clear hN K
          clear g1
          refine then_norm ?_
          refine wp_seq ?_
          have g0 := Hrow0.out u hG
          rw [Nat.add_zero] at g0
          refine wp_r0 ?_
          intro K hN
          have r := hB.r
          simp only [BxR] at r
          go_wp2_with fail
          clear r
          refine NoK.norm (hN _ _ ?_)
          clear hN K
          clear g0
          refine then_norm ?_
          refine wp_cond_false (rfl) ?_
          refine wp_skip ?_
          refine blk_norm ?_
          refine then_norm ?_
          refine wp_r0 ?_
          intro K hN
          go_wp2_with fail
          refine NoK.norm (hN _ _ ?_)
          clear hN K
          refine then_norm ?_
          go_roundw
          case rel => exact ⟨j + 1, by omega, by go_num, hB, hG⟩
          case measure => simp [intOf]; omega
        · obtain rfl : R = j := by omega
          have hbd := Hbad.out
          obtain ⟨z, hz⟩ : ∃ z, z = gi l R := ⟨_, rfl⟩
          rw [← hz] at hbd
          simp only [← hz] at hit
          have Hit := Lib.hid hit
          clear hit hz
          by_cases hneg : z < 0
          · have c1 : decide (z < 0) = true := by simpa using hneg
            refine wp_seq ?_
            refine wp_r0 ?_
            intro K hN
            go_wp2_with fail
            refine NoK.norm (hN _ _ ?_)
            clear hN K
            refine then_norm ?_
            refine wp_seq ?_
            refine wp_cond_true (rfl) ?_
            refine wp_skip ?_
            refine then_norm ?_
            refine wp_seq ?_
            refine wp_block ?_
            refine wp_seq ?_
            have g1 := Hit.out u hG
            refine wp_r0 ?_
            intro K hN
            have r := hB.r
            simp only [BxR] at r
            go_wp2_with fail
            clear r
            refine NoK.norm (hN _ _ ?_)
            clear hN K
            clear g1
            refine then_norm ?_
            refine wp_seq ?_
            have g0 := Hrow0.out u hG
            rw [Nat.add_zero] at g0
            refine wp_r0 ?_
            intro K hN
            have r := hB.r
            simp only [BxR] at r
            go_wp2_with fail
            clear r
            refine NoK.norm (hN _ _ ?_)
            clear hN K
            clear g0
            refine then_norm ?_
            refine wp_cond_true (rfl) ?_
            refine wp_seq ?_
            refine wp_r0 ?_
            intro K hN
            have r := hB.r
            simp only [BxR] at r
            go_wp2_with fail
            clear r
            generalize hu0 : World.setCell (World.setCell (World.setCell (World.setCell (World.setCell u _ _) _ _) _ _) _ _) _ _ = u0
            have hBG := hB.over hF hG 2 rfl 0 [_, _, _, _, _] hu0
            clear hB hG hu0
            simp only [List.modify_succ_cons, List.modify_zero_cons, wrAll, List.setIfInBounds_toArray, List.set_cons_zero, List.set_cons_succ, Nat.zero_add, Nat.reduceAdd] at hBG
            obtain ⟨hB, hG⟩ := hBG
            clear u
            obtain ⟨u, rfl⟩ : ∃ x, x = u0 := ⟨_, rfl⟩
            refine NoK.norm (hN _ _ ?_)
            clear hN K
            refine then_norm ?_
            refine wp_ret ?_
            refine blk_ret ?_
            refine then_ret ?_
            refine then_ret ?_
            refine blk_ret ?_
            refine then_ret ?_
            refine ret_b rfl ?_
            intro N hN
            have r := hB.r
            simp only [BxR] at r
            simp only [results, Tryz.results42]
            go_simp
            refine hN _ ?_
            clear hN N r
            exact ⟨rfl, hG⟩
          · have c1 : decide (z < 0) = false := by simpa using hneg
            have c2 : decide ((L : Int) ≤ z) = true := by simp; omega
            refine wp_seq ?_
            refine wp_r0 ?_
            intro K hN
            go_wp2_with fail
            refine NoK.norm (hN _ _ ?_)
            clear hN K
            refine then_norm ?_
            refine wp_seq ?_
            refine wp_cond_true (rfl) ?_
            refine wp_skip ?_
            refine then_norm ?_
            refine wp_seq ?_
            refine wp_block ?_
            refine wp_seq ?_
            have g1 := Hit.out u hG
            refine wp_r0 ?_
            intro K hN
            have r := hB.r
            simp only [BxR] at r
            go_wp2_with fail
            clear r
            refine NoK.norm (hN _ _ ?_)
            clear hN K
            clear g1
            refine then_norm ?_
            refine wp_seq ?_
            have g0 := Hrow0.out u hG
            rw [Nat.add_zero] at g0
            refine wp_r0 ?_
            intro K hN
            have r := hB.r
            simp only [BxR] at r
            go_wp2_with fail
            clear r
            refine NoK.norm (hN _ _ ?_)
            clear hN K
            clear g0
            refine then_norm ?_
            refine wp_cond_true (rfl) ?_
            refine wp_seq ?_
            refine wp_r0 ?_
            intro K hN
            have r := hB.r
            simp only [BxR] at r
            go_wp2_with fail
            clear r
            generalize hu0 : World.setCell (World.setCell (World.setCell (World.setCell (World.setCell u _ _) _ _) _ _) _ _) _ _ = u0
            have hBG := hB.over hF hG 2 rfl 0 [_, _, _, _, _] hu0
            clear hB hG hu0
            simp only [List.modify_succ_cons, List.modify_zero_cons, wrAll, List.setIfInBounds_toArray, List.set_cons_zero, List.set_cons_succ, Nat.zero_add, Nat.reduceAdd] at hBG
            obtain ⟨hB, hG⟩ := hBG
            clear u
            obtain ⟨u, rfl⟩ : ∃ x, x = u0 := ⟨_, rfl⟩
            refine NoK.norm (hN _ _ ?_)
            clear hN K
            refine then_norm ?_
            refine wp_ret ?_
            refine blk_ret ?_
            refine then_ret ?_
            refine then_ret ?_
            refine blk_ret ?_
            refine then_ret ?_
            refine ret_b rfl ?_
            intro N hN
            have r := hB.r
            simp only [BxR] at r
            simp only [results, Tryz.results42]
            go_simp
            refine hN _ ?_
            clear hN N r
            exact ⟨rfl, hG⟩
end Go.Proofs.YtimjnkfcnpfoeaaGreatDoor
