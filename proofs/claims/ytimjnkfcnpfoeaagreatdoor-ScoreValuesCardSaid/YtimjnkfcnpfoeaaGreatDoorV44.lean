/-
  Contracts and laws: ScoreE.
-/
import Derived.Test.YtimjnkfcnpfoeaaGreatDoorV41
set_option linter.unusedSimpArgs false
set_option linter.unusedVariables false
namespace Go.Proofs.YtimjnkfcnpfoeaaGreatDoor
open Go.RowKit
abbrev qCells (q : Rat) : Array Value := #[.bool (intNeg q.num), .int .u64 (natLo q.num.natAbs), .string (natMo q.num.natAbs), .int .u64 (natLo (keptDen q.den)), .string (natMo (keptDen q.den))]
/-- what the closure of Told reads -/
def OneLq (b2 b8 : Nat) (A : Option Addr) (m c : Nat) (l : List Rat) (q : Rat) (W : World) : Prop :=
 Blk W b2 67 #[.slice A m c] ∧ Blk W b8 32 (qCells q) ∧ Lq W A l
theorem OneLq.mk {b2 b8 : Nat} {A : Option Addr} {m c : Nat} {l : List Rat} {q : Rat} {u : World} (h1 : Blk u b2 67 #[.slice A m c]) (h2 : Blk u b8 32 (qCells q)) (h3 : Lq u A l) : OneLq b2 b8 A m c l q u := ⟨h1, h2, h3⟩
theorem OneLq.grow {b2 b8 : Nat} {A : Option Addr} {m c : Nat} {l : List Rat} {q : Rat} {u u' : World} (hg : Grow u u') (h : OneLq b2 b8 A m c l q u) : OneLq b2 b8 A m c l q u' := ⟨h.1.grow hg, h.2.1.grow hg, h.2.2.grow hg⟩
theorem blk_cq {W : World} {b : Nat} {q : Rat} (h : Blk W b 32 (qCells q)) : Cq W b 0 q := ⟨h.cell 0, h.cell 1, h.cell 2, h.cell 3, h.cell 4⟩
set_option maxHeartbeats 400000 in
set_option maxRecDepth 100000 in
theorem score_Told_c1 (b2 b8 ba oa : Nat) (m c : Nat) (l : List Rat) (Y : Rat) (hl : l.length = m) (s : Nat) (hs : ∀ x ∈ l, qs x ≤ s) (z2 : qs Y ≤ s) (hB : 4 * s + 10 ≤ BIG) (i : Nat) (hi : i < m) (w : World) (h : OneLq b2 b8 (some ⟨ba, oa, none⟩) m c l Y w) (HT : Tab w) :
  Calls Tryz.prog 94 #[.int .i64 (i : Nat), .pointer (some ⟨b2, 0, none⟩), .pointer (some ⟨b8, 0, none⟩)] w fun e w' => e = .returned (qV (sqd (gq l i) Y)) ∧ Grow w w' := by
 have hc : ∀ W, Grow w W → W.cell? ⟨b2, 0, none⟩ = some (.slice (some ⟨ba, oa, none⟩) m c) ∧ Cq W ba (oa + i * 5) (gq l i) ∧ Cq W b8 0 Y := fun W hg => ⟨(h.grow hg).1.cell 0, (h.grow hg).2.2.read (by omega), blk_cq (h.grow hg).2.1⟩
 have z1 := hs _ (gq_mem (l := l) (i := i) (by omega))
 have z3 : qs (qsub (gq l i) Y) ≤ 2 * s + 1 := by have := qs_sub (gq l i) Y; unfold qsub; omega
 generalize gq l i = X at *
 have Hc := Lib.hid hc
 clear hc h hs hl
 show Calls Tryz.prog 94 #[.int .i64 (i : Nat), .pointer (some ⟨b2, 0, none⟩), .pointer (some ⟨b8, 0, none⟩)] w fun e w' => e = .returned (qV (qmul (qsub X Y) (qsub X Y))) ∧ Grow w w'
 go_enter Tryz.func94, Tryz.ntmps94
 refine wp_seq (wp_r0 ?_)
 intro K hN
 go_wp2_with fail
 generalize hu : World.alloc w _ = u
 obtain ⟨hB, hG⟩ := bx_first [(_, _)] w u hu
 have hF := fr_first w [(32, #[])]
 simp only [numbered, List.map_cons, List.map_nil] at hB hF
 clear hu
 generalize w.heap.size = b4 at hB hF ⊢
 refine NoK.norm (hN _ _ ?_)
 clear hN K
 refine then_norm ?_
 refine wp_seq ?_
 refine wp_rd (w := w) allocs 7 [] [(0, 0), (0, 1), (0, 2), (0, 3), (0, 4), (1, 5), (1, 6)] (by kernel_rfl) (by kernel_rfl) (by simp only [List.drop_succ_cons, List.drop_zero]; exact rfl) (fun _ => True) noG hB hG trivial ?_
 intro K L hN hL
 simp only [pickOps, List.getElem?_toArray, List.getElem?_cons_zero, List.getElem?_cons_succ]
 refine gyb (by (rintro v ⟨hgu, hB, hG, -⟩ N hN; have r := hB.r; simp only [BxR] at r; obtain ⟨p1, ⟨q1, q2, q3, q4, q5⟩, ⟨y1, y2, y3, y4, y5⟩⟩ := Hc.out v hG; go_simp; exact hN)) ?_
 refine gya ?_
 refine gya ?_
 refine gyb (by (rintro v ⟨hgu, hB, hG, -⟩ N hN; have r := hB.r; simp only [BxR] at r; obtain ⟨p1, ⟨q1, q2, q3, q4, q5⟩, ⟨y1, y2, y3, y4, y5⟩⟩ := Hc.out v hG; go_simp; exact hN)) ?_
 refine gyb (by (rintro v ⟨hgu, hB, hG, -⟩ N hN; have r := hB.r; simp only [BxR] at r; obtain ⟨p1, ⟨q1, q2, q3, q4, q5⟩, ⟨y1, y2, y3, y4, y5⟩⟩ := Hc.out v hG; go_simp; exact hN)) ?_
 refine gma (by (rintro v ⟨hgu, hB, hG, -⟩ N hN; go_simp; with_reducible exact gmc (frac_Sub _ _ _ (by omega) (HT.grow hG)) hN)) ?_
 refine gma (by (rintro v ⟨hgu, hB, hG, -⟩ N hN; go_simp; with_reducible exact gmc (score_square _ (by omega) _ (HT.grow hG)) hN)) ?_
 refine gend ?_
 rintro v ⟨hgu, hB1, hG1, -⟩
 clear hB hG
 have hB := hB1
 have hG := hG1
 clear hB1 hG1
 refine hL _ _ ?_
 clear hL L hgu
 obtain ⟨u, rfl⟩ : ∃ x, x = v := ⟨_, rfl⟩
 have r := hB.r
 simp only [BxR] at r
 go_wp2_with fail
 clear r
 generalize hu0 : World.setCell (World.setCell (World.setCell (World.setCell (World.setCell u _ _) _ _) _ _) _ _) _ _ = u0
 have hBG := over_n hB hF hG 0 rfl 0 [_, _, _, _, _] hu0
 clear hB hG hu0
 obtain ⟨hB, hG⟩ := hBG
 clear u
 obtain ⟨u, rfl⟩ : ∃ x, x = u0 := ⟨_, rfl⟩
 refine NoK.norm (hN _ _ ?_)
 clear hN K
 refine then_norm ?_
 refine wp_ret ?_
 refine ret_b rfl ?_
 intro N hN
 have r := hB.r
 simp only [BxR] at r
 simp only [results, Tryz.results94]
 go_simp
 refine hN _ ?_
 clear hN N r
 exact ⟨rfl, hG⟩
theorem cf_Told (args : Array Value) (W : World) : Sem.run Tryz.prog (callFunc 94 args) W = .ok (.enter 94 args) W := by kernel_rfl
def qOff (l : List Rat) (Y : Rat) (m : Nat) : Rat := qdiv (qsum (fun i => sqd (gq l i) Y) m) (qint m)
theorem score_mean_Told (b2 b8 ba oa : Nat) (m c : Nat) (l : List Rat) (Y : Rat) (hl : l.length = m) (hm : m ≤ 1099511627776) (s : Nat) (hs : ∀ x ∈ l, qs x ≤ s) (hY : qs Y ≤ s) (hB : m * (4 * s + 3) + 4 * s + 200 ≤ BIG) (w : World) (h : OneLq b2 b8 (some ⟨ba, oa, none⟩) m c l Y w) (HT : Tab w) :
  Calls Tryz.prog 86 #[.int .i64 m, .func (.func 94) #[] #[.pointer (some ⟨b2, 0, none⟩), .pointer (some ⟨b8, 0, none⟩)]] w fun e w' => e = .returned (qV (qOff l Y m)) ∧ Grow w w' := by
 have hz : ∀ i, i < m → qs (sqd (gq l i) Y) ≤ 4 * s + 2 := fun i hi => qs_sqd _ _ s (hs _ (gq_mem (by omega))) hY
 refine score_mean m hm 94 cf_Told _ (fun i => sqd (gq l i) Y) (OneLq b2 b8 (some ⟨ba, oa, none⟩) m c l Y) (fun _ _ hg h => h.grow hg) (m * (4 * s + 3) + 1) (4 * s + 2) (fun j hj => ?_) hz (by omega) w h HT
  (fun i hi W hW hTW => score_Told_c1 b2 b8 ba oa m c l Y hl s hs hY (by omega) i hi W hW hTW)
 exact Nat.le_trans (qsum_size _ (4 * s + 2) m hz j hj) (Nat.add_le_add_right (Nat.mul_le_mul_right _ hj) 1)
/-- a mean's size -/
theorem mean_size {f : Nat → Rat} {m s : Nat} (hm : m ≤ 1099511627776) (h : ∀ i, i < m → qs (f i) ≤ s) : qs (qdiv (qsum f m) (qint m)) ≤ m * (s + 1) + 42 := by
 have h1 := qsum_size f s m h m (Nat.le_refl _)
 have h2 := qs_div (qsum f m) (qint m)
 have h3 := qint_sz m hm
 unfold qdiv
 omega
def toldQ (l l' : List Rat) (m : Nat) : Rat := qsub (qint 1) (qdiv (qSquares l l' m) (qOff l (qMean l m) m))
set_option maxHeartbeats 2000000 in
set_option maxRecDepth 100000 in
theorem score_Told_ok (A B : Option Addr) (m c d : Nat) (l l' : List Rat) (hl : l.length = m) (hl' : l'.length = m) (hm0 : 0 < m) (hm : m ≤ 1099511627776) (s S : Nat) (hs : ∀ x ∈ l, qs x ≤ s) (hs' : ∀ x ∈ l', qs x ≤ s) (hS1 : s ≤ S) (hS2 : m * (s + 1) + 50 ≤ S) (hB : 4 * (m * (4 * S + 3)) + 100 * S + 1000 ≤ BIG)
  (w : World) (h1 : Lq w A l) (h2 : Lq w B l') (HT : Tab w) :
  Calls Tryz.prog 36 #[.slice A m c, .slice B m d] w fun e w' => e = .returned (if qOff l (qMean l m) m = 0 then .tuple #[qV 0, .int .i64 6] else .tuple #[qV (toldQ l l' m), .int .i64 0]) ∧ Grow w w' := by
 obtain ⟨ba, oa, rfl⟩ := h1.addr (by omega)
 have hsS : ∀ x ∈ l, qs x ≤ S := fun x hx => Nat.le_trans (hs x hx) hS1
 have hsS' : ∀ x ∈ l', qs x ≤ S := fun x hx => Nat.le_trans (hs' x hx) hS1
 have hsq : ∀ W, Grow w W → Calls Tryz.prog 32 #[.slice (some ⟨ba, oa, none⟩) m c, .slice B m d] W fun e w' => e = .returned (.tuple #[qV (qSquares l l' m), .int .i64 0]) ∧ Grow W w' := fun W hg =>
  score_Squares_ok _ B m c d l l' hl hl' hm0 hm S hsS hsS' (by omega) W (h1.grow hg) (h2.grow hg) (HT.grow hg)
 have hmean : ∀ W, Grow w W → Calls Tryz.prog 49 #[.slice (some ⟨ba, oa, none⟩) m c] W fun e w' => e = .returned (.tuple #[qV (qMean l m), .bool true]) ∧ Grow W w' := fun W hg =>
  frac_Mean _ l c m hl.symm hm0 hm s hs (by omega) W (h1.grow hg) (HT.grow hg)
 have z1 : qs (qMean l m) ≤ S := Nat.le_trans (mean_size hm (fun i hi => hs _ (gq_mem (l := l) (by omega)))) (by omega)
 have hoff := fun b2 b8 W => score_mean_Told b2 b8 ba oa m c l (qMean l m) hl hm S hsS z1 (by omega) W
 have z2 : qs (qSquares l l' m) ≤ m * (4 * S + 3) + 42 := mean_size hm (fun i hi => qs_sqd _ _ S (hsS _ (gq_mem (by omega))) (hsS' _ (gq_mem (by omega))))
 have z3 : qs (qOff l (qMean l m) m) ≤ m * (4 * S + 3) + 42 := mean_size hm (fun i hi => qs_sqd _ _ S (hsS _ (gq_mem (by omega))) z1)
 have ht : toldQ l l' m = qsub (qint 1) (qdiv (qSquares l l' m) (qOff l (qMean l m) m)) := rfl
 generalize qMean l m = mid at *
 generalize qSquares l l' m = miss at *
 generalize qOff l mid m = off at *
 rw [ht]
 have z4 : qs (qdiv miss off) ≤ 2 * (m * (4 * S + 3)) + 84 := by have := qs_div miss off; unfold qdiv; omega
 have z5 : qs (qint 1) ≤ 41 := qint_sz 1 (by omega)
 have hdv : ∀ W, Tab W → Calls Tryz.prog 24 #[qV miss, qV off] W fun e w' => e = .returned (.tuple #[qV (qdiv miss off), .bool (nzq off)]) ∧ Grow W w' := fun W hT => frac_Div miss off W (by omega) hT
 obtain ⟨part, hpart⟩ : ∃ p, p = qdiv miss off := ⟨_, rfl⟩
 rw [← hpart] at z4 hdv
 rw [← hpart]
 have Hsq := Lib.hid hsq
 have Hmean := Lib.hid hmean
 have Hoff := Lib.hid hoff
 have H1 := Lib.hid h1
 by_cases h0 : off = 0
 ·rw [if_pos h0]
  have hz : nzq off = false := by unfold nzq; simp [h0]
  rw [hz] at hdv
  have Hdv := Lib.hid hdv
  clear hsq hmean hoff h1 h2 hs hs' hsS hsS' hl hl' ht hdv h0 hz hpart
  go_enter Tryz.func36, Tryz.ntmps36
  refine wp_seq (wp_r0 ?_)
  intro K hN
  go_wp2_with fail
  generalize hu : World.alloc (World.alloc w _) _ = u
  obtain ⟨hB, hG⟩ := bx_first [(_, _), (_, _)] w u hu
  have hF := fr_first w [(67, #[]), (32, #[])]
  simp only [numbered, List.map_cons, List.map_nil] at hB hF
  clear hu
  generalize w.heap.size + 1 = b4 at hB hF ⊢
  generalize w.heap.size = b2 at hB hF ⊢
  refine NoK.norm (hN _ _ ?_)
  clear hN K
  refine then_norm ?_
  refine wp_seq ?_
  refine wp_rs (w := w) allocs 7 [0, 0, 1, 0, 0, 0, 2] (by kernel_rfl) (by simp only [List.drop_succ_cons, List.drop_zero]; exact rfl) (fun _ => True) noG hB hG trivial ?_
  intro K L hN hL
  simp only [List.zip_cons_cons, List.zip_nil_left]
  refine gyr ?_
  refine gya ?_
  refine gma (by (rintro v ⟨hgu, hB, hG, -⟩ N hN; go_simp; with_reducible exact gmc (Hsq.out _ hG) hN)) ?_
  refine gya ?_
  refine gya ?_
  refine gya ?_
  refine ga (newObj_Q _ _ _ _ _) fun b6 hb6 hn6 => ?_
  refine okf (by simp only [Act.put, List.setIfInBounds_toArray, List.set_cons_succ, List.set_cons_zero]; exact rfl) ?_
  refine gend ?_
  rintro v ⟨⟨hgu, hB1, hG1, -⟩, h6⟩
  have hF := Fr.new (tk := []) hF hB hG hb6 hn6
  simp only [List.cons_append, List.nil_append, List.map_cons, List.map_nil] at hF
  clear hB hG
  have hB := (Bx.cons h6 hB1)
  have hG := hG1
  clear hB1 hG1 h6
  refine hL _ _ ?_
  clear hL L hgu
  obtain ⟨u, rfl⟩ : ∃ x, x = v := ⟨_, rfl⟩
  have r := hB.r
  simp only [BxR] at r
  go_wp2_with fail
  clear r
  generalize hu0 : World.setCell (World.setCell (World.setCell (World.setCell (World.setCell u _ _) _ _) _ _) _ _) _ _ = u0
  have hBG := over_n hB hF hG 0 rfl 0 [_, _, _, _, _] hu0
  clear hB hG hu0
  obtain ⟨hB, hG⟩ := hBG
  clear u
  obtain ⟨u, rfl⟩ : ∃ x, x = u0 := ⟨_, rfl⟩
  refine NoK.norm (hN _ _ ?_)
  clear hN K
  refine then_norm ?_
  refine wp_seq ?_
  refine wp_seq ?_
  refine wp_r0 ?_
  intro K hN
  go_wp2_with fail
  refine NoK.norm (hN _ _ ?_)
  clear hN K
  refine then_norm ?_
  refine wp_cond_false (rfl) ?_
  refine wp_skip ?_
  refine then_norm ?_
  refine wp_seq ?_
  refine wp_rs (w := w) allocs 6 [0, 1, 0, 0, 0, 2] (by kernel_rfl) (by simp only [List.drop_succ_cons, List.drop_zero]; exact rfl) (fun _ => True) noG hB hG trivial ?_
  intro K L hN hL
  simp only [List.zip_cons_cons, List.zip_nil_left]
  refine gyr ?_
  refine gma (by (rintro v ⟨hgu, hB, hG, -⟩ N hN; go_simp; with_reducible exact gmc (Hmean.out _ hG) hN)) ?_
  refine gya ?_
  refine gya ?_
  refine gya ?_
  refine ga (newObj_Q _ _ _ _ _) fun b8 hb8 hn8 => ?_
  refine okf (by simp only [Act.put, List.setIfInBounds_toArray, List.set_cons_succ, List.set_cons_zero]; exact rfl) ?_
  refine gend ?_
  rintro v ⟨⟨hgu, hB1, hG1, -⟩, h8⟩
  have hF := Fr.new (tk := []) hF hB hG hb8 hn8
  simp only [List.cons_append, List.nil_append, List.map_cons, List.map_nil] at hF
  clear hB hG
  have hB := (Bx.cons h8 hB1)
  have hG := hG1
  clear hB1 hG1 h8
  refine hL _ _ ?_
  clear hL L hgu
  obtain ⟨u, rfl⟩ : ∃ x, x = v := ⟨_, rfl⟩
  have r := hB.r
  simp only [BxR] at r
  go_wp2_with fail
  clear r
  generalize hu0 : World.setCell (World.setCell (World.setCell (World.setCell (World.setCell u _ _) _ _) _ _) _ _) _ _ = u0
  have hBG := over_n hB hF hG 0 rfl 0 [_, _, _, _, _] hu0
  clear hB hG hu0
  obtain ⟨hB, hG⟩ := hBG
  clear u
  obtain ⟨u, rfl⟩ : ∃ x, x = u0 := ⟨_, rfl⟩
  refine NoK.norm (hN _ _ ?_)
  clear hN K
  refine then_norm ?_
  refine wp_seq ?_
  refine wp_rs (w := w) allocs 5 [0, 0, 0, 1, 2] (by kernel_rfl) (by simp only [List.drop_succ_cons, List.drop_zero]; exact rfl) (fun _ => True) noG hB hG trivial ?_
  intro K L hN hL
  simp only [List.zip_cons_cons, List.zip_nil_left]
  refine gyr ?_
  refine gya ?_
  refine gya ?_
  refine gma (by (rintro v ⟨hgu, hB, hG, -⟩ N hN; go_simp; with_reducible exact gmc (Hoff.out b2 b8 _ (OneLq.mk hB.tail.tail.head hB.head (H1.out.grow hG)) (HT.grow hG)) hN)) ?_
  refine ga (newObj_Q _ _ _ _ _) fun b10 hb10 hn10 => ?_
  refine okf (by simp only [Act.put, List.setIfInBounds_toArray, List.set_cons_succ, List.set_cons_zero]; exact rfl) ?_
  refine gend ?_
  rintro v ⟨⟨hgu, hB1, hG1, -⟩, h10⟩
  have hF := Fr.new (tk := []) hF hB hG hb10 hn10
  simp only [List.cons_append, List.nil_append, List.map_cons, List.map_nil] at hF
  clear hB hG
  have hB := (Bx.cons h10 hB1)
  have hG := hG1
  clear hB1 hG1 h10
  refine hL _ _ ?_
  clear hL L hgu
  obtain ⟨u, rfl⟩ : ∃ x, x = v := ⟨_, rfl⟩
  have r := hB.r
  simp only [BxR] at r
  go_wp2_with fail
  clear r
  generalize hu0 : World.setCell (World.setCell (World.setCell (World.setCell (World.setCell u _ _) _ _) _ _) _ _) _ _ = u0
  have hBG := over_n hB hF hG 0 rfl 0 [_, _, _, _, _] hu0
  clear hB hG hu0
  obtain ⟨hB, hG⟩ := hBG
  clear u
  obtain ⟨u, rfl⟩ : ∃ x, x = u0 := ⟨_, rfl⟩
  refine NoK.norm (hN _ _ ?_)
  clear hN K
  refine then_norm ?_
  refine wp_seq ?_
  refine wp_rs (w := w) allocs 7 [0, 0, 1, 0, 0, 0, 2] (by kernel_rfl) (by simp only [List.drop_succ_cons, List.drop_zero]; exact rfl) (fun _ => True) noG hB hG trivial ?_
  intro K L hN hL
  simp only [List.zip_cons_cons, List.zip_nil_left]
  refine gyr ?_
  refine gyr ?_
  refine gma (by (rintro v ⟨hgu, hB, hG, -⟩ N hN; go_simp; with_reducible exact gmc (Hdv.out _ (HT.grow hG)) hN)) ?_
  refine gya ?_
  refine gya ?_
  refine gya ?_
  refine ga (newObj_Q _ _ _ _ _) fun b11 hb11 hn11 => ?_
  refine okf (by simp only [Act.put, List.setIfInBounds_toArray, List.set_cons_succ, List.set_cons_zero]; exact rfl) ?_
  refine gend ?_
  rintro v ⟨⟨hgu, hB1, hG1, -⟩, h11⟩
  have hF := Fr.new (tk := []) hF hB hG hb11 hn11
  simp only [List.cons_append, List.nil_append, List.map_cons, List.map_nil] at hF
  clear hB hG
  have hB := (Bx.cons h11 hB1)
  have hG := hG1
  clear hB1 hG1 h11
  refine hL _ _ ?_
  clear hL L hgu
  obtain ⟨u, rfl⟩ : ∃ x, x = v := ⟨_, rfl⟩
  have r := hB.r
  simp only [BxR] at r
  go_wp2_with fail
  clear r
  generalize hu0 : World.setCell (World.setCell (World.setCell (World.setCell (World.setCell u _ _) _ _) _ _) _ _) _ _ = u0
  have hBG := over_n hB hF hG 0 rfl 0 [_, _, _, _, _] hu0
  clear hB hG hu0
  obtain ⟨hB, hG⟩ := hBG
  clear u
  obtain ⟨u, rfl⟩ : ∃ x, x = u0 := ⟨_, rfl⟩
  refine NoK.norm (hN _ _ ?_)
  clear hN K
  refine then_norm ?_
  refine wp_seq ?_
  refine wp_seq ?_
  refine wp_r0 ?_
  intro K hN
  go_wp2_with fail
  refine NoK.norm (hN _ _ ?_)
  clear hN K
  refine then_norm ?_
  refine wp_cond_true (rfl) ?_
  refine wp_seq ?_
  refine wp_r0 ?_
  intro K hN
  have r := hB.r
  simp only [BxR] at r
  go_wp2_with fail
  clear r
  generalize hu0 : World.setCell (World.setCell (World.setCell (World.setCell (World.setCell u _ _) _ _) _ _) _ _) _ _ = u0
  have hBG := over_n hB hF hG 5 rfl 0 [_, _, _, _, _] hu0
  clear hB hG hu0
  obtain ⟨hB, hG⟩ := hBG
  clear u
  obtain ⟨u, rfl⟩ : ∃ x, x = u0 := ⟨_, rfl⟩
  refine NoK.norm (hN _ _ ?_)
  clear hN K
  refine then_norm ?_
  refine wp_ret ?_
  refine then_ret ?_
  refine ret_b rfl ?_
  intro N hN
  have r := hB.r
  simp only [BxR] at r
  simp only [results, Tryz.results36]
  go_simp
  refine hN _ ?_
  clear hN N r
  exact ⟨rfl, hG⟩
 ·rw [if_neg h0]
  have hz : nzq off = true := decide_eq_true h0
  rw [hz] at hdv
  have Hdv := Lib.hid hdv
  clear hsq hmean hoff h1 h2 hs hs' hsS hsS' hl hl' ht hdv h0 hz hpart
  go_enter Tryz.func36, Tryz.ntmps36
  refine wp_seq (wp_r0 ?_)
  intro K hN
  go_wp2_with fail
  generalize hu : World.alloc (World.alloc w _) _ = u
  obtain ⟨hB, hG⟩ := bx_first [(_, _), (_, _)] w u hu
  have hF := fr_first w [(67, #[]), (32, #[])]
  simp only [numbered, List.map_cons, List.map_nil] at hB hF
  clear hu
  generalize w.heap.size + 1 = b4 at hB hF ⊢
  generalize w.heap.size = b2 at hB hF ⊢
  refine NoK.norm (hN _ _ ?_)
  clear hN K
  refine then_norm ?_
  refine wp_seq ?_
  refine wp_rs (w := w) allocs 7 [0, 0, 1, 0, 0, 0, 2] (by kernel_rfl) (by simp only [List.drop_succ_cons, List.drop_zero]; exact rfl) (fun _ => True) noG hB hG trivial ?_
  intro K L hN hL
  simp only [List.zip_cons_cons, List.zip_nil_left]
  refine gyr ?_
  refine gya ?_
  refine gma (by (rintro v ⟨hgu, hB, hG, -⟩ N hN; go_simp; with_reducible exact gmc (Hsq.out _ hG) hN)) ?_
  refine gya ?_
  refine gya ?_
  refine gya ?_
  refine ga (newObj_Q _ _ _ _ _) fun b6 hb6 hn6 => ?_
  refine okf (by simp only [Act.put, List.setIfInBounds_toArray, List.set_cons_succ, List.set_cons_zero]; exact rfl) ?_
  refine gend ?_
  rintro v ⟨⟨hgu, hB1, hG1, -⟩, h6⟩
  have hF := Fr.new (tk := []) hF hB hG hb6 hn6
  simp only [List.cons_append, List.nil_append, List.map_cons, List.map_nil] at hF
  clear hB hG
  have hB := (Bx.cons h6 hB1)
  have hG := hG1
  clear hB1 hG1 h6
  refine hL _ _ ?_
  clear hL L hgu
  obtain ⟨u, rfl⟩ : ∃ x, x = v := ⟨_, rfl⟩
  have r := hB.r
  simp only [BxR] at r
  go_wp2_with fail
  clear r
  generalize hu0 : World.setCell (World.setCell (World.setCell (World.setCell (World.setCell u _ _) _ _) _ _) _ _) _ _ = u0
  have hBG := over_n hB hF hG 0 rfl 0 [_, _, _, _, _] hu0
  clear hB hG hu0
  obtain ⟨hB, hG⟩ := hBG
  clear u
  obtain ⟨u, rfl⟩ : ∃ x, x = u0 := ⟨_, rfl⟩
  refine NoK.norm (hN _ _ ?_)
  clear hN K
  refine then_norm ?_
  refine wp_seq ?_
  refine wp_seq ?_
  refine wp_r0 ?_
  intro K hN
  go_wp2_with fail
  refine NoK.norm (hN _ _ ?_)
  clear hN K
  refine then_norm ?_
  refine wp_cond_false (rfl) ?_
  refine wp_skip ?_
  refine then_norm ?_
  refine wp_seq ?_
  refine wp_rs (w := w) allocs 6 [0, 1, 0, 0, 0, 2] (by kernel_rfl) (by simp only [List.drop_succ_cons, List.drop_zero]; exact rfl) (fun _ => True) noG hB hG trivial ?_
  intro K L hN hL
  simp only [List.zip_cons_cons, List.zip_nil_left]
  refine gyr ?_
  refine gma (by (rintro v ⟨hgu, hB, hG, -⟩ N hN; go_simp; with_reducible exact gmc (Hmean.out _ hG) hN)) ?_
  refine gya ?_
  refine gya ?_
  refine gya ?_
  refine ga (newObj_Q _ _ _ _ _) fun b8 hb8 hn8 => ?_
  refine okf (by simp only [Act.put, List.setIfInBounds_toArray, List.set_cons_succ, List.set_cons_zero]; exact rfl) ?_
  refine gend ?_
  rintro v ⟨⟨hgu, hB1, hG1, -⟩, h8⟩
  have hF := Fr.new (tk := []) hF hB hG hb8 hn8
  simp only [List.cons_append, List.nil_append, List.map_cons, List.map_nil] at hF
  clear hB hG
  have hB := (Bx.cons h8 hB1)
  have hG := hG1
  clear hB1 hG1 h8
  refine hL _ _ ?_
  clear hL L hgu
  obtain ⟨u, rfl⟩ : ∃ x, x = v := ⟨_, rfl⟩
  have r := hB.r
  simp only [BxR] at r
  go_wp2_with fail
  clear r
  generalize hu0 : World.setCell (World.setCell (World.setCell (World.setCell (World.setCell u _ _) _ _) _ _) _ _) _ _ = u0
  have hBG := over_n hB hF hG 0 rfl 0 [_, _, _, _, _] hu0
  clear hB hG hu0
  obtain ⟨hB, hG⟩ := hBG
  clear u
  obtain ⟨u, rfl⟩ : ∃ x, x = u0 := ⟨_, rfl⟩
  refine NoK.norm (hN _ _ ?_)
  clear hN K
  refine then_norm ?_
  refine wp_seq ?_
  refine wp_rs (w := w) allocs 5 [0, 0, 0, 1, 2] (by kernel_rfl) (by simp only [List.drop_succ_cons, List.drop_zero]; exact rfl) (fun _ => True) noG hB hG trivial ?_
  intro K L hN hL
  simp only [List.zip_cons_cons, List.zip_nil_left]
  refine gyr ?_
  refine gya ?_
  refine gya ?_
  refine gma (by (rintro v ⟨hgu, hB, hG, -⟩ N hN; go_simp; with_reducible exact gmc (Hoff.out b2 b8 _ (OneLq.mk hB.tail.tail.head hB.head (H1.out.grow hG)) (HT.grow hG)) hN)) ?_
  refine ga (newObj_Q _ _ _ _ _) fun b10 hb10 hn10 => ?_
  refine okf (by simp only [Act.put, List.setIfInBounds_toArray, List.set_cons_succ, List.set_cons_zero]; exact rfl) ?_
  refine gend ?_
  rintro v ⟨⟨hgu, hB1, hG1, -⟩, h10⟩
  have hF := Fr.new (tk := []) hF hB hG hb10 hn10
  simp only [List.cons_append, List.nil_append, List.map_cons, List.map_nil] at hF
  clear hB hG
  have hB := (Bx.cons h10 hB1)
  have hG := hG1
  clear hB1 hG1 h10
  refine hL _ _ ?_
  clear hL L hgu
  obtain ⟨u, rfl⟩ : ∃ x, x = v := ⟨_, rfl⟩
  have r := hB.r
  simp only [BxR] at r
  go_wp2_with fail
  clear r
  generalize hu0 : World.setCell (World.setCell (World.setCell (World.setCell (World.setCell u _ _) _ _) _ _) _ _) _ _ = u0
  have hBG := over_n hB hF hG 0 rfl 0 [_, _, _, _, _] hu0
  clear hB hG hu0
  obtain ⟨hB, hG⟩ := hBG
  clear u
  obtain ⟨u, rfl⟩ : ∃ x, x = u0 := ⟨_, rfl⟩
  refine NoK.norm (hN _ _ ?_)
  clear hN K
  refine then_norm ?_
  refine wp_seq ?_
  refine wp_rs (w := w) allocs 7 [0, 0, 1, 0, 0, 0, 2] (by kernel_rfl) (by simp only [List.drop_succ_cons, List.drop_zero]; exact rfl) (fun _ => True) noG hB hG trivial ?_
  intro K L hN hL
  simp only [List.zip_cons_cons, List.zip_nil_left]
  refine gyr ?_
  refine gyr ?_
  refine gma (by (rintro v ⟨hgu, hB, hG, -⟩ N hN; go_simp; with_reducible exact gmc (Hdv.out _ (HT.grow hG)) hN)) ?_
  refine gya ?_
  refine gya ?_
  refine gya ?_
  refine ga (newObj_Q _ _ _ _ _) fun b11 hb11 hn11 => ?_
  refine okf (by simp only [Act.put, List.setIfInBounds_toArray, List.set_cons_succ, List.set_cons_zero]; exact rfl) ?_
  refine gend ?_
  rintro v ⟨⟨hgu, hB1, hG1, -⟩, h11⟩
  have hF := Fr.new (tk := []) hF hB hG hb11 hn11
  simp only [List.cons_append, List.nil_append, List.map_cons, List.map_nil] at hF
  clear hB hG
  have hB := (Bx.cons h11 hB1)
  have hG := hG1
  clear hB1 hG1 h11
  refine hL _ _ ?_
  clear hL L hgu
  obtain ⟨u, rfl⟩ : ∃ x, x = v := ⟨_, rfl⟩
  have r := hB.r
  simp only [BxR] at r
  go_wp2_with fail
  clear r
  generalize hu0 : World.setCell (World.setCell (World.setCell (World.setCell (World.setCell u _ _) _ _) _ _) _ _) _ _ = u0
  have hBG := over_n hB hF hG 0 rfl 0 [_, _, _, _, _] hu0
  clear hB hG hu0
  obtain ⟨hB, hG⟩ := hBG
  clear u
  obtain ⟨u, rfl⟩ : ∃ x, x = u0 := ⟨_, rfl⟩
  refine NoK.norm (hN _ _ ?_)
  clear hN K
  refine then_norm ?_
  refine wp_seq ?_
  refine wp_seq ?_
  refine wp_r0 ?_
  intro K hN
  go_wp2_with fail
  refine NoK.norm (hN _ _ ?_)
  clear hN K
  refine then_norm ?_
  refine wp_cond_false (rfl) ?_
  refine wp_skip ?_
  refine then_norm ?_
  refine wp_seq ?_
  refine wp_rd (w := w) allocs 3 [] [(0, 1), (1, 0), (1, 2)] (by kernel_rfl) (by kernel_rfl) (by simp only [List.drop_succ_cons, List.drop_zero]; exact rfl) (fun _ => True) noG hB hG trivial ?_
  intro K L hN hL
  simp only [pickOps, List.getElem?_toArray, List.getElem?_cons_zero, List.getElem?_cons_succ]
  refine gyr ?_
  refine gma (by (rintro v ⟨hgu, hB, hG, -⟩ N hN; go_simp; with_reducible exact gmc (frac_Of _ (by omega) (by omega) _) hN)) ?_
  refine gma (by (rintro v ⟨hgu, hB, hG, -⟩ N hN; go_simp; with_reducible exact gmc (frac_Sub _ _ _ (by omega) (HT.grow hG)) hN)) ?_
  refine gend ?_
  rintro v ⟨hgu, hB1, hG1, -⟩
  clear hB hG
  have hB := hB1
  have hG := hG1
  clear hB1 hG1
  refine hL _ _ ?_
  clear hL L hgu
  obtain ⟨u, rfl⟩ : ∃ x, x = v := ⟨_, rfl⟩
  have r := hB.r
  simp only [BxR] at r
  go_wp2_with fail
  clear r
  generalize hu0 : World.setCell (World.setCell (World.setCell (World.setCell (World.setCell u _ _) _ _) _ _) _ _) _ _ = u0
  have hBG := over_n hB hF hG 5 rfl 0 [_, _, _, _, _] hu0
  clear hB hG hu0
  obtain ⟨hB, hG⟩ := hBG
  clear u
  obtain ⟨u, rfl⟩ : ∃ x, x = u0 := ⟨_, rfl⟩
  refine NoK.norm (hN _ _ ?_)
  clear hN K
  refine then_norm ?_
  refine wp_ret ?_
  refine ret_b rfl ?_
  intro N hN
  have r := hB.r
  simp only [BxR] at r
  simp only [results, Tryz.results36]
  go_simp
  refine hN _ ?_
  clear hN N r
  exact ⟨rfl, hG⟩
set_option maxHeartbeats 2000000 in
set_option maxRecDepth 100000 in
theorem score_Told_no (A B : Option Addr) (m n c d : Nat) (h : pairedB m n = false) (w : World) :
  Calls Tryz.prog 36 #[.slice A m c, .slice B n d] w fun e w' => e = .returned (.tuple #[qV 0, .int .i64 5]) ∧ Grow w w' := by
 have Hsq := Lib.hid (score_Squares_no A B m n c d h)
 clear h
 go_enter Tryz.func36, Tryz.ntmps36
 refine wp_seq (wp_r0 ?_)
 intro K hN
 go_wp2_with fail
 generalize hu : World.alloc (World.alloc w _) _ = u
 obtain ⟨hB, hG⟩ := bx_first [(_, _), (_, _)] w u hu
 have hF := fr_first w [(67, #[]), (32, #[])]
 simp only [numbered, List.map_cons, List.map_nil] at hB hF
 clear hu
 generalize w.heap.size + 1 = b4 at hB hF ⊢
 generalize w.heap.size = b2 at hB hF ⊢
 refine NoK.norm (hN _ _ ?_)
 clear hN K
 refine then_norm ?_
 refine wp_seq ?_
 refine wp_rs (w := w) allocs 7 [0, 0, 1, 0, 0, 0, 2] (by kernel_rfl) (by simp only [List.drop_succ_cons, List.drop_zero]; exact rfl) (fun _ => True) noG hB hG trivial ?_
 intro K L hN hL
 simp only [List.zip_cons_cons, List.zip_nil_left]
 refine gyr ?_
 refine gya ?_
 refine gma (by (rintro v ⟨hgu, hB, hG, -⟩ N hN; go_simp; with_reducible exact gmc (Hsq.out _) hN)) ?_
 refine gya ?_
 refine gya ?_
 refine gya ?_
 refine ga (newObj_Q _ _ _ _ _) fun b6 hb6 hn6 => ?_
 refine okf (by simp only [Act.put, List.setIfInBounds_toArray, List.set_cons_succ, List.set_cons_zero]; exact rfl) ?_
 refine gend ?_
 rintro v ⟨⟨hgu, hB1, hG1, -⟩, h6⟩
 have hF := Fr.new (tk := []) hF hB hG hb6 hn6
 simp only [List.cons_append, List.nil_append, List.map_cons, List.map_nil] at hF
 clear hB hG
 have hB := (Bx.cons h6 hB1)
 have hG := hG1
 clear hB1 hG1 h6
 refine hL _ _ ?_
 clear hL L hgu
 obtain ⟨u, rfl⟩ : ∃ x, x = v := ⟨_, rfl⟩
 have r := hB.r
 simp only [BxR] at r
 go_wp2_with fail
 clear r
 generalize hu0 : World.setCell (World.setCell (World.setCell (World.setCell (World.setCell u _ _) _ _) _ _) _ _) _ _ = u0
 have hBG := over_n hB hF hG 0 rfl 0 [_, _, _, _, _] hu0
 clear hB hG hu0
 obtain ⟨hB, hG⟩ := hBG
 clear u
 obtain ⟨u, rfl⟩ : ∃ x, x = u0 := ⟨_, rfl⟩
 refine NoK.norm (hN _ _ ?_)
 clear hN K
 refine then_norm ?_
 refine wp_seq ?_
 refine wp_seq ?_
 refine wp_r0 ?_
 intro K hN
 go_wp2_with fail
 refine NoK.norm (hN _ _ ?_)
 clear hN K
 refine then_norm ?_
 refine wp_cond_true (rfl) ?_
 refine wp_seq ?_
 refine wp_r0 ?_
 intro K hN
 have r := hB.r
 simp only [BxR] at r
 go_wp2_with fail
 clear r
 generalize hu0 : World.setCell (World.setCell (World.setCell (World.setCell (World.setCell u _ _) _ _) _ _) _ _) _ _ = u0
 have hBG := over_n hB hF hG 2 rfl 0 [_, _, _, _, _] hu0
 clear hB hG hu0
 obtain ⟨hB, hG⟩ := hBG
 clear u
 obtain ⟨u, rfl⟩ : ∃ x, x = u0 := ⟨_, rfl⟩
 refine NoK.norm (hN _ _ ?_)
 clear hN K
 refine then_norm ?_
 refine wp_ret ?_
 refine then_ret ?_
 refine ret_b rfl ?_
 intro N hN
 have r := hB.r
 simp only [BxR] at r
 simp only [results, Tryz.results36]
 go_simp
 refine hN _ ?_
 clear hN N r
 exact ⟨rfl, hG⟩
theorem cmpQ_gt {a b : Rat} (h : b < a) : cmpQ a b = 1 := by
 unfold cmpQ
 rw [if_neg (Rat.not_lt.2 (Rat.le_of_lt h)), if_pos h]
set_option maxHeartbeats 2000000 in
set_option maxRecDepth 100000 in
theorem score_Tilt_arg (A B : Option Addr) (m c d : Nat) (at_ : Rat) (hm0 : 0 < m) (ha : at_ < 0 ∨ qint 1 < at_) (hz : qs at_ + 50 ≤ BIG) (w : World) (HT : Tab w) :
  Calls Tryz.prog 38 #[.slice A m c, .slice B m d, qV at_] w fun e w' => e = .returned (.tuple #[qV 0, .int .i64 1]) ∧ Grow w w' := by
 have hp : ∀ W, Calls Tryz.prog 85 #[.slice A m c, .slice B m d] W fun e w' => e = .returned (.bool true) ∧ Grow W w' := fun W => by
  have := score_paired_qq A B m m c d W
  rw [pairedB_yes hm0] at this
  exact this
 have hBl := BIG_le
 have z1 : bl at_.num.natAbs ≤ 1099511627776 := by have := qs_num at_; omega
 have z5 : qs (qint 1) ≤ 41 := qint_sz 1 (by omega)
 have Hp := Lib.hid hp
 by_cases hn : at_.num < 0
 ·have hsg : at_.num.sign = -1 := Int.sign_eq_neg_one_of_neg hn
  have hsn : ∀ W, Calls Tryz.prog 48 #[qV at_] W fun e w' => e = .returned (.int .i64 (-1)) ∧ Grow W w' := fun W => by
   have := frac_Sign at_ z1 W
   rw [hsg] at this
   exact this
  have Hsn := Lib.hid hsn
  clear hp hn hsg hsn ha
  go_enter Tryz.func38, Tryz.ntmps38
  refine wp_seq (wp_r0 ?_)
  intro K hN
  go_wp2_with fail
  generalize hu : World.alloc (World.alloc (World.alloc (World.alloc w _) _) _) _ = u
  obtain ⟨hB, hG⟩ := bx_first [(_, _), (_, _), (_, _), (_, _)] w u hu
  have hF := fr_first w [(67, #[]), (67, #[]), (32, #[]), (32, #[])]
  simp only [numbered, List.map_cons, List.map_nil] at hB hF
  clear hu
  generalize w.heap.size + 1 + 1 + 1 = b6 at hB hF ⊢
  generalize w.heap.size + 1 + 1 = b5 at hB hF ⊢
  generalize w.heap.size + 1 = b4 at hB hF ⊢
  generalize w.heap.size = b3 at hB hF ⊢
  refine NoK.norm (hN _ _ ?_)
  clear hN K
  refine then_norm ?_
  refine wp_seq ?_
  refine wp_seq ?_
  refine wp_rs (w := w) allocs 4 [0, 0, 1, 0] (by kernel_rfl) (by simp only [List.drop_succ_cons, List.drop_nil]; exact rfl) (fun _ => True) noG hB hG trivial ?_
  intro K L hN hL
  simp only [List.zip_cons_cons, List.zip_nil_left]
  refine gyr ?_
  refine gyr ?_
  refine gma (by (rintro v ⟨hgu, hB, hG, -⟩ N hN; go_simp; with_reducible exact gmc (Hp.out _) hN)) ?_
  refine gya ?_
  refine gend ?_
  rintro v ⟨hgu, hB1, hG1, -⟩
  clear hB hG
  have hB := hB1
  have hG := hG1
  clear hB1 hG1
  refine hL _ _ ?_
  clear hL L hgu
  obtain ⟨u, rfl⟩ : ∃ x, x = v := ⟨_, rfl⟩
  refine wpList_nil ?_
  refine NoK.norm (hN _ _ ?_)
  clear hN K
  refine then_norm ?_
  refine wp_cond_false (rfl) ?_
  refine wp_skip ?_
  refine then_norm ?_
  refine wp_seq ?_
  refine wp_rs (w := w) allocs 2 [1, 2] (by kernel_rfl) (by simp only [List.drop_succ_cons, List.drop_zero]; exact rfl) (fun _ => True) noG hB hG trivial ?_
  intro K L hN hL
  simp only [List.zip_cons_cons, List.zip_nil_left]
  refine gma (by (rintro v ⟨hgu, hB, hG, -⟩ N hN; go_simp; with_reducible exact gmc (frac_Of _ (by omega) (by omega) _) hN)) ?_
  refine ga (newObj_Q _ _ _ _ _) fun b8 hb8 hn8 => ?_
  refine okf (by simp only [Act.put, List.setIfInBounds_toArray, List.set_cons_succ, List.set_cons_zero]; exact rfl) ?_
  refine gend ?_
  rintro v ⟨⟨hgu, hB1, hG1, -⟩, h8⟩
  have hF := Fr.new (tk := []) hF hB hG hb8 hn8
  simp only [List.cons_append, List.nil_append, List.map_cons, List.map_nil] at hF
  clear hB hG
  have hB := (Bx.cons h8 hB1)
  have hG := hG1
  clear hB1 hG1 h8
  refine hL _ _ ?_
  clear hL L hgu
  obtain ⟨u, rfl⟩ : ∃ x, x = v := ⟨_, rfl⟩
  have r := hB.r
  simp only [BxR] at r
  go_wp2_with fail
  clear r
  generalize hu0 : World.setCell (World.setCell (World.setCell (World.setCell (World.setCell u _ _) _ _) _ _) _ _) _ _ = u0
  have hBG := over_n hB hF hG 0 rfl 0 [_, _, _, _, _] hu0
  clear hB hG hu0
  obtain ⟨hB, hG⟩ := hBG
  clear u
  obtain ⟨u, rfl⟩ : ∃ x, x = u0 := ⟨_, rfl⟩
  refine NoK.norm (hN _ _ ?_)
  clear hN K
  refine then_norm ?_
  refine wp_seq ?_
  refine wp_seq ?_
  refine wp_rs (w := w) allocs 9 [0, 1, 0, 0, 0, 0, 1, 0, 0] (by kernel_rfl) (by simp only [List.drop_succ_cons, List.drop_nil]; exact rfl) (fun _ => True) noG hB hG trivial ?_
  intro K L hN hL
  simp only [List.zip_cons_cons, List.zip_nil_left]
  refine gyr ?_
  refine gma (by (rintro v ⟨hgu, hB, hG, -⟩ N hN; go_simp; with_reducible exact gmc (Hsn.out _) hN)) ?_
  refine gya ?_
  refine gya ?_
  first | (apply gy; exact rfl; (rintro v ⟨hgu, hB, hG, -⟩ N hN; have r := hB.r; simp only [BxR] at r; go_simp; exact hN)) | (apply gn; exact rfl)
  refine okf (by simp only [Act.put, List.setIfInBounds_toArray, List.set_cons_succ, List.set_cons_zero]; exact rfl) ?_
  first | (apply gy; exact rfl; (rintro v ⟨hgu, hB, hG, -⟩ N hN; have r := hB.r; simp only [BxR] at r; go_simp; exact hN)) | (apply gn; exact rfl)
  refine okf (by simp only [Act.put, List.setIfInBounds_toArray, List.set_cons_succ, List.set_cons_zero]; exact rfl) ?_
  first | (apply gm; exact rfl; (rintro v ⟨hgu, hB, hG, -⟩ N hN; go_simp; ((with_reducible refine (frac_Cmp _ _ _ (by omega)).mono ?_); rintro e w1 ⟨rfl, hb⟩; exact ⟨_, rfl, hN _ hb⟩))) | (apply gmn; exact rfl)
  refine okf (by simp only [Act.put, List.setIfInBounds_toArray, List.set_cons_succ, List.set_cons_zero]; exact rfl) ?_
  first | (apply gy; exact rfl; (rintro v - N hN; go_simp; exact hN)) | (apply gn; exact rfl)
  refine okf (by simp only [Act.put, List.setIfInBounds_toArray, List.set_cons_succ, List.set_cons_zero]; exact rfl) ?_
  refine gya ?_
  refine gend ?_
  rintro v ⟨hgu, hB1, hG1, -⟩
  clear hB hG
  have hB := hB1
  have hG := hG1
  clear hB1 hG1
  refine hL _ _ ?_
  clear hL L hgu
  obtain ⟨u, rfl⟩ : ∃ x, x = v := ⟨_, rfl⟩
  refine wpList_nil ?_
  refine NoK.norm (hN _ _ ?_)
  clear hN K
  refine then_norm ?_
  refine wp_cond_true (rfl) ?_
  refine wp_seq ?_
  refine wp_r0 ?_
  intro K hN
  have r := hB.r
  simp only [BxR] at r
  go_wp2_with fail
  clear r
  generalize hu0 : World.setCell (World.setCell (World.setCell (World.setCell (World.setCell u _ _) _ _) _ _) _ _) _ _ = u0
  have hBG := over_n hB hF hG 4 rfl 0 [_, _, _, _, _] hu0
  clear hB hG hu0
  obtain ⟨hB, hG⟩ := hBG
  clear u
  obtain ⟨u, rfl⟩ : ∃ x, x = u0 := ⟨_, rfl⟩
  refine NoK.norm (hN _ _ ?_)
  clear hN K
  refine then_norm ?_
  refine wp_ret ?_
  refine then_ret ?_
  refine ret_b rfl ?_
  intro N hN
  have r := hB.r
  simp only [BxR] at r
  simp only [results, Tryz.results38]
  go_simp
  refine hN _ ?_
  clear hN N r
  exact ⟨rfl, hG⟩
 ·have h1 : qint 1 < at_ := by
   rcases ha with ha | ha
   ·exact absurd ha (Rat.not_lt.2 (Rat.num_nonneg.1 (by omega)))
   ·exact ha
  have hsg : decide (at_.num.sign < 0) = false := by
   rw [decide_eq_false_iff_not, Int.sign_neg_iff]; exact hn
  obtain ⟨g, hg⟩ : ∃ g, g = at_.num.sign := ⟨_, rfl⟩
  have hsn : ∀ W, Calls Tryz.prog 48 #[qV at_] W fun e w' => e = .returned (.int .i64 g) ∧ Grow W w' := fun W => by
   have := frac_Sign at_ z1 W
   rw [← hg] at this
   exact this
  have hcm : ∀ W, Calls Tryz.prog 25 #[qV at_, qV (qint 1)] W fun e w' => e = .returned (.int .i64 1) ∧ Grow W w' := fun W => by
   have := frac_Cmp at_ (qint 1) W (by omega)
   rw [cmpQ_gt h1] at this
   exact this
  rw [← hg] at hsg
  have Hsn := Lib.hid hsn
  have Hcm := Lib.hid hcm
  clear hp hn hg hsn ha hcm h1
  go_enter Tryz.func38, Tryz.ntmps38
  refine wp_seq (wp_r0 ?_)
  intro K hN
  go_wp2_with fail
  generalize hu : World.alloc (World.alloc (World.alloc (World.alloc w _) _) _) _ = u
  obtain ⟨hB, hG⟩ := bx_first [(_, _), (_, _), (_, _), (_, _)] w u hu
  have hF := fr_first w [(67, #[]), (67, #[]), (32, #[]), (32, #[])]
  simp only [numbered, List.map_cons, List.map_nil] at hB hF
  clear hu
  generalize w.heap.size + 1 + 1 + 1 = b6 at hB hF ⊢
  generalize w.heap.size + 1 + 1 = b5 at hB hF ⊢
  generalize w.heap.size + 1 = b4 at hB hF ⊢
  generalize w.heap.size = b3 at hB hF ⊢
  refine NoK.norm (hN _ _ ?_)
  clear hN K
  refine then_norm ?_
  refine wp_seq ?_
  refine wp_seq ?_
  refine wp_rs (w := w) allocs 4 [0, 0, 1, 0] (by kernel_rfl) (by simp only [List.drop_succ_cons, List.drop_nil]; exact rfl) (fun _ => True) noG hB hG trivial ?_
  intro K L hN hL
  simp only [List.zip_cons_cons, List.zip_nil_left]
  refine gyr ?_
  refine gyr ?_
  refine gma (by (rintro v ⟨hgu, hB, hG, -⟩ N hN; go_simp; with_reducible exact gmc (Hp.out _) hN)) ?_
  refine gya ?_
  refine gend ?_
  rintro v ⟨hgu, hB1, hG1, -⟩
  clear hB hG
  have hB := hB1
  have hG := hG1
  clear hB1 hG1
  refine hL _ _ ?_
  clear hL L hgu
  obtain ⟨u, rfl⟩ : ∃ x, x = v := ⟨_, rfl⟩
  refine wpList_nil ?_
  refine NoK.norm (hN _ _ ?_)
  clear hN K
  refine then_norm ?_
  refine wp_cond_false (rfl) ?_
  refine wp_skip ?_
  refine then_norm ?_
  refine wp_seq ?_
  refine wp_rs (w := w) allocs 2 [1, 2] (by kernel_rfl) (by simp only [List.drop_succ_cons, List.drop_zero]; exact rfl) (fun _ => True) noG hB hG trivial ?_
  intro K L hN hL
  simp only [List.zip_cons_cons, List.zip_nil_left]
  refine gma (by (rintro v ⟨hgu, hB, hG, -⟩ N hN; go_simp; with_reducible exact gmc (frac_Of _ (by omega) (by omega) _) hN)) ?_
  refine ga (newObj_Q _ _ _ _ _) fun b8 hb8 hn8 => ?_
  refine okf (by simp only [Act.put, List.setIfInBounds_toArray, List.set_cons_succ, List.set_cons_zero]; exact rfl) ?_
  refine gend ?_
  rintro v ⟨⟨hgu, hB1, hG1, -⟩, h8⟩
  have hF := Fr.new (tk := []) hF hB hG hb8 hn8
  simp only [List.cons_append, List.nil_append, List.map_cons, List.map_nil] at hF
  clear hB hG
  have hB := (Bx.cons h8 hB1)
  have hG := hG1
  clear hB1 hG1 h8
  refine hL _ _ ?_
  clear hL L hgu
  obtain ⟨u, rfl⟩ : ∃ x, x = v := ⟨_, rfl⟩
  have r := hB.r
  simp only [BxR] at r
  go_wp2_with fail
  clear r
  generalize hu0 : World.setCell (World.setCell (World.setCell (World.setCell (World.setCell u _ _) _ _) _ _) _ _) _ _ = u0
  have hBG := over_n hB hF hG 0 rfl 0 [_, _, _, _, _] hu0
  clear hB hG hu0
  obtain ⟨hB, hG⟩ := hBG
  clear u
  obtain ⟨u, rfl⟩ : ∃ x, x = u0 := ⟨_, rfl⟩
  refine NoK.norm (hN _ _ ?_)
  clear hN K
  refine then_norm ?_
  refine wp_seq ?_
  refine wp_seq ?_
  refine wp_rs (w := w) allocs 9 [0, 1, 0, 0, 0, 0, 1, 0, 0] (by kernel_rfl) (by simp only [List.drop_succ_cons, List.drop_nil]; exact rfl) (fun _ => True) noG hB hG trivial ?_
  intro K L hN hL
  simp only [List.zip_cons_cons, List.zip_nil_left]
  refine gyr ?_
  refine gma (by (rintro v ⟨hgu, hB, hG, -⟩ N hN; go_simp; with_reducible exact gmc (Hsn.out _) hN)) ?_
  refine gya ?_
  refine gya ?_
  first | (apply gy; exact rfl; (rintro v ⟨hgu, hB, hG, -⟩ N hN; have r := hB.r; simp only [BxR] at r; go_simp; exact hN)) | (apply gn; exact rfl)
  refine okf (by simp only [Act.put, List.setIfInBounds_toArray, List.set_cons_succ, List.set_cons_zero]; exact rfl) ?_
  first | (apply gy; exact rfl; (rintro v ⟨hgu, hB, hG, -⟩ N hN; have r := hB.r; simp only [BxR] at r; go_simp; exact hN)) | (apply gn; exact rfl)
  refine okf (by simp only [Act.put, List.setIfInBounds_toArray, List.set_cons_succ, List.set_cons_zero]; exact rfl) ?_
  first | (apply gm; exact rfl; (rintro v ⟨hgu, hB, hG, -⟩ N hN; go_simp; ((with_reducible refine (Hcm.out _).mono ?_); rintro e w1 ⟨rfl, hb⟩; exact ⟨_, rfl, hN _ hb⟩))) | (apply gmn; exact rfl)
  refine okf (by simp only [Act.put, List.setIfInBounds_toArray, List.set_cons_succ, List.set_cons_zero]; exact rfl) ?_
  first | (apply gy; exact rfl; (rintro v - N hN; go_simp; exact hN)) | (apply gn; exact rfl)
  refine okf (by simp only [Act.put, List.setIfInBounds_toArray, List.set_cons_succ, List.set_cons_zero]; exact rfl) ?_
  refine gya ?_
  refine gend ?_
  rintro v ⟨hgu, hB1, hG1, -⟩
  clear hB hG
  have hB := hB1
  have hG := hG1
  clear hB1 hG1
  refine hL _ _ ?_
  clear hL L hgu
  obtain ⟨u, rfl⟩ : ∃ x, x = v := ⟨_, rfl⟩
  refine wpList_nil ?_
  refine NoK.norm (hN _ _ ?_)
  clear hN K
  refine then_norm ?_
  refine wp_cond_true (rfl) ?_
  refine wp_seq ?_
  refine wp_r0 ?_
  intro K hN
  have r := hB.r
  simp only [BxR] at r
  go_wp2_with fail
  clear r
  generalize hu0 : World.setCell (World.setCell (World.setCell (World.setCell (World.setCell u _ _) _ _) _ _) _ _) _ _ = u0
  have hBG := over_n hB hF hG 4 rfl 0 [_, _, _, _, _] hu0
  clear hB hG hu0
  obtain ⟨hB, hG⟩ := hBG
  clear u
  obtain ⟨u, rfl⟩ : ∃ x, x = u0 := ⟨_, rfl⟩
  refine NoK.norm (hN _ _ ?_)
  clear hN K
  refine then_norm ?_
  refine wp_ret ?_
  refine then_ret ?_
  refine ret_b rfl ?_
  intro N hN
  have r := hB.r
  simp only [BxR] at r
  simp only [results, Tryz.results38]
  go_simp
  refine hN _ ?_
  clear hN N r
  exact ⟨rfl, hG⟩
end Go.Proofs.YtimjnkfcnpfoeaaGreatDoor
