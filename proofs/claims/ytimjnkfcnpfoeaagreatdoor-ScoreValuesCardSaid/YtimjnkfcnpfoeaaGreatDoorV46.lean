/-
  Contracts and laws: SheetA.
-/
import Derived.Test.YtimjnkfcnpfoeaaGreatDoorV43
import Derived.Test.YtimjnkfcnpfoeaaGreatDoorV45
set_option linter.unusedSimpArgs false
set_option linter.unusedVariables false
namespace Go.Proofs.YtimjnkfcnpfoeaaGreatDoor
open Go.RowKit
/-- a fraction of the document's and an error -/
def RetE (q : Rat) (k : Int) (w : World) : Ending → World → Prop := RetY (fun p : Az => .tuple #[rzV p q, .int .i64 k]) (fun p W => Rz W p q) w
/-- fractions of the document's that lie beside the boxes bs -/
def LzX (u : World) (bs : List Nat) (A : Option Addr) (l : List Rat) : Prop := Lz u A l ∧ (∀ b off, A = some ⟨b, off, none⟩ → b ∉ bs) ∧ 0 < l.length
theorem LzX.a {u : World} {bs : List Nat} {A : Option Addr} {l : List Rat} (h : LzX u bs A l) : Lz u A l := h.1
theorem LzX.grow {u u' : World} {bs : List Nat} {A : Option Addr} {l : List Rat} (h : LzX u bs A l) (hg : Grow u u') : LzX u' bs A l := ⟨h.1.grow hg, h.2⟩
theorem Cz.far {u : World} {b i : Nat} {p : Az} {q : Rat} (h : Cz u b i p q) {a : Addr} (ha : b ≠ a.block) (v : Value) : Cz (u.setCell a v) b i p q := by
 have key : ∀ j, (u.setCell a v).cell? ⟨b, j, none⟩ = u.cell? ⟨b, j, none⟩ := fun j => World.cell?_of_block (Below.heap_setCell u a v b ha)
 exact ⟨(key _).trans h.1, (key _).trans h.2.1, (key _).trans h.2.2⟩
theorem LzX.put {u u' : World} {bs : List Nat} {A : Option Addr} {l : List Rat} (h : LzX u bs A l) {bl : List (Nat × TypeId × Array Value)} (hB : Bx u bl) (k : Nat) {b : Nat} {t : TypeId} {cs : Array Value} (hk : bl[k]? = some (b, t, cs)) (ht : b ∈ bs ∧ t ≠ 157) (i : Nat) (vs : List Value) (hu : putAll u b i vs = u') : LzX u' bs A l := by
 refine ⟨fun hn => ?_, h.2⟩
 obtain ⟨ba, oa, e, hb, hc⟩ := h.1 hn
 have hne : ba ≠ b := fun e' => h.2.1 ba oa e (e' ▸ ht.1)
 have hsz : ∀ (vs : List Value) (i : Nat) (u : World), (putAll u b i vs).heap.size = u.heap.size := by
  intro vs
  induction vs with
  | nil => exact fun _ _ => rfl
  | cons v vs ih => exact fun i u => (ih (i + 1) (u.setCell ⟨b, i, none⟩ v)).trans (by simp [World.setCell])
 have hcz : ∀ (vs : List Value) (i : Nat) (u : World) (j : Nat) (p : Az) (q : Rat), Cz u ba j p q → Cz (putAll u b i vs) ba j p q := by
  intro vs
  induction vs with
  | nil => exact fun _ _ _ _ _ h => h
  | cons v vs ih => exact fun i u j p q h => ih (i + 1) (u.setCell ⟨b, i, none⟩ v) j p q (h.far (a := ⟨b, i, none⟩) hne v)
 refine ⟨ba, oa, e, by rw [← hu, hsz]; exact hb, fun j hj => ?_⟩
 obtain ⟨p, h1, h2⟩ := hc j hj
 exact ⟨p, h1.put hB k hk ht.2 i vs hu, by rw [← hu]; exact hcz vs i u _ p _ h2⟩
theorem LzX.lt {u : World} {bs : List Nat} {A : Option Addr} {l : List Rat} (h : LzX u bs A l) : ∀ b off, A = some ⟨b, off, none⟩ → b < u.heap.size := fun b off e => by
 obtain ⟨b', off', e', hb, _⟩ := h.1 (fun h0 => by have := h.2.2; rw [h0] at this; cases this)
 rw [e] at e'
 cases e'
 exact hb
theorem LzX.more {v : World} {n b : Nat} {bs : List Nat} {A : Option Addr} {l : List Rat} (h : LzX v bs A l) (hlt : ∀ b off, A = some ⟨b, off, none⟩ → b < n) (hb : n ≤ b) : LzX v (b :: bs) A l :=
 ⟨h.1, fun b' off e hm => by
  rcases List.mem_cons.1 hm with rfl | hm
  ·have := hlt b' off e; omega
  ·exact h.2.1 b' off e hm, h.2.2⟩
theorem LzX.addr {u : World} {bs : List Nat} {A : Option Addr} {l : List Rat} (h : LzX u bs A l) : ∃ b off, A = some ⟨b, off, none⟩ := h.1.addr h.2.2
/-- differences, beside a box that is there already -/
theorem far_beside {A B : Option Addr} {l l' : List Rat} {c d n s : Nat} (hn : n = l.length) (hn' : n = l'.length) (hn0 : 0 < n) (hm : n ≤ 1048576) (hs : ∀ x ∈ l, qs x ≤ s) (hs' : ∀ x ∈ l', qs x ≤ s) (hB : 2 * s + 10 ≤ BIG) {w : World} (h : Lz w A l) (h' : Lz w B l') (bs : List Nat) (W : World) (hg : Grow w W) (hb : ∀ b ∈ bs, b < W.heap.size) :
  Calls Tryz.prog 89 #[.slice A n c, .slice B n d] W (RetY (fun x : Ax => .tuple #[.slice x.1 n x.2, .int .i64 0]) (fun x W' => LzX W' bs x.1 (diffs l l' n)) W) :=
 (ref6_far_ok A B l l' c d n hn hn' hn0 hm s hs hs' hB W (h.grow hg) (h'.grow hg)).mono fun e w' ⟨A', c', he, ⟨hL, hf⟩, hg'⟩ => ⟨(A', c'), he, ⟨hL, fun b off e hmem => by have := hf b off e; have := hb b hmem; omega, by rw [diffs_len]; exact hn0⟩, hg'⟩
theorem sum_diffs (l l' : List Rat) (n : Nat) : qsum (fun i => qmul (gq (diffs l l' n) i) (gq (diffs l l' n) i)) n = qsum (fun i => sqd (gq l i) (gq l' i)) n :=
 qsum_congr fun i hi => by rw [diffs_get l l' hi]; rfl
set_option maxHeartbeats 2000000 in
set_option maxRecDepth 100000 in
theorem ref6_Squares_ok (A B : Option Addr) (l l' : List Rat) (c d n : Nat) (hn : n = l.length) (hn' : n = l'.length) (hn0 : 0 < n) (hm : n ≤ 1048576) (s : Nat) (hs : ∀ x ∈ l, qs x ≤ s) (hs' : ∀ x ∈ l', qs x ≤ s) (hB : n * (4 * s + 3) + 8 * s + 300 ≤ BIG) (w : World) (h : Lz w A l) (h' : Lz w B l') :
  Calls Tryz.prog 33 #[.slice A n c, .slice B n d] w (RetE (qSquares l l' n) 0 w) := by
 have hfar := fun W hg => far_beside (c := c) (d := d) hn hn' hn0 hm hs hs' (by omega) h h' [] W hg (fun b hb => by cases hb)
 have hz : ∀ i, i < n → qs (sqd (gq l i) (gq l' i)) ≤ 4 * s + 2 := fun i hi => qs_sqd _ _ s (hs _ (gq_mem (by omega))) (hs' _ (gq_mem (by omega)))
 have hM : ∀ j, j ≤ n → qs (qsum (fun i => qmul (gq (diffs l l' n) i) (gq (diffs l l' n) i)) j) ≤ n * (4 * s + 3) + 1 := fun j hj => by
  have e : qsum (fun i => qmul (gq (diffs l l' n) i) (gq (diffs l l' n) i)) j = qsum (fun i => sqd (gq l i) (gq l' i)) j := qsum_congr fun i hi => by rw [diffs_get l l' (by omega)]; rfl
  rw [e]
  exact Nat.le_trans (qsum_size _ (4 * s + 2) n hz j hj) (Nat.add_le_add_right (Nat.mul_le_mul_right _ hj) 1)
 have hdot := fun (W : World) (x : Ax) (hx : Lz W x.1 (diffs l l' n)) => ref1_Dot x.1 x.1 (diffs l l' n) (diffs l l' n) x.2 x.2 n (diffs_len l l' n).symm (diffs_len l l' n).symm (by omega) (2 * s + 1) (n * (4 * s + 3) + 1) (diffs_sz hn hn' hs hs') (diffs_sz hn hn' hs hs') hM (by omega) W hx hx
 have z1 := hM n (Nat.le_refl _)
 have hq : qSquares l l' n = qdiv (qsum (fun i => sqd (gq l i) (gq l' i)) n) (qint n) := rfl
 rw [hq]
 rw [sum_diffs] at z1 hdot
 have z2 := qint_sz n (by omega)
 have z3 := qint_nz hn0
 generalize qsum (fun i => sqd (gq l i) (gq l' i)) n = S at *
 generalize diffs l l' n = D at *
 have Hfar := Lib.hid hfar
 have Hdot := Lib.hid hdot
 clear hfar hdot hM hz hs hs' hn hn' h h' hq
 go_enter Tryz.func33, Tryz.ntmps33
 refine wp_seq (wp_r0 ?_)
 intro K hN
 go_wp2_with fail
 generalize hu : World.alloc w _ = u
 obtain ⟨hB, hG⟩ := bx_first [(_, _)] w u hu
 have hF := fr_first w [(41, #[])]
 simp only [numbered, List.map_cons, List.map_nil] at hB hF
 clear hu
 generalize w.heap.size = b4 at hB hF ⊢
 refine NoK.norm (hN _ _ ?_)
 clear hN K
 refine then_norm ?_
 refine wp_seq ?_
 refine wp_rs (w := w) allocs 8 [0, 0, 1, 0, 0, 0, 0, 0] (by kernel_rfl) (by simp only [List.drop_succ_cons, List.drop_nil]; exact rfl) (fun _ => True) noG hB hG trivial ?_
 intro K L hN hL
 simp only [List.zip_cons_cons, List.zip_nil_left]
 refine gya ?_
 refine gya ?_
 refine gx (Ax) (fun x : Ax => .tuple #[.slice x.1 n x.2, .int .i64 0]) (fun x W => LzX W [] x.1 D) (fun x u u' hg h => LzX.grow h hg) rfl ?_ (fun x11 => ?_)
 ·(rintro v ⟨hgu, hB, hG, -⟩ N hN; go_simp; ((with_reducible refine (Hfar.out _ hG).mono ?_); rintro e w1 ⟨x, rfl, hx, hg⟩; exact ⟨_, rfl, hN x w1 hx hg⟩))
 refine okf (by simp only [Act.put, List.setIfInBounds_toArray, List.set_cons_succ, List.set_cons_zero]; exact rfl) ?_
 refine gya ?_
 refine gya ?_
 refine gya ?_
 refine gya ?_
 refine gya ?_
 refine gend ?_
 rintro v ⟨⟨hgu, hB1, hG1, -⟩, hx11⟩
 clear hB hG
 have hB := hB1
 have hG := hG1
 clear hB1 hG1
 refine hL _ _ ?_
 clear hL L hgu
 obtain ⟨u, rfl⟩ : ∃ x, x = v := ⟨_, rfl⟩
 refine wpList_nil ?_
 refine NoK.norm (hN _ _ ?_)
 clear hN K
 have HL := Lib.hid hx11
 clear hx11
 refine then_norm ?_
 refine wp_seq ?_
 refine wp_seq ?_
 refine wp_r0 ?_
 intro K hN
 go_wp2_with fail
 refine NoK.norm (hN _ _ ?_)
 clear hN K
 refine then_norm ?_
 refine wp_cond_false (rfl) ?_
 refine wp_skip ?_
 refine then_norm ?_
 refine wp_seq ?_
 refine wp_rs (w := w) allocs 7 [0, 0, 1, 0, 0, 1, 1] (by kernel_rfl) (by simp only [List.drop_succ_cons, List.drop_zero]; exact rfl) (fun _ => True) noG hB hG trivial ?_
 intro K L hN hL
 simp only [List.zip_cons_cons, List.zip_nil_left]
 refine gya ?_
 refine gya ?_
 refine gr (ratR S) rfl ?_ (fun (x20 : Ax × Ax) => ?_)
 ·(rintro v ⟨hgu, hB, hG, -⟩ N hN; go_simp; ((with_reducible refine (Hdot.out _ x11 (LzX.grow HL.out hgu).a).mono ?_); rintro e w1 ⟨x, rfl, hx, hg⟩; exact ⟨_, rfl, hN x w1 hx hg⟩))
 refine okf (by simp only [natR, intR, ratR, nnR, Act.put, List.setIfInBounds_toArray, List.set_cons_succ, List.set_cons_zero]; exact rfl) ?_
 refine gya ?_
 refine gya ?_
 refine gr (ratR (qint n)) rfl ?_ (fun (x23 : Ax × Ax) => ?_)
 ·(rintro v ⟨⟨hgu, hB, hG, -⟩, hx20⟩ N hN; obtain ⟨hx20a, hx20b⟩ : Rn v x20.1 _ ∧ Rn v x20.2 _ := hx20; go_simp; ((with_reducible refine (ref1_Of n (by omega) (by omega) _).mono ?_); rintro e w1 ⟨x, rfl, hx, hg⟩; exact ⟨_, rfl, hN x w1 hx hg⟩))
 refine okf (by simp only [natR, intR, ratR, nnR, Act.put, List.setIfInBounds_toArray, List.set_cons_succ, List.set_cons_zero]; exact rfl) ?_
 refine gr (ratR (qdiv S (qint n))) rfl ?_ (fun (x24 : Ax × Ax) => ?_)
 ·(rintro v ⟨⟨⟨hgu, hB, hG, -⟩, hx20⟩, hx23⟩ N hN; obtain ⟨hx20a, hx20b⟩ : Rn v x20.1 _ ∧ Rn v x20.2 _ := hx20; obtain ⟨hx23a, hx23b⟩ : Rn v x23.1 _ ∧ Rn v x23.2 _ := hx23; go_simp; ((with_reducible refine (ref1_Div x20.1 x20.2 x23.1 x23.2 S (qint n) _ hx20a hx20b hx23a hx23b (by omega) z3).mono ?_); rintro e w1 ⟨x, rfl, hx, hg⟩; exact ⟨_, rfl, hN x w1 hx hg⟩))
 refine okf (by simp only [natR, intR, ratR, nnR, Act.put, List.setIfInBounds_toArray, List.set_cons_succ, List.set_cons_zero]; exact rfl) ?_
 refine gend ?_
 rintro v ⟨⟨⟨⟨hgu, hB1, hG1, -⟩, hx20⟩, hx23⟩, hx24⟩
 obtain ⟨hx20a, hx20b⟩ : Rn v x20.1 _ ∧ Rn v x20.2 _ := hx20
 obtain ⟨hx23a, hx23b⟩ : Rn v x23.1 _ ∧ Rn v x23.2 _ := hx23
 obtain ⟨hx24a, hx24b⟩ : Rn v x24.1 _ ∧ Rn v x24.2 _ := hx24
 clear HL
 clear hB hG
 have hB := hB1
 have hG := hG1
 clear hB1 hG1
 refine hL _ _ ?_
 clear hL L hgu
 obtain ⟨u, rfl⟩ : ∃ x, x = v := ⟨_, rfl⟩
 have r := hB.r
 simp only [BxR] at r
 go_wp2_with fail
 clear r
 generalize hu0 : World.setCell (World.setCell (World.setCell u _ _) _ _) _ _ = u0
 have hBG := over_n hB hF hG 0 rfl 0 [_, _, _] hu0
 replace hx20a := hx20a.put hB 0 rfl (by first | decide | simp) 0 [_, _, _] hu0
 replace hx20b := hx20b.put hB 0 rfl (by first | decide | simp) 0 [_, _, _] hu0
 replace hx23a := hx23a.put hB 0 rfl (by first | decide | simp) 0 [_, _, _] hu0
 replace hx23b := hx23b.put hB 0 rfl (by first | decide | simp) 0 [_, _, _] hu0
 replace hx24a := hx24a.put hB 0 rfl (by first | decide | simp) 0 [_, _, _] hu0
 replace hx24b := hx24b.put hB 0 rfl (by first | decide | simp) 0 [_, _, _] hu0
 clear hB hG hu0
 obtain ⟨hB, hG⟩ := hBG
 clear u
 obtain ⟨u, rfl⟩ : ∃ x, x = u0 := ⟨_, rfl⟩
 refine NoK.norm (hN _ _ ?_)
 clear hN K
 refine then_norm ?_
 refine wp_ret ?_
 refine ret_b rfl ?_
 intro N hN
 have r := hB.r
 simp only [BxR] at r
 simp only [results, Tryz.results33]
 go_simp
 refine hN _ ?_
 clear hN N r
 exact ⟨x24, rfl, ⟨hx24a, hx24b⟩, hG⟩
set_option maxHeartbeats 1000000 in
set_option maxRecDepth 100000 in
theorem ref6_Squares_no (A B : Option Addr) (m n c d : Nat) (h : pairedB m n = false) (w : World) :
  Calls Tryz.prog 33 #[.slice A m c, .slice B n d] w (RetE 0 5 w) := by
 have Hfar := Lib.hid (ref6_far_no A B m n c d h)
 clear h
 go_enter Tryz.func33, Tryz.ntmps33
 refine wp_seq (wp_r0 ?_)
 intro K hN
 go_wp2_with fail
 generalize hu : World.alloc w _ = u
 obtain ⟨hB, hG⟩ := bx_first [(_, _)] w u hu
 have hF := fr_first w [(41, #[])]
 simp only [numbered, List.map_cons, List.map_nil] at hB hF
 clear hu
 generalize w.heap.size = b4 at hB hF ⊢
 refine NoK.norm (hN _ _ ?_)
 clear hN K
 refine then_norm ?_
 refine wp_seq ?_
 refine wp_rs (w := w) allocs 8 [0, 0, 1, 0, 0, 0, 0, 0] (by kernel_rfl) (by simp only [List.drop_succ_cons, List.drop_nil]; exact rfl) (fun _ => True) noG hB hG trivial ?_
 intro K L hN hL
 simp only [List.zip_cons_cons, List.zip_nil_left]
 refine gya ?_
 refine gya ?_
 refine gma (by (rintro v ⟨hgu, hB, hG, -⟩ N hN; go_simp; with_reducible exact gmc (Hfar.out _) hN)) ?_
 refine gya ?_
 refine gya ?_
 refine gya ?_
 refine gya ?_
 refine gya ?_
 refine gend ?_
 rintro v ⟨hgu, hB1, hG1, -⟩
 clear hB hG
 have hB := hB1
 have hG := hG1
 clear hB1 hG1
 refine hL _ _ ?_
 clear hL L hgu
 obtain ⟨u, rfl⟩ : ∃ x, x = v := ⟨_, rfl⟩
 refine wpList_nil ?_
 refine NoK.norm (hN _ _ ?_)
 clear hN K
 refine then_norm ?_
 refine wp_seq ?_
 refine wp_seq ?_
 refine wp_r0 ?_
 intro K hN
 go_wp2_with fail
 refine NoK.norm (hN _ _ ?_)
 clear hN K
 refine then_norm ?_
 refine wp_cond_true (rfl) ?_
 refine wp_seq ?_
 refine wp_rs (w := w) allocs 2 [1, 0] (by kernel_rfl) (by simp only [List.drop_succ_cons, List.drop_zero]; exact rfl) (fun _ => True) noG hB hG trivial ?_
 intro K L hN hL
 simp only [List.zip_cons_cons, List.zip_nil_left]
 refine gr (ratR (qint 0)) rfl ?_ (fun (x16 : Ax × Ax) => ?_)
 ·(rintro v ⟨hgu, hB, hG, -⟩ N hN; go_simp; ((with_reducible refine (ref1_Of 0 (by omega) (by omega) _).mono ?_); rintro e w1 ⟨x, rfl, hx, hg⟩; exact ⟨_, rfl, hN x w1 hx hg⟩))
 refine okf (by simp only [natR, intR, ratR, nnR, Act.put, List.setIfInBounds_toArray, List.set_cons_succ, List.set_cons_zero]; exact rfl) ?_
 refine gya ?_
 refine gend ?_
 rintro v ⟨⟨hgu, hB1, hG1, -⟩, hx16⟩
 obtain ⟨hx16a, hx16b⟩ : Rn v x16.1 _ ∧ Rn v x16.2 _ := hx16
 clear hB hG
 have hB := hB1
 have hG := hG1
 clear hB1 hG1
 refine hL _ _ ?_
 clear hL L hgu
 obtain ⟨u, rfl⟩ : ∃ x, x = v := ⟨_, rfl⟩
 have r := hB.r
 simp only [BxR] at r
 go_wp2_with fail
 clear r
 generalize hu0 : World.setCell (World.setCell (World.setCell u _ _) _ _) _ _ = u0
 have hBG := over_n hB hF hG 0 rfl 0 [_, _, _] hu0
 replace hx16a := hx16a.put hB 0 rfl (by first | decide | simp) 0 [_, _, _] hu0
 replace hx16b := hx16b.put hB 0 rfl (by first | decide | simp) 0 [_, _, _] hu0
 clear hB hG hu0
 obtain ⟨hB, hG⟩ := hBG
 clear u
 obtain ⟨u, rfl⟩ : ∃ x, x = u0 := ⟨_, rfl⟩
 refine NoK.norm (hN _ _ ?_)
 clear hN K
 refine then_norm ?_
 refine wp_ret ?_
 refine then_ret ?_
 refine ret_b rfl ?_
 intro N hN
 have r := hB.r
 simp only [BxR] at r
 simp only [results, Tryz.results33]
 go_simp
 refine hN _ ?_
 clear hN N r
 exact ⟨x16, rfl, ⟨hx16a, hx16b⟩, hG⟩
set_option maxHeartbeats 2000000 in
set_option maxRecDepth 100000 in
theorem ref6_Sizes_ok (A B : Option Addr) (l l' : List Rat) (c d n : Nat) (hn : n = l.length) (hn' : n = l'.length) (hn0 : 0 < n) (hm : n ≤ 1048576) (s : Nat) (hs : ∀ x ∈ l, qs x ≤ s) (hs' : ∀ x ∈ l', qs x ≤ s) (hB : n * (4 * s + 3) + 8 * s + 300 ≤ BIG) (w : World) (h : Lz w A l) (h' : Lz w B l') :
  Calls Tryz.prog 35 #[.slice A n c, .slice B n d] w (RetE (qSizes l l' n) 0 w) := by
 have hfar := fun (b : Nat) (W : World) (hg : Grow w W) (hb : b < W.heap.size) => far_beside (c := c) (d := d) hn hn' hn0 hm hs hs' (by omega) h h' [b] W hg (fun b' hb' => by rw [List.mem_singleton.1 hb']; exact hb)
 have hz : ∀ i, i < n → qs (absd (gq l i) (gq l' i)) ≤ 4 * s + 2 := fun i hi => Nat.le_trans (qs_absd _ _ s (hs _ (gq_mem (by omega))) (hs' _ (gq_mem (by omega)))) (by omega)
 have hM : ∀ j, j ≤ n → qs (qsum (fun i => absd (gq l i) (gq l' i)) j) ≤ n * (4 * s + 3) + 1 := fun j hj =>
  Nat.le_trans (qsum_size _ (4 * s + 2) n hz j hj) (Nat.add_le_add_right (Nat.mul_le_mul_right _ hj) 1)
 have hD : ∀ j, j < n → absd (gq l j) (gq l' j) = qabs (gq (diffs l l' n) j) := fun j hj => by rw [diffs_get l l' hj]; rfl
 have hDs := diffs_sz hn hn' hs hs'
 have hDl := diffs_len l l' n
 have z2 := qint_sz n (by omega)
 have z3 := qint_nz hn0
 have hq : qSizes l l' n = qdiv (qsum (fun i => absd (gq l i) (gq l' i)) n) (qint n) := rfl
 rw [hq]
 generalize diffs l l' n = D at *
 have Hfar := Lib.hid hfar
 have HM := Lib.hid hM
 have HD := Lib.hid hD
 have HDs := Lib.hid hDs
 have HDl := Lib.hid hDl
 clear hfar hM hz hs hs' hn hn' h h' hq hD hDs hDl
 go_enter Tryz.func35, Tryz.ntmps35
 refine wp_seq (wp_r0 ?_)
 intro K hN
 go_wp2_with fail
 generalize hu : World.alloc w _ = u
 obtain ⟨hB, hG⟩ := bx_first [(_, _)] w u hu
 have hF := fr_first w [(41, #[])]
 simp only [numbered, List.map_cons, List.map_nil] at hB hF
 clear hu
 generalize w.heap.size = b4 at hB hF ⊢
 refine NoK.norm (hN _ _ ?_)
 clear hN K
 refine then_norm ?_
 refine wp_seq ?_
 refine wp_rs (w := w) allocs2 8 [0, 0, 1, 0, 0, 0, 0, 0] (by kernel_rfl) (by simp only [List.drop_succ_cons, List.drop_nil]; exact rfl) (fun _ => True) noG hB hG trivial ?_
 intro K L hN hL
 simp only [List.zip_cons_cons, List.zip_nil_left]
 refine gya ?_
 refine gya ?_
 refine gx (Ax) (fun x : Ax => .tuple #[.slice x.1 n x.2, .int .i64 0]) (fun x W => LzX W [b4] x.1 D) (fun x u u' hg h => LzX.grow h hg) rfl ?_ (fun x13 => ?_)
 ·(rintro v ⟨hgu, hB, hG, -⟩ N hN; go_simp; ((with_reducible refine (Hfar.out b4 _ hG hB.head.lt).mono ?_); rintro e w1 ⟨x, rfl, hx, hg⟩; exact ⟨_, rfl, hN x w1 hx hg⟩))
 refine okf (by simp only [Act.put, List.setIfInBounds_toArray, List.set_cons_succ, List.set_cons_zero]; exact rfl) ?_
 refine gya ?_
 refine gya ?_
 refine gya ?_
 refine gya ?_
 refine gya ?_
 refine gend ?_
 rintro v ⟨⟨hgu, hB1, hG1, -⟩, hx13⟩
 clear hB hG
 have hB := hB1
 have hG := hG1
 clear hB1 hG1
 refine hL _ _ ?_
 clear hL L hgu
 obtain ⟨u, rfl⟩ : ∃ x, x = v := ⟨_, rfl⟩
 refine wpList_nil ?_
 refine NoK.norm (hN _ _ ?_)
 clear hN K
 obtain ⟨A13, c13⟩ := x13
 obtain ⟨ba, oa, hAe⟩ := LzX.addr hx13
 simp only at hAe
 subst hAe
 have hx13 : LzX u [b4] (some ⟨ba, oa, none⟩) D := hx13
 refine then_norm ?_
 refine wp_seq ?_
 refine wp_seq ?_
 refine wp_r0 ?_
 intro K hN
 go_wp2_with fail
 refine NoK.norm (hN _ _ ?_)
 clear hN K
 refine then_norm ?_
 refine wp_cond_false (rfl) ?_
 refine wp_skip ?_
 refine then_norm ?_
 refine wp_seq ?_
 have hlt13 := hx13.lt
 refine wp_rs (w := w) allocs2 2 [1, 2] (by kernel_rfl) (by simp only [List.drop_succ_cons, List.drop_zero]; exact rfl) (fun _ => True) noG hB hG trivial ?_
 intro K L hN hL
 simp only [List.zip_cons_cons, List.zip_nil_left]
 refine gr (ratR (qint 0)) rfl ?_ (fun (x20 : Ax × Ax) => ?_)
 ·(rintro v ⟨hgu, hB, hG, -⟩ N hN; go_simp; ((with_reducible refine (ref1_Of 0 (by omega) (by omega) _).mono ?_); rintro e w1 ⟨x, rfl, hx, hg⟩; exact ⟨_, rfl, hN x w1 hx hg⟩))
 refine okf (by simp only [natR, intR, ratR, nnR, Act.put, List.setIfInBounds_toArray, List.set_cons_succ, List.set_cons_zero]; exact rfl) ?_
 refine ga (newObj_RQ _ _ _ _ _) fun b8 hb8 hn8 => ?_
 refine okf (by simp only [Act.put, List.setIfInBounds_toArray, List.set_cons_succ, List.set_cons_zero]; exact rfl) ?_
 refine gend ?_
 rintro v ⟨⟨⟨hgu, hB1, hG1, -⟩, hx20⟩, h8⟩
 replace hx13 := hx13.grow hgu
 obtain ⟨hx20a, hx20b⟩ : Rn v x20.1 _ ∧ Rn v x20.2 _ := hx20
 have hF := Fr.new (tk := []) hF hB hG hb8 hn8
 simp only [List.cons_append, List.nil_append, List.map_cons, List.map_nil] at hF
 replace hx13 := hx13.more hlt13 hb8
 clear hB hG
 have hB := (Bx.cons h8 hB1)
 have hG := hG1
 clear hB1 hG1 h8
 refine hL _ _ ?_
 clear hL L hgu
 obtain ⟨u, rfl⟩ : ∃ x, x = v := ⟨_, rfl⟩
 have r := hB.r
 simp only [BxR] at r
 go_wp2_with fail
 clear r
 generalize hu0 : World.setCell (World.setCell (World.setCell u _ _) _ _) _ _ = u0
 have hBG := over_n hB hF hG 0 rfl 0 [_, _, _] hu0
 replace hx13 := hx13.put hB 0 rfl (by first | decide | simp) 0 [_, _, _] hu0
 replace hx20a := hx20a.put hB 0 rfl (by first | decide | simp) 0 [_, _, _] hu0
 replace hx20b := hx20b.put hB 0 rfl (by first | decide | simp) 0 [_, _, _] hu0
 clear hB hG hu0
 obtain ⟨hB, hG⟩ := hBG
 clear u
 obtain ⟨u, rfl⟩ : ∃ x, x = u0 := ⟨_, rfl⟩
 refine NoK.norm (hN _ _ ?_)
 clear hN K
 refine then_norm ?_
 refine wp_seq ?_
 refine wp_seq ?_
 refine wp_r0 ?_
 intro K hN
 go_wp2_with fail
 refine NoK.norm (hN _ _ ?_)
 clear hN K
 refine then_norm ?_
 refine wp_block ?_
 go_loopw [9] (fun s0 wr => ∃ (j : Nat) (S : Rat) (p : Az), j ≤ n ∧ s0 = .int .i64 j ∧ (S = qsum (fun i => absd (gq l i) (gq l' i)) j ∧ Rz wr p S ∧ LzX wr [b8, b4] (some ⟨ba, oa, none⟩) D) ∧ Bx wr [(b8, 41, zCellsR p S), (b4, 41, zNone)] ∧ Grow w wr) (fun s0 _ => n - (intOf s0).toNat)
 case atStart => exact ⟨0, qint 0, x20, Nat.zero_le _, rfl, ⟨qint_zero, ⟨hx20a, hx20b⟩, hx13⟩, hB, hG⟩
 case round =>
  clear hB hG
  obtain ⟨j, S, p, hj, rfl, hrel0, hB, hG⟩ := hrel
  obtain ⟨u, rfl⟩ : ∃ x, x = wr := ⟨_, rfl⟩
  have H0 := Lib.hid hrel0
  clear hrel0
  rcases Nat.lt_or_ge j n with hlt0 | hge0
  ·have hdec : decide ((j : Int) < (n : Int)) = true := by simp; omega
   have hjl : j < D.length := by rw [HDl.out]; exact hlt0
   have z1 := HM.out j (by omega)
   have z4 := HDs.out _ (gq_mem hjl)
   have hnx : qsum (fun i => absd (gq l i) (gq l' i)) (j + 1) = qadd (qsum (fun i => absd (gq l i) (gq l' i)) j) (absd (gq l j) (gq l' j)) := rfl
   rw [← H0.out.1, HD.out j hlt0] at hnx
   rw [← H0.out.1] at z1
   have hS := H0.out.2.1
   have hLz := H0.out.2.2
   obtain ⟨r, hrd⟩ := hLz.a.read hjl
   obtain ⟨X, hX⟩ : ∃ F, F = gq D j := ⟨_, rfl⟩
   rw [← hX] at z4 hnx
   simp only [← hX] at hrd
   have z5 := qs_qabs X
   have Hrd := Lib.hid hrd
   have Hnx := Lib.hid hnx
   clear hrd hnx hX hjl H0
   refine wp_seq ?_
   refine wp_seq ?_
   refine wp_r0 ?_
   intro K hN
   go_wp2_with fail
   refine NoK.norm (hN _ _ ?_)
   clear hN K
   refine then_norm ?_
   refine wp_cond_true (rfl) ?_
   refine wp_skip ?_
   refine then_norm ?_
   refine wp_seq ?_
   refine wp_block ?_
   refine wp_rd (w := w) allocs2 7 [] [(0, 0), (0, 1), (0, 2), (0, 3), (0, 4), (1, 5), (1, 6)] (by kernel_rfl) (by kernel_rfl) (by simp only [List.drop_succ_cons, List.drop_zero]; exact rfl) (fun _ => True) noG hB hG trivial ?_
   intro K L hN hL
   simp only [pickOps, List.getElem?_toArray, List.getElem?_cons_zero, List.getElem?_cons_succ]
   refine gyb (by (rintro v ⟨hgu, hB, hG, -⟩ N hN; have r := hB.r; simp only [BxR] at r; obtain ⟨-, c1, c2, c3⟩ := Hrd.out v hgu; go_simp; exact hN)) ?_
   refine gya ?_
   refine gya ?_
   refine gya ?_
   refine gyb (by (rintro v ⟨hgu, hB, hG, -⟩ N hN; have r := hB.r; simp only [BxR] at r; obtain ⟨-, c1, c2, c3⟩ := Hrd.out v hgu; go_simp; exact hN)) ?_
   refine gma (by (rintro v ⟨hgu, hB, hG, -⟩ N hN; go_simp; with_reducible exact gmc (ref1_Abs _ _ _ _) hN)) ?_
   refine gr (ratR (qadd S (qabs X))) rfl ?_ (fun (x33 : Ax × Ax) => ?_)
   ·(rintro v ⟨hgu, hB, hG, -⟩ N hN; go_simp; ((with_reducible refine (ref1_Add p.1 p.2 r.1 r.2 S (qabs X) _ (hS.grow hgu).a (hS.grow hgu).b (abs_rn (Hrd.out _ hgu).1.a) (abs_rd (Hrd.out _ hgu).1.b) (by omega)).mono ?_); rintro e w1 ⟨x, rfl, hx, hg⟩; exact ⟨_, rfl, hN x w1 hx hg⟩))
   refine okf (by simp only [natR, intR, ratR, nnR, Act.put, List.setIfInBounds_toArray, List.set_cons_succ, List.set_cons_zero]; exact rfl) ?_
   refine gend ?_
   rintro v ⟨⟨hgu, hB1, hG1, -⟩, hx33⟩
   replace hS := hS.grow hgu
   replace hLz := hLz.grow hgu
   obtain ⟨hx33a, hx33b⟩ : Rn v x33.1 _ ∧ Rn v x33.2 _ := hx33
   clear hB hG
   have hB := hB1
   have hG := hG1
   clear hB1 hG1
   refine hL _ _ ?_
   clear hL L hgu
   obtain ⟨u, rfl⟩ : ∃ x, x = v := ⟨_, rfl⟩
   have r := hB.r
   simp only [BxR] at r
   go_wp2_with fail
   clear r
   generalize hu0 : World.setCell (World.setCell (World.setCell u _ _) _ _) _ _ = u0
   have hBG := over_n hB hF hG 0 rfl 0 [_, _, _] hu0
   replace hS := hS.put hB 0 rfl (by first | decide | simp) 0 [_, _, _] hu0
   replace hLz := hLz.put hB 0 rfl (by first | decide | simp) 0 [_, _, _] hu0
   replace hx33a := hx33a.put hB 0 rfl (by first | decide | simp) 0 [_, _, _] hu0
   replace hx33b := hx33b.put hB 0 rfl (by first | decide | simp) 0 [_, _, _] hu0
   clear hB hG hu0
   obtain ⟨hB, hG⟩ := hBG
   clear u
   obtain ⟨u, rfl⟩ : ∃ x, x = u0 := ⟨_, rfl⟩
   refine NoK.norm (hN _ _ ?_)
   clear hN K
   refine blk_norm ?_
   refine then_norm ?_
   refine wp_r0 ?_
   intro K hN
   go_wp2_with fail
   refine NoK.norm (hN _ _ ?_)
   clear hN K
   refine then_norm ?_
   go_roundw
   case rel => exact ⟨j + 1, qadd S (qabs X), x33, by omega, by go_num, ⟨Hnx.out.symm, ⟨hx33a, hx33b⟩, hLz⟩, hB, hG⟩
   case measure => simp [intOf]; try omega
  ·obtain rfl : n = j := by omega
   have hdec : decide ((n : Int) < (n : Int)) = false := by simp
   have hS := H0.out.2.1
   have hLz := H0.out.2.2
   have z1 := HM.out n (by omega)
   rw [← H0.out.1] at z1
   have HS0 := Lib.hid H0.out.1
   clear H0
   refine wp_seq ?_
   refine wp_seq ?_
   refine wp_r0 ?_
   intro K hN
   go_wp2_with fail
   refine NoK.norm (hN _ _ ?_)
   clear hN K
   refine then_norm ?_
   refine wp_cond_false (rfl) ?_
   refine wp_exit ?_
   refine then_exit ?_
   refine then_exit ?_
   refine blk_exit ?_
   refine then_norm ?_
   refine wp_seq ?_
   refine wp_rd (w := w) allocs2 5 [] [(0, 0), (0, 1), (0, 2), (1, 3), (1, 4)] (by kernel_rfl) (by kernel_rfl) (by simp only [List.drop_succ_cons, List.drop_zero]; exact rfl) (fun _ => True) noG hB hG trivial ?_
   intro K L hN hL
   simp only [pickOps, List.getElem?_toArray, List.getElem?_cons_zero, List.getElem?_cons_succ]
   refine gyr ?_
   refine gya ?_
   refine gya ?_
   refine gr (ratR (qint n)) rfl ?_ (fun (x37 : Ax × Ax) => ?_)
   ·(rintro v ⟨hgu, hB, hG, -⟩ N hN; go_simp; ((with_reducible refine (ref1_Of n (by omega) (by omega) _).mono ?_); rintro e w1 ⟨x, rfl, hx, hg⟩; exact ⟨_, rfl, hN x w1 hx hg⟩))
   refine okf (by simp only [natR, intR, ratR, nnR, Act.put, List.setIfInBounds_toArray, List.set_cons_succ, List.set_cons_zero]; exact rfl) ?_
   refine gr (ratR (qdiv S (qint n))) rfl ?_ (fun (x38 : Ax × Ax) => ?_)
   ·(rintro v ⟨⟨hgu, hB, hG, -⟩, hx37⟩ N hN; obtain ⟨hx37a, hx37b⟩ : Rn v x37.1 _ ∧ Rn v x37.2 _ := hx37; go_simp; ((with_reducible refine (ref1_Div p.1 p.2 x37.1 x37.2 S (qint n) _ (hS.grow hgu).a (hS.grow hgu).b hx37a hx37b (by omega) z3).mono ?_); rintro e w1 ⟨x, rfl, hx, hg⟩; exact ⟨_, rfl, hN x w1 hx hg⟩))
   refine okf (by simp only [natR, intR, ratR, nnR, Act.put, List.setIfInBounds_toArray, List.set_cons_succ, List.set_cons_zero]; exact rfl) ?_
   refine gend ?_
   rintro v ⟨⟨⟨hgu, hB1, hG1, -⟩, hx37⟩, hx38⟩
   replace hS := hS.grow hgu
   replace hLz := hLz.grow hgu
   obtain ⟨hx37a, hx37b⟩ : Rn v x37.1 _ ∧ Rn v x37.2 _ := hx37
   obtain ⟨hx38a, hx38b⟩ : Rn v x38.1 _ ∧ Rn v x38.2 _ := hx38
   clear hB hG
   have hB := hB1
   have hG := hG1
   clear hB1 hG1
   refine hL _ _ ?_
   clear hL L hgu
   obtain ⟨u, rfl⟩ : ∃ x, x = v := ⟨_, rfl⟩
   have r := hB.r
   simp only [BxR] at r
   go_wp2_with fail
   clear r
   generalize hu0 : World.setCell (World.setCell (World.setCell u _ _) _ _) _ _ = u0
   have hBG := over_n hB hF hG 1 rfl 0 [_, _, _] hu0
   replace hS := hS.put hB 1 rfl (by first | decide | simp) 0 [_, _, _] hu0
   replace hLz := hLz.put hB 1 rfl (by first | decide | simp) 0 [_, _, _] hu0
   replace hx37a := hx37a.put hB 1 rfl (by first | decide | simp) 0 [_, _, _] hu0
   replace hx37b := hx37b.put hB 1 rfl (by first | decide | simp) 0 [_, _, _] hu0
   replace hx38a := hx38a.put hB 1 rfl (by first | decide | simp) 0 [_, _, _] hu0
   replace hx38b := hx38b.put hB 1 rfl (by first | decide | simp) 0 [_, _, _] hu0
   clear hB hG hu0
   obtain ⟨hB, hG⟩ := hBG
   clear u
   obtain ⟨u, rfl⟩ : ∃ x, x = u0 := ⟨_, rfl⟩
   refine NoK.norm (hN _ _ ?_)
   clear hN K
   refine then_norm ?_
   refine wp_ret ?_
   refine ret_b rfl ?_
   intro N hN
   have r := hB.r
   simp only [BxR] at r
   simp only [results, Tryz.results35]
   go_simp
   refine hN _ ?_
   clear hN N r
   exact ⟨x38, by first | (rw [← HS0.out]; done) | (rw [← HS0.out]; rfl), by rw [← HS0.out]; exact ⟨hx38a, hx38b⟩, hG⟩
set_option maxHeartbeats 1000000 in
set_option maxRecDepth 100000 in
theorem ref6_Sizes_no (A B : Option Addr) (m n c d : Nat) (h : pairedB m n = false) (w : World) :
  Calls Tryz.prog 35 #[.slice A m c, .slice B n d] w (RetE 0 5 w) := by
 have Hfar := Lib.hid (ref6_far_no A B m n c d h)
 clear h
 go_enter Tryz.func35, Tryz.ntmps35
 refine wp_seq (wp_r0 ?_)
 intro K hN
 go_wp2_with fail
 generalize hu : World.alloc w _ = u
 obtain ⟨hB, hG⟩ := bx_first [(_, _)] w u hu
 have hF := fr_first w [(41, #[])]
 simp only [numbered, List.map_cons, List.map_nil] at hB hF
 clear hu
 generalize w.heap.size = b4 at hB hF ⊢
 refine NoK.norm (hN _ _ ?_)
 clear hN K
 refine then_norm ?_
 refine wp_seq ?_
 refine wp_rs (w := w) allocs2 8 [0, 0, 1, 0, 0, 0, 0, 0] (by kernel_rfl) (by simp only [List.drop_succ_cons, List.drop_nil]; exact rfl) (fun _ => True) noG hB hG trivial ?_
 intro K L hN hL
 simp only [List.zip_cons_cons, List.zip_nil_left]
 refine gya ?_
 refine gya ?_
 refine gma (by (rintro v ⟨hgu, hB, hG, -⟩ N hN; go_simp; with_reducible exact gmc (Hfar.out _) hN)) ?_
 refine gya ?_
 refine gya ?_
 refine gya ?_
 refine gya ?_
 refine gya ?_
 refine gend ?_
 rintro v ⟨hgu, hB1, hG1, -⟩
 clear hB hG
 have hB := hB1
 have hG := hG1
 clear hB1 hG1
 refine hL _ _ ?_
 clear hL L hgu
 obtain ⟨u, rfl⟩ : ∃ x, x = v := ⟨_, rfl⟩
 refine wpList_nil ?_
 refine NoK.norm (hN _ _ ?_)
 clear hN K
 refine then_norm ?_
 refine wp_seq ?_
 refine wp_seq ?_
 refine wp_r0 ?_
 intro K hN
 go_wp2_with fail
 refine NoK.norm (hN _ _ ?_)
 clear hN K
 refine then_norm ?_
 refine wp_cond_true (rfl) ?_
 refine wp_seq ?_
 refine wp_rs (w := w) allocs2 2 [1, 0] (by kernel_rfl) (by simp only [List.drop_succ_cons, List.drop_zero]; exact rfl) (fun _ => True) noG hB hG trivial ?_
 intro K L hN hL
 simp only [List.zip_cons_cons, List.zip_nil_left]
 refine gr (ratR (qint 0)) rfl ?_ (fun (x18 : Ax × Ax) => ?_)
 ·(rintro v ⟨hgu, hB, hG, -⟩ N hN; go_simp; ((with_reducible refine (ref1_Of 0 (by omega) (by omega) _).mono ?_); rintro e w1 ⟨x, rfl, hx, hg⟩; exact ⟨_, rfl, hN x w1 hx hg⟩))
 refine okf (by simp only [natR, intR, ratR, nnR, Act.put, List.setIfInBounds_toArray, List.set_cons_succ, List.set_cons_zero]; exact rfl) ?_
 refine gya ?_
 refine gend ?_
 rintro v ⟨⟨hgu, hB1, hG1, -⟩, hx18⟩
 obtain ⟨hx18a, hx18b⟩ : Rn v x18.1 _ ∧ Rn v x18.2 _ := hx18
 clear hB hG
 have hB := hB1
 have hG := hG1
 clear hB1 hG1
 refine hL _ _ ?_
 clear hL L hgu
 obtain ⟨u, rfl⟩ : ∃ x, x = v := ⟨_, rfl⟩
 have r := hB.r
 simp only [BxR] at r
 go_wp2_with fail
 clear r
 generalize hu0 : World.setCell (World.setCell (World.setCell u _ _) _ _) _ _ = u0
 have hBG := over_n hB hF hG 0 rfl 0 [_, _, _] hu0
 replace hx18a := hx18a.put hB 0 rfl (by first | decide | simp) 0 [_, _, _] hu0
 replace hx18b := hx18b.put hB 0 rfl (by first | decide | simp) 0 [_, _, _] hu0
 clear hB hG hu0
 obtain ⟨hB, hG⟩ := hBG
 clear u
 obtain ⟨u, rfl⟩ : ∃ x, x = u0 := ⟨_, rfl⟩
 refine NoK.norm (hN _ _ ?_)
 clear hN K
 refine then_norm ?_
 refine wp_ret ?_
 refine then_ret ?_
 refine ret_b rfl ?_
 intro N hN
 have r := hB.r
 simp only [BxR] at r
 simp only [results, Tryz.results35]
 go_simp
 refine hN _ ?_
 clear hN N r
 exact ⟨x18, rfl, ⟨hx18a, hx18b⟩, hG⟩
end Go.Proofs.YtimjnkfcnpfoeaaGreatDoor
