/-
  Contracts and laws: SheetC.
-/
import Derived.Test.YtimjnkfcnpfoeaaGreatDoorV47
set_option linter.unusedSimpArgs false
set_option linter.unusedVariables false
namespace Go.Proofs.YtimjnkfcnpfoeaaGreatDoor
open Go.RowKit
theorem gq_repl {n i : Nat} (q : Rat) (h : i < n) : gq (List.replicate n q) i = q := by
 have : (List.replicate n q)[i]? = some q := by simp [h]
 unfold gq
 rw [this]
 rfl
theorem off_repl (l : List Rat) (q : Rat) (n : Nat) : qSquares l (List.replicate n q) n = qOff l q n := by
 unfold qSquares qOff
 rw [qsum_congr fun i hi => by rw [gq_repl q hi]]
set_option maxHeartbeats 4000000 in
set_option maxRecDepth 100000 in
theorem ref6_Told_ok (A B : Option Addr) (l l' : List Rat) (c d n : Nat) (hn : n = l.length) (hn' : n = l'.length) (hn0 : 0 < n) (hm : n ≤ 1048576) (s S : Nat) (hs : ∀ x ∈ l, qs x ≤ s) (hs' : ∀ x ∈ l', qs x ≤ s) (hS1 : s ≤ S) (hS2 : n * (s + 1) + 50 ≤ S) (hB : 4 * (n * (4 * S + 3)) + 100 * S + 1000 ≤ BIG) (w : World) (h : Lz w A l) (h' : Lz w B l') :
  Calls Tryz.prog 37 #[.slice A n c, .slice B n d] w (if qOff l (qMean l n) n = 0 then RetE 0 6 w else RetE (toldQ l l' n) 0 w) := by
 have hsS : ∀ x ∈ l, qs x ≤ S := fun x hx => Nat.le_trans (hs x hx) hS1
 have hsS' : ∀ x ∈ l', qs x ≤ S := fun x hx => Nat.le_trans (hs' x hx) hS1
 have hsq := fun (W : World) (hg : Grow w W) => ref6_Squares_ok A B l l' c d n hn hn' hn0 hm S hsS hsS' (by omega) W (h.grow hg) (h'.grow hg)
 have hmean := fun (W : World) (hg : Grow w W) => ref1_Mean A l c n hn hn0 (by omega) s hs (by omega) W (h.grow hg)
 have z1 : qs (qMean l n) ≤ S := Nat.le_trans (mean_size (by omega) (fun i hi => hs _ (gq_mem (l := l) (by omega)))) (by omega)
 have hoff := fun (W : World) (hg : Grow w W) (A' : Option Addr) (c' : Nat) (hL : Lz W A' (List.replicate n (qMean l n))) =>
  ref6_Squares_ok A A' l (List.replicate n (qMean l n)) c c' n hn (by rw [List.length_replicate]) hn0 hm S hsS (fun x hx => by rw [(List.mem_replicate.1 hx).2]; exact z1) (by omega) W (h.grow hg) hL
 simp only [off_repl] at hoff
 have z2 : qs (qSquares l l' n) ≤ n * (4 * S + 3) + 42 := mean_size (by omega) (fun i hi => qs_sqd _ _ S (hsS _ (gq_mem (by omega))) (hsS' _ (gq_mem (by omega))))
 have z3 : qs (qOff l (qMean l n) n) ≤ n * (4 * S + 3) + 42 := mean_size (by omega) (fun i hi => qs_sqd _ _ S (hsS _ (gq_mem (by omega))) z1)
 have ht : toldQ l l' n = qsub (qint 1) (qdiv (qSquares l l' n) (qOff l (qMean l n) n)) := rfl
 generalize qMean l n = mid at *
 generalize qSquares l l' n = miss at *
 generalize qOff l mid n = off at *
 rw [ht]
 have z4 : qs (qdiv miss off) ≤ 2 * (n * (4 * S + 3)) + 84 := by have := qs_div miss off; unfold qdiv; omega
 have z5 : qs (qint 1) ≤ 41 := qint_sz 1 (by omega)
 have hsn := fun (W : World) (x : Az) => ref1_Sign x.1 x.2 off W
 have hg0 : off.num.sign = 0 ↔ off = 0 := by rw [Int.sign_eq_zero_iff_zero, Rat.num_eq_zero]
 obtain ⟨g, hg⟩ : ∃ g, g = off.num.sign := ⟨_, rfl⟩
 rw [← hg] at hg0
 simp only [← hg] at hsn
 have hdv := fun (W : World) (x y : Az) e1 e2 e3 e4 (h0 : off ≠ 0) => ref1_Div x.1 x.2 y.1 y.2 miss off W e1 e2 e3 e4 (by omega) h0
 obtain ⟨part, hpart⟩ : ∃ p, p = qdiv miss off := ⟨_, rfl⟩
 rw [← hpart] at z4 ⊢
 simp only [← hpart] at hdv
 have hsb := fun (W : World) (x y : Az) e1 e2 e3 e4 => ref1_Sub x.1 x.2 y.1 y.2 (qint 1) part W e1 e2 e3 e4 (by omega)
 obtain ⟨res, hres⟩ : ∃ p, p = qsub (qint 1) part := ⟨_, rfl⟩
 rw [← hres]
 simp only [← hres] at hsb
 have Hsq := Lib.hid hsq
 have Hmean := Lib.hid hmean
 have Hoff := Lib.hid hoff
 have Hsn := Lib.hid hsn
 have Hdv := Lib.hid hdv
 have Hsb := Lib.hid hsb
 have Hn := Lib.hid hn
 clear hsq hmean hoff h h' hs hs' hsS hsS' hn hn' ht hsn hdv hsb hg hpart hres
 by_cases h0 : off = 0
 ·rw [if_pos h0]
  have hz : (g == 0) = true := by simpa using hg0.2 h0
  clear hg0 h0
  go_enter Tryz.func37, Tryz.ntmps37
  refine wp_seq (wp_r0 ?_)
  intro K hN
  go_wp2_with fail
  generalize hu : World.alloc w _ = u
  obtain ⟨hB, hG⟩ := bx_first [(_, _)] w u hu
  have hF := fr_first w [(41, #[])]
  simp only [numbered, List.map_cons, List.map_nil] at hB hF
  clear hu
  generalize w.heap.size = b4 at hB hF ⊢
  refine NoK.norm (hN _ _ ?_)
  clear hN K
  refine then_norm ?_
  refine wp_seq ?_
  refine wp_rs (w := w) allocs2 7 [0, 0, 1, 0, 0, 0, 2] (by kernel_rfl) (by simp only [List.drop_succ_cons, List.drop_zero]; exact rfl) (fun _ => True) noG hB hG trivial ?_
  intro K L hN hL
  simp only [List.zip_cons_cons, List.zip_nil_left]
  refine gya ?_
  refine gya ?_
  refine gx (Az) (fun p : Az => .tuple #[rzV p miss, .int .i64 0]) (fun p W => Rz W p miss) (fun p u u' hg h => Rz.grow h hg) rfl ?_ (fun x16 => ?_)
  ·(rintro v ⟨hgu, hB, hG, -⟩ N hN; go_simp; ((with_reducible refine (Hsq.out _ hG).mono ?_); rintro e w1 ⟨x, rfl, hx, hg⟩; exact ⟨_, rfl, hN x w1 hx hg⟩))
  refine okf (by simp only [Act.put, List.setIfInBounds_toArray, List.set_cons_succ, List.set_cons_zero]; exact rfl) ?_
  refine gya ?_
  refine gya ?_
  refine gya ?_
  refine ga (newObj_RQ _ _ _ _ _) fun b6 hb6 hn6 => ?_
  refine okf (by simp only [Act.put, List.setIfInBounds_toArray, List.set_cons_succ, List.set_cons_zero]; exact rfl) ?_
  refine gend ?_
  rintro v ⟨⟨⟨hgu, hB1, hG1, -⟩, hx16⟩, h6⟩
  have hF := Fr.new (tk := []) hF hB hG hb6 hn6
  simp only [List.cons_append, List.nil_append, List.map_cons, List.map_nil] at hF
  clear hB hG
  have hB := (Bx.cons h6 hB1)
  have hG := hG1
  clear hB1 hG1 h6
  refine hL _ _ ?_
  clear hL L hgu
  obtain ⟨u, rfl⟩ : ∃ x, x = v := ⟨_, rfl⟩
  have r := hB.r
  simp only [BxR] at r
  go_wp2_with fail
  clear r
  generalize hu0 : World.setCell (World.setCell (World.setCell u _ _) _ _) _ _ = u0
  have hBG := over_n hB hF hG 0 rfl 0 [_, _, _] hu0
  replace hx16 := hx16.put hB 0 rfl (by first | decide | simp) 0 [_, _, _] hu0
  clear hB hG hu0
  obtain ⟨hB, hG⟩ := hBG
  clear u
  obtain ⟨u, rfl⟩ : ∃ x, x = u0 := ⟨_, rfl⟩
  refine NoK.norm (hN _ _ ?_)
  clear hN K
  refine then_norm ?_
  refine wp_seq ?_
  refine wp_seq ?_
  refine wp_r0 ?_
  intro K hN
  go_wp2_with fail
  refine NoK.norm (hN _ _ ?_)
  clear hN K
  refine then_norm ?_
  refine wp_cond_false (rfl) ?_
  refine wp_skip ?_
  refine then_norm ?_
  refine wp_seq ?_
  refine wp_rs (w := w) allocs2 3 [0, 1, 2] (by kernel_rfl) (by simp only [List.drop_succ_cons, List.drop_zero]; exact rfl) (fun _ => True) noG hB hG trivial ?_
  intro K L hN hL
  simp only [List.zip_cons_cons, List.zip_nil_left]
  refine gya ?_
  refine gr (ratR mid) rfl ?_ (fun (x24 : Ax × Ax) => ?_)
  ·(rintro v ⟨hgu, hB, hG, -⟩ N hN; go_simp; ((with_reducible refine (Hmean.out _ hG).mono ?_); rintro e w1 ⟨x, rfl, hx, hg⟩; exact ⟨_, rfl, hN x w1 hx hg⟩))
  refine okf (by simp only [natR, intR, ratR, nnR, Act.put, List.setIfInBounds_toArray, List.set_cons_succ, List.set_cons_zero]; exact rfl) ?_
  refine ga (newObj_RQ _ _ _ _ _) fun b8 hb8 hn8 => ?_
  refine okf (by simp only [Act.put, List.setIfInBounds_toArray, List.set_cons_succ, List.set_cons_zero]; exact rfl) ?_
  refine gend ?_
  rintro v ⟨⟨⟨hgu, hB1, hG1, -⟩, hx24⟩, h8⟩
  replace hx16 := hx16.grow hgu
  obtain ⟨hx24a, hx24b⟩ : Rn v x24.1 _ ∧ Rn v x24.2 _ := hx24
  have hF := Fr.new (tk := []) hF hB hG hb8 hn8
  simp only [List.cons_append, List.nil_append, List.map_cons, List.map_nil] at hF
  clear hB hG
  have hB := (Bx.cons h8 hB1)
  have hG := hG1
  clear hB1 hG1 h8
  refine hL _ _ ?_
  clear hL L hgu
  obtain ⟨u, rfl⟩ : ∃ x, x = v := ⟨_, rfl⟩
  have r := hB.r
  simp only [BxR] at r
  go_wp2_with fail
  clear r
  generalize hu0 : World.setCell (World.setCell (World.setCell u _ _) _ _) _ _ = u0
  have hBG := over_n hB hF hG 0 rfl 0 [_, _, _] hu0
  replace hx16 := hx16.put hB 0 rfl (by first | decide | simp) 0 [_, _, _] hu0
  replace hx24a := hx24a.put hB 0 rfl (by first | decide | simp) 0 [_, _, _] hu0
  replace hx24b := hx24b.put hB 0 rfl (by first | decide | simp) 0 [_, _, _] hu0
  clear hB hG hu0
  obtain ⟨hB, hG⟩ := hBG
  clear u
  obtain ⟨u, rfl⟩ : ∃ x, x = u0 := ⟨_, rfl⟩
  refine NoK.norm (hN _ _ ?_)
  clear hN K
  refine then_norm ?_
  refine wp_seq ?_
  refine wp_r0 ?_
  intro K hN
  go_wp2_with fail
  refine NoK.norm (hN _ _ ?_)
  clear hN K
  refine then_norm ?_
  refine wp_seq ?_
  refine wp_seq ?_
  refine wp_r0 ?_
  intro K hN
  go_wp2_with fail
  refine NoK.norm (hN _ _ ?_)
  clear hN K
  refine then_norm ?_
  refine wp_block ?_
  have HBX := Lib.hid hB
  have HFX := Lib.hid hF
  have HG0 := Lib.hid hG
  clear hB hF hG
  obtain ⟨w0, rfl⟩ : ∃ x, x = w := ⟨_, rfl⟩
  obtain ⟨w, hwu⟩ : ∃ x, x = u := ⟨_, rfl⟩
  rw [← hwu] at HBX HG0 hx16 hx24a hx24b
  have hG : Grow w u := hwu ▸ Grow.refl u
  clear hwu
  go_loopw [10, 9] (fun s0 s1 wr => ∃ (i : Nat) (ps : List Zr), i ≤ n ∧ s0 = .int .i64 i ∧ ps.map (·.2) = List.replicate i mid ∧ AllZ wr ps ∧ wr.ownsRow w.heap.size 41 3 s1 i (ps.flatMap zrL) ∧ Grow w wr) (fun s0 _ _ => n - (intOf s0).toNat)
  case atStart => exact ⟨0, [], Nat.zero_le _, rfl, rfl, AllZ.nil _, World.ownsRow_nil _ _ _ _, hG⟩
  case round =>
   clear hG u
   obtain ⟨i, ps, hi, rfl, hps, hA, ho, hG⟩ := hrel
   obtain ⟨u, rfl⟩ : ∃ x, x = wr := ⟨_, rfl⟩
   have Ho := Lib.hid ho
   have Hps := Lib.hid hps
   clear ho hps
   rcases Nat.lt_or_ge i n with hlt | hge
   ·have hB := Bx.nil u
    have hF := Fr.nil w
    have hdec : decide ((i : Int) < (n : Int)) = true := by simp; omega
    refine wp_seq ?_
    refine wp_seq ?_
    refine wp_r0 ?_
    intro K hN
    go_wp2_with fail
    refine NoK.norm (hN _ _ ?_)
    clear hN K
    refine then_norm ?_
    refine wp_cond_true (rfl) ?_
    refine wp_skip ?_
    refine then_norm ?_
    refine wp_seq ?_
    refine wp_block ?_
    refine wp_rs (w := w) allocs2 2 [0, 0] (by kernel_rfl) (by simp only [List.drop_succ_cons, List.drop_zero]; exact rfl) (fun _ => True) noG hB hG trivial ?_
    intro K L hN hL
    simp only [List.zip_cons_cons, List.zip_nil_left]
    refine gya ?_
    refine gyb (by (rintro v ⟨hgu, hB, hG, -⟩ N hN; have r := hB.r; simp only [BxR] at r; have r8 := (HBX.out.grow hG).r; simp only [BxR] at r8; go_simp; exact hN)) ?_
    refine gend ?_
    rintro v ⟨hgu, hB1, hG1, -⟩
    replace hA := hA.grow hgu
    have ROWn := Lib.hid (own_grow' Ho.out hgu)
    clear Ho
    have Ho := ROWn
    clear ROWn
    clear hB hG
    have hB := hB1
    have hG := hG1
    clear hB1 hG1
    refine hL _ _ ?_
    clear hL L hgu
    obtain ⟨u, rfl⟩ : ∃ x, x = v := ⟨_, rfl⟩
    refine app_tailG ei_RQ w.heap.size _ _ _ _ (zL x24 mid) rfl rfl (bs_RQ x24.1 x24.2 mid u) rfl (fun _ => rfl) (fun _ => rfl) (fun _ _ => rfl) Ho.out (by omega) (by omega) hG.sz fun p v' w' g1 g2 g3 => ?_
    have hBn := Bx.nil w'
    have hGn := own_growth Ho.out hG g2
    replace hA := hA.own Ho.out (by decide) g2
    clear Ho hB hG
    have Ho := Lib.hid g1
    have hB := hBn
    have hG := hGn
    clear g1 g2 g3 hBn hGn
    obtain ⟨u, rfl⟩ : ∃ x, x = w' := ⟨_, rfl⟩
    simp only [Act.put, List.setIfInBounds_toArray, List.set_cons_succ, List.set_cons_zero]
    refine NoK.norm (hN _ _ ?_)
    clear hN K
    refine blk_norm ?_
    refine then_norm ?_
    refine wp_r0 ?_
    intro K hN
    go_wp2_with fail
    refine NoK.norm (hN _ _ ?_)
    clear hN K
    refine then_norm ?_
    go_roundw
    case rel => exact ⟨i + 1, ps ++ [(x24, mid)], by omega, by go_num, by rw [List.map_append, Hps.out, List.replicate_succ']; rfl, hA.snoc (hx24a.grow hG) (hx24b.grow hG), by have := Ho.out; rw [List.flatMap_append]; simpa [zrL] using this, hG⟩
    case measure => simp [intOf]; omega
   ·obtain rfl : n = i := by omega
    have hdec : decide ((n : Int) < (n : Int)) = false := by simp
    obtain ⟨A', cc, rfl, hcc1, hcc2, hL, hkl⟩ := own_lz Ho.out hA
    rw [Hps.out] at hL
    have HLl := Lib.hid hL
    have hB := HBX.out.grow hG
    have hF := HFX.out
    replace hx16 := hx16.grow hG
    replace hx24a := hx24a.grow hG
    replace hx24b := hx24b.grow hG
    have hG0 := HG0.out.trans hG
    clear hL hkl hG HBX HFX HG0 hA Ho Hps hcc1
    obtain ⟨w1, rfl⟩ : ∃ x, x = w := ⟨_, rfl⟩
    obtain ⟨w, rfl⟩ : ∃ x, x = w0 := ⟨_, rfl⟩
    have hG := hG0
    clear hG0
    refine wp_seq ?_
    refine wp_seq ?_
    refine wp_r0 ?_
    intro K hN
    go_wp2_with fail
    refine NoK.norm (hN _ _ ?_)
    clear hN K
    refine then_norm ?_
    refine wp_cond_false (rfl) ?_
    refine wp_exit ?_
    refine then_exit ?_
    refine then_exit ?_
    refine blk_exit ?_
    refine then_norm ?_
    refine wp_seq ?_
    refine wp_rs (w := w) allocs2 7 [0, 0, 1, 0, 0, 0, 2] (by kernel_rfl) (by simp only [List.drop_succ_cons, List.drop_zero]; exact rfl) (fun _ => True) noG hB hG trivial ?_
    intro K L hN hL
    simp only [List.zip_cons_cons, List.zip_nil_left]
    refine gya ?_
    refine gya ?_
    refine gx (Az) (fun p : Az => .tuple #[rzV p off, .int .i64 0]) (fun p W => Rz W p off) (fun p u u' hg h => Rz.grow h hg) rfl ?_ (fun x38 => ?_)
    ·(rintro v ⟨hgu, hB, hG, -⟩ N hN; go_simp; ((with_reducible refine (Hoff.out _ hG A' cc (HLl.out.grow hgu)).mono ?_); rintro e w1 ⟨x, rfl, hx, hg⟩; exact ⟨_, rfl, hN x w1 hx hg⟩))
    refine okf (by simp only [Act.put, List.setIfInBounds_toArray, List.set_cons_succ, List.set_cons_zero]; exact rfl) ?_
    refine gya ?_
    refine gya ?_
    refine gya ?_
    refine ga (newObj_RQ _ _ _ _ _) fun b11 hb11 hn11 => ?_
    refine okf (by simp only [Act.put, List.setIfInBounds_toArray, List.set_cons_succ, List.set_cons_zero]; exact rfl) ?_
    refine gend ?_
    rintro v ⟨⟨⟨hgu, hB1, hG1, -⟩, hx38⟩, h11⟩
    replace hx16 := hx16.grow hgu
    replace hx24a := hx24a.grow hgu
    replace hx24b := hx24b.grow hgu
    have hF := Fr.new (tk := []) hF hB hG hb11 hn11
    simp only [List.cons_append, List.nil_append, List.map_cons, List.map_nil] at hF
    clear HLl
    clear hB hG
    have hB := (Bx.cons h11 hB1)
    have hG := hG1
    clear hB1 hG1 h11
    refine hL _ _ ?_
    clear hL L hgu
    obtain ⟨u, rfl⟩ : ∃ x, x = v := ⟨_, rfl⟩
    have r := hB.r
    simp only [BxR] at r
    go_wp2_with fail
    clear r
    generalize hu0 : World.setCell (World.setCell (World.setCell u _ _) _ _) _ _ = u0
    have hBG := over_n hB hF hG 0 rfl 0 [_, _, _] hu0
    replace hx16 := hx16.put hB 0 rfl (by first | decide | simp) 0 [_, _, _] hu0
    replace hx24a := hx24a.put hB 0 rfl (by first | decide | simp) 0 [_, _, _] hu0
    replace hx24b := hx24b.put hB 0 rfl (by first | decide | simp) 0 [_, _, _] hu0
    replace hx38 := hx38.put hB 0 rfl (by first | decide | simp) 0 [_, _, _] hu0
    clear hB hG hu0
    obtain ⟨hB, hG⟩ := hBG
    clear u
    obtain ⟨u, rfl⟩ : ∃ x, x = u0 := ⟨_, rfl⟩
    refine NoK.norm (hN _ _ ?_)
    clear hN K
    refine then_norm ?_
    refine wp_seq ?_
    refine wp_seq ?_
    refine wp_rs (w := w) allocs2 3 [0, 1, 0] (by kernel_rfl) (by simp only [List.drop_succ_cons, List.drop_nil]; exact rfl) (fun _ => True) noG hB hG trivial ?_
    intro K L hN hL
    simp only [List.zip_cons_cons, List.zip_nil_left]
    refine gyr ?_
    refine gma (by (rintro v ⟨hgu, hB, hG, -⟩ N hN; go_simp; with_reducible exact gmc (Hsn.out _ x38) hN)) ?_
    refine gya ?_
    refine gend ?_
    rintro v ⟨hgu, hB1, hG1, -⟩
    replace hx16 := hx16.grow hgu
    replace hx24a := hx24a.grow hgu
    replace hx24b := hx24b.grow hgu
    replace hx38 := hx38.grow hgu
    clear hB hG
    have hB := hB1
    have hG := hG1
    clear hB1 hG1
    refine hL _ _ ?_
    clear hL L hgu
    obtain ⟨u, rfl⟩ : ∃ x, x = v := ⟨_, rfl⟩
    refine wpList_nil ?_
    refine NoK.norm (hN _ _ ?_)
    clear hN K
    refine then_norm ?_
    refine wp_cond_true (rfl) ?_
    refine wp_seq ?_
    refine wp_rs (w := w) allocs2 1 [1] (by kernel_rfl) (by simp only [List.drop_succ_cons, List.drop_zero]; exact rfl) (fun _ => True) noG hB hG trivial ?_
    intro K L hN hL
    simp only [List.zip_cons_cons, List.zip_nil_left]
    refine gr (ratR (qint 0)) rfl ?_ (fun (x44 : Ax × Ax) => ?_)
    ·(rintro v ⟨hgu, hB, hG, -⟩ N hN; go_simp; ((with_reducible refine (ref1_Of 0 (by omega) (by omega) _).mono ?_); rintro e w1 ⟨x, rfl, hx, hg⟩; exact ⟨_, rfl, hN x w1 hx hg⟩))
    refine okf (by simp only [natR, intR, ratR, nnR, Act.put, List.setIfInBounds_toArray, List.set_cons_succ, List.set_cons_zero]; exact rfl) ?_
    refine gend ?_
    rintro v ⟨⟨hgu, hB1, hG1, -⟩, hx44⟩
    replace hx16 := hx16.grow hgu
    replace hx24a := hx24a.grow hgu
    replace hx24b := hx24b.grow hgu
    replace hx38 := hx38.grow hgu
    obtain ⟨hx44a, hx44b⟩ : Rn v x44.1 _ ∧ Rn v x44.2 _ := hx44
    clear hB hG
    have hB := hB1
    have hG := hG1
    clear hB1 hG1
    refine hL _ _ ?_
    clear hL L hgu
    obtain ⟨u, rfl⟩ : ∃ x, x = v := ⟨_, rfl⟩
    have r := hB.r
    simp only [BxR] at r
    go_wp2_with fail
    clear r
    generalize hu0 : World.setCell (World.setCell (World.setCell u _ _) _ _) _ _ = u0
    have hBG := over_n hB hF hG 3 rfl 0 [_, _, _] hu0
    replace hx16 := hx16.put hB 3 rfl (by first | decide | simp) 0 [_, _, _] hu0
    replace hx24a := hx24a.put hB 3 rfl (by first | decide | simp) 0 [_, _, _] hu0
    replace hx24b := hx24b.put hB 3 rfl (by first | decide | simp) 0 [_, _, _] hu0
    replace hx38 := hx38.put hB 3 rfl (by first | decide | simp) 0 [_, _, _] hu0
    replace hx44a := hx44a.put hB 3 rfl (by first | decide | simp) 0 [_, _, _] hu0
    replace hx44b := hx44b.put hB 3 rfl (by first | decide | simp) 0 [_, _, _] hu0
    clear hB hG hu0
    obtain ⟨hB, hG⟩ := hBG
    clear u
    obtain ⟨u, rfl⟩ : ∃ x, x = u0 := ⟨_, rfl⟩
    refine NoK.norm (hN _ _ ?_)
    clear hN K
    refine then_norm ?_
    refine wp_ret ?_
    refine then_ret ?_
    refine ret_b rfl ?_
    intro N hN
    have r := hB.r
    simp only [BxR] at r
    simp only [results, Tryz.results37]
    go_simp
    refine hN _ ?_
    clear hN N r
    exact ⟨x44, rfl, ⟨hx44a, hx44b⟩, hG⟩
 ·rw [if_neg h0]
  have hz : (g == 0) = false := by
   rw [beq_eq_false_iff_ne]
   exact fun e => h0 (hg0.1 e)
  have Hdv2 := Lib.hid (fun (W : World) (x y : Az) e1 e2 e3 e4 => Hdv.out W x y e1 e2 e3 e4 h0)
  clear hg0 h0 Hdv
  go_enter Tryz.func37, Tryz.ntmps37
  refine wp_seq (wp_r0 ?_)
  intro K hN
  go_wp2_with fail
  generalize hu : World.alloc w _ = u
  obtain ⟨hB, hG⟩ := bx_first [(_, _)] w u hu
  have hF := fr_first w [(41, #[])]
  simp only [numbered, List.map_cons, List.map_nil] at hB hF
  clear hu
  generalize w.heap.size = b4 at hB hF ⊢
  refine NoK.norm (hN _ _ ?_)
  clear hN K
  refine then_norm ?_
  refine wp_seq ?_
  refine wp_rs (w := w) allocs2 7 [0, 0, 1, 0, 0, 0, 2] (by kernel_rfl) (by simp only [List.drop_succ_cons, List.drop_zero]; exact rfl) (fun _ => True) noG hB hG trivial ?_
  intro K L hN hL
  simp only [List.zip_cons_cons, List.zip_nil_left]
  refine gya ?_
  refine gya ?_
  refine gx (Az) (fun p : Az => .tuple #[rzV p miss, .int .i64 0]) (fun p W => Rz W p miss) (fun p u u' hg h => Rz.grow h hg) rfl ?_ (fun x16 => ?_)
  ·(rintro v ⟨hgu, hB, hG, -⟩ N hN; go_simp; ((with_reducible refine (Hsq.out _ hG).mono ?_); rintro e w1 ⟨x, rfl, hx, hg⟩; exact ⟨_, rfl, hN x w1 hx hg⟩))
  refine okf (by simp only [Act.put, List.setIfInBounds_toArray, List.set_cons_succ, List.set_cons_zero]; exact rfl) ?_
  refine gya ?_
  refine gya ?_
  refine gya ?_
  refine ga (newObj_RQ _ _ _ _ _) fun b6 hb6 hn6 => ?_
  refine okf (by simp only [Act.put, List.setIfInBounds_toArray, List.set_cons_succ, List.set_cons_zero]; exact rfl) ?_
  refine gend ?_
  rintro v ⟨⟨⟨hgu, hB1, hG1, -⟩, hx16⟩, h6⟩
  have hF := Fr.new (tk := []) hF hB hG hb6 hn6
  simp only [List.cons_append, List.nil_append, List.map_cons, List.map_nil] at hF
  clear hB hG
  have hB := (Bx.cons h6 hB1)
  have hG := hG1
  clear hB1 hG1 h6
  refine hL _ _ ?_
  clear hL L hgu
  obtain ⟨u, rfl⟩ : ∃ x, x = v := ⟨_, rfl⟩
  have r := hB.r
  simp only [BxR] at r
  go_wp2_with fail
  clear r
  generalize hu0 : World.setCell (World.setCell (World.setCell u _ _) _ _) _ _ = u0
  have hBG := over_n hB hF hG 0 rfl 0 [_, _, _] hu0
  replace hx16 := hx16.put hB 0 rfl (by first | decide | simp) 0 [_, _, _] hu0
  clear hB hG hu0
  obtain ⟨hB, hG⟩ := hBG
  clear u
  obtain ⟨u, rfl⟩ : ∃ x, x = u0 := ⟨_, rfl⟩
  refine NoK.norm (hN _ _ ?_)
  clear hN K
  refine then_norm ?_
  refine wp_seq ?_
  refine wp_seq ?_
  refine wp_r0 ?_
  intro K hN
  go_wp2_with fail
  refine NoK.norm (hN _ _ ?_)
  clear hN K
  refine then_norm ?_
  refine wp_cond_false (rfl) ?_
  refine wp_skip ?_
  refine then_norm ?_
  refine wp_seq ?_
  refine wp_rs (w := w) allocs2 3 [0, 1, 2] (by kernel_rfl) (by simp only [List.drop_succ_cons, List.drop_zero]; exact rfl) (fun _ => True) noG hB hG trivial ?_
  intro K L hN hL
  simp only [List.zip_cons_cons, List.zip_nil_left]
  refine gya ?_
  refine gr (ratR mid) rfl ?_ (fun (x24 : Ax × Ax) => ?_)
  ·(rintro v ⟨hgu, hB, hG, -⟩ N hN; go_simp; ((with_reducible refine (Hmean.out _ hG).mono ?_); rintro e w1 ⟨x, rfl, hx, hg⟩; exact ⟨_, rfl, hN x w1 hx hg⟩))
  refine okf (by simp only [natR, intR, ratR, nnR, Act.put, List.setIfInBounds_toArray, List.set_cons_succ, List.set_cons_zero]; exact rfl) ?_
  refine ga (newObj_RQ _ _ _ _ _) fun b8 hb8 hn8 => ?_
  refine okf (by simp only [Act.put, List.setIfInBounds_toArray, List.set_cons_succ, List.set_cons_zero]; exact rfl) ?_
  refine gend ?_
  rintro v ⟨⟨⟨hgu, hB1, hG1, -⟩, hx24⟩, h8⟩
  replace hx16 := hx16.grow hgu
  obtain ⟨hx24a, hx24b⟩ : Rn v x24.1 _ ∧ Rn v x24.2 _ := hx24
  have hF := Fr.new (tk := []) hF hB hG hb8 hn8
  simp only [List.cons_append, List.nil_append, List.map_cons, List.map_nil] at hF
  clear hB hG
  have hB := (Bx.cons h8 hB1)
  have hG := hG1
  clear hB1 hG1 h8
  refine hL _ _ ?_
  clear hL L hgu
  obtain ⟨u, rfl⟩ : ∃ x, x = v := ⟨_, rfl⟩
  have r := hB.r
  simp only [BxR] at r
  go_wp2_with fail
  clear r
  generalize hu0 : World.setCell (World.setCell (World.setCell u _ _) _ _) _ _ = u0
  have hBG := over_n hB hF hG 0 rfl 0 [_, _, _] hu0
  replace hx16 := hx16.put hB 0 rfl (by first | decide | simp) 0 [_, _, _] hu0
  replace hx24a := hx24a.put hB 0 rfl (by first | decide | simp) 0 [_, _, _] hu0
  replace hx24b := hx24b.put hB 0 rfl (by first | decide | simp) 0 [_, _, _] hu0
  clear hB hG hu0
  obtain ⟨hB, hG⟩ := hBG
  clear u
  obtain ⟨u, rfl⟩ : ∃ x, x = u0 := ⟨_, rfl⟩
  refine NoK.norm (hN _ _ ?_)
  clear hN K
  refine then_norm ?_
  refine wp_seq ?_
  refine wp_r0 ?_
  intro K hN
  go_wp2_with fail
  refine NoK.norm (hN _ _ ?_)
  clear hN K
  refine then_norm ?_
  refine wp_seq ?_
  refine wp_seq ?_
  refine wp_r0 ?_
  intro K hN
  go_wp2_with fail
  refine NoK.norm (hN _ _ ?_)
  clear hN K
  refine then_norm ?_
  refine wp_block ?_
  have HBX := Lib.hid hB
  have HFX := Lib.hid hF
  have HG0 := Lib.hid hG
  clear hB hF hG
  obtain ⟨w0, rfl⟩ : ∃ x, x = w := ⟨_, rfl⟩
  obtain ⟨w, hwu⟩ : ∃ x, x = u := ⟨_, rfl⟩
  rw [← hwu] at HBX HG0 hx16 hx24a hx24b
  have hG : Grow w u := hwu ▸ Grow.refl u
  clear hwu
  go_loopw [10, 9] (fun s0 s1 wr => ∃ (i : Nat) (ps : List Zr), i ≤ n ∧ s0 = .int .i64 i ∧ ps.map (·.2) = List.replicate i mid ∧ AllZ wr ps ∧ wr.ownsRow w.heap.size 41 3 s1 i (ps.flatMap zrL) ∧ Grow w wr) (fun s0 _ _ => n - (intOf s0).toNat)
  case atStart => exact ⟨0, [], Nat.zero_le _, rfl, rfl, AllZ.nil _, World.ownsRow_nil _ _ _ _, hG⟩
  case round =>
   clear hG u
   obtain ⟨i, ps, hi, rfl, hps, hA, ho, hG⟩ := hrel
   obtain ⟨u, rfl⟩ : ∃ x, x = wr := ⟨_, rfl⟩
   have Ho := Lib.hid ho
   have Hps := Lib.hid hps
   clear ho hps
   rcases Nat.lt_or_ge i n with hlt | hge
   ·have hB := Bx.nil u
    have hF := Fr.nil w
    have hdec : decide ((i : Int) < (n : Int)) = true := by simp; omega
    refine wp_seq ?_
    refine wp_seq ?_
    refine wp_r0 ?_
    intro K hN
    go_wp2_with fail
    refine NoK.norm (hN _ _ ?_)
    clear hN K
    refine then_norm ?_
    refine wp_cond_true (rfl) ?_
    refine wp_skip ?_
    refine then_norm ?_
    refine wp_seq ?_
    refine wp_block ?_
    refine wp_rs (w := w) allocs2 2 [0, 0] (by kernel_rfl) (by simp only [List.drop_succ_cons, List.drop_zero]; exact rfl) (fun _ => True) noG hB hG trivial ?_
    intro K L hN hL
    simp only [List.zip_cons_cons, List.zip_nil_left]
    refine gya ?_
    refine gyb (by (rintro v ⟨hgu, hB, hG, -⟩ N hN; have r := hB.r; simp only [BxR] at r; have r8 := (HBX.out.grow hG).r; simp only [BxR] at r8; go_simp; exact hN)) ?_
    refine gend ?_
    rintro v ⟨hgu, hB1, hG1, -⟩
    replace hA := hA.grow hgu
    have ROWn := Lib.hid (own_grow' Ho.out hgu)
    clear Ho
    have Ho := ROWn
    clear ROWn
    clear hB hG
    have hB := hB1
    have hG := hG1
    clear hB1 hG1
    refine hL _ _ ?_
    clear hL L hgu
    obtain ⟨u, rfl⟩ : ∃ x, x = v := ⟨_, rfl⟩
    refine app_tailG ei_RQ w.heap.size _ _ _ _ (zL x24 mid) rfl rfl (bs_RQ x24.1 x24.2 mid u) rfl (fun _ => rfl) (fun _ => rfl) (fun _ _ => rfl) Ho.out (by omega) (by omega) hG.sz fun p v' w' g1 g2 g3 => ?_
    have hBn := Bx.nil w'
    have hGn := own_growth Ho.out hG g2
    replace hA := hA.own Ho.out (by decide) g2
    clear Ho hB hG
    have Ho := Lib.hid g1
    have hB := hBn
    have hG := hGn
    clear g1 g2 g3 hBn hGn
    obtain ⟨u, rfl⟩ : ∃ x, x = w' := ⟨_, rfl⟩
    simp only [Act.put, List.setIfInBounds_toArray, List.set_cons_succ, List.set_cons_zero]
    refine NoK.norm (hN _ _ ?_)
    clear hN K
    refine blk_norm ?_
    refine then_norm ?_
    refine wp_r0 ?_
    intro K hN
    go_wp2_with fail
    refine NoK.norm (hN _ _ ?_)
    clear hN K
    refine then_norm ?_
    go_roundw
    case rel => exact ⟨i + 1, ps ++ [(x24, mid)], by omega, by go_num, by rw [List.map_append, Hps.out, List.replicate_succ']; rfl, hA.snoc (hx24a.grow hG) (hx24b.grow hG), by have := Ho.out; rw [List.flatMap_append]; simpa [zrL] using this, hG⟩
    case measure => simp [intOf]; omega
   ·obtain rfl : n = i := by omega
    have hdec : decide ((n : Int) < (n : Int)) = false := by simp
    obtain ⟨A', cc, rfl, hcc1, hcc2, hL, hkl⟩ := own_lz Ho.out hA
    rw [Hps.out] at hL
    have HLl := Lib.hid hL
    have hB := HBX.out.grow hG
    have hF := HFX.out
    replace hx16 := hx16.grow hG
    replace hx24a := hx24a.grow hG
    replace hx24b := hx24b.grow hG
    have hG0 := HG0.out.trans hG
    clear hL hkl hG HBX HFX HG0 hA Ho Hps hcc1
    obtain ⟨w1, rfl⟩ : ∃ x, x = w := ⟨_, rfl⟩
    obtain ⟨w, rfl⟩ : ∃ x, x = w0 := ⟨_, rfl⟩
    have hG := hG0
    clear hG0
    refine wp_seq ?_
    refine wp_seq ?_
    refine wp_r0 ?_
    intro K hN
    go_wp2_with fail
    refine NoK.norm (hN _ _ ?_)
    clear hN K
    refine then_norm ?_
    refine wp_cond_false (rfl) ?_
    refine wp_exit ?_
    refine then_exit ?_
    refine then_exit ?_
    refine blk_exit ?_
    refine then_norm ?_
    refine wp_seq ?_
    refine wp_rs (w := w) allocs2 7 [0, 0, 1, 0, 0, 0, 2] (by kernel_rfl) (by simp only [List.drop_succ_cons, List.drop_zero]; exact rfl) (fun _ => True) noG hB hG trivial ?_
    intro K L hN hL
    simp only [List.zip_cons_cons, List.zip_nil_left]
    refine gya ?_
    refine gya ?_
    refine gx (Az) (fun p : Az => .tuple #[rzV p off, .int .i64 0]) (fun p W => Rz W p off) (fun p u u' hg h => Rz.grow h hg) rfl ?_ (fun x38 => ?_)
    ·(rintro v ⟨hgu, hB, hG, -⟩ N hN; go_simp; ((with_reducible refine (Hoff.out _ hG A' cc (HLl.out.grow hgu)).mono ?_); rintro e w1 ⟨x, rfl, hx, hg⟩; exact ⟨_, rfl, hN x w1 hx hg⟩))
    refine okf (by simp only [Act.put, List.setIfInBounds_toArray, List.set_cons_succ, List.set_cons_zero]; exact rfl) ?_
    refine gya ?_
    refine gya ?_
    refine gya ?_
    refine ga (newObj_RQ _ _ _ _ _) fun b11 hb11 hn11 => ?_
    refine okf (by simp only [Act.put, List.setIfInBounds_toArray, List.set_cons_succ, List.set_cons_zero]; exact rfl) ?_
    refine gend ?_
    rintro v ⟨⟨⟨hgu, hB1, hG1, -⟩, hx38⟩, h11⟩
    replace hx16 := hx16.grow hgu
    replace hx24a := hx24a.grow hgu
    replace hx24b := hx24b.grow hgu
    have hF := Fr.new (tk := []) hF hB hG hb11 hn11
    simp only [List.cons_append, List.nil_append, List.map_cons, List.map_nil] at hF
    clear HLl
    clear hB hG
    have hB := (Bx.cons h11 hB1)
    have hG := hG1
    clear hB1 hG1 h11
    refine hL _ _ ?_
    clear hL L hgu
    obtain ⟨u, rfl⟩ : ∃ x, x = v := ⟨_, rfl⟩
    have r := hB.r
    simp only [BxR] at r
    go_wp2_with fail
    clear r
    generalize hu0 : World.setCell (World.setCell (World.setCell u _ _) _ _) _ _ = u0
    have hBG := over_n hB hF hG 0 rfl 0 [_, _, _] hu0
    replace hx16 := hx16.put hB 0 rfl (by first | decide | simp) 0 [_, _, _] hu0
    replace hx24a := hx24a.put hB 0 rfl (by first | decide | simp) 0 [_, _, _] hu0
    replace hx24b := hx24b.put hB 0 rfl (by first | decide | simp) 0 [_, _, _] hu0
    replace hx38 := hx38.put hB 0 rfl (by first | decide | simp) 0 [_, _, _] hu0
    clear hB hG hu0
    obtain ⟨hB, hG⟩ := hBG
    clear u
    obtain ⟨u, rfl⟩ : ∃ x, x = u0 := ⟨_, rfl⟩
    refine NoK.norm (hN _ _ ?_)
    clear hN K
    refine then_norm ?_
    refine wp_seq ?_
    refine wp_seq ?_
    refine wp_rs (w := w) allocs2 3 [0, 1, 0] (by kernel_rfl) (by simp only [List.drop_succ_cons, List.drop_nil]; exact rfl) (fun _ => True) noG hB hG trivial ?_
    intro K L hN hL
    simp only [List.zip_cons_cons, List.zip_nil_left]
    refine gyr ?_
    refine gma (by (rintro v ⟨hgu, hB, hG, -⟩ N hN; go_simp; with_reducible exact gmc (Hsn.out _ x38) hN)) ?_
    refine gya ?_
    refine gend ?_
    rintro v ⟨hgu, hB1, hG1, -⟩
    replace hx16 := hx16.grow hgu
    replace hx24a := hx24a.grow hgu
    replace hx24b := hx24b.grow hgu
    replace hx38 := hx38.grow hgu
    clear hB hG
    have hB := hB1
    have hG := hG1
    clear hB1 hG1
    refine hL _ _ ?_
    clear hL L hgu
    obtain ⟨u, rfl⟩ : ∃ x, x = v := ⟨_, rfl⟩
    refine wpList_nil ?_
    refine NoK.norm (hN _ _ ?_)
    clear hN K
    refine then_norm ?_
    refine wp_cond_false (rfl) ?_
    refine wp_skip ?_
    refine then_norm ?_
    refine wp_seq ?_
    refine wp_rd (w := w) allocs2 5 [] [(0, 1), (0, 2), (1, 0), (1, 3), (1, 4)] (by kernel_rfl) (by kernel_rfl) (by simp only [List.drop_succ_cons, List.drop_zero]; exact rfl) (fun _ => True) noG hB hG trivial ?_
    intro K L hN hL
    simp only [pickOps, List.getElem?_toArray, List.getElem?_cons_zero, List.getElem?_cons_succ]
    refine gyr ?_
    refine gyr ?_
    refine gr (ratR (qint 1)) rfl ?_ (fun (x45 : Ax × Ax) => ?_)
    ·(rintro v ⟨hgu, hB, hG, -⟩ N hN; go_simp; ((with_reducible refine (ref1_Of 1 (by omega) (by omega) _).mono ?_); rintro e w1 ⟨x, rfl, hx, hg⟩; exact ⟨_, rfl, hN x w1 hx hg⟩))
    refine okf (by simp only [natR, intR, ratR, nnR, Act.put, List.setIfInBounds_toArray, List.set_cons_succ, List.set_cons_zero]; exact rfl) ?_
    refine gr (ratR part) rfl ?_ (fun (x48 : Ax × Ax) => ?_)
    ·(rintro v ⟨⟨hgu, hB, hG, -⟩, hx45⟩ N hN; obtain ⟨hx45a, hx45b⟩ : Rn v x45.1 _ ∧ Rn v x45.2 _ := hx45; go_simp; ((with_reducible refine (Hdv2.out _ x16 x38 (hx16.grow hgu).a (hx16.grow hgu).b (hx38.grow hgu).a (hx38.grow hgu).b).mono ?_); rintro e w1 ⟨x, rfl, hx, hg⟩; exact ⟨_, rfl, hN x w1 hx hg⟩))
    refine okf (by simp only [natR, intR, ratR, nnR, Act.put, List.setIfInBounds_toArray, List.set_cons_succ, List.set_cons_zero]; exact rfl) ?_
    refine gr (ratR res) rfl ?_ (fun (x49 : Ax × Ax) => ?_)
    ·(rintro v ⟨⟨⟨hgu, hB, hG, -⟩, hx45⟩, hx48⟩ N hN; obtain ⟨hx45a, hx45b⟩ : Rn v x45.1 _ ∧ Rn v x45.2 _ := hx45; obtain ⟨hx48a, hx48b⟩ : Rn v x48.1 _ ∧ Rn v x48.2 _ := hx48; go_simp; ((with_reducible refine (Hsb.out _ x45 x48 hx45a hx45b hx48a hx48b).mono ?_); rintro e w1 ⟨x, rfl, hx, hg⟩; exact ⟨_, rfl, hN x w1 hx hg⟩))
    refine okf (by simp only [natR, intR, ratR, nnR, Act.put, List.setIfInBounds_toArray, List.set_cons_succ, List.set_cons_zero]; exact rfl) ?_
    refine gend ?_
    rintro v ⟨⟨⟨⟨hgu, hB1, hG1, -⟩, hx45⟩, hx48⟩, hx49⟩
    replace hx16 := hx16.grow hgu
    replace hx24a := hx24a.grow hgu
    replace hx24b := hx24b.grow hgu
    replace hx38 := hx38.grow hgu
    obtain ⟨hx45a, hx45b⟩ : Rn v x45.1 _ ∧ Rn v x45.2 _ := hx45
    obtain ⟨hx48a, hx48b⟩ : Rn v x48.1 _ ∧ Rn v x48.2 _ := hx48
    obtain ⟨hx49a, hx49b⟩ : Rn v x49.1 _ ∧ Rn v x49.2 _ := hx49
    clear hB hG
    have hB := hB1
    have hG := hG1
    clear hB1 hG1
    refine hL _ _ ?_
    clear hL L hgu
    obtain ⟨u, rfl⟩ : ∃ x, x = v := ⟨_, rfl⟩
    have r := hB.r
    simp only [BxR] at r
    go_wp2_with fail
    clear r
    generalize hu0 : World.setCell (World.setCell (World.setCell u _ _) _ _) _ _ = u0
    have hBG := over_n hB hF hG 3 rfl 0 [_, _, _] hu0
    replace hx16 := hx16.put hB 3 rfl (by first | decide | simp) 0 [_, _, _] hu0
    replace hx24a := hx24a.put hB 3 rfl (by first | decide | simp) 0 [_, _, _] hu0
    replace hx24b := hx24b.put hB 3 rfl (by first | decide | simp) 0 [_, _, _] hu0
    replace hx38 := hx38.put hB 3 rfl (by first | decide | simp) 0 [_, _, _] hu0
    replace hx45a := hx45a.put hB 3 rfl (by first | decide | simp) 0 [_, _, _] hu0
    replace hx45b := hx45b.put hB 3 rfl (by first | decide | simp) 0 [_, _, _] hu0
    replace hx48a := hx48a.put hB 3 rfl (by first | decide | simp) 0 [_, _, _] hu0
    replace hx48b := hx48b.put hB 3 rfl (by first | decide | simp) 0 [_, _, _] hu0
    replace hx49a := hx49a.put hB 3 rfl (by first | decide | simp) 0 [_, _, _] hu0
    replace hx49b := hx49b.put hB 3 rfl (by first | decide | simp) 0 [_, _, _] hu0
    clear hB hG hu0
    obtain ⟨hB, hG⟩ := hBG
    clear u
    obtain ⟨u, rfl⟩ : ∃ x, x = u0 := ⟨_, rfl⟩
    refine NoK.norm (hN _ _ ?_)
    clear hN K
    refine then_norm ?_
    refine wp_ret ?_
    refine ret_b rfl ?_
    intro N hN
    have r := hB.r
    simp only [BxR] at r
    simp only [results, Tryz.results37]
    go_simp
    refine hN _ ?_
    clear hN N r
    exact ⟨x49, rfl, ⟨hx49a, hx49b⟩, hG⟩
set_option maxHeartbeats 1000000 in
set_option maxRecDepth 100000 in
theorem ref6_Told_no (A B : Option Addr) (m n c d : Nat) (h : pairedB m n = false) (w : World) :
  Calls Tryz.prog 37 #[.slice A m c, .slice B n d] w (RetE 0 5 w) := by
 have Hsq := Lib.hid (ref6_Squares_no A B m n c d h)
 clear h
 go_enter Tryz.func37, Tryz.ntmps37
 refine wp_seq (wp_r0 ?_)
 intro K hN
 go_wp2_with fail
 generalize hu : World.alloc w _ = u
 obtain ⟨hB, hG⟩ := bx_first [(_, _)] w u hu
 have hF := fr_first w [(41, #[])]
 simp only [numbered, List.map_cons, List.map_nil] at hB hF
 clear hu
 generalize w.heap.size = b4 at hB hF ⊢
 refine NoK.norm (hN _ _ ?_)
 clear hN K
 refine then_norm ?_
 refine wp_seq ?_
 refine wp_rs (w := w) allocs2 7 [0, 0, 1, 0, 0, 0, 2] (by kernel_rfl) (by simp only [List.drop_succ_cons, List.drop_zero]; exact rfl) (fun _ => True) noG hB hG trivial ?_
 intro K L hN hL
 simp only [List.zip_cons_cons, List.zip_nil_left]
 refine gya ?_
 refine gya ?_
 refine gx (Az) (fun p : Az => .tuple #[rzV p 0, .int .i64 5]) (fun p W => Rz W p 0) (fun p u u' hg h => Rz.grow h hg) rfl ?_ (fun x16 => ?_)
 ·(rintro v ⟨hgu, hB, hG, -⟩ N hN; go_simp; ((with_reducible refine (Hsq.out _).mono ?_); rintro e w1 ⟨x, rfl, hx, hg⟩; exact ⟨_, rfl, hN x w1 hx hg⟩))
 refine okf (by simp only [Act.put, List.setIfInBounds_toArray, List.set_cons_succ, List.set_cons_zero]; exact rfl) ?_
 refine gya ?_
 refine gya ?_
 refine gya ?_
 refine ga (newObj_RQ _ _ _ _ _) fun b6 hb6 hn6 => ?_
 refine okf (by simp only [Act.put, List.setIfInBounds_toArray, List.set_cons_succ, List.set_cons_zero]; exact rfl) ?_
 refine gend ?_
 rintro v ⟨⟨⟨hgu, hB1, hG1, -⟩, hx16⟩, h6⟩
 have hF := Fr.new (tk := []) hF hB hG hb6 hn6
 simp only [List.cons_append, List.nil_append, List.map_cons, List.map_nil] at hF
 clear hB hG
 have hB := (Bx.cons h6 hB1)
 have hG := hG1
 clear hB1 hG1 h6
 refine hL _ _ ?_
 clear hL L hgu
 obtain ⟨u, rfl⟩ : ∃ x, x = v := ⟨_, rfl⟩
 have r := hB.r
 simp only [BxR] at r
 go_wp2_with fail
 clear r
 generalize hu0 : World.setCell (World.setCell (World.setCell u _ _) _ _) _ _ = u0
 have hBG := over_n hB hF hG 0 rfl 0 [_, _, _] hu0
 replace hx16 := hx16.put hB 0 rfl (by first | decide | simp) 0 [_, _, _] hu0
 clear hB hG hu0
 obtain ⟨hB, hG⟩ := hBG
 clear u
 obtain ⟨u, rfl⟩ : ∃ x, x = u0 := ⟨_, rfl⟩
 refine NoK.norm (hN _ _ ?_)
 clear hN K
 refine then_norm ?_
 refine wp_seq ?_
 refine wp_seq ?_
 refine wp_r0 ?_
 intro K hN
 go_wp2_with fail
 refine NoK.norm (hN _ _ ?_)
 clear hN K
 refine then_norm ?_
 refine wp_cond_true (rfl) ?_
 refine wp_seq ?_
 refine wp_rs (w := w) allocs2 2 [1, 0] (by kernel_rfl) (by simp only [List.drop_succ_cons, List.drop_zero]; exact rfl) (fun _ => True) noG hB hG trivial ?_
 intro K L hN hL
 simp only [List.zip_cons_cons, List.zip_nil_left]
 refine gr (ratR (qint 0)) rfl ?_ (fun (x21 : Ax × Ax) => ?_)
 ·(rintro v ⟨hgu, hB, hG, -⟩ N hN; go_simp; ((with_reducible refine (ref1_Of 0 (by omega) (by omega) _).mono ?_); rintro e w1 ⟨x, rfl, hx, hg⟩; exact ⟨_, rfl, hN x w1 hx hg⟩))
 refine okf (by simp only [natR, intR, ratR, nnR, Act.put, List.setIfInBounds_toArray, List.set_cons_succ, List.set_cons_zero]; exact rfl) ?_
 refine gya ?_
 refine gend ?_
 rintro v ⟨⟨hgu, hB1, hG1, -⟩, hx21⟩
 replace hx16 := hx16.grow hgu
 obtain ⟨hx21a, hx21b⟩ : Rn v x21.1 _ ∧ Rn v x21.2 _ := hx21
 clear hB hG
 have hB := hB1
 have hG := hG1
 clear hB1 hG1
 refine hL _ _ ?_
 clear hL L hgu
 obtain ⟨u, rfl⟩ : ∃ x, x = v := ⟨_, rfl⟩
 have r := hB.r
 simp only [BxR] at r
 go_wp2_with fail
 clear r
 generalize hu0 : World.setCell (World.setCell (World.setCell u _ _) _ _) _ _ = u0
 have hBG := over_n hB hF hG 1 rfl 0 [_, _, _] hu0
 replace hx16 := hx16.put hB 1 rfl (by first | decide | simp) 0 [_, _, _] hu0
 replace hx21a := hx21a.put hB 1 rfl (by first | decide | simp) 0 [_, _, _] hu0
 replace hx21b := hx21b.put hB 1 rfl (by first | decide | simp) 0 [_, _, _] hu0
 clear hB hG hu0
 obtain ⟨hB, hG⟩ := hBG
 clear u
 obtain ⟨u, rfl⟩ : ∃ x, x = u0 := ⟨_, rfl⟩
 refine NoK.norm (hN _ _ ?_)
 clear hN K
 refine then_norm ?_
 refine wp_ret ?_
 refine then_ret ?_
 refine ret_b rfl ?_
 intro N hN
 have r := hB.r
 simp only [BxR] at r
 simp only [results, Tryz.results37]
 go_simp
 refine hN _ ?_
 clear hN N r
 exact ⟨x21, rfl, ⟨hx21a, hx21b⟩, hG⟩
end Go.Proofs.YtimjnkfcnpfoeaaGreatDoor
