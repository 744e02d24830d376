/-
  Contracts and laws: NearS.
-/
import Derived.Test.YtjmopgepnndckaaGreatDoorS44
set_option linter.unusedSimpArgs false
set_option linter.unusedVariables false
namespace Go.Proofs.YtjmopgepnndckaaGreatDoor
open Go Go.RowKit
set_option maxHeartbeats 1000000 in
set_option maxRecDepth 100000 in
theorem hand_SameRow (A B : Option Addr) (l : List Rat) (n c d : Nat) (hn : l.length = n) (hm : n ≤ 1048576) (hs : ∀ x ∈ l, qs x ≤ LIM) (w : World) (h : Lq w A l) (h' : Lz w B l) :
  Calls Tryz.prog 110 #[.slice A n c, .slice B n d] w fun e w' => e = .returned (.bool true) ∧ Grow w w' := by
 have H := Lib.hid h
 have H' := Lib.hid h'
 have Hn := Lib.hid hn
 have Hs := Lib.hid hs
 have hne : ((n : Int) != (n : Int)) = false := by simp
 clear h h' hn hs
 go_enter Tryz.func110, Tryz.ntmps110
 refine en0 ?_
 intro u hG hB hF
 refine wp_seq ?_
 refine r0T ?_
 refine wp_cond_false (rfl) ?_
 refine wp_skip ?_
 refine then_norm ?_
 refine wp_seq ?_
 refine r0T ?_
 refine wp_block ?_
 go_loopw [5] (fun s0 wr => ∃ (i : Nat) , i ≤ n ∧ s0 = .int .i64 i ∧ Grow w wr) (fun s0 _ => n - (intOf s0).toNat)
 case atStart => exact ⟨0, Nat.zero_le _, rfl, hG⟩
 case round =>
  clear hB hG
  obtain ⟨i, hi, rfl, hG⟩ := hrel
  obtain ⟨u, rfl⟩ : ∃ x, x = wr := ⟨_, rfl⟩
  have hB := Bx.nil u
  rcases Nat.lt_or_ge i n with hlt0 | hge0
  ·have hdec : decide ((i : Int) < (n : Int)) = true := by simp; omega
   have hil : i < l.length := by rw [Hn.out]; exact hlt0
   have hini : (i : Int) < (n : Int) := by omega
   obtain ⟨ba, oa, rfl⟩ := H.out.addr (by omega)
   obtain ⟨bb, ob, rfl⟩ := H'.out.addr (by omega)
   have h1 := fun W (hg : Grow w W) => (H.out.grow hg).read hil
   obtain ⟨p, h2⟩ := H'.out.read hil
   have z := Hs.out _ (gq_mem hil)
   obtain ⟨X, hX⟩ : ∃ X, X = gq l i := ⟨_, rfl⟩
   rw [← hX] at z
   simp only [← hX] at h1 h2
   have H1 := Lib.hid h1
   have H2 := Lib.hid h2
   clear h1 h2 hX hil
   refine wp_seq ?_
   refine r0T ?_
   refine wp_cond_true (rfl) ?_
   refine wp_skip ?_
   refine then_norm ?_
   refine wp_seq ?_
   refine wp_block ?_
   refine wp_seq (rdC allocs [] [(0, 0), (0, 1), (0, 2), (0, 3), (0, 4), (0, 5), (0, 6), (0, 7), (1, 8)] hB hG fun K L hN hL => ?_)
   repeat first | refine gya ?_ | refine gyr ?_ | refine gna ?_ | refine gyb (by (rintro v ⟨hgu, hB, hG, -⟩ N hN; have r := hB.r; simp only [BxR] at r; obtain ⟨a1, a2, a3, a4, a5⟩ := H1.out v hG; obtain ⟨-, c1, c2, c3⟩ := H2.out v hG; go_simp; exact hN)) ?_
   refine gmd (C := fun v ⟨hgu, hB, hG, _⟩ => hand_Same X p.1 p.2 z _ (H2.out _ hG).1.a (H2.out _ hG).1.b) ?_
   refine geC hL ?_
   clear hB hG hL L
   rintro u ⟨-, hB, hG, -⟩
   refine gtT ?_
   clear hN K
   refine wp_cond_false (rfl) ?_
   refine wp_skip ?_
   refine blk_norm ?_
   refine then_norm ?_
   refine r0E ?_
   refine then_norm ?_
   go_roundw
   case rel => exact ⟨i + 1, by omega, by go_num, hG⟩
   case measure => simp [intOf]; try omega
  ·obtain rfl : n = i := by omega
   have hdec : decide ((n : Int) < (n : Int)) = false := by simp
   skip
   refine wp_seq ?_
   refine r0T ?_
   refine wp_cond_false (rfl) ?_
   refine wp_exit ?_
   refine then_exit ?_
   refine then_exit ?_
   refine blk_exit ?_
   refine then_norm ?_
   refine r0T ?_
   refine rt Tryz.results110 ?_
   exact ⟨rfl, hG⟩
set_option maxHeartbeats 1000000 in
set_option maxRecDepth 100000 in
theorem hand_SameRows (A B : Option Addr) (rs rs' : List Rq) (n L c d : Nat) (hn : rs.length = n) (he : rs'.map (·.2.2) = rs.map (·.2.2)) (hm : n ≤ 1048576) (hL : L ≤ 1048576) (hrl : ∀ r ∈ rs, r.2.2.length = L) (hs : ∀ r ∈ rs, ∀ x ∈ r.2.2, qs x ≤ LIM) (w : World) (h : Lrq w A rs) (h' : Lrz w B rs') :
  Calls Tryz.prog 71 #[.slice A n c, .slice B n d] w fun e w' => e = .returned (.bool true) ∧ Grow w w' := by
 have hn' : rs'.length = n := by have := congrArg List.length he; rw [List.length_map, List.length_map] at this; rw [this, hn]
 have hrow : ∀ i, i < n → ∃ (A1 B1 : Option Addr) (c1 d1 : Nat) (l : List Rat) (bb ob bb' ob' : Nat), A = some ⟨bb, ob, none⟩ ∧ B = some ⟨bb', ob', none⟩ ∧ (∀ W, Grow w W → W.cell? ⟨bb, ob + i, none⟩ = some (.slice A1 L c1) ∧ W.cell? ⟨bb', ob' + i, none⟩ = some (.slice B1 L d1)) ∧ (∀ W, Grow w W → Calls Tryz.prog 110 #[.slice A1 L c1, .slice B1 L d1] W fun e w' => e = .returned (.bool true) ∧ Grow W w') := fun i hi => by
  have hil : i < rs.length := by omega
  have hil' : i < rs'.length := by omega
  have e2 : rs'[i].2.2 = rs[i].2.2 := by
   have := congrArg (fun l : List (List Rat) => l[i]?) he
   simpa [hil, hil'] using this
  obtain ⟨bb, ob, e⟩ := h.addr (by omega)
  obtain ⟨bb', ob', e'⟩ := h'.addr (by omega)
  subst e e'
  have hl := hrl _ (List.getElem_mem hil)
  have h1 := fun W (hg : Grow w W) => (h.grow hg).read (List.getElem?_eq_getElem hil)
  have h2 := fun W (hg : Grow w W) => (h'.grow hg).read (List.getElem?_eq_getElem hil')
  simp only [e2, hl] at h1 h2
  exact ⟨rs[i].1, rs'[i].1, rs[i].2.1, rs'[i].2.1, rs[i].2.2, bb, ob, bb', ob', rfl, rfl, fun W hg => ⟨(h1 W hg).1, (h2 W hg).1⟩, fun W hg => hand_SameRow _ _ _ L _ _ hl hL (hs _ (List.getElem_mem hil)) W (h1 W hg).2 (h2 W hg).2⟩
 have Hrow := Lib.hid hrow
 have hne : ((n : Int) != (n : Int)) = false := by simp
 clear hrow h h' hrl hs he hn hn'
 go_enter Tryz.func71, Tryz.ntmps71
 refine en0 ?_
 intro u hG hB hF
 refine wp_seq ?_
 refine r0T ?_
 refine wp_cond_false (rfl) ?_
 refine wp_skip ?_
 refine then_norm ?_
 refine wp_seq ?_
 refine r0T ?_
 refine wp_block ?_
 go_loopw [5] (fun s0 wr => ∃ (i : Nat) , i ≤ n ∧ s0 = .int .i64 i ∧ Grow w wr) (fun s0 _ => n - (intOf s0).toNat)
 case atStart => exact ⟨0, Nat.zero_le _, rfl, hG⟩
 case round =>
  clear hB hG
  obtain ⟨i, hi, rfl, hG⟩ := hrel
  obtain ⟨u, rfl⟩ : ∃ x, x = wr := ⟨_, rfl⟩
  have hB := Bx.nil u
  rcases Nat.lt_or_ge i n with hlt0 | hge0
  ·have hdec : decide ((i : Int) < (n : Int)) = true := by simp; omega
   have hini : (i : Int) < (n : Int) := by omega
   obtain ⟨A1, B1, c1, d1, l, bb, ob, bb', ob', rfl, rfl, h1, h2⟩ := Hrow.out i hlt0
   have H1 := Lib.hid h1
   have H2 := Lib.hid h2
   clear h1 h2
   refine wp_seq ?_
   refine r0T ?_
   refine wp_cond_true (rfl) ?_
   refine wp_skip ?_
   refine then_norm ?_
   refine wp_seq ?_
   refine wp_block ?_
   refine wp_seq (rdC allocs [] [(0, 0), (0, 1), (0, 2), (0, 3), (0, 4), (0, 5), (0, 6), (0, 7), (1, 8)] hB hG fun K L hN hL => ?_)
   repeat first | refine gya ?_ | refine gyr ?_ | refine gna ?_ | refine gyb (by (rintro v ⟨hgu, hB, hG, -⟩ N hN; have r := hB.r; simp only [BxR] at r; obtain ⟨a1, a2⟩ := H1.out v hG; go_simp; exact hN)) ?_
   refine gmd (C := fun v ⟨hgu, hB, hG, _⟩ => H2.out _ hG) ?_
   refine geC hL ?_
   clear hB hG hL L
   rintro u ⟨-, hB, hG, -⟩
   refine gtT ?_
   clear hN K
   refine wp_cond_false (rfl) ?_
   refine wp_skip ?_
   refine blk_norm ?_
   refine then_norm ?_
   refine r0E ?_
   refine then_norm ?_
   go_roundw
   case rel => exact ⟨i + 1, by omega, by go_num, hG⟩
   case measure => simp [intOf]; try omega
  ·obtain rfl : n = i := by omega
   have hdec : decide ((n : Int) < (n : Int)) = false := by simp
   skip
   refine wp_seq ?_
   refine r0T ?_
   refine wp_cond_false (rfl) ?_
   refine wp_exit ?_
   refine then_exit ?_
   refine then_exit ?_
   refine blk_exit ?_
   refine then_norm ?_
   refine r0T ?_
   refine rt Tryz.results71 ?_
   exact ⟨rfl, hG⟩
set_option maxHeartbeats 2000000 in
set_option maxRecDepth 100000 in
theorem law23_sameTree (R N R' N' : Ax) (rs rs' : List Rq) (n L m : Nat) (ns : List NdT) (hn : rs.length = n) (he : rs'.map (·.2.2) = rs.map (·.2.2)) (hn2 : n ≤ 1048576) (hL : L ≤ 1048576) (hrl : ∀ r ∈ rs, r.2.2.length = L) (hs : ∀ r ∈ rs, ∀ x ∈ r.2.2, qs x ≤ LIM) (hm : ns.length = m) (hm2 : m ≤ 1048576) (w : World) (h : Lrq w R.1 rs) (h' : Lrz w R'.1 rs') (g : Le ndL 4 w N.1 ns) (g' : Le ndL 4 w N'.1 ns) :
  Calls Tryz.prog 37 #[treeV R n N m, treeV R' n N' m] w fun e w' => e = .returned (.bool true) ∧ Grow w w' := by
 obtain ⟨RA, RC⟩ := R
 obtain ⟨NA, NC⟩ := N
 obtain ⟨RA', RC'⟩ := R'
 obtain ⟨NA', NC'⟩ := N'
 simp only at h h' g g'
 have hsr := fun W (hg : Grow w W) => hand_SameRows RA RA' rs rs' n L RC RC' hn he hn2 hL hrl hs W (h.grow hg) (h'.grow hg)
 have hnd : ∀ i, i < m → ∃ (bN oN bM oM : Nat) (x : NdT), NA = some ⟨bN, oN, none⟩ ∧ NA' = some ⟨bM, oM, none⟩ ∧ ∀ W, Grow w W → (W.cell? ⟨bN, oN + i * 4, none⟩ = some (.int .i64 x.r) ∧ W.cell? ⟨bN, oN + i * 4 + 1, none⟩ = some (.int .i64 x.c) ∧ W.cell? ⟨bN, oN + i * 4 + 2, none⟩ = some (.int .i64 x.l) ∧ W.cell? ⟨bN, oN + i * 4 + 3, none⟩ = some (.int .i64 x.t)) ∧ W.cell? ⟨bM, oM + i * 4, none⟩ = some (.int .i64 x.r) ∧ W.cell? ⟨bM, oM + i * 4 + 1, none⟩ = some (.int .i64 x.c) ∧ W.cell? ⟨bM, oM + i * 4 + 2, none⟩ = some (.int .i64 x.l) ∧ W.cell? ⟨bM, oM + i * 4 + 3, none⟩ = some (.int .i64 x.t) := fun i hi => by
  have hil : i < ns.length := by omega
  obtain ⟨bN, oN, e, h1⟩ := g.at hil
  obtain ⟨bM, oM, e', h2⟩ := g'.at hil
  exact ⟨bN, oN, bM, oM, ns[i], e, e', fun W hg => ⟨⟨h1 W hg 0 _ rfl, h1 W hg 1 _ rfl, h1 W hg 2 _ rfl, h1 W hg 3 _ rfl⟩, h2 W hg 0 _ rfl, h2 W hg 1 _ rfl, h2 W hg 2 _ rfl, h2 W hg 3 _ rfl⟩⟩
 have Hsr := Lib.hid hsr
 have Hnd := Lib.hid hnd
 have hne : ((m : Int) != (m : Int)) = false := by simp
 clear hsr hnd h h' g g' hrl hs he hn hm
 go_enter Tryz.func37, Tryz.ntmps37
 refine en2 ?_
 intro u hG b3 b2 hB hF
 refine wp_seq ?_
 refine wp_seq (rsE allocsT [0, 0, 0, 0, 1, 0, 0, 0, 0, 0, 0, 0, 0, 0, 0] hB hG fun L hL => ?_)
 refine gs ?_
 refine gmd (C := fun v ⟨hgu, hB, hG, _⟩ => Hsr.out _ hG) ?_
 refine gs ?_
 refine geT hL ?_
 clear hB hG hL L
 rintro u ⟨-, hB, hG, -⟩
 refine wp_cond_false (rfl) ?_
 refine wp_skip ?_
 refine then_norm ?_
 refine wp_seq ?_
 refine r0T ?_
 refine wp_block ?_
 go_loopw [5] (fun s0 wr => ∃ i : Nat, i ≤ m ∧ s0 = .int .i64 i ∧ Bx wr [(b2, 79, #[.slice RA n RC, .slice NA m NC]), (b3, 72, #[.slice RA' n RC', .slice NA' m NC'])] ∧ Grow w wr) (fun s0 _ => m - (intOf s0).toNat)
 case atStart => exact ⟨0, Nat.zero_le _, rfl, hB, hG⟩
 case round =>
  clear hB hG
  obtain ⟨i, hi, rfl, hB, hG⟩ := hrel
  obtain ⟨u, rfl⟩ : ∃ x, x = wr := ⟨_, rfl⟩
  rcases Nat.lt_or_ge i m with hlt | hge
  ·have hdec : decide ((i : Int) < (m : Int)) = true := by simp; omega
   have him : (i : Int) < (m : Int) := by omega
   obtain ⟨bN, oN, bM, oM, x, rfl, rfl, hrd⟩ := Hnd.out i hlt
   obtain ⟨xr, xc, xl, xt⟩ := x
   have e1 : (xr != xr) = false := by simp
   have e2 : (xc != xc) = false := by simp
   have e3 : (xl != xl) = false := by simp
   have e4 : (xt != xt) = false := by simp
   have Hrd := Lib.hid hrd
   clear hrd
   refine wp_seq ?_
   refine r0T ?_
   refine wp_cond_true (rfl) ?_
   refine wp_skip ?_
   refine then_norm ?_
   refine wp_seq ?_
   refine wp_block ?_
   refine wp_seq ?_
   refine Code.wp_mono NoP.up ?_
   refine wp_region_held_drew (S := fun w' => Grow u w') (by kernel_rfl) (Grow.drew u) (fun hHeld => ?_)
   refine wpAnyH_take (i := 0) (v := ?_) rfl (by kernel_rfl) (by kernel_rfl) (by kernel_rfl) (fun _ _ _ h => h) (Or.inl ⟨by rfl, ?_⟩) (by assumption) ?_
   rotate_left
   ·(intro w hSw; have r := (hB.grow hSw).r; simp only [BxR] at r; obtain ⟨⟨d0, d1, d2, d3⟩, c0, c1, c2, c3⟩ := Hrd.out w (hG.trans hSw); go_simp; (try with_reducible rfl))
   (try simp only [Act.put, List.setIfInBounds_toArray, List.set_cons_zero, List.set_cons_succ])
   refine wpAnyH_take (i := 1) (v := ?_) rfl (by kernel_rfl) (by kernel_rfl) (by kernel_rfl) (fun _ _ _ h => h) (Or.inl ⟨by rfl, ?_⟩) (by assumption) ?_
   rotate_left
   ·(intro w hSw; have r := (hB.grow hSw).r; simp only [BxR] at r; obtain ⟨⟨d0, d1, d2, d3⟩, c0, c1, c2, c3⟩ := Hrd.out w (hG.trans hSw); go_simp; (try with_reducible rfl))
   (try simp only [Act.put, List.setIfInBounds_toArray, List.set_cons_zero, List.set_cons_succ])
   refine wpAnyH_take (i := 2) (v := ?_) rfl (by kernel_rfl) (by kernel_rfl) (by kernel_rfl) (fun _ _ _ h => h) (Or.inl ⟨by rfl, ?_⟩) (by assumption) ?_
   rotate_left
   ·(intro w hSw; have r := (hB.grow hSw).r; simp only [BxR] at r; obtain ⟨⟨d0, d1, d2, d3⟩, c0, c1, c2, c3⟩ := Hrd.out w (hG.trans hSw); go_simp; (try with_reducible rfl))
   (try simp only [Act.put, List.setIfInBounds_toArray, List.set_cons_zero, List.set_cons_succ])
   refine wpAnyH_take (i := 3) (v := ?_) rfl (by kernel_rfl) (by kernel_rfl) (by kernel_rfl) (fun _ _ _ h => h) (Or.inl ⟨by rfl, ?_⟩) (by assumption) ?_
   rotate_left
   ·(intro w hSw; have r := (hB.grow hSw).r; simp only [BxR] at r; obtain ⟨⟨d0, d1, d2, d3⟩, c0, c1, c2, c3⟩ := Hrd.out w (hG.trans hSw); go_simp; (try with_reducible rfl))
   (try simp only [Act.put, List.setIfInBounds_toArray, List.set_cons_zero, List.set_cons_succ])
   refine wpAnyH_take (i := 4) (v := ?_) rfl (by kernel_rfl) (by kernel_rfl) (by kernel_rfl) (fun _ _ _ h => h) (Or.inl ⟨by rfl, ?_⟩) (by assumption) ?_
   rotate_left
   ·(intro w hSw; have r := (hB.grow hSw).r; simp only [BxR] at r; obtain ⟨⟨d0, d1, d2, d3⟩, c0, c1, c2, c3⟩ := Hrd.out w (hG.trans hSw); go_simp; (try with_reducible rfl))
   (try simp only [Act.put, List.setIfInBounds_toArray, List.set_cons_zero, List.set_cons_succ])
   refine wpAnyH_take (i := 5) (v := ?_) rfl (by kernel_rfl) (by kernel_rfl) (by kernel_rfl) (fun _ _ _ h => h) (Or.inl ⟨by rfl, ?_⟩) (by assumption) ?_
   rotate_left
   ·(intro w hSw; have r := (hB.grow hSw).r; simp only [BxR] at r; obtain ⟨⟨d0, d1, d2, d3⟩, c0, c1, c2, c3⟩ := Hrd.out w (hG.trans hSw); go_simp; (try with_reducible rfl))
   (try simp only [Act.put, List.setIfInBounds_toArray, List.set_cons_zero, List.set_cons_succ])
   refine wpAnyH_take (i := 6) (v := ?_) rfl (by kernel_rfl) (by kernel_rfl) (by kernel_rfl) (fun _ _ _ h => h) (Or.inl ⟨by rfl, ?_⟩) (by assumption) ?_
   rotate_left
   ·(intro w hSw; have r := (hB.grow hSw).r; simp only [BxR] at r; obtain ⟨⟨d0, d1, d2, d3⟩, c0, c1, c2, c3⟩ := Hrd.out w (hG.trans hSw); go_simp; (try with_reducible rfl))
   (try simp only [Act.put, List.setIfInBounds_toArray, List.set_cons_zero, List.set_cons_succ])
   refine wpAnyH_take (i := 7) (v := ?_) rfl (by kernel_rfl) (by kernel_rfl) (by kernel_rfl) (fun _ _ _ h => h) (Or.inl ⟨by rfl, ?_⟩) (by assumption) ?_
   rotate_left
   ·(intro w hSw; have r := (hB.grow hSw).r; simp only [BxR] at r; obtain ⟨⟨d0, d1, d2, d3⟩, c0, c1, c2, c3⟩ := Hrd.out w (hG.trans hSw); go_simp; (try with_reducible rfl))
   (try simp only [Act.put, List.setIfInBounds_toArray, List.set_cons_zero, List.set_cons_succ])
   refine wpAnyH_take (i := 8) (v := ?_) rfl (by kernel_rfl) (by kernel_rfl) (by kernel_rfl) (fun _ _ _ h => h) (Or.inl ⟨by rfl, ?_⟩) (by assumption) ?_
   rotate_left
   ·(intro w hSw; have r := (hB.grow hSw).r; simp only [BxR] at r; obtain ⟨⟨d0, d1, d2, d3⟩, c0, c1, c2, c3⟩ := Hrd.out w (hG.trans hSw); go_simp; (try with_reducible rfl))
   (try simp only [Act.put, List.setIfInBounds_toArray, List.set_cons_zero, List.set_cons_succ])
   refine wpAnyH_take (i := 9) (v := ?_) rfl (by kernel_rfl) (by kernel_rfl) (by kernel_rfl) (fun _ _ _ h => h) (Or.inl ⟨by rfl, ?_⟩) (by assumption) ?_
   rotate_left
   ·(intro w hSw; have r := (hB.grow hSw).r; simp only [BxR] at r; obtain ⟨⟨d0, d1, d2, d3⟩, c0, c1, c2, c3⟩ := Hrd.out w (hG.trans hSw); go_simp; (try with_reducible rfl))
   (try simp only [Act.put, List.setIfInBounds_toArray, List.set_cons_zero, List.set_cons_succ])
   refine wpAnyH_ready (rs := [10, 11]) (by kernel_rfl) (by simp) (AllReadyH.cons rfl (fun K hK => ?wayA) (AllReadyH.cons rfl (fun K hK => ?wayB) AllReadyH.nil))
   case' wayA =>
    go_simp
    refine hK.out _ _ (hHeld.trans (Grow.alloc _ _)) (fun hHeld => ?_)
    clear hK K
    (try simp only [Act.put, List.setIfInBounds_toArray, List.set_cons_zero, List.set_cons_succ])
    refine wpAnyH_ready (rs := [11]) (by kernel_rfl) (by simp) (AllReadyH.cons rfl (fun K hK => ?_) AllReadyH.nil)
    go_simp
    refine hK.out _ _ (hHeld.trans (Grow.alloc _ _)) (fun hHeld => ?_)
    clear hK K
    have h6 := ((Blk.new u 88 #[.int .i64 0, .int .i64 0, .int .i64 0, .int .i64 0]).grow (Grow.alloc _ (.cells #[.int .i64 0, .int .i64 0, .int .i64 0, .int .i64 0] 118))).grow (Grow.drew _)
    have h7 := (Blk.new (u.alloc (.cells #[.int .i64 0, .int .i64 0, .int .i64 0, .int .i64 0] 88)) 118 #[.int .i64 0, .int .i64 0, .int .i64 0, .int .i64 0]).grow (Grow.drew _)
    obtain ⟨b6, e6⟩ : ∃ b, b = u.heap.size := ⟨_, rfl⟩
    obtain ⟨b7, e7⟩ : ∃ b, b = u.heap.size + 1 := ⟨_, rfl⟩
    have hFn : Fr u [b6, b7] := ⟨fun b hb => by simp at hb; rcases hb with rfl | rfl <;> omega, by simp; omega⟩
    rw [alloc_size] at h7
    rw [← e6] at h6
    rw [← e7] at h7
    (try simp only [alloc_size])
    simp only [← e7]
    simp only [← e6]
   case' wayB =>
    go_simp
    refine hK.out _ _ (hHeld.trans (Grow.alloc _ _)) (fun hHeld => ?_)
    clear hK K
    (try simp only [Act.put, List.setIfInBounds_toArray, List.set_cons_zero, List.set_cons_succ])
    refine wpAnyH_ready (rs := [10]) (by kernel_rfl) (by simp) (AllReadyH.cons rfl (fun K hK => ?_) AllReadyH.nil)
    go_simp
    refine hK.out _ _ (hHeld.trans (Grow.alloc _ _)) (fun hHeld => ?_)
    clear hK K
    have h7 := ((Blk.new u 118 #[.int .i64 0, .int .i64 0, .int .i64 0, .int .i64 0]).grow (Grow.alloc _ (.cells #[.int .i64 0, .int .i64 0, .int .i64 0, .int .i64 0] 88))).grow (Grow.drew _)
    have h6 := (Blk.new (u.alloc (.cells #[.int .i64 0, .int .i64 0, .int .i64 0, .int .i64 0] 118)) 88 #[.int .i64 0, .int .i64 0, .int .i64 0, .int .i64 0]).grow (Grow.drew _)
    obtain ⟨b7, e7⟩ : ∃ b, b = u.heap.size := ⟨_, rfl⟩
    obtain ⟨b6, e6⟩ : ∃ b, b = u.heap.size + 1 := ⟨_, rfl⟩
    have hFn : Fr u [b6, b7] := ⟨fun b hb => by simp at hb; rcases hb with rfl | rfl <;> omega, by simp; omega⟩
    rw [alloc_size] at h6
    rw [← e7] at h7
    rw [← e6] at h6
    (try simp only [alloc_size])
    simp only [← e6]
    simp only [← e7]
   all_goals
    have hGn := hHeld
    clear hHeld
    generalize World.drew (World.alloc (World.alloc u _) _) = v2 at h6 h7 hGn ⊢
    have hBn := Bx.cons h6 (Bx.cons h7 (Bx.nil v2))
    clear h6 h7 e6 e7
    (try simp only [Act.put, List.setIfInBounds_toArray, List.set_cons_zero, List.set_cons_succ])
    have r := hBn.r
    simp only [BxR] at r
    refine wpAnyH_ready (rs := [12]) (by kernel_rfl) (by simp) (AllReadyH.cons rfl (fun K hK => ?_) AllReadyH.nil)
    go_simp
    clear r
    generalize hu0 : World.setCell (World.setCell (World.setCell (World.setCell v2 _ _) _ _) _ _) _ _ = u0
    have hBG := hBn.over hFn hGn 0 rfl 0 [_, _, _, _] hu0
    clear hBn hGn hu0
    simp only [List.modify_succ_cons, List.modify_zero_cons, wrAll, List.setIfInBounds_toArray, List.set_cons_zero, List.set_cons_succ, Nat.zero_add, Nat.reduceAdd] at hBG
    obtain ⟨hBn, hGn⟩ := hBG
    refine hK.out _ _ hGn (fun hHeld => ?_)
    clear hK K hHeld
    (try simp only [Act.put, List.setIfInBounds_toArray, List.set_cons_zero, List.set_cons_succ])
    have r := hBn.r
    simp only [BxR] at r
    have hd67 := hFn.ne 0 1 rfl rfl (by decide)
    refine wpAnyH_ready (rs := [13]) (by kernel_rfl) (by simp) (AllReadyH.cons rfl (fun K hK => ?_) AllReadyH.nil)
    go_simp
    clear r hd67
    generalize hu1 : World.setCell (World.setCell (World.setCell (World.setCell u0 _ _) _ _) _ _) _ _ = u1
    have hBG := hBn.over hFn hGn 1 rfl 0 [_, _, _, _] hu1
    clear hBn hGn hu1
    simp only [List.modify_succ_cons, List.modify_zero_cons, wrAll, List.setIfInBounds_toArray, List.set_cons_zero, List.set_cons_succ, Nat.zero_add, Nat.reduceAdd] at hBG
    obtain ⟨hBn, hGn⟩ := hBG
    refine hK.out _ _ hGn (fun hHeld => ?_)
    clear hK K hHeld
    (try simp only [Act.put, List.setIfInBounds_toArray, List.set_cons_zero, List.set_cons_succ])
    refine wpAnyH_done (by kernel_rfl) ?_ _
    refine NoP.norm ?_
    have hB2 := Bx.cons hBn.head (Bx.cons hBn.tail.head (hB.grow hGn))
    have hG2 := hG.trans hGn
    clear hB hG hBn hGn hFn v2 u0
    have hB := hB2
    have hG := hG2
    clear hB2 hG2
    obtain ⟨u, rfl⟩ : ∃ x, x = u1 := ⟨_, rfl⟩
   all_goals
    refine then_norm ?_
    refine r0T ?_
    refine wp_cond_false (rfl) ?_
    refine wp_skip ?_
    refine blk_norm ?_
    refine then_norm ?_
    refine r0E ?_
    refine then_norm ?_
    go_roundw
    case rel => exact ⟨i + 1, by omega, by go_num, hB.tail.tail, hG⟩
    case measure => simp [intOf]; omega
  ·obtain rfl : m = i := by omega
   have hdec : decide ((m : Int) < (m : Int)) = false := by simp
   clear hge hi
   refine wp_seq ?_
   refine r0T ?_
   refine wp_cond_false (rfl) ?_
   refine wp_exit ?_
   refine then_exit ?_
   refine then_exit ?_
   refine blk_exit ?_
   refine then_norm ?_
   refine r0T ?_
   refine rt Tryz.results37 ?_
   exact ⟨rfl, hG⟩
end Go.Proofs.YtjmopgepnndckaaGreatDoor
