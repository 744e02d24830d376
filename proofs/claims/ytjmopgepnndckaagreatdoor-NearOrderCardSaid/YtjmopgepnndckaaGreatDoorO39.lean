/-
  Contracts and laws: NearGW.
-/
import Derived.Test.YtjmopgepnndckaaGreatDoorO38
set_option linter.unusedSimpArgs false
set_option linter.unusedVariables false
namespace Go.Proofs.YtjmopgepnndckaaGreatDoor
open Go Go.RowKit
set_option maxHeartbeats 16000000 in
set_option maxRecDepth 100000 in
theorem near_grow_step (b99 D n Lw : Nat) (RA : Option Addr) (RC : Nat) (rs : List Rq) (w0 : World) (hbD : b99 < D) (hn : rs.length = n) (hn0 : 0 < n) (hn2 : n ≤ 100000) (hL1 : 1 ≤ Lw) (hL2 : Lw ≤ 100000) (hrl : ∀ r ∈ rs, r.2.2.length = Lw) (s : Nat) (hs : ∀ r ∈ rs, ∀ x ∈ r.2.2, qs x ≤ s) (hBz : 2 * s + 1 ≤ BIG) (hX : ∀ W, AgD b99 D w0 W → Lrq W RA rs)
  (m : Nat) (hih : ∀ m' < m, GrowOK b99 D n Lw RA RC (rs.map (·.2.2)) w0 m') : GrowOK b99 D n Lw RA RC (rs.map (·.2.2)) w0 m := by
 intro is col A c ns NA NC k w hm hm0 hin hcol hke hk hbw hag hli hbt hown
 obtain ⟨X, hXe⟩ : ∃ X, X = rs.map (·.2.2) := ⟨_, rfl⟩
 have hnbD : ∀ k, nbk NA = some k → D ≤ k ∧ k < w.heap.size := fun k hk => hown.lt k (by rw [nbk_own]; exact hk)
 have hso := fun (b3 b5 : Nat) (W0 W : World) (hP : GrC b3 b5 b99 RA RC n (.slice NA k NC) col rs W0) (hG : Grow W0 W) (g cap : Nat) ho => slices_SortC b3 b5 b99 RA RC n Lw (.slice NA k NC) col rs hn hn0 hrl hcol s hs hBz W0 W hP hG g cap m is hm hin (by omega) ho
 have hcl : ∀ W, Grow w W → _ := fun W hg => slices_CloneI A c m (ints is) (by rw [List.length_map]; exact hm.symm) hm0 (by omega) W (hli.grow hg)
 obtain ⟨h, hh⟩ : ∃ h, m / 2 = h := ⟨_, rfl⟩
 have fh : (m : Int).tdiv 2 = (h : Int) := by rw [Int.tdiv_eq_ediv_of_nonneg (by omega)]; omega
 have fwh : IntKind.i64.wrap (h : Int) = (h : Int) := IntWalk.i64_in _ (by omega)
 obtain ⟨h1, hh1⟩ : ∃ x, h + 1 = x := ⟨_, rfl⟩
 have fh1 : IntKind.i64.wrap ((h : Int) + 1) = (h1 : Int) := by rw [IntWalk.i64_in _ (by omega)]; omega
 obtain ⟨c1, hc1⟩ : ∃ x, col + 1 = x := ⟨_, rfl⟩
 obtain ⟨c2, hc2⟩ : ∃ x, c1 % Lw = x := ⟨_, rfl⟩
 have hc2L : c2 < Lw := by rw [← hc2]; exact Nat.mod_lt _ hL1
 have fc1 : IntKind.i64.wrap ((col : Int) + 1) = (c1 : Int) := by rw [IntWalk.i64_in _ (by omega)]; omega
 have fc2 : (c1 : Int).tmod (Lw : Int) = (c2 : Int) := by rw [Int.tmod_eq_emod_of_nonneg (by omega)]; omega
 have fwc : IntKind.i64.wrap (c2 : Int) = (c2 : Int) := IntWalk.i64_in _ (by omega)
 have hfl := flat_grow X Lw col k m h is hm hm0 hh
 rw [hc1, hc2] at hfl
 simp only [← hXe] at hih hso ⊢
 obtain ⟨ls, hls⟩ : ∃ ls, ls = sortC X col is := ⟨_, rfl⟩
 have hlsl : ls.length = m := by rw [hls, sortC_len]; exact hm
 have hlsn : ∀ x ∈ ls, x < n := fun x hx => hin x ((sortC_perm X col is).mem_iff.1 (by rw [← hls]; exact hx))
 rw [← hls] at hfl
 simp only [← hls] at hso
 have hhm : h < m := by omega
 obtain ⟨x, hx⟩ : ∃ x, x = ls.getD h 0 := ⟨_, rfl⟩
 have hxl : (ints ls)[h]? = some (x : Int) := by
  rw [List.getElem?_map, List.getElem?_eq_getElem (by omega), hx]
  simp [List.getD, hlsl, hhm]
 obtain ⟨k1, hk1⟩ : ∃ x, k + 1 = x := ⟨_, rfl⟩
 have hki : (k : Int) < (k1 : Int) := by omega
 have hkn : k < k1 := by omega
 rw [← hx] at hfl
 have hmi : (0 : Int) < (m : Int) := by omega
 have hhi : (h : Int) < (m : Int) := by omega
 have hni : (0 : Int) < (n : Int) := by omega
 have hLne : decide (Lw = 0) = false := by simp; omega
 have fL0 : ((Lw : Int) == 0) = false := by simp; omega
 have fL1 : Lw ≠ 0 := by omega
 have hnne : decide (n = 0) = false := by simp; omega
 have hrow0 : ∃ (bb ob : Nat), RA = some ⟨bb, ob, none⟩ ∧ ∃ (Ar : Option Addr) (cr : Nat), ∀ W, AgD b99 D w0 W → bb < W.heap.size ∧ W.cell? ⟨bb, ob, none⟩ = some (.slice Ar Lw cr) := by
  obtain ⟨bb, ob, e⟩ := (hX w hag).addr (by omega)
  have hil : 0 < rs.length := by omega
  refine ⟨bb, ob, e, rs[0].1, rs[0].2.1, fun W ha => ?_⟩
  have h1 := hX W ha
  rw [e] at h1
  have h2 := (h1.read (List.getElem?_eq_getElem hil)).1
  rw [hrl _ (List.getElem_mem hil), Nat.add_zero] at h2
  exact ⟨World.block_lt_of_cell? W _ h2, h2⟩
 obtain ⟨bb, ob, rfl, Ar, cr, hr0⟩ := hrow0
 have Hso := Lib.hid hso
 have Hcl := Lib.hid hcl
 have Hr0 := Lib.hid hr0
 have Hag := Lib.hid hag
 have Hih := Lib.hid hih
 have Hfl := Lib.hid hfl
 have Hnb := Lib.hid hnbD
 have Hls := Lib.hid (And.intro hlsl hlsn)
 have Hbt := Lib.hid hbt
 have Hown := Lib.hid hown
 have Hxl := Lib.hid hxl
 have HXX := Lib.hid hX
 have Hke := Lib.hid hke
 have Hk1 := Lib.hid hk1
 have Hh1 := Lib.hid hh1
 have Hk := Lib.hid hk
 have Hh := Lib.hid hh
 clear hh hh1 hc1 hc2 hBz hk hso hcl hr0 hag hih hfl hnbD hlsl hlsn hbt hown hxl hX hli hls hx hs hrl hin hn hXe hm hke hk1
 go_enter Tryz.func66, Tryz.ntmps66
 refine en2 ?_
 intro u hG b5 b3 hB hF
 refine wp_seq ?_
 have HG1 := Lib.hid hG
 have Hb3 := hB.head
 have Hb5 := hB.tail.head
 have h35 := hF.ne 0 1 rfl rfl (by decide)
 have g3 := hF.1 b3 (by simp)
 have g5 := hF.1 b5 (by simp)
 obtain ⟨w1, rfl⟩ : ∃ x, x = w := ⟨_, rfl⟩
 have hG2 := (cutW_grow w1 b99).trans hG
 have hsz : (cutW w1 b99).heap.size = b99 := cutW_size _ _ (by omega)
 obtain ⟨w, hwe⟩ : ∃ x, x = cutW w1 b99 := ⟨_, rfl⟩
 rw [← hwe] at hG2 hsz
 have hF2 : Fr w [b99, b3, b5] := ⟨fun b hb => by
  simp only [List.mem_cons, List.not_mem_nil, or_false] at hb
  rcases hb with rfl | rfl | rfl <;> omega, by simp; omega⟩
 have hB2 : Bx u [(b99, 79, #[.slice (some ⟨bb, ob, none⟩) n RC, .slice NA k NC]), (b3, 169, #[.pointer (some ⟨b99, 0, none⟩)]), (b5, 3, #[.int .i64 (col : Nat)])] := Bx.cons (Hbt.out.grow hG) hB
 clear hB hG hF hwe
 have hB := hB2
 have hG := hG2
 have hF := hF2
 clear hB2 hG2 hF2
 refine wp_r0 ?_
 intro K hN
 go_wp2_with (go_at_call 105; refine (Hcl.out u HG1.out).mono ?_; rintro e w2 ⟨vl, rfl, ho, hg2⟩)
 refine NoK.norm (hN _ _ ?_)
 clear hN K
 obtain ⟨gl, cap, rfl, hgl, hcap⟩ := own_slice ho (by omega)
 refine then_norm ?_
 refine wp_seq ?_
 refine wp_r0 ?_
 intro K hN
 go_wp2_with (go_at_call 106; refine (Hso.out b3 b5 u w2 ⟨Hb3, Hb5, Hbt.out.grow HG1.out, HXX.out u (AgD.kep (S := fun _ => False) Hag.out (KepS.ofGrow HG1.out) (fun _ _ _ h => h))⟩ hg2 gl cap ho).mono ?_; rintro e w3 ⟨rfl, hgl2, hL, hg3⟩)
 refine NoK.norm (hN _ _ ?_)
 clear hN K
 have hGu : Grow u w3 := hg3
 have GS : GrS w1 (fun k => (k = b99 ∨ nbk NA = some k) ∨ w1.heap.size ≤ k) b3 b5 gl D (ints ls) NA NC k ns w3 := ⟨(KepS.ofGrow HG1.out).grow hGu, hL, hgl2, own_grow' (own_grow' Hown.out HG1.out) hGu, Hke.out.symm, .inr g5, by have := Hb5.lt; omega, fun e => by have := (Hnb.out _ e).2; omega, fun e => by have := (Hnb.out _ e).2; omega, fun e => by have := (Hnb.out _ e).2; have := HG1.out.size; omega⟩
 have hglw : w1.heap.size ≤ gl := by have := HG1.out.size; omega
 replace hB := hB.grow hGu
 replace hG := hG.trans hGu
 clear hg2 hg3 hL hgl2 ho hGu Hb3 Hb5 Hso Hcl hgl
 obtain ⟨u, rfl⟩ : ∃ x, x = w3 := ⟨_, rfl⟩
 refine then_norm ?_
 refine wp_seq (rdC allocs [] [(0, 0), (0, 1), (0, 2), (0, 3), (0, 4), (0, 5), (0, 6), (0, 7), (0, 8)] hB hG fun K L hN hL => ?_)
 repeat first | refine gya ?_ | refine gyr ?_ | refine gna ?_ | refine gyb (by (rintro v ⟨hgu, hB, hG, -⟩ N hN; have r := hB.r; simp only [BxR] at r; have q0 := Hr1.out v hgu; go_simp; exact hN)) ?_
 refine geC hL ?_
 clear hB hG hL L
 rintro u ⟨hgu, hB, hG, -⟩
 replace GS := GS.grow hgu
 clear hgu
 refine gtT ?_
 clear hN K
 refine wp_seqK fun Kj hKj => ?_
 go_cut [] from 22 to 36 (fun wx => ∃ (NA2 : Option Addr) (NC2 : Nat), Bx wx [(b99, 79, #[.slice (some ⟨bb, ob, none⟩) n RC, .slice NA2 k1 NC2]), (b3, 169, #[.pointer (some ⟨b99, 0, none⟩)]), (b5, 3, #[.int .i64 (col : Nat)])] ∧ Grow w wx ∧ GrS w1 (fun k => (k = b99 ∨ nbk NA = some k) ∨ w1.heap.size ≤ k) b3 b5 gl D (ints ls) NA2 NC2 k1 (ns ++ [⟨x, (col : Nat), 0, 0⟩]) wx ∧ ∀ k, nbk NA2 = some k → nbk NA = some k ∨ w1.heap.size ≤ k)
 case first =>
  rename_i Jj Kk hJj hMj
  have h0i : (0 : Int) ≤ (h : Int) := Int.natCast_nonneg _
  obtain ⟨i0, hi0, hz0, hz1, hz2⟩ := info_parts info_Node
  have f1 := hB.head.cell 1
  have f3 := hB.tail.head.cell 0
  have f5 := hB.tail.tail.head.cell 0
  have fl : u.cell? ⟨gl, h, none⟩ = some (.int .i64 (x : Nat)) := by
   obtain ⟨b, o, e, hb, hc⟩ := GS.l (by intro e; rw [e] at Hxl; exact absurd Hxl.out (by simp))
   cases e
   have := hc h _ Hxl.out
   rwa [Nat.zero_add] at this
  have a3 : nbk NA ≠ some b3 := fun e => by have := (Hnb.out _ e).2; omega
  have a99 : nbk NA ≠ some b99 := fun e => by have := (Hnb.out _ e).1; omega
  have gu := GS.gu
  have n3 : b99 ≠ b3 := by omega
  have n55 : b99 ≠ b5 := by omega
  have ngl : b99 ≠ gl := by omega
  have l99 := hB.head.lt
  have l3 := hB.tail.head.lt
  have l5 := hB.tail.tail.head.lt
  have hD := Nat.le_trans Hag.out.1 GS.K.size
  have hown := GS.own
  have hgn := GS.gn
  have h55 := GS.n5
  have hk := Hk.out
  rw [← nbk_own NA k NC] at a3 a99 hgn h55
  refine Code.wp_mono NoP.up ?_
  simp only [List.getElem?_toArray, List.getElem?_cons_zero, List.getElem?_cons_succ] at f1 f3 f5
  refine wp_region_held_drew (S := fun w' => w'.cell? ⟨b3, 0, none⟩ = some (.pointer (some ⟨b99, 0, none⟩)) ∧ w'.cell? ⟨gl, h, none⟩ = some (.int .i64 (x : Nat)) ∧ w'.cell? ⟨b5, 0, none⟩ = some (.int .i64 (col : Nat))) (by kernel_rfl) ⟨f3, fl, f5⟩ (fun hHeld => ?_)
  refine wpAnyH_take (i := 0) (v := ?_) rfl (by kernel_rfl) (by kernel_rfl) (by kernel_rfl) (fun _ _ _ h => h) (Or.inl ⟨by rfl, ?_⟩) (by assumption) ?_
  rotate_left
  ·(intro w hSw; go_simp; (try with_reducible rfl))
  (try simp only [Act.put, List.setIfInBounds_toArray, List.set_cons_zero, List.set_cons_succ])
  refine wpAnyH_take (i := 1) (v := ?_) rfl (by kernel_rfl) (by kernel_rfl) (by kernel_rfl) (fun _ _ _ h => h) (Or.inl ⟨by rfl, ?_⟩) (by assumption) ?_
  rotate_left
  ·(intro w hSw; go_simp; (try with_reducible rfl))
  (try simp only [Act.put, List.setIfInBounds_toArray, List.set_cons_zero, List.set_cons_succ])
  refine wpAnyH_take (i := 2) (v := ?_) rfl (by kernel_rfl) (by kernel_rfl) (by kernel_rfl) (fun _ _ _ h => h) (Or.inl ⟨by rfl, ?_⟩) (by assumption) ?_
  rotate_left
  ·(intro w hSw; go_simp; (try with_reducible rfl))
  (try simp only [Act.put, List.setIfInBounds_toArray, List.set_cons_zero, List.set_cons_succ])
  refine wpAnyH_take (i := 3) (v := ?_) rfl (by kernel_rfl) (by kernel_rfl) (by kernel_rfl) (fun _ _ _ h => h) (Or.inl ⟨by rfl, ?_⟩) (by assumption) ?_
  rotate_left
  ·(intro w hSw; go_simp; (try with_reducible rfl))
  (try simp only [Act.put, List.setIfInBounds_toArray, List.set_cons_zero, List.set_cons_succ])
  refine wpAnyH_take (i := 5) (v := ?_) rfl (by kernel_rfl) (by kernel_rfl) (by kernel_rfl) (fun _ _ _ h => h) (Or.inl ⟨by rfl, ?_⟩) (by assumption) ?_
  rotate_left
  ·(intro w hSw; go_simp; (try with_reducible rfl))
  (try simp only [Act.put, List.setIfInBounds_toArray, List.set_cons_zero, List.set_cons_succ])
  refine wpAnyH_take (i := 6) (v := ?_) rfl (by kernel_rfl) (by kernel_rfl) (by kernel_rfl) (fun _ _ _ h => h) (Or.inl ⟨by rfl, ?_⟩) (by assumption) ?_
  rotate_left
  ·(intro w hSw; go_simp; (try with_reducible rfl))
  (try simp only [Act.put, List.setIfInBounds_toArray, List.set_cons_zero, List.set_cons_succ])
  refine wpAnyH_take (i := 9) (v := ?_) rfl (by kernel_rfl) (by kernel_rfl) (by kernel_rfl) (fun _ _ _ h => h) (Or.inl ⟨by rfl, ?_⟩) (by assumption) ?_
  rotate_left
  ·(intro w hSw; go_simp; (try with_reducible rfl))
  (try simp only [Act.put, List.setIfInBounds_toArray, List.set_cons_zero, List.set_cons_succ])
  refine wpAnyH_take (i := 7) (v := ?_) rfl (by kernel_rfl) (by kernel_rfl) (by kernel_rfl) (fun _ _ _ h => h) (Or.inl ⟨by rfl, ?_⟩) (by assumption) ?_
  rotate_left
  ·(intro w hSw; go_simp; (try with_reducible rfl))
  (try simp only [Act.put, List.setIfInBounds_toArray, List.set_cons_zero, List.set_cons_succ])
  refine wpAnyH_take (i := 8) (v := ?_) rfl (by kernel_rfl) (by kernel_rfl) (by kernel_rfl) (fun _ _ _ h => h) (Or.inl ⟨by rfl, ?_⟩) (by assumption) ?_
  rotate_left
  ·(intro w hSw; go_simp; (try with_reducible rfl))
  (try simp only [Act.put, List.setIfInBounds_toArray, List.set_cons_zero, List.set_cons_succ])
  refine wpAnyH_take (i := 10) (v := ?_) rfl (by kernel_rfl) (by kernel_rfl) (by kernel_rfl) (fun _ _ _ h => h) (Or.inl ⟨by rfl, ?_⟩) (by assumption) ?_
  rotate_left
  ·(intro w hSw; go_simp; (try with_reducible rfl))
  (try simp only [Act.put, List.setIfInBounds_toArray, List.set_cons_zero, List.set_cons_succ])
  refine wpAnyH_ready (rs := [4, 11]) (by kernel_rfl) (by simp) (AllReadyH.cons rfl (fun K hK => ?wayA) (AllReadyH.cons rfl (fun K hK => ?wayB) AllReadyH.nil))
  case' wayA =>
   go_simp
   refine hK.out _ _ ⟨f3, fl, f5⟩ (fun hHeld => ?_)
   clear hK K
   (try simp only [Act.put, List.setIfInBounds_toArray, List.set_cons_zero, List.set_cons_succ])
   refine wpAnyH_ready (rs := [11]) (by kernel_rfl) (by simp) (AllReadyH.cons rfl (fun K hK => ?_) AllReadyH.nil)
   go_simp
   refine hK.out _ _ ?_ (fun hHeld => ?_)
   ·(go_keep)
   clear hK K
   (try simp only [Act.put, List.setIfInBounds_toArray, List.set_cons_zero, List.set_cons_succ])
   refine wpAnyH_ready (rs := [12]) (by kernel_rfl) (by simp) (AllReadyH.cons rfl (fun K hK => ?_) AllReadyH.nil)
   refine step_append_lies _ (by rfl) _ _ _ (by rfl) D 88 i0 _ 4 32 Tryz.underlying77 hi0 hz0 hz1 hz2 rfl (by omega) (.slice NA k NC) k (ns.flatMap ndL) (by rfl) ((hown.alloc _).drew) ⟨u.heap.size, 0, none⟩ 1 1 [.int .i64 (x : Nat), .int .i64 (col : Nat), .int .i64 0, .int .i64 0] (by rfl) (by rfl) (World.news_of_block (cs := #[.int .i64 (x : Nat), .int .i64 (col : Nat), .int .i64 0, .int .i64 0]) (t := 88) (fr := (0, 0)) (heap_alloc_new u _)) (by simp [Value.oneCell']) (by omega) (by unfold maxLen; omega) (by omega) (by simp; omega) (u.heap.size + 1) (by simp) ?_
   intro gg cap2 w4 hown1 hgrow hat hlt
   have c4 : w4.cell? ⟨b99, 1, none⟩ = some (.slice NA k NC) := (hgrow.cell_far ⟨b99, 1, none⟩ (by simp; omega) (Ne.symm a99)).trans ((hB.head.grow (Grow.alloc u _)).cell 1)
   have z4 : w4.frozen? ⟨b99, 1, none⟩ = false := (hgrow.frozen_far ⟨b99, 1, none⟩ (by simp; omega) (Ne.symm a99)).trans ((hB.head.grow (Grow.alloc u _)).frozen 1)
   refine hK.out _ _ ?_ (fun hHeld => ?_)
   ·exact ⟨(hgrow.cell_far _ (by simp; omega) (Ne.symm a3)).trans hHeld.1, (hgrow.cell_far _ (by simp; omega) (Ne.symm hgn)).trans hHeld.2.1, (hgrow.cell_far _ (by simp; omega) (Ne.symm h55)).trans hHeld.2.2⟩
   clear hK K
   (try simp only [Act.put, List.setIfInBounds_toArray, List.set_cons_zero, List.set_cons_succ])
   refine wpAnyH_take (i := 13) (v := ?_) rfl (by kernel_rfl) (by kernel_rfl) (by kernel_rfl) (fun _ _ _ h => h) (Or.inl ⟨by rfl, ?_⟩) (by assumption) ?_
   rotate_left
   ·(intro w hSw; go_simp; (try with_reducible rfl))
   (try simp only [Act.put, List.setIfInBounds_toArray, List.set_cons_zero, List.set_cons_succ])
   refine wpAnyH_take (i := 14) (v := ?_) rfl (by kernel_rfl) (by kernel_rfl) (by kernel_rfl) (fun _ _ _ h => h) (Or.inl ⟨by rfl, ?_⟩) (by assumption) ?_
   rotate_left
   ·(intro w hSw; go_simp; (try with_reducible rfl))
   (try simp only [Act.put, List.setIfInBounds_toArray, List.set_cons_zero, List.set_cons_succ])
   refine wpAnyH_ready (rs := [15]) (by kernel_rfl) (by simp) (AllReadyH.cons rfl (fun K hK => ?_) AllReadyH.nil)
   go_simp
   refine hK.out _ _ ?_ (fun hHeld => ?_)
   ·exact ⟨(World.cell?_setCell_far _ _ _ _ n3).trans hHeld.1, (World.cell?_setCell_far _ _ _ _ ngl).trans hHeld.2.1, (World.cell?_setCell_far _ _ _ _ n55).trans hHeld.2.2⟩
   clear hK K
   (try simp only [Act.put, List.setIfInBounds_toArray, List.set_cons_zero, List.set_cons_succ])
   refine wpAnyH_done (by kernel_rfl) ?_ _
  case' wayB =>
   go_simp
   refine hK.out _ _ ?_ (fun hHeld => ?_)
   ·go_keep
   clear hK K
   (try simp only [Act.put, List.setIfInBounds_toArray, List.set_cons_zero, List.set_cons_succ])
   refine wpAnyH_ready (rs := [4]) (by kernel_rfl) (by simp) (AllReadyH.cons rfl (fun K hK => ?_) AllReadyH.nil)
   go_simp
   refine hK.out _ _ ?_ (fun hHeld => ?_)
   ·exact hHeld
   clear hK K
   (try simp only [Act.put, List.setIfInBounds_toArray, List.set_cons_zero, List.set_cons_succ])
   refine wpAnyH_ready (rs := [12]) (by kernel_rfl) (by simp) (AllReadyH.cons rfl (fun K hK => ?_) AllReadyH.nil)
   refine step_append_lies _ (by rfl) _ _ _ (by rfl) D 88 i0 _ 4 32 Tryz.underlying77 hi0 hz0 hz1 hz2 rfl (by omega) (.slice NA k NC) k (ns.flatMap ndL) (by rfl) ((hown.alloc _).drew) ⟨u.heap.size, 0, none⟩ 1 1 [.int .i64 (x : Nat), .int .i64 (col : Nat), .int .i64 0, .int .i64 0] (by rfl) (by rfl) (World.news_of_block (cs := #[.int .i64 (x : Nat), .int .i64 (col : Nat), .int .i64 0, .int .i64 0]) (t := 88) (fr := (0, 0)) (heap_alloc_new u _)) (by simp [Value.oneCell']) (by omega) (by unfold maxLen; omega) (by omega) (by simp; omega) (u.heap.size + 1) (by simp) ?_
   intro gg cap2 w4 hown1 hgrow hat hlt
   have c4 : w4.cell? ⟨b99, 1, none⟩ = some (.slice NA k NC) := (hgrow.cell_far ⟨b99, 1, none⟩ (by simp; omega) (Ne.symm a99)).trans ((hB.head.grow (Grow.alloc u _)).cell 1)
   have z4 : w4.frozen? ⟨b99, 1, none⟩ = false := (hgrow.frozen_far ⟨b99, 1, none⟩ (by simp; omega) (Ne.symm a99)).trans ((hB.head.grow (Grow.alloc u _)).frozen 1)
   refine hK.out _ _ ?_ (fun hHeld => ?_)
   ·exact ⟨(hgrow.cell_far _ (by simp; omega) (Ne.symm a3)).trans hHeld.1, (hgrow.cell_far _ (by simp; omega) (Ne.symm hgn)).trans hHeld.2.1, (hgrow.cell_far _ (by simp; omega) (Ne.symm h55)).trans hHeld.2.2⟩
   clear hK K
   (try simp only [Act.put, List.setIfInBounds_toArray, List.set_cons_zero, List.set_cons_succ])
   refine wpAnyH_take (i := 13) (v := ?_) rfl (by kernel_rfl) (by kernel_rfl) (by kernel_rfl) (fun _ _ _ h => h) (Or.inl ⟨by rfl, ?_⟩) (by assumption) ?_
   rotate_left
   ·(intro w hSw; go_simp; (try with_reducible rfl))
   (try simp only [Act.put, List.setIfInBounds_toArray, List.set_cons_zero, List.set_cons_succ])
   refine wpAnyH_take (i := 14) (v := ?_) rfl (by kernel_rfl) (by kernel_rfl) (by kernel_rfl) (fun _ _ _ h => h) (Or.inl ⟨by rfl, ?_⟩) (by assumption) ?_
   rotate_left
   ·(intro w hSw; go_simp; (try with_reducible rfl))
   (try simp only [Act.put, List.setIfInBounds_toArray, List.set_cons_zero, List.set_cons_succ])
   refine wpAnyH_ready (rs := [15]) (by kernel_rfl) (by simp) (AllReadyH.cons rfl (fun K hK => ?_) AllReadyH.nil)
   go_simp
   refine hK.out _ _ ?_ (fun hHeld => ?_)
   ·exact ⟨(World.cell?_setCell_far _ _ _ _ n3).trans hHeld.1, (World.cell?_setCell_far _ _ _ _ ngl).trans hHeld.2.1, (World.cell?_setCell_far _ _ _ _ n55).trans hHeld.2.2⟩
   clear hK K
   (try simp only [Act.put, List.setIfInBounds_toArray, List.set_cons_zero, List.set_cons_succ])
   refine wpAnyH_done (by kernel_rfl) ?_ _
  all_goals refine NoP.norm ?_
  all_goals
   refine then_norm ?_
   refine hMj _ _ (Met.intro (hJj _ _ ?_))
   repeat apply Exists.intro
   refine ⟨?rel, rfl⟩
   case rel =>
    have hg4 : KepS (fun j => some j = (Value.slice NA k NC).ownBlock) u w4 := ((KepS.ofGrow (Grow.alloc u _)).trans (KepS.ofGrow (Grow.drew _))).trans (KepS.ofGrown hgrow (fun _ e => e.symm))
    have hS4 : KepS (fun j => j = b99) w4 (w4.setCell ⟨b99, 1, none⟩ (.slice (some ⟨gg, 0, none⟩) (k + 1) cap2)) := KepS.setCell (S := fun j => j = b99) w4 ⟨b99, 1, none⟩ rfl _
    have hgb : gg ≠ b99 := fun e => by rcases hat with h | h; exact a99 (by rw [h, e]); omega
    have hg5 : gg ≠ b5 := fun e => by rcases hat with h | h; exact h55 (by rw [h, e]); omega
    have hg3 : gg ≠ b3 := fun e => by rcases hat with h | h; exact a3 (by rw [h, e]); omega
    have hgg : gg ≠ gl := fun e => by rcases hat with h | h; exact hgn (by rw [h, e]); omega
    refine ⟨some ⟨gg, 0, none⟩, cap2, ?_, ?_, ?_, ?_⟩
    ·have q1 := (hg4.blk hB.head (fun e => a99 e.symm)).set_ 1 (.slice (some ⟨gg, 0, none⟩) (k + 1) cap2)
     simp only [List.setIfInBounds_toArray, List.set_cons_zero, List.set_cons_succ] at q1
     have q2 := Bx.cons q1 (Bx.cons (hS4.blk (hg4.blk hB.tail.head (fun e => a3 e.symm)) (fun e => n3 e.symm)) (Bx.cons (hS4.blk (hg4.blk hB.tail.tail.head (fun e => h55 e.symm)) (fun e => n55 e.symm)) (Bx.nil _)))
     rw [← Hk1.out]
     exact q2
    ·refine Below.trans ((hG.trans (Grow.alloc u _)).trans (Grow.drew _)) ⟨hgrow.os, hgrow.tape, hgrow.output, ?_, fun k hk => ?_⟩
     ·have := hgrow.size
      simp only [World.setCell, Array.size_modify]
      exact this
     ·have h1 := hG.size
      rw [Below.heap_setCell w4 _ _ _ (by show k ≠ b99; omega)]
      refine hgrow.block k (by simp; omega) (fun e => ?_)
      have := (hown.lt k e.symm).1
      omega
    ·refine ⟨?_, ?_, ?_, ?_, ?_, GS.s5, GS.g5, fun e => hg5 (Option.some.inj e), fun e => hg3 (Option.some.inj e), fun e => hgg (Option.some.inj e)⟩
     ·refine (GS.K.trans (KepS.mono hg4 (fun k hk e => ?_))).trans (KepS.mono hS4 (fun k hk e => .inl (.inl e)))
      exact .inl (.inr ((nbk_own NA _ _).symm.trans e.symm))
     ·exact hS4.li (hg4.li GS.l (fun e => hgn e.symm)) (fun e => ngl e.symm)
     ·exact Nat.lt_of_lt_of_le GS.gu (Nat.le_trans hg4.size hS4.size)
     ·rw [← Hk1.out, List.flatMap_append]
      exact hS4.own hown1 (fun b hb e => hgb ((Option.some.inj hb).trans e))
     ·rw [List.length_append, ← Hk1.out, Hke.out]
      rfl
    ·intro k hk
     rcases hat with h | h
     ·rw [nbk_own] at h
      rw [h]
      exact .inl hk
     ·have := Option.some.inj hk
      have h2 := GS.K.size
      exact .inr (by simp only at this; omega)
 case rest =>
  clear hB hG GS
  obtain ⟨NA2, NC2, hB, hG, GS, hnb2⟩ := hcut
  obtain ⟨u, rfl⟩ : ∃ x, x = wc := ⟨_, rfl⟩
  obtain ⟨g2, NC3, e9, -, -⟩ := own_slice GS.own (by omega)
  cases e9
  have Hnb2 := Lib.hid hnb2
  clear hnb2
  have HDK : ∀ W, KepS (fun k => (k = b99 ∨ nbk NA = some k) ∨ w1.heap.size ≤ k) w1 W → AgD b99 D w0 W := fun W hW => AgD.kep Hag.out hW (fun j h1 h2 hS => by
   have h3 := Hag.out.1
   rcases hS with (hS | hS) | hS
   ·omega
   ·have := (Hnb.out _ hS).1; omega
   ·omega)
  refine hKj _ _ ?_
  clear hKj Kj
  refine wp_seq ?_
  obtain ⟨hr1, hr2⟩ := Hr0.out u (HDK u GS.K)
  have Hr1 := Lib.hid (fun W (hg : Grow u W) => (hg.cell (p := ⟨bb, ob, none⟩) hr1).trans hr2)
  clear hr1 hr2
  refine rdC allocs [] [(0, 0), (0, 1), (0, 2), (0, 3), (0, 4), (0, 5), (0, 6), (0, 7), (0, 8), (0, 9)] hB hG fun K L hN hL => ?_
  repeat first | refine gya ?_ | refine gyr ?_ | refine gna ?_ | refine gyb (by (rintro v ⟨hgu, hB, hG, -⟩ N hN; have r := hB.r; simp only [BxR] at r; have q0 := Hr1.out v hgu; go_simp; exact hN)) ?_
  refine geC hL ?_
  clear hB hG hL L
  rintro u ⟨hgu, hB, hG, -⟩
  replace GS := GS.grow hgu
  clear hgu
  refine gtT ?_
  clear hN K
  refine sv hB hF hG 2 0 [_] ?_
  intro u hu hBG
  replace GS := GS.put hB 2 rfl (by first | decide | simp) _ _ hu
  clear hB hG hu
  obtain ⟨hB, hG⟩ := hBG
  refine wp_seq ?_
  have hlen := Hls.out.1
  have hmh := Hh.out
  rcases Nat.eq_zero_or_pos h with hz | hz
  ·have d48 : decide ((0 : Int) < (h : Int)) = false := by simp; omega
   have d48n : decide (0 < h) = false := by simp; omega
   have d71 : decide ((h1 : Int) < (m : Int)) = false := by have := Hh1.out; simp; omega
   have d71n : decide (h1 < m) = false := by have := Hh1.out; simp; omega
   have HM1 := Lib.hid (show m = 1 by omega)
   have HZ := Lib.hid hz
   clear hz hmh hlen
   refine r0T ?_
   refine wp_cond_false (rfl) ?_
   refine wp_skip ?_
   refine then_norm ?_
   refine r0T ?_
   refine wp_cond_false (rfl) ?_
   refine wp_skip ?_
   refine end_b rfl (results_none rfl _ _ _) ⟨rfl, grow_end GS hB (by have := HM1.out; have := Hk1.out; omega) ?_ Hnb2.out⟩
   rw [Hfl.out, if_pos HZ.out, if_pos (by have := HM1.out; omega), flat_nil _ _ _ _ (by rw [HZ.out]; rfl), flat_nil _ _ _ _ (List.drop_eq_nil_of_le (by rw [Hls.out.1, HM1.out]; omega))]
   rfl
  ·have d48 : decide ((0 : Int) < (h : Int)) = true := by simp; omega
   have d48n : decide (0 < h) = true := by simp; omega
   have HZ := Lib.hid hz
   obtain ⟨k3, hk3⟩ : ∃ x, k1 + h = x := ⟨_, rfl⟩
   obtain ⟨T1, hT1⟩ : ∃ T, T = flatT (growT X Lw (ls.take h) c2) k1 := ⟨_, rfl⟩
   have hT1l : T1.length = h := by rw [hT1, flatT_len, growT_size, List.length_take, hlen]; omega
   have hc1 := fun (W : World) (GW : GrS w1 (fun k => (k = b99 ∨ nbk NA = some k) ∨ w1.heap.size ≤ k) b3 b5 gl D (ints ls) (some ⟨g2, 0, none⟩) NC2 k1 (ns ++ [(⟨x, (col : Nat), (k1 : Nat), 0⟩ : NdT)]) W) (hBW : Blk W b99 79 #[.slice (some ⟨bb, ob, none⟩) n RC, .slice (some ⟨g2, 0, none⟩) k1 NC2]) => Hih.out h hhm (ls.take h) c2 (some ⟨gl, 0, none⟩) cap _ (some ⟨g2, 0, none⟩) NC2 k1 W (by rw [List.length_take, hlen]; omega) hz (fun y hy => Hls.out.2 y (List.mem_of_mem_take hy)) hc2L GW.len.symm (by have := Hk.out; have := Hk1.out; omega) (by have := GW.K.size; omega) (HDK W GW.K) (by rw [ints, List.map_take]; exact li_take GW.l h) hBW GW.own
   rw [← hT1, hk3] at hc1
   have Hc1 := Lib.hid hc1
   have Hk3 := Lib.hid hk3
   have HT1 := Lib.hid hT1
   have HT1l := Lib.hid hT1l
   have hsl1 := fun W => cut_take gl cap m h (by omega) W
   clear hc1 hk3 hT1 hT1l
   rcases Nat.lt_or_ge h1 m with hz2 | hz2
   ·have d71 : decide ((h1 : Int) < (m : Int)) = true := by simp; omega
    have d71n : decide (h1 < m) = true := by simp; omega
    have HZ2 := Lib.hid hz2
    clear hz hz2 hmh hlen
    refine r0T ?_
    refine wp_cond_true (rfl) ?_
    refine wp_seq (rdC allocs [] [(0, 0), (0, 1), (0, 2), (0, 3), (0, 4), (0, 5), (0, 6), (0, 7), (0, 8), (0, 9), (0, 10), (0, 11)] hB hG fun K L hN hL => ?_)
    repeat first | refine gya ?_ | refine gyr ?_ | refine gna ?_ | refine gyb (by (rintro v ⟨hgu, hB, hG, -⟩ N hN; have r := hB.r; simp only [BxR] at r; have q0 := Hr1.out v hgu; go_simp; exact hN)) ?_
    refine geC hL ?_
    clear hB hG hL L
    rintro u ⟨hgu, hB, hG, -⟩
    replace GS := GS.grow hgu
    obtain ⟨z0, z1, z2, z3, o0, o1, o2, o3, hfz⟩ := own_spot4 (enc := ndL) (fun _ => rfl) GS.own GS.len.symm k (by rw [GS.len]; omega)
    clear hgu
    refine gtT ?_
    clear hN K
    clear o0 o1 o2 o3 hfz
    generalize hu0 : World.setCell u ⟨g2, k * 4 + 2, none⟩ _ = u0
    obtain ⟨p1, p2⟩ := GS.own.stored (k * 4 + 2) (.int .i64 (k1 : Nat))
    rw [hu0] at p1 p2
    have q1 : (((ns ++ [(⟨x, (col : Nat), 0, 0⟩ : NdT)]).flatMap ndL).set (k * 4 + 2) (.int .i64 (k1 : Nat))) = (ns ++ [(⟨x, (col : Nat), (k1 : Nat), 0⟩ : NdT)]).flatMap ndL := by
     have hkl : k < (ns ++ [(⟨x, (col : Nat), 0, 0⟩ : NdT)]).length := by rw [GS.len]; omega
     rw [nd_setL _ k _ hkl]
     have e1 : (ns ++ [(⟨x, (col : Nat), 0, 0⟩ : NdT)])[k] = ⟨x, (col : Nat), 0, 0⟩ := by
      have := Hke.out
      subst this
      simp
     rw [e1]
     congr 1
     have := Hke.out
     subst this
     simp
    rw [q1] at p1
    have a99 : g2 ≠ b99 := fun e => by have := (GS.own.lt g2 rfl).1; omega
    have k2 : KepS (fun j => j = g2) u u0 := KepS.ofGrown p2 (fun _ e => (Option.some.inj e).symm)
    have hb3 : g2 ≠ b3 := fun e => GS.n3 (by rw [← e]; rfl)
    have hb5 : g2 ≠ b5 := fun e => GS.n5 (by rw [← e]; rfl)
    have hgl : g2 ≠ gl := fun e => GS.gn (by rw [← e]; rfl)
    have GS2 : GrS w1 (fun k => (k = b99 ∨ nbk NA = some k) ∨ w1.heap.size ≤ k) b3 b5 gl D (ints ls) (some ⟨g2, 0, none⟩) NC2 k1 (ns ++ [⟨x, (col : Nat), (k1 : Nat), 0⟩]) u0 := ⟨GS.K.trans (KepS.mono k2 (fun j hj e => by
      subst e
      rcases Hnb2.out j rfl with h | h
      ·exact .inl (.inr h)
      ·exact .inr h)), k2.li GS.l (fun e => hgl e.symm), Nat.lt_of_lt_of_le GS.gu k2.size, p1, by have := GS.len; rw [List.length_append] at this ⊢; exact this, GS.s5, GS.g5, GS.n5, GS.n3, GS.gn⟩
    have hB2 : Bx u0 [(b99, 79, #[.slice (some ⟨bb, ob, none⟩) n RC, .slice (some ⟨g2, 0, none⟩) k1 NC2]), (b3, 169, #[.pointer (some ⟨b99, 0, none⟩)]), (b5, 3, #[.int .i64 (c2 : Nat)])] := Bx.cons (k2.blk hB.head (fun e => a99 e.symm)) (Bx.cons (k2.blk hB.tail.head (fun e => hb3 e.symm)) (Bx.cons (k2.blk hB.tail.tail.head (fun e => hb5 e.symm)) (Bx.nil _)))
    have hG2 : Grow w u0 := hG.grown p2 (fun j e => by have := (GS.own.lt j e).1; omega)
    clear hB hG GS p1 p2 q1 k2 hu0 a99 hb3 hb5 hgl
    have hB := hB2
    have hG := hG2
    have GS := GS2
    clear hB2 hG2 GS2
    obtain ⟨u, rfl⟩ : ∃ x, x = u0 := ⟨_, rfl⟩
    refine wp_rd (w := w) allocs 5 [] [(0, 0), (0, 1), (0, 2), (0, 3), (0, 4)] (by kernel_rfl) (by kernel_rfl) (by simp only [List.drop_succ_cons, List.drop_zero]; exact rfl) (fun _ => True) noG hB hG trivial ?_
    intro K L hN hL
    simp only [pickOps, List.getElem?_toArray, List.getElem?_cons_zero, List.getElem?_cons_succ]
    repeat first | refine gya ?_ | refine gyr ?_ | refine gna ?_ | refine gyb (by (rintro v ⟨hgu, hB, hG, -⟩ N hN; have r := hB.r; simp only [BxR] at r; have q0 := Hr1.out v hgu; go_simp; exact hN)) ?_
    refine gend ?_
    rintro v ⟨hgu, hB1, hG1, -⟩
    replace GS := GS.grow hgu
    clear hB hG
    have hB := hB1
    have hG := hG1
    clear hB1 hG1
    refine hL _ _ ?_
    clear hL L hgu
    obtain ⟨u, rfl⟩ : ∃ x, x = v := ⟨_, rfl⟩
    go_wp2_with (go_at_call 66; refine (Hc1.out u GS hB.head).mono ?_; rintro e w5 ⟨rfl, NA5, NC5, q1, q2, q3, q4⟩)
    have x3 := hB.tail.head.lt
    have x5 := hB.tail.tail.head.lt
    have GS2 : GrS w1 (fun k => (k = b99 ∨ nbk NA = some k) ∨ w1.heap.size ≤ k) b3 b5 gl D (ints ls) NA5 NC5 k3 ((ns ++ [(⟨x, (col : Nat), (k1 : Nat), 0⟩ : NdT)]) ++ T1) w5 := ⟨GS.K.trans (q3.mono (fun j hj e => by
      rcases e with e | e
      ·exact .inl (.inl e)
      ·rcases Hnb2.out j e with h | h
       ·exact .inl (.inr h)
       ·exact .inr h)), q3.li GS.l (fun e => e.elim (fun e => by omega) GS.gn), Nat.lt_of_lt_of_le GS.gu q3.size, q2, by rw [List.length_append, GS.len, HT1l.out]; exact Hk3.out, GS.s5, GS.g5, fun e => (q4 _ e).elim GS.n5 (fun h => by omega), fun e => (q4 _ e).elim GS.n3 (fun h => by omega), fun e => (q4 _ e).elim GS.gn (fun h => by have := GS.gu; omega)⟩
    have hnb5 : ∀ j, nbk NA5 = some j → nbk NA = some j ∨ w1.heap.size ≤ j := fun j e => (q4 j e).elim (Hnb2.out j) (fun h => .inr (by have := GS.K.size; omega))
    have Hnb5 := Lib.hid hnb5
    have hB2 : Bx w5 [(b99, 79, #[.slice (some ⟨bb, ob, none⟩) n RC, .slice NA5 k3 NC5]), (b3, 169, #[.pointer (some ⟨b99, 0, none⟩)]), (b5, 3, #[.int .i64 (c2 : Nat)])] := Bx.cons q1 (Bx.cons (q3.blk hB.tail.head (fun e => e.elim (fun e => by omega) GS.n3)) (Bx.cons (q3.blk hB.tail.tail.head (fun e => e.elim (fun e => by omega) GS.n5)) (Bx.nil _)))
    have hG2 : Grow w w5 := Below.trans hG ⟨q3.os, q3.tape, q3.output, q3.size, fun j hj => q3.block j (by have := hG.size; omega) (fun e => e.elim (fun e => by omega) (fun e => by have := (GS.own.lt j e).1; omega))⟩
    clear hB hG GS q1 q2 q3 q4 x3 x5 hnb5 Hc1
    have hB := hB2
    have hG := hG2
    have GS := GS2
    clear hB2 hG2 GS2
    obtain ⟨u, rfl⟩ : ∃ x, x = w5 := ⟨_, rfl⟩
    refine NoK.norm (hN _ _ ?_)
    clear hN K
    refine then_norm ?_
    refine r0T ?_
    refine wp_cond_true (rfl) ?_
    refine wp_seq ?_
    obtain ⟨g7, NC7, e9, -, -⟩ := own_slice GS.own (by have := Hk3.out; have := HZ.out; omega)
    cases e9
    have hkk3 : (k : Int) < (k3 : Int) := by have := Hk3.out; omega
    have hkn3 : k < k3 := by have := Hk3.out; omega
    refine rdC allocs [] [(0, 0), (0, 1), (0, 2), (0, 3), (0, 4), (0, 5), (0, 6), (0, 7), (0, 8), (0, 9), (0, 10), (0, 11)] hB hG fun K L hN hL => ?_
    repeat first | refine gya ?_ | refine gyr ?_ | refine gna ?_ | refine gyb (by (rintro v ⟨hgu, hB, hG, -⟩ N hN; have r := hB.r; simp only [BxR] at r; have q0 := Hr1.out v hgu; go_simp; exact hN)) ?_
    refine geC hL ?_
    clear hB hG hL L
    rintro u ⟨hgu, hB, hG, -⟩
    replace GS := GS.grow hgu
    obtain ⟨z0, z1, z2, z3, o0, o1, o2, o3, hfz⟩ := own_spot4 (enc := ndL) (fun _ => rfl) GS.own GS.len.symm k (by rw [GS.len]; exact hkn3)
    clear hgu
    refine gtT ?_
    clear hN K
    clear o0 o1 o2 o3 hfz
    generalize hu0 : World.setCell u ⟨g7, k * 4 + 3, none⟩ _ = u0
    obtain ⟨p1, p2⟩ := GS.own.stored (k * 4 + 3) (.int .i64 (k3 : Nat))
    rw [hu0] at p1 p2
    have q1 : ((((ns ++ [(⟨x, (col : Nat), (k1 : Nat), 0⟩ : NdT)]) ++ T1).flatMap ndL).set (k * 4 + 3) (.int .i64 (k3 : Nat))) = ((ns ++ [(⟨x, (col : Nat), (k1 : Nat), (k3 : Nat)⟩ : NdT)]) ++ T1).flatMap ndL := by
     have hkl : k < ((ns ++ [(⟨x, (col : Nat), (k1 : Nat), 0⟩ : NdT)]) ++ T1).length := by rw [GS.len]; exact hkn3
     rw [nd_setT _ k _ hkl]
     have e1 : ((ns ++ [(⟨x, (col : Nat), (k1 : Nat), 0⟩ : NdT)]) ++ T1)[k] = ⟨x, (col : Nat), (k1 : Nat), 0⟩ := by
      have := Hke.out
      subst this
      simp
     rw [e1]
     congr 1
     have := Hke.out
     subst this
     simp
    rw [q1] at p1
    have a99 : g7 ≠ b99 := fun e => by have := (GS.own.lt g7 rfl).1; omega
    have k2 : KepS (fun j => j = g7) u u0 := KepS.ofGrown p2 (fun _ e => (Option.some.inj e).symm)
    have hb3 : g7 ≠ b3 := fun e => GS.n3 (by rw [← e]; rfl)
    have hb5 : g7 ≠ b5 := fun e => GS.n5 (by rw [← e]; rfl)
    have hgl : g7 ≠ gl := fun e => GS.gn (by rw [← e]; rfl)
    have GS2 : GrS w1 (fun k => (k = b99 ∨ nbk NA = some k) ∨ w1.heap.size ≤ k) b3 b5 gl D (ints ls) (some ⟨g7, 0, none⟩) NC5 k3 ((ns ++ [(⟨x, (col : Nat), (k1 : Nat), (k3 : Nat)⟩ : NdT)]) ++ T1) u0 := ⟨GS.K.trans (KepS.mono k2 (fun j hj e => by
      subst e
      rcases Hnb5.out j rfl with h | h
      ·exact .inl (.inr h)
      ·exact .inr h)), k2.li GS.l (fun e => hgl e.symm), Nat.lt_of_lt_of_le GS.gu k2.size, p1, by have := GS.len; rw [List.length_append, List.length_append] at this ⊢; exact this, GS.s5, GS.g5, GS.n5, GS.n3, GS.gn⟩
    have hB2 : Bx u0 [(b99, 79, #[.slice (some ⟨bb, ob, none⟩) n RC, .slice (some ⟨g7, 0, none⟩) k3 NC5]), (b3, 169, #[.pointer (some ⟨b99, 0, none⟩)]), (b5, 3, #[.int .i64 (c2 : Nat)])] := Bx.cons (k2.blk hB.head (fun e => a99 e.symm)) (Bx.cons (k2.blk hB.tail.head (fun e => hb3 e.symm)) (Bx.cons (k2.blk hB.tail.tail.head (fun e => hb5 e.symm)) (Bx.nil _)))
    have hG2 : Grow w u0 := hG.grown p2 (fun j e => by have := (GS.own.lt j e).1; omega)
    clear hB hG GS p1 p2 q1 k2 hu0 a99 hb3 hb5 hgl
    have hB := hB2
    have hG := hG2
    have GS := GS2
    clear hB2 hG2 GS2
    obtain ⟨u, rfl⟩ : ∃ x, x = u0 := ⟨_, rfl⟩
    obtain ⟨m2, hm2⟩ : ∃ y, m - h1 = y := ⟨_, rfl⟩
    have hh1 := Hh1.out
    have hk3 := Hk3.out
    have hz2 := HZ2.out
    have hlen := Hls.out.1
    have hm2l : m2 < m := by omega
    have hm20 : 0 < m2 := by omega
    obtain ⟨T2, hT2⟩ : ∃ T, T = flatT (growT X Lw (ls.drop h1) c2) k3 := ⟨_, rfl⟩
    have hsl2 := fun W => cut_drop gl cap m h1 (by omega) (by omega) hcap W
    rw [hm2] at hsl2
    obtain ⟨cap3, hcap3⟩ : ∃ y, cap - h1 = y := ⟨_, rfl⟩
    rw [hcap3] at hsl2
    have hc2 := fun (W : World) (GW : GrS w1 (fun k => (k = b99 ∨ nbk NA = some k) ∨ w1.heap.size ≤ k) b3 b5 gl D (ints ls) (some ⟨g7, 0, none⟩) NC5 k3 ((ns ++ [(⟨x, (col : Nat), (k1 : Nat), (k3 : Nat)⟩ : NdT)]) ++ T1) W) (hBW : Blk W b99 79 #[.slice (some ⟨bb, ob, none⟩) n RC, .slice (some ⟨g7, 0, none⟩) k3 NC5]) => Hih.out m2 hm2l (ls.drop h1) c2 (some ⟨gl, h1, none⟩) cap3 _ (some ⟨g7, 0, none⟩) NC5 k3 W (by rw [List.length_drop, hlen]; omega) hm20 (fun y hy => Hls.out.2 y (List.mem_of_mem_drop hy)) hc2L GW.len.symm (by have := Hk.out; have := Hk1.out; omega) (by have := GW.K.size; omega) (HDK W GW.K) (by rw [ints, List.map_drop]; exact li_drop GW.l h1) hBW GW.own
    rw [← hT2] at hc2
    have Hc2 := Lib.hid hc2
    have HT2 := Lib.hid hT2
    have Hm2 := Lib.hid hm2
    clear hc2 hT2 hm2 hcap3 hh1 hk3 hz2 hlen
    refine wp_rd (w := w) allocs 6 [] [(0, 0), (0, 1), (0, 2), (0, 3), (0, 4), (0, 5)] (by kernel_rfl) (by kernel_rfl) (by simp only [List.drop_succ_cons, List.drop_zero]; exact rfl) (fun _ => True) noG hB hG trivial ?_
    intro K L hN hL
    simp only [pickOps, List.getElem?_toArray, List.getElem?_cons_zero, List.getElem?_cons_succ]
    repeat first | refine gya ?_ | refine gyr ?_ | refine gna ?_ | refine gyb (by (rintro v ⟨hgu, hB, hG, -⟩ N hN; have r := hB.r; simp only [BxR] at r; have q0 := Hr1.out v hgu; go_simp; exact hN)) ?_
    refine gend ?_
    rintro v ⟨hgu, hB1, hG1, -⟩
    replace GS := GS.grow hgu
    clear hB hG
    have hB := hB1
    have hG := hG1
    clear hB1 hG1
    refine hL _ _ ?_
    clear hL L hgu
    obtain ⟨u, rfl⟩ : ∃ x, x = v := ⟨_, rfl⟩
    go_wp2_with (go_at_call 66; refine (Hc2.out u GS hB.head).mono ?_; rintro e w5 ⟨rfl, NA8, NC8, q1, q2, q3, q4⟩)
    have x3 := hB.tail.head.lt
    have x5 := hB.tail.tail.head.lt
    obtain ⟨k8, hk8⟩ : ∃ y, k3 + m2 = y := ⟨_, rfl⟩
    rw [hk8] at q1 q2
    have GS2 : GrS w1 (fun k => (k = b99 ∨ nbk NA = some k) ∨ w1.heap.size ≤ k) b3 b5 gl D (ints ls) NA8 NC8 k8 (((ns ++ [(⟨x, (col : Nat), (k1 : Nat), (k3 : Nat)⟩ : NdT)]) ++ T1) ++ T2) w5 := ⟨GS.K.trans (q3.mono (fun j hj e => by
      rcases e with e | e
      ·exact .inl (.inl e)
      ·rcases Hnb5.out j e with h | h
       ·exact .inl (.inr h)
       ·exact .inr h)), q3.li GS.l (fun e => e.elim (fun e => by omega) GS.gn), Nat.lt_of_lt_of_le GS.gu q3.size, q2, by rw [List.length_append, GS.len, HT2.out, flatT_len, growT_size, List.length_drop, Hls.out.1, Hm2.out]; exact hk8, GS.s5, GS.g5, fun e => (q4 _ e).elim GS.n5 (fun h => by omega), fun e => (q4 _ e).elim GS.n3 (fun h => by omega), fun e => (q4 _ e).elim GS.gn (fun h => by have := GS.gu; omega)⟩
    have hnb8 : ∀ j, nbk NA8 = some j → nbk NA = some j ∨ w1.heap.size ≤ j := fun j e => (q4 j e).elim (Hnb5.out j) (fun h => .inr (by have := GS.K.size; omega))
    have hB2 : Bx w5 [(b99, 79, #[.slice (some ⟨bb, ob, none⟩) n RC, .slice NA8 k8 NC8]), (b3, 169, #[.pointer (some ⟨b99, 0, none⟩)]), (b5, 3, #[.int .i64 (c2 : Nat)])] := Bx.cons q1 (Bx.cons (q3.blk hB.tail.head (fun e => e.elim (fun e => by omega) GS.n3)) (Bx.cons (q3.blk hB.tail.tail.head (fun e => e.elim (fun e => by omega) GS.n5)) (Bx.nil _)))
    have Hnb8 := Lib.hid hnb8
    have Hk8 := Lib.hid hk8
    clear hB hG GS q1 q2 q3 q4 x3 x5 hnb8 Hc2 hk8
    have hB := hB2
    have GS := GS2
    clear hB2 GS2
    obtain ⟨u, rfl⟩ : ∃ x, x = w5 := ⟨_, rfl⟩
    refine NoK.norm (hN _ _ ?_)
    clear hN K
    refine end_b rfl (results_none rfl _ _ _) ⟨rfl, grow_end GS hB (by have := Hm2.out; have := HZ2.out; have := Hh1.out; have := Hk1.out; have := Hk3.out; have := Hk8.out; omega) ?_ Hnb8.out⟩
    rw [Hfl.out, if_neg (by have := HZ.out; omega), if_neg (by have := HZ2.out; have := Hh1.out; omega), Hk1.out, Hk3.out, Hh1.out, ← HT1.out, ← HT2.out, List.append_assoc, List.append_assoc]
    rfl
   ·have d71 : decide ((h1 : Int) < (m : Int)) = false := by simp; omega
    have d71n : decide (h1 < m) = false := by simp; omega
    have HZ2 := Lib.hid hz2
    clear hz hz2 hmh hlen
    refine r0T ?_
    refine wp_cond_true (rfl) ?_
    refine wp_seq (rdC allocs [] [(0, 0), (0, 1), (0, 2), (0, 3), (0, 4), (0, 5), (0, 6), (0, 7), (0, 8), (0, 9), (0, 10), (0, 11)] hB hG fun K L hN hL => ?_)
    repeat first | refine gya ?_ | refine gyr ?_ | refine gna ?_ | refine gyb (by (rintro v ⟨hgu, hB, hG, -⟩ N hN; have r := hB.r; simp only [BxR] at r; have q0 := Hr1.out v hgu; go_simp; exact hN)) ?_
    refine geC hL ?_
    clear hB hG hL L
    rintro u ⟨hgu, hB, hG, -⟩
    replace GS := GS.grow hgu
    obtain ⟨z0, z1, z2, z3, o0, o1, o2, o3, hfz⟩ := own_spot4 (enc := ndL) (fun _ => rfl) GS.own GS.len.symm k (by rw [GS.len]; omega)
    clear hgu
    refine gtT ?_
    clear hN K
    clear o0 o1 o2 o3 hfz
    generalize hu0 : World.setCell u ⟨g2, k * 4 + 2, none⟩ _ = u0
    obtain ⟨p1, p2⟩ := GS.own.stored (k * 4 + 2) (.int .i64 (k1 : Nat))
    rw [hu0] at p1 p2
    have q1 : (((ns ++ [(⟨x, (col : Nat), 0, 0⟩ : NdT)]).flatMap ndL).set (k * 4 + 2) (.int .i64 (k1 : Nat))) = (ns ++ [(⟨x, (col : Nat), (k1 : Nat), 0⟩ : NdT)]).flatMap ndL := by
     have hkl : k < (ns ++ [(⟨x, (col : Nat), 0, 0⟩ : NdT)]).length := by rw [GS.len]; omega
     rw [nd_setL _ k _ hkl]
     have e1 : (ns ++ [(⟨x, (col : Nat), 0, 0⟩ : NdT)])[k] = ⟨x, (col : Nat), 0, 0⟩ := by
      have := Hke.out
      subst this
      simp
     rw [e1]
     congr 1
     have := Hke.out
     subst this
     simp
    rw [q1] at p1
    have a99 : g2 ≠ b99 := fun e => by have := (GS.own.lt g2 rfl).1; omega
    have k2 : KepS (fun j => j = g2) u u0 := KepS.ofGrown p2 (fun _ e => (Option.some.inj e).symm)
    have hb3 : g2 ≠ b3 := fun e => GS.n3 (by rw [← e]; rfl)
    have hb5 : g2 ≠ b5 := fun e => GS.n5 (by rw [← e]; rfl)
    have hgl : g2 ≠ gl := fun e => GS.gn (by rw [← e]; rfl)
    have GS2 : GrS w1 (fun k => (k = b99 ∨ nbk NA = some k) ∨ w1.heap.size ≤ k) b3 b5 gl D (ints ls) (some ⟨g2, 0, none⟩) NC2 k1 (ns ++ [⟨x, (col : Nat), (k1 : Nat), 0⟩]) u0 := ⟨GS.K.trans (KepS.mono k2 (fun j hj e => by
      subst e
      rcases Hnb2.out j rfl with h | h
      ·exact .inl (.inr h)
      ·exact .inr h)), k2.li GS.l (fun e => hgl e.symm), Nat.lt_of_lt_of_le GS.gu k2.size, p1, by have := GS.len; rw [List.length_append] at this ⊢; exact this, GS.s5, GS.g5, GS.n5, GS.n3, GS.gn⟩
    have hB2 : Bx u0 [(b99, 79, #[.slice (some ⟨bb, ob, none⟩) n RC, .slice (some ⟨g2, 0, none⟩) k1 NC2]), (b3, 169, #[.pointer (some ⟨b99, 0, none⟩)]), (b5, 3, #[.int .i64 (c2 : Nat)])] := Bx.cons (k2.blk hB.head (fun e => a99 e.symm)) (Bx.cons (k2.blk hB.tail.head (fun e => hb3 e.symm)) (Bx.cons (k2.blk hB.tail.tail.head (fun e => hb5 e.symm)) (Bx.nil _)))
    have hG2 : Grow w u0 := hG.grown p2 (fun j e => by have := (GS.own.lt j e).1; omega)
    clear hB hG GS p1 p2 q1 k2 hu0 a99 hb3 hb5 hgl
    have hB := hB2
    have hG := hG2
    have GS := GS2
    clear hB2 hG2 GS2
    obtain ⟨u, rfl⟩ : ∃ x, x = u0 := ⟨_, rfl⟩
    refine wp_rd (w := w) allocs 5 [] [(0, 0), (0, 1), (0, 2), (0, 3), (0, 4)] (by kernel_rfl) (by kernel_rfl) (by simp only [List.drop_succ_cons, List.drop_zero]; exact rfl) (fun _ => True) noG hB hG trivial ?_
    intro K L hN hL
    simp only [pickOps, List.getElem?_toArray, List.getElem?_cons_zero, List.getElem?_cons_succ]
    repeat first | refine gya ?_ | refine gyr ?_ | refine gna ?_ | refine gyb (by (rintro v ⟨hgu, hB, hG, -⟩ N hN; have r := hB.r; simp only [BxR] at r; have q0 := Hr1.out v hgu; go_simp; exact hN)) ?_
    refine gend ?_
    rintro v ⟨hgu, hB1, hG1, -⟩
    replace GS := GS.grow hgu
    clear hB hG
    have hB := hB1
    have hG := hG1
    clear hB1 hG1
    refine hL _ _ ?_
    clear hL L hgu
    obtain ⟨u, rfl⟩ : ∃ x, x = v := ⟨_, rfl⟩
    go_wp2_with (go_at_call 66; refine (Hc1.out u GS hB.head).mono ?_; rintro e w5 ⟨rfl, NA5, NC5, q1, q2, q3, q4⟩)
    have x3 := hB.tail.head.lt
    have x5 := hB.tail.tail.head.lt
    have GS2 : GrS w1 (fun k => (k = b99 ∨ nbk NA = some k) ∨ w1.heap.size ≤ k) b3 b5 gl D (ints ls) NA5 NC5 k3 ((ns ++ [(⟨x, (col : Nat), (k1 : Nat), 0⟩ : NdT)]) ++ T1) w5 := ⟨GS.K.trans (q3.mono (fun j hj e => by
      rcases e with e | e
      ·exact .inl (.inl e)
      ·rcases Hnb2.out j e with h | h
       ·exact .inl (.inr h)
       ·exact .inr h)), q3.li GS.l (fun e => e.elim (fun e => by omega) GS.gn), Nat.lt_of_lt_of_le GS.gu q3.size, q2, by rw [List.length_append, GS.len, HT1l.out]; exact Hk3.out, GS.s5, GS.g5, fun e => (q4 _ e).elim GS.n5 (fun h => by omega), fun e => (q4 _ e).elim GS.n3 (fun h => by omega), fun e => (q4 _ e).elim GS.gn (fun h => by have := GS.gu; omega)⟩
    have hnb5 : ∀ j, nbk NA5 = some j → nbk NA = some j ∨ w1.heap.size ≤ j := fun j e => (q4 j e).elim (Hnb2.out j) (fun h => .inr (by have := GS.K.size; omega))
    have Hnb5 := Lib.hid hnb5
    have hB2 : Bx w5 [(b99, 79, #[.slice (some ⟨bb, ob, none⟩) n RC, .slice NA5 k3 NC5]), (b3, 169, #[.pointer (some ⟨b99, 0, none⟩)]), (b5, 3, #[.int .i64 (c2 : Nat)])] := Bx.cons q1 (Bx.cons (q3.blk hB.tail.head (fun e => e.elim (fun e => by omega) GS.n3)) (Bx.cons (q3.blk hB.tail.tail.head (fun e => e.elim (fun e => by omega) GS.n5)) (Bx.nil _)))
    have hG2 : Grow w w5 := Below.trans hG ⟨q3.os, q3.tape, q3.output, q3.size, fun j hj => q3.block j (by have := hG.size; omega) (fun e => e.elim (fun e => by omega) (fun e => by have := (GS.own.lt j e).1; omega))⟩
    clear hB hG GS q1 q2 q3 q4 x3 x5 hnb5 Hc1
    have hB := hB2
    have hG := hG2
    have GS := GS2
    clear hB2 hG2 GS2
    obtain ⟨u, rfl⟩ : ∃ x, x = w5 := ⟨_, rfl⟩
    refine NoK.norm (hN _ _ ?_)
    clear hN K
    refine then_norm ?_
    refine r0T ?_
    refine wp_cond_false (rfl) ?_
    refine wp_skip ?_
    refine end_b rfl (results_none rfl _ _ _) ⟨rfl, grow_end GS hB (by have := Hh.out; have := HZ2.out; have := Hh1.out; have := Hk1.out; have := Hk3.out; omega) ?_ Hnb5.out⟩
    rw [Hfl.out, if_neg (by have := HZ.out; omega), if_pos (by have := HZ2.out; have := Hh1.out; omega), flat_nil _ _ (i := k + 1 + h) _ (List.drop_eq_nil_of_le (by rw [Hls.out.1]; have := HZ2.out; have := Hh1.out; omega)), Hk1.out, ← HT1.out, List.append_assoc, List.append_nil]
    rfl
end Go.Proofs.YtjmopgepnndckaaGreatDoor
