/-
  Contracts and plain laws, part 3: lemmas for the claim; each says its own conditions.
-/
import Derived.Test.YtimjnkfcnpfoeaaGreatDoorK1
import Derived.Test.YtimjnkfcnpfoeaaGreatDoorK2
import Derived.StillTailTactics
import Derived.Deep.RegionWith
import Derived.Laws.Bits64b
import Derived.BigQuiet
import Derived.Deep.LoopGhost
set_option linter.unusedSimpArgs false
set_option linter.unusedVariables false
/-
  nat.FromBytes, whole.words: bytes laid into words.
-/
namespace Go.Proofs.YtimjnkfcnpfoeaaGreatDoor
open Go.RowKit
/-- a call whose answer depends on where things came to lie -/
def RetY {X : Type} (f : X → Value) (T : X → World → Prop) (w : World) (e : Ending) (w' : World) : Prop := ∃ x, e = .returned (f x) ∧ T x w' ∧ Grow w w'
theorem dg_reverse {l : List Nat} {i : Nat} (h : i < l.length) : dg l.reverse i = dg l (l.length - 1 - i) := by
  rw [dg_eq (by simpa using h), dg_eq (by omega), List.getElem_reverse]
/-- what the words hold after i bytes -/
def LayI (m : Nat) (l : List Nat) (i : Nat) (zs : List Nat) : Prop := zs.length = m ∧ Dig W64 zs ∧ val W64 zs = val 256 (l.reverse.take i)
theorem LayI.start (m : Nat) (l : List Nat) : LayI m l 0 (List.replicate m 0) :=
  ⟨by simp, fun z hz => (by rw [(List.mem_replicate.1 hz).2]; exact W64_pos), by rw [val_zeros]; rfl⟩
theorem LayI.next {m : Nat} {l zs : List Nat} {i : Nat} (h : LayI m l i zs) (hd : Dig 256 l) (hi : i < l.length) (hm : l.length ≤ 8 * m) :
    dg zs (i / 8) ||| dg l (l.length - 1 - i) * 2 ^ (8 * (i % 8)) = dg zs (i / 8) + dg l (l.length - 1 - i) * 2 ^ (8 * (i % 8)) ∧ dg zs (i / 8) + dg l (l.length - 1 - i) * 2 ^ (8 * (i % 8)) < W64 ∧
    LayI m l (i + 1) (zs.set (i / 8) (dg zs (i / 8) + dg l (l.length - 1 - i) * 2 ^ (8 * (i % 8)))) := by
  obtain ⟨h1, h2, h3⟩ := h
  have hdr : Dig 256 l.reverse := fun x hx => hd x (List.mem_reverse.1 hx)
  have hv : val W64 zs < 256 ^ i := by rw [h3]; exact val_take_lt (by omega) hdr i
  obtain ⟨e1, e2, e3⟩ := lay_low (zs := zs) (i := i) (y := dg l (l.length - 1 - i)) (by omega) hv (dg_lt (by omega) hd _)
  refine ⟨e1, e2, by rw [List.length_set]; exact h1, dig_set h2 _ e2, ?_⟩
  rw [e3, val_take_dg, ← h3, dg_reverse hi, Nat.mul_comm]
theorem LayI.done {m : Nat} {l zs : List Nat} {i : Nat} (h : LayI m l i zs) (hi : i = l.length) : val W64 zs = val 256 l.reverse := by
  rw [h.2.2, List.take_of_length_le (by simp; omega)]
set_option maxHeartbeats 1000000 in
set_option maxRecDepth 100000 in
theorem nat_FromBytes (A : Option Addr) (l : List Nat) (c : Nat) (hd : Dig 256 l) (hm : l.length ≤ 137438953471) (w : World) (hA : By w A l) :
    Calls Tryz.prog 141 #[.slice A l.length c] w fun e w' => e = .returned (natV (val 256 l.reverse)) ∧ Grow w w' := by
  obtain ⟨n, hn⟩ : ∃ n, n = l.length := ⟨_, rfl⟩
  obtain ⟨m, hmm⟩ : ∃ m, m = (n + 7) / 8 := ⟨_, rfl⟩
  have hmi : ((n : Int) + 7) / 8 = (m : Int) := by omega
  have hmt : ((n : Int) + 7).tdiv 8 = (m : Int) := by rw [Int.tdiv_eq_ediv_of_nonneg (by omega)]; exact hmi
  rw [← hn]
  rw [← hn] at hm
  have hw0 : IntKind.i64.wrap ((n : Int) + 7) = (n : Int) + 7 := IntWalk.i64_in _ (by omega)
  have hmk := make_u64 m (by omega) (m : Int) rfl
  have hmb : m ≤ 34359738368 := by omega
  have hn8 : n ≤ 8 * m := by omega
  have HA := Lib.hid hA
  have Hn := Lib.hid hn
  have Hd := Lib.hid hd
  clear hA hn hd hmm
  go_enter Tryz.func141, Tryz.ntmps141
  refine wp_seq (wp_r0 ?_)
  intro K hN
  go_wp2_with fail
  generalize hu : World.alloc w _ = u
  obtain ⟨hB, hG⟩ := bx_first [(_, _)] w u hu
  have hF := fr_first w [(28, #[])]
  simp only [numbered, List.map_cons, List.map_nil] at hB hF
  clear hu
  generalize w.heap.size = b2 at hB hF ⊢
  refine NoK.norm (hN _ _ ?_)
  clear hN K
  refine then_norm ?_
  refine wp_seq ?_
  refine wp_r0 ?_
  intro K hN
  have r := hB.r
  simp only [BxR] at r
  go_wp2_with fail
  clear r
  refine NoK.norm (hN _ _ ?_)
  clear hN K
  have hbo := Blk.new u 26 (cellsW (List.replicate m 0))
  have hF3 := Fr.new (tk := []) hF hB hG (Nat.le_refl u.heap.size) (by simp)
  have hB3 := Bx.cons hbo (hB.grow (Grow.alloc u (.cells (cellsW (List.replicate m 0)) 26)))
  have hG3 := hG.trans (Grow.alloc u (.cells (cellsW (List.replicate m 0)) 26))
  simp only [List.cons_append, List.nil_append, List.map_cons, List.map_nil] at hF3
  clear hB hF hG hbo
  generalize World.alloc u _ = v at  hB3 hG3 ⊢
  generalize u.heap.size = b3 at hB3 hF3 ⊢
  have hB := hB3
  have hF := hF3
  have hG := hG3
  clear hB3 hF3 hG3
  obtain ⟨u, rfl⟩ : ∃ x, x = v := ⟨_, rfl⟩
  refine then_norm ?_
  refine wp_seq ?_
  refine wp_seq ?_
  refine wp_r0 ?_
  intro K hN
  go_wp2_with fail
  refine NoK.norm (hN _ _ ?_)
  clear hN K
  refine then_norm ?_
  refine wp_block ?_
  go_loopw [12] (fun s0 wr => ∃ (i : Nat) (zs : List Nat), i ≤ n ∧ s0 = .int .i64 i ∧ (LayI m l i zs) ∧ Bx wr [(b3, 26, cellsW zs), (b2, 28, #[.int .u64 0, .string ⟨#[]⟩])] ∧ Grow w wr) (fun s0 _ => n - (intOf s0).toNat)
  case atStart => exact ⟨0, List.replicate m 0, Nat.zero_le _, rfl, LayI.start m l, hB, hG⟩
  case round =>
    clear hB hG
    obtain ⟨i, zs, hi, rfl, hrel0, hB, hG⟩ := hrel
    obtain ⟨u, rfl⟩ : ∃ x, x = wr := ⟨_, rfl⟩
    have H0 := Lib.hid hrel0
    clear hrel0
    rcases Nat.lt_or_ge i n with hlt0 | hge0
    · have hdec : decide ((i : Int) < (n : Int)) = true := by simp; omega
      obtain ⟨l1, l2, l3⟩ := H0.out.next Hd.out (by rw [← Hn.out]; exact hlt0) (by rw [← Hn.out]; exact hn8)
      obtain ⟨k, hk⟩ : ∃ k, k = n - 1 - i := ⟨_, rfl⟩
      rw [← Hn.out, ← hk] at l1 l2 l3
      have hbk := dg_lt (by omega) Hd.out k
      have hkl : k < l.length := by rw [← Hn.out]; omega
      have hki : (n : Int) - 1 - (i : Int) = (k : Int) := by omega
      have hqz : i / 8 < zs.length := by rw [H0.out.1]; omega
      have hzl := dg_lt W64_pos H0.out.2.1 (i / 8)
      obtain ⟨q, hq⟩ : ∃ q, q = i / 8 := ⟨_, rfl⟩
      obtain ⟨p, hr⟩ : ∃ r, r = i % 8 := ⟨_, rfl⟩
      obtain ⟨y, hy⟩ : ∃ y, y = dg l k := ⟨_, rfl⟩
      obtain ⟨x, hx⟩ : ∃ x, x = dg zs (i / 8) := ⟨_, rfl⟩
      obtain ⟨z, hz⟩ : ∃ z, z = y * 2 ^ (8 * p) := ⟨_, rfl⟩
      obtain ⟨s, hs⟩ : ∃ s, s = x + z := ⟨_, rfl⟩
      have hr8 : p < 8 := by omega
      have hqm : q < m := by omega
      rw [← hx, ← hr, ← hy, ← hz, ← hs] at l1 l2 l3
      rw [← hq] at l3 hqz
      rw [← hx] at hzl
      rw [← hy] at hbk
      unfold W64 at hzl
      have hz64 : z < 18446744073709551616 := by unfold W64 at l2; omega
      have g1 : (cellsW zs)[q]? = some (.int .u64 (x : Nat)) := by rw [cellsW_get, List.getElem?_eq_getElem hqz, hx, ← hq, dg_eq hqz]; rfl
      have G2 := Lib.hid (cellsW_set zs q s)
      obtain ⟨b1, o1, hAe, -⟩ := HA.out.cell hkl
      have hby : ∀ W, Grow w W → W.cell? ⟨b1, o1 + k, none⟩ = some (.int .u8 (y : Nat)) := fun W hg => by
        obtain ⟨b', o', e, hc⟩ := (HA.out.grow hg).cell hkl
        rw [hAe] at e
        cases e
        rw [hy]
        exact hc
      have Hby := Lib.hid hby
      subst hAe
      have L3 := Lib.hid l3
      have f1 : (i : Int).tdiv 8 = (q : Int) := by rw [Int.tdiv_eq_ediv_of_nonneg (by omega)]; omega
      have f2 : (i : Int).tmod 8 = (p : Int) := by rw [Int.tmod_eq_emod_of_nonneg (by omega)]; omega
      have f3 : (i : Int) / 8 = (q : Int) := by omega
      have f4 : (i : Int) % 8 = (p : Int) := by omega
      have f5 : IntKind.u64.wrap ((y : Int) * 2 ^ (8 * p)) = (z : Int) := by
        rw [show ((y : Int) * 2 ^ (8 * p)) = ((z : Nat) : Int) by rw [hz]; simp]; exact wrapN hz64
      have f6 : bits BinOp.or IntKind.u64 (x : Int) (z : Int) = (s : Nat) := by rw [u64_or_nat x z hzl hz64, l1]
      have f7 : (8 * (p : Int)).toNat = 8 * p := by omega
      have f8 : min (8 * p) 64 = 8 * p := by omega
      have f9 : IntKind.u64.wrap (y : Int) = (y : Int) := wrapN (by omega)
      have f10 : IntKind.i64.wrap (q : Int) = (q : Int) := IntWalk.i64_in _ (by omega)
      have f11 : IntKind.i64.wrap (p : Int) = (p : Int) := IntWalk.i64_in _ (by omega)
      have f12 : IntKind.i64.wrap (8 * (p : Int)) = 8 * (p : Int) := IntWalk.i64_in _ (by omega)
      have f13 : IntKind.i64.wrap ((n : Int) - 1) = (n : Int) - 1 := IntWalk.i64_in _ (by omega)
      have f14 : IntKind.i64.wrap (k : Int) = (k : Int) := IntWalk.i64_in _ (by omega)
      have f15 : k < n := by omega
      clear l1 l2 l3 hq hr hy hx hz hs hk hkl hqz hby
      refine wp_seq ?_
      refine wp_r0 ?_
      intro K hN
      go_wp2_with fail
      refine NoK.norm (hN _ _ ?_)
      clear hN K
      refine then_norm ?_
      refine wp_seq ?_
      refine wp_cond_true (rfl) ?_
      refine wp_skip ?_
      refine then_norm ?_
      refine wp_seq ?_
      refine wp_block ?_
      refine wp_seq ?_
      refine wp_r0 ?_
      intro K hN
      go_wp2_with fail
      refine NoK.norm (hN _ _ ?_)
      clear hN K
      refine then_norm ?_
      refine wp_rd (w := w) allocs 20 [] [(0, 0), (0, 1), (0, 2), (0, 3), (0, 4), (0, 5), (0, 6), (0, 7), (0, 8), (0, 9), (0, 10), (0, 11), (0, 12), (0, 13), (0, 14), (0, 15), (0, 16), (0, 17), (0, 18), (0, 19)] (by kernel_rfl) (by kernel_rfl) (by simp only [List.drop_succ_cons, List.drop_zero]; exact rfl) (fun _ => True) noG hB hG trivial ?_
      intro K L hN hL
      simp only [pickOps, List.getElem?_toArray, List.getElem?_cons_zero, List.getElem?_cons_succ]
      apply gy
      · exact rfl
      · (rintro v - N hN; go_simp; exact hN)
      refine okf (by simp only [Act.put, List.setIfInBounds_toArray, List.set_cons_succ, List.set_cons_zero]; exact rfl) ?_
      apply gy
      · exact rfl
      · (rintro v - N hN; go_simp; exact hN)
      refine okf (by simp only [Act.put, List.setIfInBounds_toArray, List.set_cons_succ, List.set_cons_zero]; exact rfl) ?_
      apply gy
      · exact rfl
      · (rintro v - N hN; go_simp; exact hN)
      refine okf (by simp only [Act.put, List.setIfInBounds_toArray, List.set_cons_succ, List.set_cons_zero]; exact rfl) ?_
      apply gy
      · exact rfl
      · (rintro v - N hN; go_simp; exact hN)
      refine okf (by simp only [Act.put, List.setIfInBounds_toArray, List.set_cons_succ, List.set_cons_zero]; exact rfl) ?_
      apply gy
      · exact rfl
      · (rintro v ⟨hgu, hB, hG, -⟩ N hN; have r := hB.r; simp only [BxR] at r; have hcb := Hby.out v hG; go_simp; exact hN)
      refine okf (by simp only [Act.put, List.setIfInBounds_toArray, List.set_cons_succ, List.set_cons_zero]; exact rfl) ?_
      apply gy
      · exact rfl
      · (rintro v - N hN; go_simp; exact hN)
      refine okf (by simp only [Act.put, List.setIfInBounds_toArray, List.set_cons_succ, List.set_cons_zero]; exact rfl) ?_
      apply gy
      · exact rfl
      · (rintro v - N hN; go_simp; exact hN)
      refine okf (by simp only [Act.put, List.setIfInBounds_toArray, List.set_cons_succ, List.set_cons_zero]; exact rfl) ?_
      apply gy
      · exact rfl
      · (rintro v - N hN; go_simp; exact hN)
      refine okf (by simp only [Act.put, List.setIfInBounds_toArray, List.set_cons_succ, List.set_cons_zero]; exact rfl) ?_
      apply gy
      · exact rfl
      · (rintro v - N hN; go_simp; exact hN)
      refine okf (by simp only [Act.put, List.setIfInBounds_toArray, List.set_cons_succ, List.set_cons_zero]; exact rfl) ?_
      apply gy
      · exact rfl
      · (rintro v - N hN; go_simp; exact hN)
      refine okf (by simp only [Act.put, List.setIfInBounds_toArray, List.set_cons_succ, List.set_cons_zero]; exact rfl) ?_
      apply gy
      · exact rfl
      · (rintro v - N hN; go_simp; exact hN)
      refine okf (by simp only [Act.put, List.setIfInBounds_toArray, List.set_cons_succ, List.set_cons_zero]; exact rfl) ?_
      apply gy
      · exact rfl
      · (rintro v - N hN; go_simp; exact hN)
      refine okf (by simp only [Act.put, List.setIfInBounds_toArray, List.set_cons_succ, List.set_cons_zero]; exact rfl) ?_
      apply gy
      · exact rfl
      · (rintro v ⟨hgu, hB, hG, -⟩ N hN; have r := hB.r; simp only [BxR] at r; have hcb := Hby.out v hG; go_simp; exact hN)
      refine okf (by simp only [Act.put, List.setIfInBounds_toArray, List.set_cons_succ, List.set_cons_zero]; exact rfl) ?_
      apply gy
      · exact rfl
      · (rintro v - N hN; go_simp; exact hN)
      refine okf (by simp only [Act.put, List.setIfInBounds_toArray, List.set_cons_succ, List.set_cons_zero]; exact rfl) ?_
      apply gy
      · exact rfl
      · (rintro v - N hN; go_simp; exact hN)
      refine okf (by simp only [Act.put, List.setIfInBounds_toArray, List.set_cons_succ, List.set_cons_zero]; exact rfl) ?_
      apply gy
      · exact rfl
      · (rintro v - N hN; go_simp; exact hN)
      refine okf (by simp only [Act.put, List.setIfInBounds_toArray, List.set_cons_succ, List.set_cons_zero]; exact rfl) ?_
      apply gy
      · exact rfl
      · (rintro v - N hN; go_simp; exact hN)
      refine okf (by simp only [Act.put, List.setIfInBounds_toArray, List.set_cons_succ, List.set_cons_zero]; exact rfl) ?_
      apply gy
      · exact rfl
      · (rintro v - N hN; go_simp; exact hN)
      refine okf (by simp only [Act.put, List.setIfInBounds_toArray, List.set_cons_succ, List.set_cons_zero]; exact rfl) ?_
      apply gy
      · exact rfl
      · (rintro v - N hN; go_simp; exact hN)
      refine okf (by simp only [Act.put, List.setIfInBounds_toArray, List.set_cons_succ, List.set_cons_zero]; exact rfl) ?_
      apply gy
      · exact rfl
      · (rintro v - N hN; go_simp; exact hN)
      refine okf (by simp only [Act.put, List.setIfInBounds_toArray, List.set_cons_succ, List.set_cons_zero]; exact rfl) ?_
      refine gend ?_
      rintro v ⟨hgu, hB1, hG1, -⟩
      clear hB hG
      have hB := hB1
      have hG := hG1
      clear hB1 hG1
      refine hL _ _ ?_
      clear hL L hgu
      obtain ⟨u, rfl⟩ : ∃ x, x = v := ⟨_, rfl⟩
      have r := hB.r
      simp only [BxR] at r
      go_wp2_with fail
      clear r
      generalize hu0 : World.setCell u _ _ = u0
      have hBG := hB.over hF hG 0 rfl q [_] hu0
      clear hB hG
      simp only [List.modify_succ_cons, List.modify_zero_cons, wrAll, G2.out] at hBG
      obtain ⟨hB, hG⟩ := hBG
      clear hu0
      obtain ⟨u, rfl⟩ : ∃ x, x = u0 := ⟨_, rfl⟩
      refine NoK.norm (hN _ _ ?_)
      clear hN K
      refine blk_norm ?_
      refine then_norm ?_
      refine wp_r0 ?_
      intro K hN
      go_wp2_with fail
      refine NoK.norm (hN _ _ ?_)
      clear hN K
      refine then_norm ?_
      go_roundw
      case rel => exact ⟨i + 1, zs.set q s, by omega, by go_num, L3.out, hB, hG⟩
      case measure => simp [intOf]; try omega
    · obtain rfl : n = i := by omega
      have hdec : decide ((n : Int) < (n : Int)) = false := by simp
      have hfw : ∀ W, Grow w W → Blk W b3 26 (cellsW zs) → Calls Tryz.prog 128 #[.slice (some ⟨b3, 0, none⟩) m m] W fun e w' => e = .returned (natV (val 256 l.reverse)) ∧ Grow W w' := fun W hg hw => by
        have := nat_fromWords (some ⟨b3, 0, none⟩) zs m W (fun _ => ⟨b3, 0, rfl, Wrow.wds hw⟩) H0.out.2.1 (by rw [H0.out.1]; exact Nat.le_refl _) (by rw [H0.out.1]; exact hmb) (by omega)
        rw [H0.out.done Hn.out, H0.out.1] at this
        exact this
      have Hfw := Lib.hid hfw
      clear hfw
      refine wp_seq ?_
      refine wp_r0 ?_
      intro K hN
      go_wp2_with fail
      refine NoK.norm (hN _ _ ?_)
      clear hN K
      refine then_norm ?_
      refine wp_seq ?_
      refine wp_cond_false (rfl) ?_
      refine wp_exit ?_
      refine then_exit ?_
      refine then_exit ?_
      refine blk_exit ?_
      refine then_norm ?_
      refine wp_seq ?_
      refine wp_rs (w := w) allocs 2 [0, 1] (by kernel_rfl) (by simp only [List.drop_succ_cons, List.drop_zero]; exact rfl) (fun _ => True) noG hB hG trivial ?_
      intro K L hN hL
      simp only [List.zip_cons_cons, List.zip_nil_left]
      apply gy
      · exact rfl
      · (rintro v - N hN; go_simp; exact hN)
      refine okf (by simp only [Act.put, List.setIfInBounds_toArray, List.set_cons_succ, List.set_cons_zero]; exact rfl) ?_
      apply gm
      · exact rfl
      · (rintro v ⟨hgu, hB, hG, -⟩ N hN; go_simp; ((with_reducible refine (Hfw.out _ hG hB.head).mono ?_); rintro e w1 ⟨rfl, hb⟩; exact ⟨_, rfl, hN _ hb⟩))
      refine okf (by simp only [Act.put, List.setIfInBounds_toArray, List.set_cons_succ, List.set_cons_zero]; exact rfl) ?_
      refine gend ?_
      rintro v ⟨hgu, hB1, hG1, -⟩
      clear hB hG
      have hB := hB1
      have hG := hG1
      clear hB1 hG1
      refine hL _ _ ?_
      clear hL L hgu
      obtain ⟨u, rfl⟩ : ∃ x, x = v := ⟨_, rfl⟩
      have r := hB.r
      simp only [BxR] at r
      go_wp2_with fail
      clear r
      generalize hu0 : World.setCell (World.setCell u _ _) _ _ = u0
      have hBG := hB.over hF hG 1 rfl 0 [_, _] hu0
      clear hB hG hu0
      simp only [List.modify_succ_cons, List.modify_zero_cons, wrAll, List.setIfInBounds_toArray, List.set_cons_zero, List.set_cons_succ, Nat.zero_add, Nat.reduceAdd] at hBG
      obtain ⟨hB, hG⟩ := hBG
      clear u
      obtain ⟨u, rfl⟩ : ∃ x, x = u0 := ⟨_, rfl⟩
      refine NoK.norm (hN _ _ ?_)
      clear hN K
      refine then_norm ?_
      refine wp_ret ?_
      refine ret_b rfl ?_
      intro N hN
      have r := hB.r
      simp only [BxR] at r
      simp only [results, Tryz.results141]
      go_simp
      refine hN _ ?_
      clear hN N r
      exact ⟨rfl, hG⟩
set_option maxHeartbeats 1000000 in
set_option maxRecDepth 100000 in
theorem whole_words (a : Nat) (ha : bl a ≤ 1099511627520) (w : World) :
    Calls Tryz.prog 159 #[natV a] w fun e w' => ∃ (b : Nat) (zs : List Nat), e = .returned (.slice (some ⟨b, 0, none⟩) zs.length zs.length) ∧ (w.heap.size ≤ b ∧ Wrow w' b zs ∧ Dig W64 zs ∧ val W64 zs = a ∧ zs.length ≤ 17179869180) ∧ Grow w w' := by
  obtain ⟨l, hl⟩ : ∃ l, l = (byt a).reverse := ⟨_, rfl⟩
  obtain ⟨n, hn⟩ : ∃ n, n = l.length := ⟨_, rfl⟩
  have hd : Dig 256 l := fun x hx => by rw [hl] at hx; exact byt_dig a x (List.mem_reverse.1 hx)
  have hnb : n = (byt a).length := by rw [hn, hl, List.length_reverse]
  have hm : l.length ≤ 137438953440 := by rw [← hn, hnb, byt_length]; omega
  have hlv : val 256 l.reverse = a := by rw [hl, List.reverse_reverse]; exact val_digs (by omega) a
  have hbytes : ∀ W, Calls Tryz.prog 151 #[natV a] W (RetY (fun A : Option Addr => .slice A n n) (fun A W => By W A l) W) := fun W =>
    (nat_Bytes a (by omega) W).mono fun e w' ⟨A, he, hb, hg⟩ => ⟨A, by rw [he, hnb], by rw [hl]; exact hb, hg⟩
  obtain ⟨m, hmm⟩ : ∃ m, m = (n + 7) / 8 := ⟨_, rfl⟩
  have hmi : ((n : Int) + 7) / 8 = (m : Int) := by omega
  have hmt : ((n : Int) + 7).tdiv 8 = (m : Int) := by rw [Int.tdiv_eq_ediv_of_nonneg (by omega)]; exact hmi
  rw [← hn] at hm
  have hw0 : IntKind.i64.wrap ((n : Int) + 7) = (n : Int) + 7 := IntWalk.i64_in _ (by omega)
  have hmk := make_u64 m (by omega) (m : Int) rfl
  have hmb : m ≤ 17179869180 := by omega
  have hn8 : n ≤ 8 * m := by omega
  have Hbytes := Lib.hid hbytes
  have Hlv := Lib.hid hlv
  have Hn := Lib.hid hn
  have Hd := Lib.hid hd
  clear hbytes hn hd hmm hl hnb hlv ha
  go_enter Tryz.func159, Tryz.ntmps159
  refine wp_seq (wp_r0 ?_)
  intro K hN
  go_wp2_with fail
  generalize hu : World.alloc w _ = u
  obtain ⟨hB, hG⟩ := bx_first [(_, _)] w u hu
  have hF := fr_first w [(28, #[])]
  simp only [numbered, List.map_cons, List.map_nil] at hB hF
  clear hu
  generalize w.heap.size = b1 at hB hF ⊢
  refine NoK.norm (hN _ _ ?_)
  clear hN K
  refine then_norm ?_
  refine wp_seq ?_
  refine wp_rs (w := w) allocs 3 [0, 1, 0] (by kernel_rfl) (by simp only [List.drop_succ_cons, List.drop_nil]; exact rfl) (fun _ => True) noG hB hG trivial ?_
  intro K L hN hL
  simp only [List.zip_cons_cons, List.zip_nil_left]
  apply gy
  · exact rfl
  · (rintro v ⟨hgu, hB, hG, -⟩ N hN; have r := hB.r; simp only [BxR] at r; go_simp; exact hN)
  refine okf (by simp only [Act.put, List.setIfInBounds_toArray, List.set_cons_succ, List.set_cons_zero]; exact rfl) ?_
  refine gx (Option Addr) (fun A => .slice A n n) (fun A W => By W A l) (fun _ _ _ hg h => h.grow hg) rfl ?_ (fun x7 => ?_)
  · (rintro v ⟨hgu, hB, hG, -⟩ N hN; go_simp; ((with_reducible refine (Hbytes.out _).mono ?_); rintro e w1 ⟨x, rfl, hx, hg⟩; exact ⟨_, rfl, hN x w1 hx hg⟩))
  refine okf (by simp only [Act.put, List.setIfInBounds_toArray, List.set_cons_succ, List.set_cons_zero]; exact rfl) ?_
  apply gy
  · exact rfl
  · (rintro v - N hN; go_simp; exact hN)
  refine okf (by simp only [Act.put, List.setIfInBounds_toArray, List.set_cons_succ, List.set_cons_zero]; exact rfl) ?_
  refine gend ?_
  rintro v ⟨⟨hgu, hB1, hG1, -⟩, hx7⟩
  clear hB hG
  have hB := hB1
  have hG := hG1
  clear hB1 hG1
  refine hL _ _ ?_
  clear hL L hgu
  obtain ⟨u, rfl⟩ : ∃ x, x = v := ⟨_, rfl⟩
  refine wpList_nil ?_
  refine NoK.norm (hN _ _ ?_)
  clear hN K
  have HG0 := Lib.hid hG
  clear hB hF hG
  obtain ⟨w0, rfl⟩ : ∃ x, x = w := ⟨_, rfl⟩
  obtain ⟨w, hwu⟩ : ∃ x, x = u := ⟨_, rfl⟩
  rw [← hwu] at HG0 hx7
  have hB := Bx.nil u
  have hF := Fr.nil w
  have hG : Grow w u := hwu ▸ Grow.refl u
  clear hwu
  obtain ⟨A, rfl⟩ : ∃ A, A = x7 := ⟨_, rfl⟩
  have HA := Lib.hid hx7
  clear hx7
  refine then_norm ?_
  refine wp_seq ?_
  refine wp_r0 ?_
  intro K hN
  have r := hB.r
  simp only [BxR] at r
  go_wp2_with fail
  clear r
  refine NoK.norm (hN _ _ ?_)
  clear hN K
  have hbo := Blk.new u 26 (cellsW (List.replicate m 0))
  have hF3 := Fr.new (tk := []) hF hB hG (Nat.le_refl u.heap.size) (by simp)
  have hB3 := Bx.cons hbo (hB.grow (Grow.alloc u (.cells (cellsW (List.replicate m 0)) 26)))
  have hG3 := hG.trans (Grow.alloc u (.cells (cellsW (List.replicate m 0)) 26))
  simp only [List.cons_append, List.nil_append, List.map_cons, List.map_nil] at hF3
  clear hB hF hG hbo
  generalize World.alloc u _ = v at  hB3 hG3 ⊢
  generalize u.heap.size = b4 at hB3 hF3 ⊢
  have hB := hB3
  have hF := hF3
  have hG := hG3
  clear hB3 hF3 hG3
  obtain ⟨u, rfl⟩ : ∃ x, x = v := ⟨_, rfl⟩
  refine then_norm ?_
  refine wp_seq ?_
  refine wp_seq ?_
  refine wp_r0 ?_
  intro K hN
  go_wp2_with fail
  refine NoK.norm (hN _ _ ?_)
  clear hN K
  refine then_norm ?_
  refine wp_block ?_
  go_loopw [15] (fun s0 wr => ∃ (i : Nat) (zs : List Nat), i ≤ n ∧ s0 = .int .i64 i ∧ (LayI m l i zs) ∧ Bx wr [(b4, 26, cellsW zs)] ∧ Grow w wr) (fun s0 _ => n - (intOf s0).toNat)
  case atStart => exact ⟨0, List.replicate m 0, Nat.zero_le _, rfl, LayI.start m l, hB, hG⟩
  case round =>
    clear hB hG
    obtain ⟨i, zs, hi, rfl, hrel0, hB, hG⟩ := hrel
    obtain ⟨u, rfl⟩ : ∃ x, x = wr := ⟨_, rfl⟩
    have H0 := Lib.hid hrel0
    clear hrel0
    rcases Nat.lt_or_ge i n with hlt0 | hge0
    · have hdec : decide ((i : Int) < (n : Int)) = true := by simp; omega
      obtain ⟨l1, l2, l3⟩ := H0.out.next Hd.out (by rw [← Hn.out]; exact hlt0) (by rw [← Hn.out]; exact hn8)
      obtain ⟨k, hk⟩ : ∃ k, k = n - 1 - i := ⟨_, rfl⟩
      rw [← Hn.out, ← hk] at l1 l2 l3
      have hbk := dg_lt (by omega) Hd.out k
      have hkl : k < l.length := by rw [← Hn.out]; omega
      have hki : (n : Int) - 1 - (i : Int) = (k : Int) := by omega
      have hqz : i / 8 < zs.length := by rw [H0.out.1]; omega
      have hzl := dg_lt W64_pos H0.out.2.1 (i / 8)
      obtain ⟨q, hq⟩ : ∃ q, q = i / 8 := ⟨_, rfl⟩
      obtain ⟨p, hr⟩ : ∃ r, r = i % 8 := ⟨_, rfl⟩
      obtain ⟨y, hy⟩ : ∃ y, y = dg l k := ⟨_, rfl⟩
      obtain ⟨x, hx⟩ : ∃ x, x = dg zs (i / 8) := ⟨_, rfl⟩
      obtain ⟨z, hz⟩ : ∃ z, z = y * 2 ^ (8 * p) := ⟨_, rfl⟩
      obtain ⟨s, hs⟩ : ∃ s, s = x + z := ⟨_, rfl⟩
      have hr8 : p < 8 := by omega
      have hqm : q < m := by omega
      rw [← hx, ← hr, ← hy, ← hz, ← hs] at l1 l2 l3
      rw [← hq] at l3 hqz
      rw [← hx] at hzl
      rw [← hy] at hbk
      unfold W64 at hzl
      have hz64 : z < 18446744073709551616 := by unfold W64 at l2; omega
      have g1 : (cellsW zs)[q]? = some (.int .u64 (x : Nat)) := by rw [cellsW_get, List.getElem?_eq_getElem hqz, hx, ← hq, dg_eq hqz]; rfl
      have G2 := Lib.hid (cellsW_set zs q s)
      obtain ⟨b1, o1, hAe, -⟩ := HA.out.cell hkl
      have hby : ∀ W, Grow w W → W.cell? ⟨b1, o1 + k, none⟩ = some (.int .u8 (y : Nat)) := fun W hg => by
        obtain ⟨b', o', e, hc⟩ := (HA.out.grow hg).cell hkl
        rw [hAe] at e
        cases e
        rw [hy]
        exact hc
      have Hby := Lib.hid hby
      subst hAe
      have L3 := Lib.hid l3
      have f1 : (i : Int).tdiv 8 = (q : Int) := by rw [Int.tdiv_eq_ediv_of_nonneg (by omega)]; omega
      have f2 : (i : Int).tmod 8 = (p : Int) := by rw [Int.tmod_eq_emod_of_nonneg (by omega)]; omega
      have f3 : (i : Int) / 8 = (q : Int) := by omega
      have f4 : (i : Int) % 8 = (p : Int) := by omega
      have f5 : IntKind.u64.wrap ((y : Int) * 2 ^ (8 * p)) = (z : Int) := by
        rw [show ((y : Int) * 2 ^ (8 * p)) = ((z : Nat) : Int) by rw [hz]; simp]; exact wrapN hz64
      have f6 : bits BinOp.or IntKind.u64 (x : Int) (z : Int) = (s : Nat) := by rw [u64_or_nat x z hzl hz64, l1]
      have f7 : (8 * (p : Int)).toNat = 8 * p := by omega
      have f8 : min (8 * p) 64 = 8 * p := by omega
      have f9 : IntKind.u64.wrap (y : Int) = (y : Int) := wrapN (by omega)
      have f10 : IntKind.i64.wrap (q : Int) = (q : Int) := IntWalk.i64_in _ (by omega)
      have f11 : IntKind.i64.wrap (p : Int) = (p : Int) := IntWalk.i64_in _ (by omega)
      have f12 : IntKind.i64.wrap (8 * (p : Int)) = 8 * (p : Int) := IntWalk.i64_in _ (by omega)
      have f13 : IntKind.i64.wrap ((n : Int) - 1) = (n : Int) - 1 := IntWalk.i64_in _ (by omega)
      have f14 : IntKind.i64.wrap (k : Int) = (k : Int) := IntWalk.i64_in _ (by omega)
      have f15 : k < n := by omega
      clear l1 l2 l3 hq hr hy hx hz hs hk hkl hqz hby
      refine wp_seq ?_
      refine wp_r0 ?_
      intro K hN
      go_wp2_with fail
      refine NoK.norm (hN _ _ ?_)
      clear hN K
      refine then_norm ?_
      refine wp_seq ?_
      refine wp_cond_true (rfl) ?_
      refine wp_skip ?_
      refine then_norm ?_
      refine wp_seq ?_
      refine wp_block ?_
      refine wp_seq ?_
      refine wp_r0 ?_
      intro K hN
      go_wp2_with fail
      refine NoK.norm (hN _ _ ?_)
      clear hN K
      refine then_norm ?_
      refine wp_rd (w := w) allocs 20 [] [(0, 0), (0, 1), (0, 2), (0, 3), (0, 4), (0, 5), (0, 6), (0, 7), (0, 8), (0, 9), (0, 10), (0, 11), (0, 12), (0, 13), (0, 14), (0, 15), (0, 16), (0, 17), (0, 18), (0, 19)] (by kernel_rfl) (by kernel_rfl) (by simp only [List.drop_succ_cons, List.drop_zero]; exact rfl) (fun _ => True) noG hB hG trivial ?_
      intro K L hN hL
      simp only [pickOps, List.getElem?_toArray, List.getElem?_cons_zero, List.getElem?_cons_succ]
      apply gy
      · exact rfl
      · (rintro v - N hN; go_simp; exact hN)
      refine okf (by simp only [Act.put, List.setIfInBounds_toArray, List.set_cons_succ, List.set_cons_zero]; exact rfl) ?_
      apply gy
      · exact rfl
      · (rintro v - N hN; go_simp; exact hN)
      refine okf (by simp only [Act.put, List.setIfInBounds_toArray, List.set_cons_succ, List.set_cons_zero]; exact rfl) ?_
      apply gy
      · exact rfl
      · (rintro v - N hN; go_simp; exact hN)
      refine okf (by simp only [Act.put, List.setIfInBounds_toArray, List.set_cons_succ, List.set_cons_zero]; exact rfl) ?_
      apply gy
      · exact rfl
      · (rintro v - N hN; go_simp; exact hN)
      refine okf (by simp only [Act.put, List.setIfInBounds_toArray, List.set_cons_succ, List.set_cons_zero]; exact rfl) ?_
      apply gy
      · exact rfl
      · (rintro v ⟨hgu, hB, hG, -⟩ N hN; have r := hB.r; simp only [BxR] at r; have hcb := Hby.out v hG; go_simp; exact hN)
      refine okf (by simp only [Act.put, List.setIfInBounds_toArray, List.set_cons_succ, List.set_cons_zero]; exact rfl) ?_
      apply gy
      · exact rfl
      · (rintro v - N hN; go_simp; exact hN)
      refine okf (by simp only [Act.put, List.setIfInBounds_toArray, List.set_cons_succ, List.set_cons_zero]; exact rfl) ?_
      apply gy
      · exact rfl
      · (rintro v - N hN; go_simp; exact hN)
      refine okf (by simp only [Act.put, List.setIfInBounds_toArray, List.set_cons_succ, List.set_cons_zero]; exact rfl) ?_
      apply gy
      · exact rfl
      · (rintro v - N hN; go_simp; exact hN)
      refine okf (by simp only [Act.put, List.setIfInBounds_toArray, List.set_cons_succ, List.set_cons_zero]; exact rfl) ?_
      apply gy
      · exact rfl
      · (rintro v - N hN; go_simp; exact hN)
      refine okf (by simp only [Act.put, List.setIfInBounds_toArray, List.set_cons_succ, List.set_cons_zero]; exact rfl) ?_
      apply gy
      · exact rfl
      · (rintro v - N hN; go_simp; exact hN)
      refine okf (by simp only [Act.put, List.setIfInBounds_toArray, List.set_cons_succ, List.set_cons_zero]; exact rfl) ?_
      apply gy
      · exact rfl
      · (rintro v - N hN; go_simp; exact hN)
      refine okf (by simp only [Act.put, List.setIfInBounds_toArray, List.set_cons_succ, List.set_cons_zero]; exact rfl) ?_
      apply gy
      · exact rfl
      · (rintro v - N hN; go_simp; exact hN)
      refine okf (by simp only [Act.put, List.setIfInBounds_toArray, List.set_cons_succ, List.set_cons_zero]; exact rfl) ?_
      apply gy
      · exact rfl
      · (rintro v ⟨hgu, hB, hG, -⟩ N hN; have r := hB.r; simp only [BxR] at r; have hcb := Hby.out v hG; go_simp; exact hN)
      refine okf (by simp only [Act.put, List.setIfInBounds_toArray, List.set_cons_succ, List.set_cons_zero]; exact rfl) ?_
      apply gy
      · exact rfl
      · (rintro v - N hN; go_simp; exact hN)
      refine okf (by simp only [Act.put, List.setIfInBounds_toArray, List.set_cons_succ, List.set_cons_zero]; exact rfl) ?_
      apply gy
      · exact rfl
      · (rintro v - N hN; go_simp; exact hN)
      refine okf (by simp only [Act.put, List.setIfInBounds_toArray, List.set_cons_succ, List.set_cons_zero]; exact rfl) ?_
      apply gy
      · exact rfl
      · (rintro v - N hN; go_simp; exact hN)
      refine okf (by simp only [Act.put, List.setIfInBounds_toArray, List.set_cons_succ, List.set_cons_zero]; exact rfl) ?_
      apply gy
      · exact rfl
      · (rintro v - N hN; go_simp; exact hN)
      refine okf (by simp only [Act.put, List.setIfInBounds_toArray, List.set_cons_succ, List.set_cons_zero]; exact rfl) ?_
      apply gy
      · exact rfl
      · (rintro v - N hN; go_simp; exact hN)
      refine okf (by simp only [Act.put, List.setIfInBounds_toArray, List.set_cons_succ, List.set_cons_zero]; exact rfl) ?_
      apply gy
      · exact rfl
      · (rintro v - N hN; go_simp; exact hN)
      refine okf (by simp only [Act.put, List.setIfInBounds_toArray, List.set_cons_succ, List.set_cons_zero]; exact rfl) ?_
      apply gy
      · exact rfl
      · (rintro v - N hN; go_simp; exact hN)
      refine okf (by simp only [Act.put, List.setIfInBounds_toArray, List.set_cons_succ, List.set_cons_zero]; exact rfl) ?_
      refine gend ?_
      rintro v ⟨hgu, hB1, hG1, -⟩
      clear hB hG
      have hB := hB1
      have hG := hG1
      clear hB1 hG1
      refine hL _ _ ?_
      clear hL L hgu
      obtain ⟨u, rfl⟩ : ∃ x, x = v := ⟨_, rfl⟩
      have r := hB.r
      simp only [BxR] at r
      go_wp2_with fail
      clear r
      generalize hu0 : World.setCell u _ _ = u0
      have hBG := hB.over hF hG 0 rfl q [_] hu0
      clear hB hG
      simp only [List.modify_succ_cons, List.modify_zero_cons, wrAll, G2.out] at hBG
      obtain ⟨hB, hG⟩ := hBG
      clear hu0
      obtain ⟨u, rfl⟩ : ∃ x, x = u0 := ⟨_, rfl⟩
      refine NoK.norm (hN _ _ ?_)
      clear hN K
      refine blk_norm ?_
      refine then_norm ?_
      refine wp_r0 ?_
      intro K hN
      go_wp2_with fail
      refine NoK.norm (hN _ _ ?_)
      clear hN K
      refine then_norm ?_
      go_roundw
      case rel => exact ⟨i + 1, zs.set q s, by omega, by go_num, L3.out, hB, hG⟩
      case measure => simp [intOf]; try omega
    · obtain rfl : n = i := by omega
      have hdec : decide ((n : Int) < (n : Int)) = false := by simp
      skip
      refine wp_seq ?_
      refine wp_r0 ?_
      intro K hN
      go_wp2_with fail
      refine NoK.norm (hN _ _ ?_)
      clear hN K
      refine then_norm ?_
      refine wp_seq ?_
      refine wp_cond_false (rfl) ?_
      refine wp_exit ?_
      refine then_exit ?_
      refine then_exit ?_
      refine blk_exit ?_
      refine then_norm ?_
      refine wp_seq ?_
      refine wp_r0 ?_
      intro K hN
      go_wp2_with fail
      refine NoK.norm (hN _ _ ?_)
      clear hN K
      refine then_norm ?_
      refine wp_ret ?_
      refine ret_b rfl ?_
      intro N hN
      have r := hB.r
      simp only [BxR] at r
      simp only [results, Tryz.results159]
      go_simp
      refine hN _ ?_
      clear hN N r
      exact ⟨b4, zs, by rw [H0.out.1], ⟨Nat.le_trans HG0.out.size (hF.1 b4 (by simp)), hB.head, H0.out.2.1, by rw [H0.out.done Hn.out]; exact Hlv.out, by rw [H0.out.1]; exact hmb⟩, HG0.out.trans hG⟩
end Go.Proofs.YtimjnkfcnpfoeaaGreatDoor

/-
  nat.Div in general.
-/
namespace Go.Proofs.YtimjnkfcnpfoeaaGreatDoor
open Go.RowKit
theorem words_Y (a : Nat) (ha : bl a ≤ 1099511627776) (n : Nat) (hn : n = (digs W64 a).length) (w : World) : Calls Tryz.prog 130 #[natV a] w (RetY (fun A : Option Addr => .slice A n n) (fun A W => Rd W A (digs W64 a)) w) :=
  (nat_words a ha w).mono fun e w' ⟨A, he, ho, hg⟩ => ⟨A, by rw [he, hn], ho.rd, hg⟩
set_option maxHeartbeats 2000000 in
set_option maxRecDepth 100000 in
theorem nat_Div_lt (a b : Nat) (ha : bl a ≤ 1099511627776) (hb : bl b ≤ 1099511627776) (hs : ¬ (a < W64 ∧ b < W64)) (hlt : a < b) (w : World) : Calls Tryz.prog 123 #[natV a, natV b] w fun e w' => e = .returned (.tuple #[natV (a / b), natV (a % b), .bool true]) ∧ Grow w w' := by
  have hT : ∃ b1 b2 : Bool, (natMo a).toList.isEmpty = b1 ∧ (natMo b).toList.isEmpty = b2 ∧ (b1 && b2) = false := by
    refine ⟨_, _, rfl, rfl, ?_⟩
    rw [natMo_isEmpty, natMo_isEmpty, Bool.and_eq_false_iff, decide_eq_false_iff_not, decide_eq_false_iff_not]
    omega
  obtain ⟨b1, b2, hb1, hb2, hb12⟩ := hT
  have hbits : ∀ W : World, Calls Tryz.prog 119 #[natV b] W fun e w' => e = .returned (.int .i64 (bl b)) ∧ Grow W w' := fun W => nat_Bits b hb W
  have hcmp : ∀ W : World, Calls Tryz.prog 122 #[natV a, natV b] W fun e w' => e = .returned (.int .i64 (-1)) ∧ Grow W w' := fun W => by
    have := nat_Cmp a b ha W
    rw [cmpN_lt hlt] at this
    exact this
  have hne : ((bl b : Int) == 0) = false := by have := bl_pos.2 (show b ≠ 0 by omega); simp; omega
  have Hq := Lib.hid (And.intro (Nat.div_eq_of_lt hlt) (Nat.mod_eq_of_lt hlt))
  have Hbits := Lib.hid hbits
  have Hcmp := Lib.hid hcmp
  clear hbits hcmp hs ha hb hlt
  cases b1 <;> cases b2 <;> first | (exact absurd hb12 (by decide)) | skip
  all_goals clear hb12
  all_goals
    go_enter Tryz.func123, Tryz.ntmps123
    refine wp_seq (wp_r0 ?_)
    intro K hN
    go_wp2_with fail
    generalize hu : World.alloc (World.alloc (World.alloc (World.alloc w _) _) _) _ = u
    obtain ⟨hB, hG⟩ := bx_first [(_, _), (_, _), (_, _), (_, _)] w u hu
    have hF := fr_first w [(28, #[]), (28, #[]), (28, #[]), (28, #[])]
    simp only [numbered, List.map_cons, List.map_nil] at hB hF
    clear hu
    generalize w.heap.size + 1 + 1 + 1 = b5 at hB hF ⊢
    generalize w.heap.size + 1 + 1 = b4 at hB hF ⊢
    generalize w.heap.size + 1 = b3 at hB hF ⊢
    generalize w.heap.size = b2 at hB hF ⊢
    refine NoK.norm (hN _ _ ?_)
    clear hN K
    refine then_norm ?_
    refine wp_seq ?_
    refine wp_seq ?_
    refine wp_rs (w := w) allocs 3 [0, 1, 0] (by kernel_rfl) (by simp only [List.drop_succ_cons, List.drop_nil]; exact rfl) (fun _ => True) noG hB hG trivial ?_
    intro K L hN hL
    simp only [List.zip_cons_cons, List.zip_nil_left]
    apply gy
    · exact rfl
    · (rintro v ⟨hgu, hB, hG, -⟩ N hN; have r := hB.r; simp only [BxR] at r; go_simp; exact hN)
    refine okf (by simp only [Act.put, List.setIfInBounds_toArray, List.set_cons_succ, List.set_cons_zero]; exact rfl) ?_
    apply gm
    · exact rfl
    · (rintro v ⟨hgu, hB, hG, -⟩ N hN; go_simp; ((with_reducible refine (Hbits.out _).mono ?_); rintro e w1 ⟨rfl, hb⟩; exact ⟨_, rfl, hN _ hb⟩))
    refine okf (by simp only [Act.put, List.setIfInBounds_toArray, List.set_cons_succ, List.set_cons_zero]; exact rfl) ?_
    apply gy
    · exact rfl
    · (rintro v - N hN; go_simp; exact hN)
    refine okf (by simp only [Act.put, List.setIfInBounds_toArray, List.set_cons_succ, List.set_cons_zero]; exact rfl) ?_
    refine gend ?_
    rintro v ⟨hgu, hB1, hG1, -⟩
    clear hB hG
    have hB := hB1
    have hG := hG1
    clear hB1 hG1
    refine hL _ _ ?_
    clear hL L hgu
    obtain ⟨u, rfl⟩ : ∃ x, x = v := ⟨_, rfl⟩
    refine wpList_nil ?_
    refine NoK.norm (hN _ _ ?_)
    clear hN K
    refine then_norm ?_
    refine wp_cond_false (rfl) ?_
    refine wp_skip ?_
    refine then_norm ?_
    refine wp_seq ?_
    refine wp_seq ?_
    refine wp_r0 ?_
    intro K hN
    have r := hB.r
    simp only [BxR] at r
    go_wp2_with fail
    clear r
    refine NoK.norm (hN _ _ ?_)
    clear hN K
    refine then_norm ?_
    refine wp_cond_false (rfl) ?_
    refine wp_skip ?_
    refine then_norm ?_
    refine wp_seq ?_
    refine wp_seq ?_
    refine wp_rs (w := w) allocs 4 [0, 0, 1, 0] (by kernel_rfl) (by simp only [List.drop_succ_cons, List.drop_nil]; exact rfl) (fun _ => True) noG hB hG trivial ?_
    intro K L hN hL
    simp only [List.zip_cons_cons, List.zip_nil_left]
    apply gy
    · exact rfl
    · (rintro v ⟨hgu, hB, hG, -⟩ N hN; have r := hB.r; simp only [BxR] at r; go_simp; exact hN)
    refine okf (by simp only [Act.put, List.setIfInBounds_toArray, List.set_cons_succ, List.set_cons_zero]; exact rfl) ?_
    apply gy
    · exact rfl
    · (rintro v ⟨hgu, hB, hG, -⟩ N hN; have r := hB.r; simp only [BxR] at r; go_simp; exact hN)
    refine okf (by simp only [Act.put, List.setIfInBounds_toArray, List.set_cons_succ, List.set_cons_zero]; exact rfl) ?_
    apply gm
    · exact rfl
    · (rintro v ⟨hgu, hB, hG, -⟩ N hN; go_simp; ((with_reducible refine (Hcmp.out _).mono ?_); rintro e w1 ⟨rfl, hb⟩; exact ⟨_, rfl, hN _ hb⟩))
    refine okf (by simp only [Act.put, List.setIfInBounds_toArray, List.set_cons_succ, List.set_cons_zero]; exact rfl) ?_
    apply gy
    · exact rfl
    · (rintro v - N hN; go_simp; exact hN)
    refine okf (by simp only [Act.put, List.setIfInBounds_toArray, List.set_cons_succ, List.set_cons_zero]; exact rfl) ?_
    refine gend ?_
    rintro v ⟨hgu, hB1, hG1, -⟩
    clear hB hG
    have hB := hB1
    have hG := hG1
    clear hB1 hG1
    refine hL _ _ ?_
    clear hL L hgu
    obtain ⟨u, rfl⟩ : ∃ x, x = v := ⟨_, rfl⟩
    refine wpList_nil ?_
    refine NoK.norm (hN _ _ ?_)
    clear hN K
    refine then_norm ?_
    refine wp_cond_true (rfl) ?_
    refine wp_seq ?_
    refine Code.wp_mono NoP.up ?_
    have r := hB.r
    simp only [BxR] at r
    have hD : b2 ≠ b4 ∧ b2 ≠ b5 ∧ b3 ≠ b4 ∧ b3 ≠ b5 ∧ b4 ≠ b2 ∧ b4 ≠ b3 ∧ b4 ≠ b5 ∧ b5 ≠ b2 ∧ b5 ≠ b3 ∧ b5 ≠ b4 := ⟨hF.ne 0 2 rfl rfl (by decide), hF.ne 0 3 rfl rfl (by decide), hF.ne 1 2 rfl rfl (by decide), hF.ne 1 3 rfl rfl (by decide), hF.ne 2 0 rfl rfl (by decide), hF.ne 2 1 rfl rfl (by decide), hF.ne 2 3 rfl rfl (by decide), hF.ne 3 0 rfl rfl (by decide), hF.ne 3 1 rfl rfl (by decide), hF.ne 3 2 rfl rfl (by decide)⟩
    go_region
    clear r hD
    generalize hu0 : World.setCell (World.setCell u _ _) _ _ = u0
    have hBG := hB.over hF hG 2 rfl 0 [_, _] hu0
    clear hB hG hu0
    simp only [List.modify_succ_cons, List.modify_zero_cons, wrAll, List.setIfInBounds_toArray, List.set_cons_zero, List.set_cons_succ, Nat.zero_add, Nat.reduceAdd] at hBG
    obtain ⟨hB, hG⟩ := hBG
    clear u
    generalize hu1 : World.setCell (World.setCell u0 _ _) _ _ = u1
    have hBG := hB.over hF hG 3 rfl 0 [_, _] hu1
    clear hB hG hu1
    simp only [List.modify_succ_cons, List.modify_zero_cons, wrAll, List.setIfInBounds_toArray, List.set_cons_zero, List.set_cons_succ, Nat.zero_add, Nat.reduceAdd] at hBG
    obtain ⟨hB, hG⟩ := hBG
    clear u0
    obtain ⟨u, rfl⟩ : ∃ x, x = u1 := ⟨_, rfl⟩
    replace hB := hB.grow (Grow.drew u)
    replace hG := hG.trans (Grow.drew u)
    obtain ⟨u, rfl⟩ : ∃ x, x = u.drew := ⟨_, rfl⟩
    refine NoP.norm ?_
    refine then_norm ?_
    refine wp_ret ?_
    refine then_ret ?_
    refine ret_b rfl ?_
    intro N hN
    have r := hB.r
    simp only [BxR] at r
    simp only [results, Tryz.results123]
    go_simp
    refine hN _ ?_
    clear hN N r
    refine And.intro ?_ hG
    rw [Hq.out.1, Hq.out.2]
    rfl
theorem fw_trim {w2 : World} {b1 q : Nat} {zs : List Nat} (hz1 : Wrow w2 b1 zs) (hz3 : Dig W64 zs) (hz4 : val W64 zs = q) (hl : zs.length ≤ 34359738368) :
    ∀ W, Grow w2 W → Calls Tryz.prog 128 #[.slice (some ⟨b1, 0, none⟩) (trimL zs).length zs.length] W fun e w' => e = .returned (natV q) ∧ Grow W w' := fun W hg => by
  have := nat_fromWords (some ⟨b1, 0, none⟩) (trimL zs) zs.length W (fun _ => ⟨b1, 0, rfl, by rw [trimL_eq_take]; exact ((hz1.grow hg).wds).take _⟩) (dig_trimL hz3) (trimL_le _) (Nat.le_trans (trimL_le _) (by omega)) (by omega)
  rw [val_trimL, hz4] at this
  exact this
set_option maxHeartbeats 2000000 in
set_option maxRecDepth 100000 in
theorem nat_Div_word (a b : Nat) (ha : bl a ≤ 1099511627776) (haW : ¬ a < W64) (hbW : b < W64) (h0 : b ≠ 0) (w : World) : Calls Tryz.prog 123 #[natV a, natV b] w fun e w' => e = .returned (.tuple #[natV (a / b), natV (a % b), .bool true]) ∧ Grow w w' := by
  have hE1 : (natMo a).toList.isEmpty = false := by rw [natMo_isEmpty]; simpa using haW
  have hE2 : (natMo b).toList.isEmpty = true := by rw [natMo_isEmpty]; simpa using hbW
  have hbits : ∀ W : World, Calls Tryz.prog 119 #[natV b] W fun e w' => e = .returned (.int .i64 (bl b)) ∧ Grow W w' := fun W => nat_Bits b (Nat.le_trans (bl_small hbW) (by omega)) W
  obtain ⟨c, hcd, hcmp⟩ : ∃ c : Int, decide (c < 0) = false ∧ ∀ W : World, Calls Tryz.prog 122 #[natV a, natV b] W fun e w' => e = .returned (.int .i64 c) ∧ Grow W w' := ⟨cmpN a b, by
    unfold cmpN; rw [if_neg (by omega)]; split <;> rfl, fun W => nat_Cmp a b ha W⟩
  have hne : ((bl b : Int) == 0) = false := by have := bl_pos.2 h0; simp; omega
  obtain ⟨n, hn⟩ : ∃ n, n = (digs W64 a).length := ⟨_, rfl⟩
  have hn0 : (digs W64 a) ≠ [] := fun h => by
    have := val_digs W64_ge a
    rw [h] at this
    have h1 : a = 0 := this.symm
    exact haW (h1 ▸ W64_pos)
  have hnl : n ≤ 34359738360 := by rw [hn]; have := digs_len (a := a) (k := 17179869184) (by omega); omega
  have hwords : ∀ W : World, Calls Tryz.prog 130 #[natV a] W fun e w' => ∃ b1, e = .returned (.slice (some ⟨b1, 0, none⟩) n n) ∧ W.heap.size ≤ b1 ∧ Wrow w' b1 (digs W64 a) ∧ Grow W w' := fun W =>
    (nat_words a ha W).mono fun e w' ⟨A, he, ho, hg⟩ => by
      obtain ⟨b1, h1, rfl, h3⟩ := ho hn0
      exact ⟨b1, by rw [he, hn], h1, h3, hg⟩
  have hdw : ∀ (W0 W : World) (b1 : Nat), Grow W0 W → W0.heap.size ≤ b1 → Wrow W b1 (digs W64 a) → Calls Tryz.prog 157 #[.slice (some ⟨b1, 0, none⟩) n n, .int .u64 (natLo b)] W fun e w' => ∃ zs : List Nat, e = .returned (.tuple #[.slice (some ⟨b1, 0, none⟩) (trimL zs).length zs.length, .int .u64 (natLo (a % b))]) ∧ Wrow w' b1 zs ∧ zs.length = n ∧ Dig W64 zs ∧ val W64 zs = a / b ∧ Grow W0 w' := fun W0 W b1 hg hb1 hr => by
    have := nat_divWord b1 (digs W64 a) b W0 W hr (dig_digs W64_ge a) (by omega) hbW (by omega) hg hb1
    rw [← hn, val_digs W64_ge] at this
    rw [natLo_small hbW, natLo_small (Nat.lt_trans (Nat.mod_lt a (Nat.pos_of_ne_zero h0)) hbW)]
    exact this
  have hmo := natMo_small (Nat.lt_trans (Nat.mod_lt a (Nat.pos_of_ne_zero h0)) hbW)
  have Hbits := Lib.hid hbits
  have Hcmp := Lib.hid hcmp
  have Hwords := Lib.hid hwords
  have Hdw := Lib.hid hdw
  have Hmo := Lib.hid hmo
  clear hbits hcmp hwords hdw ha haW hbW hn hn0 hmo
  go_enter Tryz.func123, Tryz.ntmps123
  refine wp_seq (wp_r0 ?_)
  intro K hN
  go_wp2_with fail
  generalize hu : World.alloc (World.alloc (World.alloc (World.alloc w _) _) _) _ = u
  obtain ⟨hB, hG⟩ := bx_first [(_, _), (_, _), (_, _), (_, _)] w u hu
  have hF := fr_first w [(28, #[]), (28, #[]), (28, #[]), (28, #[])]
  simp only [numbered, List.map_cons, List.map_nil] at hB hF
  clear hu
  generalize w.heap.size + 1 + 1 + 1 = b5 at hB hF ⊢
  generalize w.heap.size + 1 + 1 = b4 at hB hF ⊢
  generalize w.heap.size + 1 = b3 at hB hF ⊢
  generalize w.heap.size = b2 at hB hF ⊢
  refine NoK.norm (hN _ _ ?_)
  clear hN K
  refine then_norm ?_
  refine wp_seq ?_
  refine wp_seq ?_
  refine wp_rs (w := w) allocs 3 [0, 1, 0] (by kernel_rfl) (by simp only [List.drop_succ_cons, List.drop_nil]; exact rfl) (fun _ => True) noG hB hG trivial ?_
  intro K L hN hL
  simp only [List.zip_cons_cons, List.zip_nil_left]
  apply gy
  · exact rfl
  · (rintro v ⟨hgu, hB, hG, -⟩ N hN; have r := hB.r; simp only [BxR] at r; go_simp; exact hN)
  refine okf (by simp only [Act.put, List.setIfInBounds_toArray, List.set_cons_succ, List.set_cons_zero]; exact rfl) ?_
  apply gm
  · exact rfl
  · (rintro v ⟨hgu, hB, hG, -⟩ N hN; go_simp; ((with_reducible refine (Hbits.out _).mono ?_); rintro e w1 ⟨rfl, hb⟩; exact ⟨_, rfl, hN _ hb⟩))
  refine okf (by simp only [Act.put, List.setIfInBounds_toArray, List.set_cons_succ, List.set_cons_zero]; exact rfl) ?_
  apply gy
  · exact rfl
  · (rintro v - N hN; go_simp; exact hN)
  refine okf (by simp only [Act.put, List.setIfInBounds_toArray, List.set_cons_succ, List.set_cons_zero]; exact rfl) ?_
  refine gend ?_
  rintro v ⟨hgu, hB1, hG1, -⟩
  clear hB hG
  have hB := hB1
  have hG := hG1
  clear hB1 hG1
  refine hL _ _ ?_
  clear hL L hgu
  obtain ⟨u, rfl⟩ : ∃ x, x = v := ⟨_, rfl⟩
  refine wpList_nil ?_
  refine NoK.norm (hN _ _ ?_)
  clear hN K
  refine then_norm ?_
  refine wp_cond_false (rfl) ?_
  refine wp_skip ?_
  refine then_norm ?_
  refine wp_seq ?_
  refine wp_seq ?_
  refine wp_r0 ?_
  intro K hN
  have r := hB.r
  simp only [BxR] at r
  go_wp2_with fail
  clear r
  refine NoK.norm (hN _ _ ?_)
  clear hN K
  refine then_norm ?_
  refine wp_cond_false (rfl) ?_
  refine wp_skip ?_
  refine then_norm ?_
  refine wp_seq ?_
  refine wp_seq ?_
  refine wp_rs (w := w) allocs 4 [0, 0, 1, 0] (by kernel_rfl) (by simp only [List.drop_succ_cons, List.drop_nil]; exact rfl) (fun _ => True) noG hB hG trivial ?_
  intro K L hN hL
  simp only [List.zip_cons_cons, List.zip_nil_left]
  apply gy
  · exact rfl
  · (rintro v ⟨hgu, hB, hG, -⟩ N hN; have r := hB.r; simp only [BxR] at r; go_simp; exact hN)
  refine okf (by simp only [Act.put, List.setIfInBounds_toArray, List.set_cons_succ, List.set_cons_zero]; exact rfl) ?_
  apply gy
  · exact rfl
  · (rintro v ⟨hgu, hB, hG, -⟩ N hN; have r := hB.r; simp only [BxR] at r; go_simp; exact hN)
  refine okf (by simp only [Act.put, List.setIfInBounds_toArray, List.set_cons_succ, List.set_cons_zero]; exact rfl) ?_
  apply gm
  · exact rfl
  · (rintro v ⟨hgu, hB, hG, -⟩ N hN; go_simp; ((with_reducible refine (Hcmp.out _).mono ?_); rintro e w1 ⟨rfl, hb⟩; exact ⟨_, rfl, hN _ hb⟩))
  refine okf (by simp only [Act.put, List.setIfInBounds_toArray, List.set_cons_succ, List.set_cons_zero]; exact rfl) ?_
  apply gy
  · exact rfl
  · (rintro v - N hN; go_simp; exact hN)
  refine okf (by simp only [Act.put, List.setIfInBounds_toArray, List.set_cons_succ, List.set_cons_zero]; exact rfl) ?_
  refine gend ?_
  rintro v ⟨hgu, hB1, hG1, -⟩
  clear hB hG
  have hB := hB1
  have hG := hG1
  clear hB1 hG1
  refine hL _ _ ?_
  clear hL L hgu
  obtain ⟨u, rfl⟩ : ∃ x, x = v := ⟨_, rfl⟩
  refine wpList_nil ?_
  refine NoK.norm (hN _ _ ?_)
  clear hN K
  refine then_norm ?_
  refine wp_cond_false (rfl) ?_
  refine wp_skip ?_
  refine then_norm ?_
  refine wp_seq ?_
  refine wp_seq ?_
  refine wp_r0 ?_
  intro K hN
  have r := hB.r
  simp only [BxR] at r
  go_wp2_with fail
  clear r
  refine NoK.norm (hN _ _ ?_)
  clear hN K
  refine then_norm ?_
  refine wp_cond_true (rfl) ?_
  refine wp_seq ?_
  refine Code.wp_mono NoP.up ?_
  have r := hB.r
  simp only [BxR] at r
  go_region_with (first
    | (go_at_call 130; ((with_reducible refine (Hwords.out _).mono ?_); rintro e w1 ⟨b1, rfl, hb1, hr1, hg1⟩; have r1 := (hB.grow hg1).r; simp only [BxR] at r1))
    | (go_at_call 157; ((with_reducible refine (Hdw.out _ _ _ hg1 hb1 hr1).mono ?_); rintro e w2 ⟨zs, rfl, hz⟩; have Hz := Lib.hid hz; clear hz)))
  all_goals clear r r1
  all_goals obtain ⟨hz1, hz2, hz3, hz4, hz5⟩ := Hz.out
  all_goals have hfw := fw_trim hz1 hz3 hz4 (by omega)
  all_goals have Hfw := Lib.hid hfw
  all_goals replace hB := hB.grow ((Grow.drew u).trans hz5)
  all_goals replace hG := hG.trans ((Grow.drew u).trans hz5)
  all_goals clear hfw Hz hz1 hz2 hz3 hz4 hz5 hr1 hg1 hb1
  all_goals obtain ⟨u, rfl⟩ : ∃ x, x = w2 := ⟨_, rfl⟩
  all_goals refine NoP.norm ?_
  all_goals
    refine then_norm ?_
    refine wp_seq ?_
    refine wp_rs (w := w) allocs 4 [0, 1, 0, 0] (by kernel_rfl) (by simp only [List.drop_succ_cons, List.drop_zero]; exact rfl) (fun _ => True) noG hB hG trivial ?_
    intro K L hN hL
    simp only [List.zip_cons_cons, List.zip_nil_left]
    apply gy
    · exact rfl
    · (rintro v - N hN; go_simp; exact hN)
    refine okf (by simp only [Act.put, List.setIfInBounds_toArray, List.set_cons_succ, List.set_cons_zero]; exact rfl) ?_
    apply gm
    · exact rfl
    · (rintro v ⟨hgu, hB, hG, -⟩ N hN; go_simp; ((with_reducible refine (Hfw.out _ hgu).mono ?_); rintro e w1 ⟨rfl, hb⟩; exact ⟨_, rfl, hN _ hb⟩))
    refine okf (by simp only [Act.put, List.setIfInBounds_toArray, List.set_cons_succ, List.set_cons_zero]; exact rfl) ?_
    apply gy
    · exact rfl
    · (rintro v - N hN; go_simp; exact hN)
    refine okf (by simp only [Act.put, List.setIfInBounds_toArray, List.set_cons_succ, List.set_cons_zero]; exact rfl) ?_
    apply gy
    · exact rfl
    · (rintro v - N hN; go_simp; exact hN)
    refine okf (by simp only [Act.put, List.setIfInBounds_toArray, List.set_cons_succ, List.set_cons_zero]; exact rfl) ?_
    refine gend ?_
    rintro v ⟨hgu, hB1, hG1, -⟩
    clear hB hG
    have hB := hB1
    have hG := hG1
    clear hB1 hG1
    refine hL _ _ ?_
    clear hL L hgu
    obtain ⟨u, rfl⟩ : ∃ x, x = v := ⟨_, rfl⟩
    have hD : b4 ≠ b5 ∧ b5 ≠ b4 := ⟨hF.ne 2 3 rfl rfl (by decide), hF.ne 3 2 rfl rfl (by decide)⟩
    have r := hB.r
    simp only [BxR] at r
    go_wp2_with fail
    clear r
    clear hD
    generalize hu0 : World.setCell (World.setCell u _ _) _ _ = u0
    have hBG := hB.over hF hG 2 rfl 0 [_, _] hu0
    clear hB hG hu0
    simp only [List.modify_succ_cons, List.modify_zero_cons, wrAll, List.setIfInBounds_toArray, List.set_cons_zero, List.set_cons_succ, Nat.zero_add, Nat.reduceAdd] at hBG
    obtain ⟨hB, hG⟩ := hBG
    clear u
    generalize hu1 : World.setCell (World.setCell u0 _ _) _ _ = u1
    have hBG := hB.over hF hG 3 rfl 0 [_, _] hu1
    clear hB hG hu1
    simp only [List.modify_succ_cons, List.modify_zero_cons, wrAll, List.setIfInBounds_toArray, List.set_cons_zero, List.set_cons_succ, Nat.zero_add, Nat.reduceAdd] at hBG
    obtain ⟨hB, hG⟩ := hBG
    clear u0
    obtain ⟨u, rfl⟩ : ∃ x, x = u1 := ⟨_, rfl⟩
    refine NoK.norm (hN _ _ ?_)
    clear hN K
    refine then_norm ?_
    refine wp_ret ?_
    refine then_ret ?_
    refine ret_b rfl ?_
    intro N hN
    have r := hB.r
    simp only [BxR] at r
    simp only [results, Tryz.results123]
    go_simp
    refine hN _ ?_
    clear hN N r
    refine And.intro ?_ hG
    rw [show natV (a % b) = .agg #[.int .u64 (natLo (a % b)), .string ⟨#[]⟩] by show Value.agg #[_, .string (natMo (a % b))] = _; rw [Hmo.out]]
abbrev DW := Nat × Nat × List Nat × List Nat
def dwV (x : DW) : Value := .tuple #[.slice (some ⟨x.1, 0, none⟩) x.2.2.1.length x.2.2.1.length, .slice (some ⟨x.2.1, 0, none⟩) x.2.2.2.length x.2.2.2.length]
def DWT (a b m : Nat) (x : DW) (W : World) : Prop := Wrow W x.1 x.2.2.1 ∧ Wrow W x.2.1 x.2.2.2 ∧ Dig W64 x.2.2.1 ∧ Dig W64 x.2.2.2 ∧ x.2.2.1.length ≤ m ∧ x.2.2.2.length ≤ m ∧ val W64 x.2.2.1 = a / b ∧ val W64 x.2.2.2 = a % b
theorem DWT.grow {a b m : Nat} {x : DW} {W W' : World} (hg : Grow W W') (h : DWT a b m x W) : DWT a b m x W' := ⟨h.1.grow hg, h.2.1.grow hg, h.2.2⟩
set_option maxHeartbeats 2000000 in
set_option maxRecDepth 100000 in
theorem nat_Div_words (a b : Nat) (ha : bl a ≤ 1099511627776) (hbW : ¬ b < W64) (hle : b ≤ a) (w : World) : Calls Tryz.prog 123 #[natV a, natV b] w fun e w' => e = .returned (.tuple #[natV (a / b), natV (a % b), .bool true]) ∧ Grow w w' := by
  have hb : bl b ≤ 1099511627776 := Nat.le_trans (bl_mono hle) ha
  have hE1 : (natMo a).toList.isEmpty = false := by rw [natMo_isEmpty]; simp; omega
  have hE2 : (natMo b).toList.isEmpty = false := by rw [natMo_isEmpty]; simpa using hbW
  have hbits : ∀ W : World, Calls Tryz.prog 119 #[natV b] W fun e w' => e = .returned (.int .i64 (bl b)) ∧ Grow W w' := fun W => nat_Bits b hb W
  obtain ⟨c, hcd, hcmp⟩ : ∃ c : Int, decide (c < 0) = false ∧ ∀ W : World, Calls Tryz.prog 122 #[natV a, natV b] W fun e w' => e = .returned (.int .i64 c) ∧ Grow W w' := ⟨cmpN a b, by
    unfold cmpN; rw [if_neg (by omega)]; split <;> rfl, fun W => nat_Cmp a b ha W⟩
  have h0 : b ≠ 0 := fun h => hbW (h ▸ W64_pos)
  have ha0 : a ≠ 0 := by omega
  have hne : ((bl b : Int) == 0) = false := by have := bl_pos.2 h0; simp; omega
  obtain ⟨n, hn⟩ : ∃ n, n = (digs W64 a).length := ⟨_, rfl⟩
  obtain ⟨m, hm⟩ : ∃ m, m = (digs W64 b).length := ⟨_, rfl⟩
  have hnl : n ≤ 34359738360 := by rw [hn]; have := digs_len (a := a) (k := 17179869184) (by omega); omega
  have hm2 : 2 ≤ m := by
    rw [hm]
    exact digs_length_gt (n := 1) W64_ge (by rw [Nat.pow_one]; omega)
  have hmn : m ≤ n := by
    rw [hm, hn]
    rcases Nat.lt_or_ge (digs W64 a).length (digs W64 b).length with h | h
    · have h1 := val_lt (dig_digs W64_ge a)
      rw [val_digs W64_ge] at h1
      have h2 := (tight_iff (dig_digs W64_ge b)).1 (tight_digs W64_ge b)
      rw [val_digs W64_ge] at h2
      rcases h2 with h2 | h2
      · rw [h2] at h; simp at h
      · have h3 : W64 ^ (digs W64 a).length ≤ W64 ^ ((digs W64 b).length - 1) := Nat.pow_le_pow_right W64_pos (by omega)
        omega
    · exact h
  have htop : dg (digs W64 b) (m - 1) ≠ 0 := by
    have ht := tight_digs W64_ge b
    have hl : m - 1 < (digs W64 b).length := by omega
    rcases ht with ht | ht
    · rw [ht] at hm; simp at hm; omega
    · rw [dg_eq hl]
      intro h
      apply ht
      rw [List.getLast?_eq_getElem?, ← hm, List.getElem?_eq_getElem hl, h]
  have hdw : ∀ (W : World) (A1 A2 : Option Addr), Rd W A1 (digs W64 a) → Rd W A2 (digs W64 b) → Calls Tryz.prog 158 #[.slice A1 n n, .slice A2 m m] W (RetY dwV (DWT a b n) W) := fun W A1 A2 h1 h2 => by
    have := nat_divWords A1 A2 (digs W64 a) (digs W64 b) n m (dig_digs W64_ge a) (dig_digs W64_ge b) (by omega) (by omega) (by rw [← hm]; exact htop) (by omega) W h1 h2
    rw [← hn, ← hm, val_digs W64_ge, val_digs W64_ge] at this
    refine this.mono fun e w' ⟨bq, br, qs, rs, he, k1, k2, k3, k4, k5, k6, k7, k8, k9⟩ => ⟨(bq, br, qs, rs), he, ⟨k1, k2, k3, k4, k5, k6, k7, k8⟩, k9⟩
  have Hw1 := Lib.hid (words_Y a ha n hn)
  have Hw2 := Lib.hid (words_Y b hb m hm)
  have Hbits := Lib.hid hbits
  have Hcmp := Lib.hid hcmp
  have Hdw := Lib.hid hdw
  clear hbits hcmp hdw ha hb hbW hn hm htop ha0 hle
  go_enter Tryz.func123, Tryz.ntmps123
  refine wp_seq (wp_r0 ?_)
  intro K hN
  go_wp2_with fail
  generalize hu : World.alloc (World.alloc (World.alloc (World.alloc w _) _) _) _ = u
  obtain ⟨hB, hG⟩ := bx_first [(_, _), (_, _), (_, _), (_, _)] w u hu
  have hF := fr_first w [(28, #[]), (28, #[]), (28, #[]), (28, #[])]
  simp only [numbered, List.map_cons, List.map_nil] at hB hF
  clear hu
  generalize w.heap.size + 1 + 1 + 1 = b5 at hB hF ⊢
  generalize w.heap.size + 1 + 1 = b4 at hB hF ⊢
  generalize w.heap.size + 1 = b3 at hB hF ⊢
  generalize w.heap.size = b2 at hB hF ⊢
  refine NoK.norm (hN _ _ ?_)
  clear hN K
  refine then_norm ?_
  refine wp_seq ?_
  refine wp_seq ?_
  refine wp_rs (w := w) allocs 3 [0, 1, 0] (by kernel_rfl) (by simp only [List.drop_succ_cons, List.drop_nil]; exact rfl) (fun _ => True) noG hB hG trivial ?_
  intro K L hN hL
  simp only [List.zip_cons_cons, List.zip_nil_left]
  apply gy
  · exact rfl
  · (rintro v ⟨hgu, hB, hG, -⟩ N hN; have r := hB.r; simp only [BxR] at r; go_simp; exact hN)
  refine okf (by simp only [Act.put, List.setIfInBounds_toArray, List.set_cons_succ, List.set_cons_zero]; exact rfl) ?_
  apply gm
  · exact rfl
  · (rintro v ⟨hgu, hB, hG, -⟩ N hN; go_simp; ((with_reducible refine (Hbits.out _).mono ?_); rintro e w1 ⟨rfl, hb⟩; exact ⟨_, rfl, hN _ hb⟩))
  refine okf (by simp only [Act.put, List.setIfInBounds_toArray, List.set_cons_succ, List.set_cons_zero]; exact rfl) ?_
  apply gy
  · exact rfl
  · (rintro v - N hN; (try unfold dwV); go_simp; exact hN)
  refine okf (by simp only [Act.put, List.setIfInBounds_toArray, List.set_cons_succ, List.set_cons_zero]; exact rfl) ?_
  refine gend ?_
  rintro v ⟨hgu, hB1, hG1, -⟩
  clear hB hG
  have hB := hB1
  have hG := hG1
  clear hB1 hG1
  refine hL _ _ ?_
  clear hL L hgu
  obtain ⟨u, rfl⟩ : ∃ x, x = v := ⟨_, rfl⟩
  refine wpList_nil ?_
  refine NoK.norm (hN _ _ ?_)
  clear hN K
  refine then_norm ?_
  refine wp_cond_false (rfl) ?_
  refine wp_skip ?_
  refine then_norm ?_
  refine wp_seq ?_
  refine wp_seq ?_
  refine wp_r0 ?_
  intro K hN
  have r := hB.r
  simp only [BxR] at r
  go_wp2_with fail
  clear r
  refine NoK.norm (hN _ _ ?_)
  clear hN K
  refine then_norm ?_
  refine wp_cond_false (rfl) ?_
  refine wp_skip ?_
  refine then_norm ?_
  refine wp_seq ?_
  refine wp_seq ?_
  refine wp_rs (w := w) allocs 4 [0, 0, 1, 0] (by kernel_rfl) (by simp only [List.drop_succ_cons, List.drop_nil]; exact rfl) (fun _ => True) noG hB hG trivial ?_
  intro K L hN hL
  simp only [List.zip_cons_cons, List.zip_nil_left]
  apply gy
  · exact rfl
  · (rintro v ⟨hgu, hB, hG, -⟩ N hN; have r := hB.r; simp only [BxR] at r; go_simp; exact hN)
  refine okf (by simp only [Act.put, List.setIfInBounds_toArray, List.set_cons_succ, List.set_cons_zero]; exact rfl) ?_
  apply gy
  · exact rfl
  · (rintro v ⟨hgu, hB, hG, -⟩ N hN; have r := hB.r; simp only [BxR] at r; go_simp; exact hN)
  refine okf (by simp only [Act.put, List.setIfInBounds_toArray, List.set_cons_succ, List.set_cons_zero]; exact rfl) ?_
  apply gm
  · exact rfl
  · (rintro v ⟨hgu, hB, hG, -⟩ N hN; go_simp; ((with_reducible refine (Hcmp.out _).mono ?_); rintro e w1 ⟨rfl, hb⟩; exact ⟨_, rfl, hN _ hb⟩))
  refine okf (by simp only [Act.put, List.setIfInBounds_toArray, List.set_cons_succ, List.set_cons_zero]; exact rfl) ?_
  apply gy
  · exact rfl
  · (rintro v - N hN; (try unfold dwV); go_simp; exact hN)
  refine okf (by simp only [Act.put, List.setIfInBounds_toArray, List.set_cons_succ, List.set_cons_zero]; exact rfl) ?_
  refine gend ?_
  rintro v ⟨hgu, hB1, hG1, -⟩
  clear hB hG
  have hB := hB1
  have hG := hG1
  clear hB1 hG1
  refine hL _ _ ?_
  clear hL L hgu
  obtain ⟨u, rfl⟩ : ∃ x, x = v := ⟨_, rfl⟩
  refine wpList_nil ?_
  refine NoK.norm (hN _ _ ?_)
  clear hN K
  refine then_norm ?_
  refine wp_cond_false (rfl) ?_
  refine wp_skip ?_
  refine then_norm ?_
  refine wp_seq ?_
  refine wp_seq ?_
  refine wp_r0 ?_
  intro K hN
  have r := hB.r
  simp only [BxR] at r
  go_wp2_with fail
  clear r
  refine NoK.norm (hN _ _ ?_)
  clear hN K
  refine then_norm ?_
  refine wp_cond_false (rfl) ?_
  refine wp_skip ?_
  refine then_norm ?_
  refine wp_seq ?_
  refine wp_rd (w := w) allocs 9 [] [(0, 0), (0, 2), (1, 1), (1, 3), (1, 4), (0, 5), (0, 6), (0, 7), (0, 8)] (by kernel_rfl) (by kernel_rfl) (by simp only [List.drop_succ_cons, List.drop_zero]; exact rfl) (fun _ => True) noG hB hG trivial ?_
  intro K L hN hL
  simp only [pickOps, List.getElem?_toArray, List.getElem?_cons_zero, List.getElem?_cons_succ]
  apply gy
  · exact rfl
  · (rintro v ⟨hgu, hB, hG, -⟩ N hN; have r := hB.r; simp only [BxR] at r; go_simp; exact hN)
  refine okf (by simp only [Act.put, List.setIfInBounds_toArray, List.set_cons_succ, List.set_cons_zero]; exact rfl) ?_
  apply gy
  · exact rfl
  · (rintro v ⟨hgu, hB, hG, -⟩ N hN; have r := hB.r; simp only [BxR] at r; go_simp; exact hN)
  refine okf (by simp only [Act.put, List.setIfInBounds_toArray, List.set_cons_succ, List.set_cons_zero]; exact rfl) ?_
  refine gx (Option Addr) (fun A => .slice A n n) (fun A W => Rd W A (digs W64 a)) (fun _ _ _ hg h => h.grow hg) rfl ?_ (fun x59 => ?_)
  · (rintro v ⟨hgu, hB, hG, -⟩ N hN; go_simp; ((with_reducible refine (Hw1.out _).mono ?_); rintro e w1 ⟨x, rfl, hx, hg⟩; exact ⟨_, rfl, hN x w1 hx hg⟩))
  refine okf (by simp only [Act.put, List.setIfInBounds_toArray, List.set_cons_succ, List.set_cons_zero]; exact rfl) ?_
  refine gx (Option Addr) (fun A => .slice A m m) (fun A W => Rd W A (digs W64 b)) (fun _ _ _ hg h => h.grow hg) rfl ?_ (fun x61 => ?_)
  · (rintro v ⟨⟨hgu, hB, hG, -⟩, hx59⟩ N hN; go_simp; ((with_reducible refine (Hw2.out _).mono ?_); rintro e w1 ⟨x, rfl, hx, hg⟩; exact ⟨_, rfl, hN x w1 hx hg⟩))
  refine okf (by simp only [Act.put, List.setIfInBounds_toArray, List.set_cons_succ, List.set_cons_zero]; exact rfl) ?_
  refine gx (DW) (dwV) (DWT a b n) (fun _ _ _ hg h => h.grow hg) rfl ?_ (fun x62 => ?_)
  · (rintro v ⟨⟨⟨hgu, hB, hG, -⟩, hx59⟩, hx61⟩ N hN; go_simp; ((with_reducible refine (Hdw.out _ _ _ hx59 hx61).mono ?_); rintro e w1 ⟨x, rfl, hx, hg⟩; exact ⟨_, rfl, hN x w1 hx hg⟩))
  refine okf (by simp only [Act.put, List.setIfInBounds_toArray, List.set_cons_succ, List.set_cons_zero]; exact rfl) ?_
  apply gy
  · exact rfl
  · (rintro v - N hN; (try unfold dwV); go_simp; exact hN)
  refine okf (by simp only [Act.put, List.setIfInBounds_toArray, List.set_cons_succ, List.set_cons_zero]; exact rfl) ?_
  apply gy
  · exact rfl
  · (rintro v - N hN; (try unfold dwV); go_simp; exact hN)
  refine okf (by simp only [Act.put, List.setIfInBounds_toArray, List.set_cons_succ, List.set_cons_zero]; exact rfl) ?_
  apply gy
  · exact rfl
  · (rintro v - N hN; (try unfold dwV); go_simp; exact hN)
  refine okf (by simp only [Act.put, List.setIfInBounds_toArray, List.set_cons_succ, List.set_cons_zero]; exact rfl) ?_
  apply gy
  · exact rfl
  · (rintro v - N hN; (try unfold dwV); go_simp; exact hN)
  refine okf (by simp only [Act.put, List.setIfInBounds_toArray, List.set_cons_succ, List.set_cons_zero]; exact rfl) ?_
  refine gend ?_
  rintro v ⟨⟨⟨⟨hgu, hB1, hG1, -⟩, hx59⟩, hx61⟩, hx62⟩
  clear hB hG
  have hB := hB1
  have hG := hG1
  clear hB1 hG1
  refine hL _ _ ?_
  clear hL L hgu
  obtain ⟨u, rfl⟩ : ∃ x, x = v := ⟨_, rfl⟩
  go_wp2_with fail
  refine NoK.norm (hN _ _ ?_)
  clear hN K
  obtain ⟨bq, br, qs, rs⟩ := x62
  obtain ⟨k1, k2, k3, k4, k5, k6, k7, k8⟩ := hx62
  dsimp only at k1 k2 k3 k4 k5 k6 k7 k8
  have hfw1 : ∀ W, Grow u W → Calls Tryz.prog 128 #[.slice (some ⟨bq, 0, none⟩) qs.length qs.length] W fun e w' => e = .returned (natV (a / b)) ∧ Grow W w' := fun W hg => by
    have := nat_fromWords (some ⟨bq, 0, none⟩) qs qs.length W (fun _ => ⟨bq, 0, rfl, (k1.grow hg).wds⟩) k3 (Nat.le_refl _) (by omega) (by omega)
    rw [k7] at this
    exact this
  have hfw2 : ∀ W, Grow u W → Calls Tryz.prog 128 #[.slice (some ⟨br, 0, none⟩) rs.length rs.length] W fun e w' => e = .returned (natV (a % b)) ∧ Grow W w' := fun W hg => by
    have := nat_fromWords (some ⟨br, 0, none⟩) rs rs.length W (fun _ => ⟨br, 0, rfl, (k2.grow hg).wds⟩) k4 (Nat.le_refl _) (by omega) (by omega)
    rw [k8] at this
    exact this
  have Hfw1 := Lib.hid hfw1
  have Hfw2 := Lib.hid hfw2
  clear hfw1 hfw2 k1 k2 k3 k4 k7 k8 hx59 hx61
  refine then_norm ?_
  refine wp_seq ?_
  refine wp_rs (w := w) allocs 4 [0, 1, 0, 1] (by kernel_rfl) (by simp only [List.drop_succ_cons, List.drop_zero]; exact rfl) (fun _ => True) noG hB hG trivial ?_
  intro K L hN hL
  simp only [List.zip_cons_cons, List.zip_nil_left]
  apply gy
  · exact rfl
  · (rintro v - N hN; (try unfold dwV); go_simp; exact hN)
  refine okf (by simp only [Act.put, List.setIfInBounds_toArray, List.set_cons_succ, List.set_cons_zero]; exact rfl) ?_
  apply gm
  · exact rfl
  · (rintro v ⟨hgu, hB, hG, -⟩ N hN; go_simp; ((with_reducible refine (Hfw1.out _ hgu).mono ?_); rintro e w1 ⟨rfl, hb⟩; exact ⟨_, rfl, hN _ hb⟩))
  refine okf (by simp only [Act.put, List.setIfInBounds_toArray, List.set_cons_succ, List.set_cons_zero]; exact rfl) ?_
  apply gy
  · exact rfl
  · (rintro v - N hN; (try unfold dwV); go_simp; exact hN)
  refine okf (by simp only [Act.put, List.setIfInBounds_toArray, List.set_cons_succ, List.set_cons_zero]; exact rfl) ?_
  apply gm
  · exact rfl
  · (rintro v ⟨hgu, hB, hG, -⟩ N hN; go_simp; ((with_reducible refine (Hfw2.out _ hgu).mono ?_); rintro e w1 ⟨rfl, hb⟩; exact ⟨_, rfl, hN _ hb⟩))
  refine okf (by simp only [Act.put, List.setIfInBounds_toArray, List.set_cons_succ, List.set_cons_zero]; exact rfl) ?_
  refine gend ?_
  rintro v ⟨hgu, hB1, hG1, -⟩
  clear hB hG
  have hB := hB1
  have hG := hG1
  clear hB1 hG1
  refine hL _ _ ?_
  clear hL L hgu
  obtain ⟨u, rfl⟩ : ∃ x, x = v := ⟨_, rfl⟩
  have hD : b4 ≠ b5 ∧ b5 ≠ b4 := ⟨hF.ne 2 3 rfl rfl (by decide), hF.ne 3 2 rfl rfl (by decide)⟩
  have r := hB.r
  simp only [BxR] at r
  go_wp2_with fail
  clear r
  clear hD
  generalize hu0 : World.setCell (World.setCell u _ _) _ _ = u0
  have hBG := hB.over hF hG 2 rfl 0 [_, _] hu0
  clear hB hG hu0
  simp only [List.modify_succ_cons, List.modify_zero_cons, wrAll, List.setIfInBounds_toArray, List.set_cons_zero, List.set_cons_succ, Nat.zero_add, Nat.reduceAdd] at hBG
  obtain ⟨hB, hG⟩ := hBG
  clear u
  generalize hu1 : World.setCell (World.setCell u0 _ _) _ _ = u1
  have hBG := hB.over hF hG 3 rfl 0 [_, _] hu1
  clear hB hG hu1
  simp only [List.modify_succ_cons, List.modify_zero_cons, wrAll, List.setIfInBounds_toArray, List.set_cons_zero, List.set_cons_succ, Nat.zero_add, Nat.reduceAdd] at hBG
  obtain ⟨hB, hG⟩ := hBG
  clear u0
  obtain ⟨u, rfl⟩ : ∃ x, x = u1 := ⟨_, rfl⟩
  refine NoK.norm (hN _ _ ?_)
  clear hN K
  refine then_norm ?_
  refine wp_ret ?_
  refine ret_b rfl ?_
  intro N hN
  have r := hB.r
  simp only [BxR] at r
  simp only [results, Tryz.results123]
  go_simp
  refine hN _ ?_
  clear hN N r
  exact ⟨rfl, hG⟩
--! nat_Div = nat_Div _ _ SIDE SIDE SIDE _
theorem nat_Div (a b : Nat) (ha : bl a ≤ BIG) (hb : bl b ≤ BIG) (h0 : b ≠ 0) (w : World) : Calls Tryz.prog 123 #[natV a, natV b] w fun e w' => e = .returned (.tuple #[natV (a / b), natV (a % b), .bool true]) ∧ Grow w w' := by
  have ha' := fits_most ha
  have hb' := fits_most hb
  by_cases hs : a < W64 ∧ b < W64
  · exact nat_Div_small a b hs.1 hs.2 h0 w
  · by_cases hlt : a < b
    · exact nat_Div_lt a b ha' hb' hs hlt w
    · by_cases hb1 : b < W64
      · exact nat_Div_word a b ha' (fun h => hs ⟨h, hb1⟩) hb1 h0 w
      · exact nat_Div_words a b ha' hb1 (by omega) w
end Go.Proofs.YtimjnkfcnpfoeaaGreatDoor

/-
  bits.TrailingZeros64 (reads the library's table), whole.zeros, trim, compare.
-/
namespace Go.Proofs.YtimjnkfcnpfoeaaGreatDoor
open Go.RowKit
/-- the library's table of bits lies in its variable -/
def Tab (w : World) : Prop := ∀ j, j < 64 → w.cell? ⟨2, j, none⟩ = some (.int .u8 (Lib.deBruijn64tab.getD j 0 : Nat))
theorem Tab.grow {w w' : World} (h : Tab w) (hg : Grow w w') : Tab w' := fun j hj => by
  have hb : 2 < w.heap.size := World.block_lt_of_cell? w _ (h 0 (by omega))
  exact (hg.cell (p := ⟨2, j, none⟩) hb).trans (h j hj)
theorem tz64_key (x a : Nat) (hx : x < 18446744073709551616) (hx0 : x ≠ 0) (hlow : x &&& (18446744073709551616 - x) = a) :
    IntKind.u64.wrap (bits BinOp.and IntKind.u64 (x : Int) (IntKind.u64.wrap (-(x : Int))) * 285870213051353865) / 288230376151711744 = ((a * 285870213051353865 % 18446744073709551616 / 288230376151711744 : Nat) : Int) := by
  have e1 : IntKind.u64.wrap (-(x : Int)) = ((18446744073709551616 - x : Nat) : Int) := by rw [IntKind.wrap_u64]; omega
  rw [e1, bits_and_u64_nat x _ hx (by omega), hlow, IntKind.wrap_u64]
  omega
set_option maxHeartbeats 1000000 in
theorem tz64_core (x k idx : Nat) (w : World) (hx0 : ((x : Int) == 0) = false)
    (key : IntKind.u64.wrap (bits BinOp.and IntKind.u64 (x : Int) (IntKind.u64.wrap (-(x : Int))) * 285870213051353865) / 288230376151711744 = (idx : Int))
    (hi : idx < 64) (hk : k < 64) (hcell : w.cell? ⟨2, idx, none⟩ = some (.int .u8 k)) :
    Calls Tryz.prog 192 #[.int .u64 x] w fun e w' => e = .returned (.int .i64 k) ∧ w' = w := by
  go_enter Tryz.func192, Tryz.ntmps192
  go_wp2_with (simp only [key])
  go_ret
  exact ⟨rfl, rfl⟩
theorem bits_TrailingZeros64 (x : Nat) (hx : x < W64) (hx0 : x ≠ 0) (w : World) (hT : Tab w) :
    Calls Tryz.prog 192 #[.int .u64 x] w fun e w' => e = .returned (.int .i64 (Lib.ctz 64 x)) ∧ w' = w := by
  obtain ⟨hlow, hk⟩ := Lib.lowest_bit 64 x hx0 hx
  obtain ⟨hi, htab⟩ := Lib.deBruijn64_at _ hk
  have hcell := hT _ hi
  rw [htab] at hcell
  exact tz64_core x _ _ w (by simp; omega) (tz64_key x _ hx hx0 hlow) hi hk hcell
set_option maxHeartbeats 1000000 in
set_option maxRecDepth 100000 in
/-- the zeros at the end of a number in words, above 0 -/
theorem whole_zeros (b off : Nat) (l : List Nat) (c : Nat) (hd : Dig W64 l) (hv : val W64 l ≠ 0) (hm : l.length ≤ 34359738368) (w : World) (h : Wds w b off l) (hT : Tab w) :
    Calls Tryz.prog 160 #[.slice (some ⟨b, off, none⟩) l.length c] w fun e w' => ∃ z : Nat, e = .returned (.int .i64 z) ∧ Tz (val W64 l) z ∧ z / 64 < l.length ∧ w' = w := by
  obtain ⟨n, hn⟩ : ∃ n, n = l.length := ⟨_, rfl⟩
  rw [← hn] at hm
  rw [← hn]
  have H := Lib.hid h
  have HT := Lib.hid hT
  have Hn := Lib.hid hn
  have Hd := Lib.hid hd
  have Hv := Lib.hid hv
  clear h hT hn hd hv
  go_enter Tryz.func160, Tryz.ntmps160
  go_wp2
  go_loop [3] (fun s => ∃ k : Nat, k ≤ n ∧ s = .int .i64 k ∧ ∀ i, i < k → dg l i = 0) (fun s => n - (intOf s).toNat)
  case atStart => exact ⟨0, Nat.zero_le _, rfl, fun i hi => by omega⟩
  case round =>
    obtain ⟨k, hk, rfl, hz⟩ := hrel
    have hkn : k < n := by
      rcases Nat.lt_or_ge k n with h | h
      · exact h
      · exact absurd (by rw [← val_take_over W64 l k (by rw [← Hn.out]; exact h)]; exact val_take_zero hz) Hv.out
    have hkl : k < l.length := by rw [← Hn.out]; exact hkn
    have hc := H.out.cell hkl
    rw [← dg_eq hkl] at hc
    have Hz := Lib.hid hz
    clear hz
    have hxW := dg_lt W64_pos Hd.out k
    by_cases h0 : dg l k = 0
    · rw [h0] at hc
      have H0 := Lib.hid h0
      clear h0 hxW
      go_wp2
      go_round
      case rel => exact ⟨k + 1, by omega, by go_num, fun i hi => by
        rcases Nat.lt_or_ge i k with h | h
        · exact Hz.out i h
        · obtain rfl : i = k := by omega
          exact H0.out⟩
      case measure => simp [intOf]; omega
    · obtain ⟨m, hx1, hx2⟩ := ctz_spec (dg l k) h0 hxW
      have htz := tz_words Hz.out hkl hx1 hx2
      have hcall := bits_TrailingZeros64 (dg l k) hxW h0 w HT.out
      obtain ⟨x, hx⟩ : ∃ x, x = dg l k := ⟨_, rfl⟩
      obtain ⟨t, ht⟩ : ∃ t, t = Lib.ctz 64 (dg l k) := ⟨_, rfl⟩
      rw [← ht] at hx2 htz hcall
      rw [← hx] at hc hcall h0
      have Hcall := Lib.hid hcall
      have Htz := Lib.hid htz
      have hb : ((x : Int) == 0) = false := by simpa using h0
      clear hx1 htz hcall hx ht h0 hxW
      go_wp2_with (go_at_call 192; ((with_reducible refine (Hcall.out).mono ?_); rintro e w1 ⟨rfl, rfl⟩))
      go_ret
      exact ⟨64 * k + t, by go_num, Htz.out, by omega, rfl⟩
end Go.Proofs.YtimjnkfcnpfoeaaGreatDoor

/-
  whole: trim, compare, subtract, down, number: words in place.
-/
namespace Go.Proofs.YtimjnkfcnpfoeaaGreatDoor
open Go.RowKit
theorem val_lt_len {B : Nat} {la lb : List Nat} (hB : 2 ≤ B) (h1 : Dig B la) (h3 : Tight lb) (h2 : Dig B lb) (h : la.length < lb.length) : val B la < val B lb := by
  have e1 := val_lt h1
  rcases (tight_iff h2).1 h3 with h4 | h4
  · rw [h4] at h; simp at h
  · exact Nat.lt_of_lt_of_le e1 (Nat.le_trans (Nat.pow_le_pow_right (by omega) (by omega)) h4)
theorem ret_i64 {x y : Int} (h : x = y) : Ending.returned (.int .i64 x) = .returned (.int .i64 y) := by rw [h]
set_option maxHeartbeats 1000000 in
theorem whole_trim (A : Option Addr) (l : List Nat) (c : Nat) (w : World) (h : Rd w A l) (hc : l.length ≤ c) (hm : c ≤ 9223372036854775807) :
    Calls Tryz.prog 193 #[.slice A l.length c] w fun e w' => e = .returned (.slice A (trimL l).length c) ∧ w = w' := by
  have H := Lib.hid h
  clear h
  obtain ⟨n, hn⟩ : ∃ n, n = l.length := ⟨_, rfl⟩
  rw [← hn]
  rw [← hn] at hc
  have Hn := Lib.hid hn
  clear hn
  go_enter Tryz.func193, Tryz.ntmps193
  go_wp2
  go_loop [0] (fun s => ∃ k : Nat, k ≤ n ∧ s = .slice A k c ∧ trimL (l.take k) = trimL l) (fun s => match s with | .slice _ k _ => k | _ => 0)
  case atStart => exact ⟨n, Nat.le_refl _, rfl, by rw [List.take_of_length_le (by rw [Hn.out]; exact Nat.le_refl _)]⟩
  case round =>
    obtain ⟨k, hk, rfl, ht⟩ := hrel
    have Ht := Lib.hid ht
    clear ht
    rcases Nat.eq_zero_or_pos k with rfl | hpos
    · go_wp2
      go_ret
      refine ⟨?_, rfl⟩
      have : trimL l = [] := by rw [← Ht.out]; rfl
      rw [this]
      rfl
    · have hkl : k - 1 < l.length := by rw [← Hn.out]; omega
      obtain ⟨b, off, rfl, hw⟩ := H.out (by rintro rfl; simp at hkl)
      have hcell := hw.cell hkl
      have Hw := Lib.hid hw
      clear hw
      have hsn : l.take k = l.take (k - 1) ++ [l[k - 1]] := by
        have := List.take_succ_eq_append_getElem hkl
        rw [show k - 1 + 1 = k by omega] at this
        exact this
      have Hsn := Lib.hid hsn
      clear hsn
      obtain ⟨x, hx⟩ : ∃ x, x = l[k - 1] := ⟨_, rfl⟩
      rw [← hx] at hcell
      have Hx := Lib.hid hx
      clear hx
      have hidx : (0 : Int) ≤ (k : Int) - 1 := by omega
      by_cases h0 : x = 0
      · subst h0
        go_wp2
        go_round
        case rel => exact ⟨k - 1, by omega, by go_num, by rw [← Ht.out, Hsn.out, ← Hx.out, trimL_snoc_zero]⟩
        case measure => simp; omega
      · have hb : ((x : Int) == 0) = false := by simpa using h0
        go_wp2
        go_ret
        refine ⟨?_, rfl⟩
        have : trimL l = l.take k := by rw [← Ht.out, Hsn.out, trimL_snoc _ (by rw [← Hx.out]; exact h0)]
        rw [this, List.length_take, Nat.min_eq_left (by omega)]
        rfl


set_option maxHeartbeats 1000000 in
set_option maxRecDepth 100000 in
theorem whole_compare_same (b1 o1 b2 o2 : Nat) (l1 l2 : List Nat) (c1 c2 : Nat) (w : World) (h1 : Wds w b1 o1 l1) (h2 : Wds w b2 o2 l2) (hd1 : Dig W64 l1) (hd2 : Dig W64 l2) (hl : l1.length = l2.length) (hm : l1.length ≤ 34359738368) :
    Calls Tryz.prog 162 #[.slice (some ⟨b1, o1, none⟩) l1.length c1, .slice (some ⟨b2, o2, none⟩) l2.length c2] w fun e w' => e = .returned (.int .i64 (cmpN (val W64 l1) (val W64 l2))) ∧ Grow w w' := by
  have H1 := Lib.hid h1
  have H2 := Lib.hid h2
  have Hd1 := Lib.hid hd1
  have Hd2 := Lib.hid hd2
  obtain ⟨n, hn⟩ : ∃ n, n = l1.length := ⟨_, rfl⟩
  rw [← hl, ← hn]
  rw [← hn] at hm
  have Hn1 := Lib.hid hn
  have Hn2 := Lib.hid (hn.trans hl)
  clear h1 h2 hd1 hd2 hl hn
  go_enter Tryz.func162, Tryz.ntmps162
  go_wp2_with fail
  go_loopw [5] (fun s wr => ∃ k : Nat, k ≤ n ∧ s = .int .i64 ((k : Int) - 1) ∧ l1.drop k = l2.drop k ∧ Grow w wr) (fun s _ => (intOf s + 1).toNat)
  case atStart => exact ⟨n, Nat.le_refl _, rfl, by rw [List.drop_of_length_le (Nat.le_of_eq Hn1.out.symm), List.drop_of_length_le (Nat.le_of_eq Hn2.out.symm)], Grow.refl _⟩
  case round =>
    obtain ⟨k, hk, rfl, hd, hG⟩ := hrel
    have Hd := Lib.hid hd
    clear hd
    rcases Nat.eq_zero_or_pos k with rfl | hpos
    · have hc : decide ((0 : Int) ≤ ((0 : Nat) : Int) - 1) = false := by decide
      go_wp2_with fail
      go_ret
      refine ⟨ret_i64 ?_, hG⟩
      have := Hd.out
      simp only [List.drop_zero] at this
      rw [this, cmpN_eq rfl]
    · obtain ⟨j, rfl⟩ : ∃ j, k = j + 1 := ⟨k - 1, by omega⟩
      have e1 : ((j + 1 : Nat) : Int) - 1 = (j : Nat) := by omega
      rw [e1]
      have hj1 : j < l1.length := by have := Hn1.out; omega
      have hj2 : j < l2.length := by have := Hn2.out; omega
      have hc1 := (H1.out.grow hG).cell hj1
      have hc2 := (H2.out.grow hG).cell hj2
      rw [← dg_eq hj1] at hc1
      rw [← dg_eq hj2] at hc2
      obtain ⟨p, hp⟩ : ∃ p, p = dg l1 j := ⟨_, rfl⟩
      obtain ⟨q, hq⟩ : ∃ q, q = dg l2 j := ⟨_, rfl⟩
      rw [← hp] at hc1
      rw [← hq] at hc2
      have Hp := Lib.hid hp
      have Hq := Lib.hid hq
      clear hp hq e1
      have hc0 : decide ((0 : Int) ≤ (j : Int)) = true := by simp
      rcases Nat.lt_trichotomy p q with hlt | heq | hgt
      · have hb1 : ((p : Int) != (q : Int)) = true := by simp; omega
        have hb2 : decide ((p : Int) < (q : Int)) = true := by simp; omega
        go_wp2_with fail
        go_quiet (fail)
        go_wp2_with fail
        go_quiet (fail)
        go_wp2_with fail
        go_ret
        refine ⟨ret_i64 ?_, hG.trans ((grow_drewN _ _).trans (grow_drewN _ _))⟩
        have h1 := val_lt_of_digit Hd1.out (Hn1.out.symm.trans Hn2.out) hj1 Hd.out (by rw [← Hp.out, ← Hq.out]; exact hlt)
        rw [cmpN_lt h1]
      · subst heq
        go_wp2_with fail
        go_quiet (fail)
        go_wp2_with fail
        exact ⟨⟨j, by omega, rfl, by rw [drop_dg hj1, drop_dg hj2, Hd.out, ← Hp.out, ← Hq.out], hG.trans (grow_drewN _ _)⟩, by simp [intOf]⟩
      · have hb1 : ((p : Int) != (q : Int)) = true := by simp; omega
        have hb2 : decide ((p : Int) < (q : Int)) = false := by simp; omega
        go_wp2_with fail
        go_quiet (fail)
        go_wp2_with fail
        go_quiet (fail)
        go_wp2_with fail
        go_ret
        refine ⟨ret_i64 ?_, hG.trans ((grow_drewN _ _).trans (grow_drewN _ _))⟩
        have h1 := val_lt_of_digit Hd2.out (Hn2.out.symm.trans Hn1.out) hj2 Hd.out.symm (by rw [← Hp.out, ← Hq.out]; exact hgt)
        rw [cmpN_gt h1]
set_option maxHeartbeats 1000000 in
set_option maxRecDepth 100000 in
theorem whole_compare (b1 o1 b2 o2 : Nat) (l1 l2 : List Nat) (c1 c2 : Nat) (w : World) (h1 : Wds w b1 o1 l1) (h2 : Wds w b2 o2 l2) (hd1 : Dig W64 l1) (hd2 : Dig W64 l2) (ht1 : Tight l1) (ht2 : Tight l2) (hm : l1.length ≤ 34359738368) :
    Calls Tryz.prog 162 #[.slice (some ⟨b1, o1, none⟩) l1.length c1, .slice (some ⟨b2, o2, none⟩) l2.length c2] w fun e w' => e = .returned (.int .i64 (cmpN (val W64 l1) (val W64 l2))) ∧ Grow w w' := by
  rcases Nat.lt_trichotomy l1.length l2.length with h | h | h
  · rw [cmpN_lt (val_lt_len W64_ge hd1 ht2 hd2 h)]
    generalize l1.length = x at *
    generalize l2.length = y at *
    clear h1 h2 hd1 hd2 ht1 ht2
    have hb : ((x : Int) != (y : Int)) = true := by simp; omega
    have hb2 : decide ((x : Int) < (y : Int)) = true := by simp; omega
    go_enter Tryz.func162, Tryz.ntmps162
    go_wp2_with fail
    go_ret
    exact ⟨rfl, Grow.refl _⟩
  · exact whole_compare_same b1 o1 b2 o2 l1 l2 c1 c2 w h1 h2 hd1 hd2 h hm
  · rw [cmpN_gt (val_lt_len W64_ge hd2 ht1 hd1 h)]
    generalize l1.length = x at *
    generalize l2.length = y at *
    clear h1 h2 hd1 hd2 ht1 ht2
    have hb : ((x : Int) != (y : Int)) = true := by simp; omega
    have hb2 : decide ((x : Int) < (y : Int)) = false := by simp; omega
    go_enter Tryz.func162, Tryz.ntmps162
    go_wp2_with fail
    go_ret
    exact ⟨rfl, Grow.refl _⟩
set_option maxHeartbeats 1000000 in
set_option maxRecDepth 100000 in
theorem whole_subtract (b1 o1 b2 o2 : Nat) (lx ly : List Nat) (c1 c2 : Nat) (w0 w : World) (h1 : Wds w b1 o1 lx) (h2 : Wds w b2 o2 ly) (hne : b1 ≠ b2) (hdx : Dig W64 lx) (hdy : Dig W64 ly) (hl : ly.length ≤ lx.length) (hle : val W64 ly ≤ val W64 lx) (hm : lx.length ≤ 34359738368)
    (hc : lx.length ≤ c1) (hcm : c1 ≤ 9223372036854775807) (hg0 : Grow w0 w) (hb0 : w0.heap.size ≤ b1) :
    Calls Tryz.prog 163 #[.slice (some ⟨b1, o1, none⟩) lx.length c1, .slice (some ⟨b2, o2, none⟩) ly.length c2] w fun e w' => ∃ zs : List Nat, e = .returned (.slice (some ⟨b1, o1, none⟩) (trimL zs).length c1) ∧ (Wds w' b1 o1 zs ∧ zs.length = lx.length ∧ Dig W64 zs ∧ val W64 zs = val W64 lx - val W64 ly ∧ Wds w' b2 o2 ly) ∧ Grow w0 w' := by
  obtain ⟨n, hn⟩ : ∃ n, n = lx.length := ⟨_, rfl⟩
  obtain ⟨m, hmm⟩ : ∃ n, n = ly.length := ⟨_, rfl⟩
  rw [← hn] at hm hc
  rw [← hn, ← hmm]
  have hmn : m ≤ n := by omega
  have Hs0 := Lib.hid (SbI.start W64 ly hdx)
  have H1 := Lib.hid h1
  have H2 := Lib.hid h2
  have Hdx := Lib.hid hdx
  have Hdy := Lib.hid hdy
  have Hn := Lib.hid hn
  have Hmm := Lib.hid hmm
  have Hl := Lib.hid hl
  have Hle := Lib.hid hle
  have Hg0 := Lib.hid hg0
  clear h1 h2 hdx hdy hn hmm hl hle hg0
  go_enter Tryz.func163, Tryz.ntmps163
  go_wp2_with fail
  go_loopw [5, 10] (fun r i wr => ∃ (k br : Nat) (zs : List Nat), k ≤ n ∧ i = .int .i64 k ∧ r = .int .u64 br ∧ SbI W64 lx ly k br zs ∧ Wds wr b1 o1 zs ∧ Wds wr b2 o2 ly ∧ Grow w0 wr) (fun _ i _ => n - (intOf i).toNat)
  case atStart => exact ⟨0, 0, lx, by omega, rfl, rfl, Hs0.out, H1.out, H2.out, Hg0.out⟩
  case round =>
    clear Hs0 H1 H2 Hg0
    obtain ⟨k, br, zs, hk, rfl, rfl, hI, hR, hR2, hG⟩ := hrel
    have hbr : br ≤ 1 := hI.2.2.1
    have HI := Lib.hid hI
    have HG := Lib.hid hG
    have HR := Lib.hid hR
    have HR2 := Lib.hid hR2
    clear hI hG hR hR2
    rcases Nat.lt_or_ge k n with hkn | hkn
    · have hkl : k < lx.length := by rw [← Hn.out]; exact hkn
      have hkz : k < zs.length := by rw [HI.out.1]; exact hkl
      have hc1 := HR.out.cell hkz
      have hf1 := HR.out.frozen (o1 + k)
      rw [← dg_eq hkz, HI.out.2.2.2.1 k (Nat.le_refl _)] at hc1
      have hnx := HI.out.next W64_pos Hdx.out Hdy.out hkl
      obtain ⟨x, hx⟩ : ∃ x, x = dg lx k := ⟨_, rfl⟩
      obtain ⟨o, ho⟩ : ∃ o, o = dg ly k := ⟨_, rfl⟩
      rw [← hx, ← ho] at hnx
      rw [← hx] at hc1
      obtain ⟨sm, hsm⟩ : ∃ sm, sm = (x + W64 - o - br) % W64 := ⟨_, rfl⟩
      obtain ⟨t, ht⟩ : ∃ t, t = (if x < o + br then 1 else 0) := ⟨_, rfl⟩
      rw [← hsm, ← ht] at hnx
      have Hnx := Lib.hid hnx
      have Hset := Lib.hid (HR.out.set k sm hkz)
      have Hfar := Lib.hid (HR2.out.far (p := ⟨b1, o1 + k, none⟩) (fun e => hne e.symm) (.int .u64 (sm : Nat)))
      clear hnx hkz
      have hdk : decide ((k : Int) < (n : Int)) = true := by simp; omega
      by_cases hky : k < m
      · have hc2 := HR2.out.cell (i := k) (by rw [← Hmm.out]; exact hky)
        rw [← dg_eq (by rw [← Hmm.out]; exact hky), ← ho] at hc2
        have hadd := run_Sub64' x o br hbr (x : Int) (o : Int) (br : Int) rfl rfl rfl
        rw [show (x + 18446744073709551616 - o - br) % 18446744073709551616 = sm from hsm.symm, show (if x < o + br then 1 else 0) = t from ht.symm] at hadd
        clear hsm ht hx ho
        go_wp2
        go_roundw
        case rel => exact ⟨k + 1, t, _, by omega, by go_num, rfl, Hnx.out, Hset.out, Hfar.out, HG.out.setCell (p := ⟨b1, o1 + k, none⟩) hb0 _⟩
        case measure => simp [intOf]; omega
      · have hz : o = 0 := by rw [ho]; exact dg_over (by rw [← Hmm.out]; omega)
        have hadd := run_Sub64' x o br hbr (x : Int) 0 (br : Int) rfl (by rw [hz]; rfl) rfl
        rw [show (x + 18446744073709551616 - o - br) % 18446744073709551616 = sm from hsm.symm, show (if x < o + br then 1 else 0) = t from ht.symm] at hadd
        clear hsm ht hx ho hz
        go_wp2
        go_roundw
        case rel => exact ⟨k + 1, t, _, by omega, by go_num, rfl, Hnx.out, Hset.out, Hfar.out, HG.out.setCell (p := ⟨b1, o1 + k, none⟩) hb0 _⟩
        case measure => simp [intOf]; omega
    · obtain rfl : n = k := by omega
      have htr : Calls Tryz.prog 193 #[.slice (some ⟨b1, o1, none⟩) n c1] wr fun e w' => e = .returned (.slice (some ⟨b1, o1, none⟩) (trimL zs).length c1) ∧ wr = w' := by
        have hl := HI.out.1
        rw [← Hn.out] at hl
        have := whole_trim (some ⟨b1, o1, none⟩) zs c1 wr (fun _ => ⟨_, _, rfl, HR.out⟩) (by omega) hcm
        rw [hl] at this
        exact this
      have Htr := Lib.hid htr
      clear htr
      have hdk : decide ((n : Int) < (n : Int)) = false := by simp
      go_wp2_with (go_at_call 193; ((with_reducible refine (Htr.out).mono ?_); rintro e w1 ⟨rfl, rfl⟩))
      go_ret
      exact ⟨zs, rfl, ⟨HR.out, by rw [HI.out.1, Hn.out], HI.out.2.1, HI.out.done Hn.out Hl.out Hle.out, HR2.out⟩, HG.out⟩
end Go.Proofs.YtimjnkfcnpfoeaaGreatDoor

/-
  Integers: whole.Of, From, Sign, Abs, Cmp, Neg, Add, Mul.
-/
namespace Go.Proofs.YtimjnkfcnpfoeaaGreatDoor
open Go.RowKit

/-- the operations under names that simp does not open -/
def zneg (z : Int) : Int := -z
def zadd (a b : Int) : Int := a + b
def zmul (a b : Int) : Int := a * b
def ztd (a : Int) (b : Nat) : Int := a.tdiv b
def ztm (a : Int) (b : Nat) : Int := a * b
def sgn (neg : Bool) (a : Nat) : Int := if neg then -(a : Int) else a
theorem sgn_abs (neg : Bool) (a : Nat) : (sgn neg a).natAbs = a := by unfold sgn; split <;> omega
theorem sgn_false (a : Nat) : sgn false a = a := rfl
theorem sgn_true (a : Nat) : sgn true a = -(a : Int) := rfl
theorem intNeg_sgn (neg : Bool) (a : Nat) : intNeg (sgn neg a) = (neg && decide (a ≠ 0)) := by
  unfold intNeg sgn
  cases neg
  · simp
  · rw [Bool.eq_iff_iff]; simp; omega
theorem intV_sgn (neg : Bool) (a : Nat) : intV (sgn neg a) = .agg #[.bool (neg && decide (a ≠ 0)), .int .u64 (natLo a), .string (natMo a)] := by
  unfold intV; rw [intNeg_sgn, sgn_abs]
theorem sgn_self (z : Int) : sgn (intNeg z) z.natAbs = z := by
  unfold sgn intNeg
  split
  · rename_i h; have := of_decide_eq_true h; omega
  · rename_i h; have : ¬ z < 0 := fun h' => h (decide_eq_true h'); omega

set_option maxHeartbeats 400000 in
set_option maxRecDepth 100000 in
theorem whole_From_no (a : Nat) (w : World) : Calls Tryz.prog 68 #[.bool false, natV a] w fun e w' => e = .returned (intV (sgn false a)) ∧ Grow w w' := by
  rw [intV_sgn, Bool.false_and]
  go_enter Tryz.func68, Tryz.ntmps68
  refine wp_seq (wp_r0 ?_)
  intro K hN
  go_wp2_with fail
  generalize hu : World.alloc (World.alloc w _) _ = u
  obtain ⟨hB, hG⟩ := bx_first [(_, _), (_, _)] w u hu
  have hF := fr_first w [(28, #[]), (30, #[])]
  simp only [numbered, List.map_cons, List.map_nil] at hB hF
  clear hu
  generalize w.heap.size + 1 = b4 at hB hF ⊢
  generalize w.heap.size = b3 at hB hF ⊢
  refine NoK.norm (hN _ _ ?_)
  clear hN K
  refine then_norm ?_
  refine wp_seq ?_
  refine wp_rd (w := w) allocs 8 [] [(0, 0), (0, 1), (0, 2), (0, 6), (1, 3), (0, 4), (0, 5), (0, 7)] (by kernel_rfl) (by kernel_rfl) (by simp only [List.drop_succ_cons, List.drop_zero]; exact rfl) (fun _ => True) noG hB hG trivial ?_
  intro K L hN hL
  simp only [pickOps, List.getElem?_toArray, List.getElem?_cons_zero, List.getElem?_cons_succ]
  apply gy
  · exact rfl
  · (rintro v - N hN; go_simp; exact hN)
  refine okf (by simp only [Act.put, List.setIfInBounds_toArray, List.set_cons_succ, List.set_cons_zero]; exact rfl) ?_
  apply gy
  · exact rfl
  · (rintro v - N hN; go_simp; exact hN)
  refine okf (by simp only [Act.put, List.setIfInBounds_toArray, List.set_cons_succ, List.set_cons_zero]; exact rfl) ?_
  first
    | (apply gy
       · exact rfl
       · (rintro v ⟨hgu, hB, hG, -⟩ N hN; have r := hB.r; simp only [BxR] at r; go_simp; exact hN))
    | (apply gn; exact rfl)
  refine okf (by simp only [Act.put, List.setIfInBounds_toArray, List.set_cons_succ, List.set_cons_zero]; exact rfl) ?_
  apply gy
  · exact rfl
  · (rintro v ⟨hgu, hB, hG, -⟩ N hN; have r := hB.r; simp only [BxR] at r; go_simp; exact hN)
  refine okf (by simp only [Act.put, List.setIfInBounds_toArray, List.set_cons_succ, List.set_cons_zero]; exact rfl) ?_
  first
    | (apply gm
       · exact rfl
       · (rintro v ⟨hgu, hB, hG, -⟩ N hN; go_simp; ((with_reducible refine (nat_Bits _ (by assumption) _).mono ?_); rintro e w1 ⟨rfl, hb⟩; exact ⟨_, rfl, hN _ hb⟩)))
    | (apply gmn; exact rfl)
  refine okf (by simp only [Act.put, List.setIfInBounds_toArray, List.set_cons_succ, List.set_cons_zero]; exact rfl) ?_
  first
    | (apply gy
       · exact rfl
       · (rintro v - N hN; go_simp; exact hN))
    | (apply gn; exact rfl)
  refine okf (by simp only [Act.put, List.setIfInBounds_toArray, List.set_cons_succ, List.set_cons_zero]; exact rfl) ?_
  apply gy
  · exact rfl
  · (rintro v - N hN; go_simp; exact hN)
  refine okf (by simp only [Act.put, List.setIfInBounds_toArray, List.set_cons_succ, List.set_cons_zero]; exact rfl) ?_
  apply gy
  · exact rfl
  · (rintro v - N hN; go_simp; exact hN)
  refine okf (by simp only [Act.put, List.setIfInBounds_toArray, List.set_cons_succ, List.set_cons_zero]; exact rfl) ?_
  refine gend ?_
  rintro v ⟨hgu, hB1, hG1, -⟩
  clear hB hG
  have hB := hB1
  have hG := hG1
  clear hB1 hG1
  refine hL _ _ ?_
  clear hL L hgu
  obtain ⟨u, rfl⟩ : ∃ x, x = v := ⟨_, rfl⟩
  have r := hB.r
  simp only [BxR] at r
  go_wp2_with fail
  clear r
  generalize hu0 : World.setCell (World.setCell (World.setCell u _ _) _ _) _ _ = u0
  have hBG := hB.over hF hG 1 rfl 0 [_, _, _] hu0
  clear hB hG hu0
  simp only [List.modify_succ_cons, List.modify_zero_cons, wrAll, List.setIfInBounds_toArray, List.set_cons_zero, List.set_cons_succ, Nat.zero_add, Nat.reduceAdd] at hBG
  obtain ⟨hB, hG⟩ := hBG
  clear u
  obtain ⟨u, rfl⟩ : ∃ x, x = u0 := ⟨_, rfl⟩
  refine NoK.norm (hN _ _ ?_)
  clear hN K
  refine then_norm ?_
  refine wp_ret ?_
  refine ret_b rfl ?_
  intro N hN
  have r := hB.r
  simp only [BxR] at r
  simp only [results, Tryz.results68]
  go_simp
  refine hN _ ?_
  clear hN N r
  exact ⟨rfl, hG⟩

set_option maxHeartbeats 400000 in
set_option maxRecDepth 100000 in
theorem whole_From_yes (a : Nat) (ha : bl a ≤ 1099511627776) (w : World) : Calls Tryz.prog 68 #[.bool true, natV a] w fun e w' => e = .returned (intV (sgn true a)) ∧ Grow w w' := by
  rw [intV_sgn, Bool.true_and]
  have hd : decide (a ≠ 0) = decide (0 < bl a) := by
    have := @bl_pos a
    rw [decide_eq_decide]; exact this.symm
  rw [hd]
  clear hd
  go_enter Tryz.func68, Tryz.ntmps68
  refine wp_seq (wp_r0 ?_)
  intro K hN
  go_wp2_with fail
  generalize hu : World.alloc (World.alloc w _) _ = u
  obtain ⟨hB, hG⟩ := bx_first [(_, _), (_, _)] w u hu
  have hF := fr_first w [(28, #[]), (30, #[])]
  simp only [numbered, List.map_cons, List.map_nil] at hB hF
  clear hu
  generalize w.heap.size + 1 = b4 at hB hF ⊢
  generalize w.heap.size = b3 at hB hF ⊢
  refine NoK.norm (hN _ _ ?_)
  clear hN K
  refine then_norm ?_
  refine wp_seq ?_
  refine wp_rd (w := w) allocs 8 [] [(0, 0), (0, 1), (0, 2), (0, 6), (1, 3), (0, 4), (0, 5), (0, 7)] (by kernel_rfl) (by kernel_rfl) (by simp only [List.drop_succ_cons, List.drop_zero]; exact rfl) (fun _ => True) noG hB hG trivial ?_
  intro K L hN hL
  simp only [pickOps, List.getElem?_toArray, List.getElem?_cons_zero, List.getElem?_cons_succ]
  apply gy
  · exact rfl
  · (rintro v - N hN; go_simp; exact hN)
  refine okf (by simp only [Act.put, List.setIfInBounds_toArray, List.set_cons_succ, List.set_cons_zero]; exact rfl) ?_
  apply gy
  · exact rfl
  · (rintro v - N hN; go_simp; exact hN)
  refine okf (by simp only [Act.put, List.setIfInBounds_toArray, List.set_cons_succ, List.set_cons_zero]; exact rfl) ?_
  first
    | (apply gy
       · exact rfl
       · (rintro v ⟨hgu, hB, hG, -⟩ N hN; have r := hB.r; simp only [BxR] at r; go_simp; exact hN))
    | (apply gn; exact rfl)
  refine okf (by simp only [Act.put, List.setIfInBounds_toArray, List.set_cons_succ, List.set_cons_zero]; exact rfl) ?_
  apply gy
  · exact rfl
  · (rintro v ⟨hgu, hB, hG, -⟩ N hN; have r := hB.r; simp only [BxR] at r; go_simp; exact hN)
  refine okf (by simp only [Act.put, List.setIfInBounds_toArray, List.set_cons_succ, List.set_cons_zero]; exact rfl) ?_
  first
    | (apply gm
       · exact rfl
       · (rintro v ⟨hgu, hB, hG, -⟩ N hN; go_simp; ((with_reducible refine (nat_Bits _ (by assumption) _).mono ?_); rintro e w1 ⟨rfl, hb⟩; exact ⟨_, rfl, hN _ hb⟩)))
    | (apply gmn; exact rfl)
  refine okf (by simp only [Act.put, List.setIfInBounds_toArray, List.set_cons_succ, List.set_cons_zero]; exact rfl) ?_
  first
    | (apply gy
       · exact rfl
       · (rintro v - N hN; go_simp; exact hN))
    | (apply gn; exact rfl)
  refine okf (by simp only [Act.put, List.setIfInBounds_toArray, List.set_cons_succ, List.set_cons_zero]; exact rfl) ?_
  apply gy
  · exact rfl
  · (rintro v - N hN; go_simp; exact hN)
  refine okf (by simp only [Act.put, List.setIfInBounds_toArray, List.set_cons_succ, List.set_cons_zero]; exact rfl) ?_
  apply gy
  · exact rfl
  · (rintro v - N hN; go_simp; exact hN)
  refine okf (by simp only [Act.put, List.setIfInBounds_toArray, List.set_cons_succ, List.set_cons_zero]; exact rfl) ?_
  refine gend ?_
  rintro v ⟨hgu, hB1, hG1, -⟩
  clear hB hG
  have hB := hB1
  have hG := hG1
  clear hB1 hG1
  refine hL _ _ ?_
  clear hL L hgu
  obtain ⟨u, rfl⟩ : ∃ x, x = v := ⟨_, rfl⟩
  have r := hB.r
  simp only [BxR] at r
  go_wp2_with fail
  clear r
  generalize hu0 : World.setCell (World.setCell (World.setCell u _ _) _ _) _ _ = u0
  have hBG := hB.over hF hG 1 rfl 0 [_, _, _] hu0
  clear hB hG hu0
  simp only [List.modify_succ_cons, List.modify_zero_cons, wrAll, List.setIfInBounds_toArray, List.set_cons_zero, List.set_cons_succ, Nat.zero_add, Nat.reduceAdd] at hBG
  obtain ⟨hB, hG⟩ := hBG
  clear u
  obtain ⟨u, rfl⟩ : ∃ x, x = u0 := ⟨_, rfl⟩
  refine NoK.norm (hN _ _ ?_)
  clear hN K
  refine then_norm ?_
  refine wp_ret ?_
  refine ret_b rfl ?_
  intro N hN
  have r := hB.r
  simp only [BxR] at r
  simp only [results, Tryz.results68]
  go_simp
  refine hN _ ?_
  clear hN N r
  exact ⟨rfl, hG⟩
--! whole_From = whole_From _ _ SIDE _
theorem whole_From (neg : Bool) (a : Nat) (ha : bl a ≤ 1099511627776) (w : World) : Calls Tryz.prog 68 #[.bool neg, natV a] w fun e w' => e = .returned (intV (sgn neg a)) ∧ Grow w w' := by
  cases neg
  · exact whole_From_no a w
  · exact whole_From_yes a ha w

--! whole_Abs = whole_Abs _ _
set_option maxHeartbeats 400000 in
theorem whole_Abs (z : Int) (w : World) : Calls Tryz.prog 77 #[intV z] w fun e w' => e = .returned (natV z.natAbs) ∧ Grow w w' := by
  go_enter Tryz.func77, Tryz.ntmps77
  refine wp_seq (wp_r0 ?_)
  intro K hN
  go_wp2_with fail
  generalize hu : World.alloc (World.alloc w _) _ = u
  obtain ⟨hB, hG⟩ := bx_first [(_, _), (_, _)] w u hu
  have hF := fr_first w [(30, #[]), (28, #[])]
  simp only [numbered, List.map_cons, List.map_nil] at hB hF
  clear hu
  generalize w.heap.size + 1 = b2 at hB hF ⊢
  generalize w.heap.size = b1 at hB hF ⊢
  refine NoK.norm (hN _ _ ?_)
  clear hN K
  refine then_norm ?_
  refine wp_seq ?_
  refine wp_r0 ?_
  intro K hN
  have r := hB.r
  simp only [BxR] at r
  go_wp2_with fail
  clear r
  generalize hu0 : World.setCell (World.setCell u _ _) _ _ = u0
  have hBG := hB.over hF hG 1 rfl 0 [_, _] hu0
  clear hB hG hu0
  simp only [List.modify_succ_cons, List.modify_zero_cons, wrAll, List.setIfInBounds_toArray, List.set_cons_zero, List.set_cons_succ, Nat.zero_add, Nat.reduceAdd] at hBG
  obtain ⟨hB, hG⟩ := hBG
  clear u
  obtain ⟨u, rfl⟩ : ∃ x, x = u0 := ⟨_, rfl⟩
  refine NoK.norm (hN _ _ ?_)
  clear hN K
  refine then_norm ?_
  refine wp_ret ?_
  refine ret_b rfl ?_
  intro N hN
  have r := hB.r
  simp only [BxR] at r
  simp only [results, Tryz.results77]
  go_simp
  refine hN _ ?_
  clear hN N r
  exact ⟨rfl, hG⟩
theorem ret_intV {x y : Int} (h : x = y) : Ending.returned (intV x) = .returned (intV y) := by rw [h]

set_option maxHeartbeats 400000 in
set_option maxRecDepth 100000 in
theorem whole_Of_neg (n : Int) (h0 : n < 0) (h1 : -9223372036854775808 ≤ n) (w : World) : Calls Tryz.prog 76 #[.int .i64 n] w fun e w' => e = .returned (intV n) ∧ Grow w w' := by
  have hw1 : IntKind.u64.wrap n = n + 18446744073709551616 := by
    simp [IntKind.wrap, IntKind.signed, IntKind.bits]; omega
  have hw2 : IntKind.u64.wrap (-(n + 18446744073709551616)) = (n.natAbs : Nat) := by
    simp [IntKind.wrap, IntKind.signed, IntKind.bits]; omega
  have hlt : n.natAbs < W64 := by unfold W64; omega
  have hd : decide (n < 0) = true := by simpa using h0
  have hn : intNeg n = true := by unfold intNeg; exact hd
  go_enter Tryz.func76, Tryz.ntmps76
  refine wp_seq (wp_r0 ?_)
  intro K hN
  go_wp2_with fail
  generalize hu : World.alloc w _ = u
  obtain ⟨hB, hG⟩ := bx_first [(_, _)] w u hu
  have hF := fr_first w [(30, #[])]
  simp only [numbered, List.map_cons, List.map_nil] at hB hF
  clear hu
  generalize w.heap.size = b2 at hB hF ⊢
  refine NoK.norm (hN _ _ ?_)
  clear hN K
  refine then_norm ?_
  refine wp_seq ?_
  refine wp_seq ?_
  refine wp_r0 ?_
  intro K hN
  go_wp2_with fail
  refine NoK.norm (hN _ _ ?_)
  clear hN K
  refine then_norm ?_
  refine wp_cond_true (rfl) ?_
  refine wp_seq ?_
  refine wp_rs (w := w) allocs 5 [0, 0, 0, 1, 0] (by kernel_rfl) (by simp only [List.drop_succ_cons, List.drop_zero]; exact rfl) (fun _ => True) noG hB hG trivial ?_
  intro K L hN hL
  simp only [List.zip_cons_cons, List.zip_nil_left]
  apply gy
  · exact rfl
  · (rintro v - N hN; go_simp; exact hN)
  refine okf (by simp only [Act.put, List.setIfInBounds_toArray, List.set_cons_succ, List.set_cons_zero]; exact rfl) ?_
  apply gy
  · exact rfl
  · (rintro v - N hN; go_simp; exact hN)
  refine okf (by simp only [Act.put, List.setIfInBounds_toArray, List.set_cons_succ, List.set_cons_zero]; exact rfl) ?_
  apply gy
  · exact rfl
  · (rintro v - N hN; go_simp; exact hN)
  refine okf (by simp only [Act.put, List.setIfInBounds_toArray, List.set_cons_succ, List.set_cons_zero]; exact rfl) ?_
  apply gm
  · exact rfl
  · (rintro v ⟨hgu, hB, hG, -⟩ N hN; go_simp; ((with_reducible refine (nat_Of _ (by assumption) _).mono ?_); rintro e w1 ⟨rfl, hb⟩; exact ⟨_, rfl, hN _ hb⟩))
  refine okf (by simp only [Act.put, List.setIfInBounds_toArray, List.set_cons_succ, List.set_cons_zero]; exact rfl) ?_
  apply gy
  · exact rfl
  · (rintro v - N hN; go_simp; exact hN)
  refine okf (by simp only [Act.put, List.setIfInBounds_toArray, List.set_cons_succ, List.set_cons_zero]; exact rfl) ?_
  refine gend ?_
  rintro v ⟨hgu, hB1, hG1, -⟩
  clear hB hG
  have hB := hB1
  have hG := hG1
  clear hB1 hG1
  refine hL _ _ ?_
  clear hL L hgu
  obtain ⟨u, rfl⟩ : ∃ x, x = v := ⟨_, rfl⟩
  have r := hB.r
  simp only [BxR] at r
  go_wp2_with fail
  clear r
  generalize hu0 : World.setCell (World.setCell (World.setCell u _ _) _ _) _ _ = u0
  have hBG := hB.over hF hG 0 rfl 0 [_, _, _] hu0
  clear hB hG hu0
  simp only [List.modify_succ_cons, List.modify_zero_cons, wrAll, List.setIfInBounds_toArray, List.set_cons_zero, List.set_cons_succ, Nat.zero_add, Nat.reduceAdd] at hBG
  obtain ⟨hB, hG⟩ := hBG
  clear u
  obtain ⟨u, rfl⟩ : ∃ x, x = u0 := ⟨_, rfl⟩
  refine NoK.norm (hN _ _ ?_)
  clear hN K
  refine then_norm ?_
  refine wp_ret ?_
  refine then_ret ?_
  refine ret_b rfl ?_
  intro N hN
  have r := hB.r
  simp only [BxR] at r
  simp only [results, Tryz.results76]
  go_simp
  refine hN _ ?_
  clear hN N r
  exact ⟨by rw [intV, hn], hG⟩
set_option maxHeartbeats 400000 in
set_option maxRecDepth 100000 in
theorem whole_Of_pos (n : Int) (h0 : 0 ≤ n) (h1 : n ≤ 9223372036854775807) (w : World) : Calls Tryz.prog 76 #[.int .i64 n] w fun e w' => e = .returned (intV n) ∧ Grow w w' := by
  have hw1 : IntKind.u64.wrap n = (n.natAbs : Nat) := by
    simp [IntKind.wrap, IntKind.signed, IntKind.bits]; omega
  have hlt : n.natAbs < W64 := by unfold W64; omega
  have hd : decide (n < 0) = false := by simpa using h0
  have hn : intNeg n = false := by unfold intNeg; exact hd
  go_enter Tryz.func76, Tryz.ntmps76
  refine wp_seq (wp_r0 ?_)
  intro K hN
  go_wp2_with fail
  generalize hu : World.alloc w _ = u
  obtain ⟨hB, hG⟩ := bx_first [(_, _)] w u hu
  have hF := fr_first w [(30, #[])]
  simp only [numbered, List.map_cons, List.map_nil] at hB hF
  clear hu
  generalize w.heap.size = b2 at hB hF ⊢
  refine NoK.norm (hN _ _ ?_)
  clear hN K
  refine then_norm ?_
  refine wp_seq ?_
  refine wp_seq ?_
  refine wp_r0 ?_
  intro K hN
  go_wp2_with fail
  refine NoK.norm (hN _ _ ?_)
  clear hN K
  refine then_norm ?_
  refine wp_cond_false (rfl) ?_
  refine wp_skip ?_
  refine then_norm ?_
  refine wp_seq ?_
  refine wp_rs (w := w) allocs 4 [0, 0, 1, 0] (by kernel_rfl) (by simp only [List.drop_succ_cons, List.drop_zero]; exact rfl) (fun _ => True) noG hB hG trivial ?_
  intro K L hN hL
  simp only [List.zip_cons_cons, List.zip_nil_left]
  apply gy
  · exact rfl
  · (rintro v - N hN; go_simp; exact hN)
  refine okf (by simp only [Act.put, List.setIfInBounds_toArray, List.set_cons_succ, List.set_cons_zero]; exact rfl) ?_
  apply gy
  · exact rfl
  · (rintro v - N hN; go_simp; exact hN)
  refine okf (by simp only [Act.put, List.setIfInBounds_toArray, List.set_cons_succ, List.set_cons_zero]; exact rfl) ?_
  apply gm
  · exact rfl
  · (rintro v ⟨hgu, hB, hG, -⟩ N hN; go_simp; ((with_reducible refine (nat_Of _ (by assumption) _).mono ?_); rintro e w1 ⟨rfl, hb⟩; exact ⟨_, rfl, hN _ hb⟩))
  refine okf (by simp only [Act.put, List.setIfInBounds_toArray, List.set_cons_succ, List.set_cons_zero]; exact rfl) ?_
  apply gy
  · exact rfl
  · (rintro v - N hN; go_simp; exact hN)
  refine okf (by simp only [Act.put, List.setIfInBounds_toArray, List.set_cons_succ, List.set_cons_zero]; exact rfl) ?_
  refine gend ?_
  rintro v ⟨hgu, hB1, hG1, -⟩
  clear hB hG
  have hB := hB1
  have hG := hG1
  clear hB1 hG1
  refine hL _ _ ?_
  clear hL L hgu
  obtain ⟨u, rfl⟩ : ∃ x, x = v := ⟨_, rfl⟩
  have r := hB.r
  simp only [BxR] at r
  go_wp2_with fail
  clear r
  generalize hu0 : World.setCell (World.setCell (World.setCell u _ _) _ _) _ _ = u0
  have hBG := hB.over hF hG 0 rfl 0 [_, _, _] hu0
  clear hB hG hu0
  simp only [List.modify_succ_cons, List.modify_zero_cons, wrAll, List.setIfInBounds_toArray, List.set_cons_zero, List.set_cons_succ, Nat.zero_add, Nat.reduceAdd] at hBG
  obtain ⟨hB, hG⟩ := hBG
  clear u
  obtain ⟨u, rfl⟩ : ∃ x, x = u0 := ⟨_, rfl⟩
  refine NoK.norm (hN _ _ ?_)
  clear hN K
  refine then_norm ?_
  refine wp_ret ?_
  refine ret_b rfl ?_
  intro N hN
  have r := hB.r
  simp only [BxR] at r
  simp only [results, Tryz.results76]
  go_simp
  refine hN _ ?_
  clear hN N r
  exact ⟨by rw [intV, hn], hG⟩
--! whole_Of = whole_Of _ SIDE SIDE _
theorem whole_Of (n : Int) (h0 : -9223372036854775808 ≤ n) (h1 : n ≤ 9223372036854775807) (w : World) : Calls Tryz.prog 76 #[.int .i64 n] w fun e w' => e = .returned (intV n) ∧ Grow w w' := by
  by_cases h : n < 0
  · exact whole_Of_neg n h h0 w
  · exact whole_Of_pos n (by omega) h1 w

--! whole_Sign = whole_Sign _ SIDE _
set_option maxHeartbeats 400000 in
set_option maxRecDepth 100000 in
theorem whole_Sign (z : Int) (ha : bl z.natAbs ≤ 1099511627776) (w : World) : Calls Tryz.prog 110 #[intV z] w fun e w' => e = .returned (.int .i64 z.sign) ∧ Grow w w' := by
  go_enter Tryz.func110, Tryz.ntmps110
  refine wp_seq (wp_r0 ?_)
  intro K hN
  go_wp2_with fail
  generalize hu : World.alloc w _ = u
  obtain ⟨hB, hG⟩ := bx_first [(_, _)] w u hu
  have hF := fr_first w [(30, #[])]
  simp only [numbered, List.map_cons, List.map_nil] at hB hF
  clear hu
  generalize w.heap.size = b1 at hB hF ⊢
  refine NoK.norm (hN _ _ ?_)
  clear hN K
  refine then_norm ?_
  refine wp_seq ?_
  refine wp_block ?_
  refine wp_seq ?_
  refine wp_r0 ?_
  intro K hN
  have r := hB.r
  simp only [BxR] at r
  go_wp2_with fail
  clear r
  refine NoK.norm (hN _ _ ?_)
  clear hN K
  refine then_norm ?_
  refine wp_cond_split rfl ?_ ?_
  · intro ht
    have ht3 := ht
    refine wp_seq ?_
    refine wp_r0 ?_
    intro K hN
    go_wp2_with fail
    refine NoK.norm (hN _ _ ?_)
    clear hN K
    refine then_norm ?_
    refine wp_ret ?_
    refine blk_ret ?_
    refine then_ret ?_
    refine ret_b rfl ?_
    intro N hN
    have r := hB.r
    simp only [BxR] at r
    simp only [results, Tryz.results110]
    go_simp
    refine hN _ ?_
    clear hN N r
    have h : z < 0 := of_decide_eq_true ht
    exact ⟨ret_i64 (Int.sign_eq_neg_one_of_neg h).symm, hG⟩
  · intro ht
    have ht3 := ht
    refine wp_seq ?_
    refine wp_rs (w := w) allocs 5 [0, 0, 1, 0, 0] (by kernel_rfl) (by simp only [List.drop_succ_cons, List.drop_nil]; exact rfl) (fun _ => True) noG hB hG trivial ?_
    intro K L hN hL
    simp only [List.zip_cons_cons, List.zip_nil_left]
    apply gy
    · exact rfl
    · (rintro v - N hN; go_simp; exact hN)
    refine okf (by simp only [Act.put, List.setIfInBounds_toArray, List.set_cons_succ, List.set_cons_zero]; exact rfl) ?_
    apply gy
    · exact rfl
    · (rintro v ⟨hgu, hB, hG, -⟩ N hN; have r := hB.r; simp only [BxR] at r; go_simp; exact hN)
    refine okf (by simp only [Act.put, List.setIfInBounds_toArray, List.set_cons_succ, List.set_cons_zero]; exact rfl) ?_
    apply gm
    · exact rfl
    · (rintro v ⟨hgu, hB, hG, -⟩ N hN; go_simp; ((with_reducible refine (nat_Bits _ (by assumption) _).mono ?_); rintro e w1 ⟨rfl, hb⟩; exact ⟨_, rfl, hN _ hb⟩))
    refine okf (by simp only [Act.put, List.setIfInBounds_toArray, List.set_cons_succ, List.set_cons_zero]; exact rfl) ?_
    apply gy
    · exact rfl
    · (rintro v - N hN; go_simp; exact hN)
    refine okf (by simp only [Act.put, List.setIfInBounds_toArray, List.set_cons_succ, List.set_cons_zero]; exact rfl) ?_
    apply gy
    · exact rfl
    · (rintro v - N hN; go_simp; exact hN)
    refine okf (by simp only [Act.put, List.setIfInBounds_toArray, List.set_cons_succ, List.set_cons_zero]; exact rfl) ?_
    refine gend ?_
    rintro v ⟨hgu, hB1, hG1, -⟩
    clear hB hG
    have hB := hB1
    have hG := hG1
    clear hB1 hG1
    refine hL _ _ ?_
    clear hL L hgu
    obtain ⟨u, rfl⟩ : ∃ x, x = v := ⟨_, rfl⟩
    refine wpList_nil ?_
    refine NoK.norm (hN _ _ ?_)
    clear hN K
    refine then_norm ?_
    refine wp_cond_split rfl ?_ ?_
    · intro ht
      have ht6 := ht
      refine wp_seq ?_
      refine wp_r0 ?_
      intro K hN
      go_wp2_with fail
      refine NoK.norm (hN _ _ ?_)
      clear hN K
      refine then_norm ?_
      refine wp_ret ?_
      refine blk_ret ?_
      refine then_ret ?_
      refine ret_b rfl ?_
      intro N hN
      have r := hB.r
      simp only [BxR] at r
      simp only [results, Tryz.results110]
      go_simp
      refine hN _ ?_
      clear hN N r
      have h : ¬ z < 0 := of_decide_eq_false ht3
      have h2 : 0 < bl z.natAbs := by simpa using ht
      have h3 := bl_pos.1 h2
      exact ⟨ret_i64 (Int.sign_eq_one_of_pos (by omega)).symm, hG⟩
    · intro ht
      have ht6 := ht
      refine wp_skip ?_
      refine blk_norm ?_
      refine then_norm ?_
      refine wp_seq ?_
      refine wp_r0 ?_
      intro K hN
      go_wp2_with fail
      refine NoK.norm (hN _ _ ?_)
      clear hN K
      refine then_norm ?_
      refine wp_ret ?_
      refine ret_b rfl ?_
      intro N hN
      have r := hB.r
      simp only [BxR] at r
      simp only [results, Tryz.results110]
      go_simp
      refine hN _ ?_
      clear hN N r
      have h : ¬ z < 0 := of_decide_eq_false ht3
      have h2 : ¬ 0 < bl z.natAbs := by simpa using ht
      have h3 : z = 0 := by have := @bl_pos z.natAbs; omega
      exact ⟨ret_i64 (by rw [h3]; rfl), hG⟩

theorem neg_sgn (z : Int) : sgn (!intNeg z) z.natAbs = -z := by
  unfold sgn intNeg
  by_cases h : z < 0 <;> simp [h] <;> omega
--! whole_Neg = whole_Neg _ SIDE _
set_option maxHeartbeats 400000 in
set_option maxRecDepth 100000 in
theorem whole_Neg (z : Int) (ha : bl z.natAbs ≤ 1099511627776) (w : World) : Calls Tryz.prog 107 #[intV z] w fun e w' => e = .returned (intV (zneg z)) ∧ Grow w w' := by
  go_enter Tryz.func107, Tryz.ntmps107
  refine wp_seq (wp_r0 ?_)
  intro K hN
  go_wp2_with fail
  generalize hu : World.alloc (World.alloc w _) _ = u
  obtain ⟨hB, hG⟩ := bx_first [(_, _), (_, _)] w u hu
  have hF := fr_first w [(30, #[]), (30, #[])]
  simp only [numbered, List.map_cons, List.map_nil] at hB hF
  clear hu
  generalize w.heap.size + 1 = b2 at hB hF ⊢
  generalize w.heap.size = b1 at hB hF ⊢
  refine NoK.norm (hN _ _ ?_)
  clear hN K
  refine then_norm ?_
  refine wp_seq ?_
  refine wp_rs (w := w) allocs 6 [0, 0, 0, 0, 0, 1] (by kernel_rfl) (by simp only [List.drop_succ_cons, List.drop_zero]; exact rfl) (fun _ => True) noG hB hG trivial ?_
  intro K L hN hL
  simp only [List.zip_cons_cons, List.zip_nil_left]
  apply gy
  · exact rfl
  · (rintro v - N hN; go_simp; exact hN)
  refine okf (by simp only [Act.put, List.setIfInBounds_toArray, List.set_cons_succ, List.set_cons_zero]; exact rfl) ?_
  apply gy
  · exact rfl
  · (rintro v ⟨hgu, hB, hG, -⟩ N hN; have r := hB.r; simp only [BxR] at r; go_simp; exact hN)
  refine okf (by simp only [Act.put, List.setIfInBounds_toArray, List.set_cons_succ, List.set_cons_zero]; exact rfl) ?_
  apply gy
  · exact rfl
  · (rintro v - N hN; go_simp; exact hN)
  refine okf (by simp only [Act.put, List.setIfInBounds_toArray, List.set_cons_succ, List.set_cons_zero]; exact rfl) ?_
  apply gy
  · exact rfl
  · (rintro v - N hN; go_simp; exact hN)
  refine okf (by simp only [Act.put, List.setIfInBounds_toArray, List.set_cons_succ, List.set_cons_zero]; exact rfl) ?_
  apply gy
  · exact rfl
  · (rintro v ⟨hgu, hB, hG, -⟩ N hN; have r := hB.r; simp only [BxR] at r; go_simp; exact hN)
  refine okf (by simp only [Act.put, List.setIfInBounds_toArray, List.set_cons_succ, List.set_cons_zero]; exact rfl) ?_
  apply gm
  · exact rfl
  · (rintro v ⟨hgu, hB, hG, -⟩ N hN; go_simp; ((with_reducible refine (whole_From _ _ (by assumption) _).mono ?_); rintro e w1 ⟨rfl, hb⟩; exact ⟨_, rfl, hN _ hb⟩))
  refine okf (by simp only [Act.put, List.setIfInBounds_toArray, List.set_cons_succ, List.set_cons_zero]; exact rfl) ?_
  refine gend ?_
  rintro v ⟨hgu, hB1, hG1, -⟩
  clear hB hG
  have hB := hB1
  have hG := hG1
  clear hB1 hG1
  refine hL _ _ ?_
  clear hL L hgu
  obtain ⟨u, rfl⟩ : ∃ x, x = v := ⟨_, rfl⟩
  have r := hB.r
  simp only [BxR] at r
  go_wp2_with fail
  clear r
  generalize hu0 : World.setCell (World.setCell (World.setCell u _ _) _ _) _ _ = u0
  have hBG := hB.over hF hG 1 rfl 0 [_, _, _] hu0
  clear hB hG hu0
  simp only [List.modify_succ_cons, List.modify_zero_cons, wrAll, List.setIfInBounds_toArray, List.set_cons_zero, List.set_cons_succ, Nat.zero_add, Nat.reduceAdd] at hBG
  obtain ⟨hB, hG⟩ := hBG
  clear u
  obtain ⟨u, rfl⟩ : ∃ x, x = u0 := ⟨_, rfl⟩
  refine NoK.norm (hN _ _ ?_)
  clear hN K
  refine then_norm ?_
  refine wp_ret ?_
  refine ret_b rfl ?_
  intro N hN
  have r := hB.r
  simp only [BxR] at r
  simp only [results, Tryz.results107]
  go_simp
  refine hN _ ?_
  clear hN N r
  exact ⟨ret_intV (neg_sgn z), hG⟩

theorem mul_sgn (a b : Int) : sgn (intNeg a != intNeg b) (a.natAbs * b.natAbs) = a * b := by
  have h1 := sgn_self a
  have h2 := sgn_self b
  revert h1 h2
  generalize intNeg a = p
  generalize intNeg b = q
  generalize a.natAbs = x
  generalize b.natAbs = y
  rintro rfl rfl
  cases p <;> cases q <;> simp [sgn, Int.neg_mul, Int.mul_neg]
--! whole_Mul = whole_Mul _ _ SIDE _
set_option maxHeartbeats 400000 in
set_option maxRecDepth 100000 in
theorem whole_Mul (a b : Int) (hab : bl a.natAbs + bl b.natAbs ≤ 1099511627776) (w : World) : Calls Tryz.prog 75 #[intV a, intV b] w fun e w' => e = .returned (intV (zmul a b)) ∧ Grow w w' := by
  have h1 : bl a.natAbs ≤ 1099511627776 := by omega
  have h2 : bl b.natAbs ≤ 1099511627776 := by omega
  have h3 : bl (a.natAbs * b.natAbs) ≤ 1099511627776 := Nat.le_trans (bl_mul_le _ _) hab
  go_enter Tryz.func75, Tryz.ntmps75
  refine wp_seq (wp_r0 ?_)
  intro K hN
  go_wp2_with fail
  generalize hu : World.alloc (World.alloc (World.alloc w _) _) _ = u
  obtain ⟨hB, hG⟩ := bx_first [(_, _), (_, _), (_, _)] w u hu
  have hF := fr_first w [(30, #[]), (30, #[]), (30, #[])]
  simp only [numbered, List.map_cons, List.map_nil] at hB hF
  clear hu
  generalize w.heap.size + 1 + 1 = b4 at hB hF ⊢
  generalize w.heap.size + 1 = b3 at hB hF ⊢
  generalize w.heap.size = b2 at hB hF ⊢
  refine NoK.norm (hN _ _ ?_)
  clear hN K
  refine then_norm ?_
  refine wp_seq ?_
  refine wp_rd (w := w) allocs 11 [] [(0, 0), (0, 1), (0, 2), (0, 3), (0, 4), (0, 5), (0, 6), (0, 7), (0, 8), (1, 9), (1, 10)] (by kernel_rfl) (by kernel_rfl) (by simp only [List.drop_succ_cons, List.drop_zero]; exact rfl) (fun _ => True) noG hB hG trivial ?_
  intro K L hN hL
  simp only [pickOps, List.getElem?_toArray, List.getElem?_cons_zero, List.getElem?_cons_succ]
  apply gy
  · exact rfl
  · (rintro v - N hN; go_simp; exact hN)
  refine okf (by simp only [Act.put, List.setIfInBounds_toArray, List.set_cons_succ, List.set_cons_zero]; exact rfl) ?_
  apply gy
  · exact rfl
  · (rintro v ⟨hgu, hB, hG, -⟩ N hN; have r := hB.r; simp only [BxR] at r; go_simp; exact hN)
  refine okf (by simp only [Act.put, List.setIfInBounds_toArray, List.set_cons_succ, List.set_cons_zero]; exact rfl) ?_
  apply gy
  · exact rfl
  · (rintro v - N hN; go_simp; exact hN)
  refine okf (by simp only [Act.put, List.setIfInBounds_toArray, List.set_cons_succ, List.set_cons_zero]; exact rfl) ?_
  apply gy
  · exact rfl
  · (rintro v ⟨hgu, hB, hG, -⟩ N hN; have r := hB.r; simp only [BxR] at r; go_simp; exact hN)
  refine okf (by simp only [Act.put, List.setIfInBounds_toArray, List.set_cons_succ, List.set_cons_zero]; exact rfl) ?_
  apply gy
  · exact rfl
  · (rintro v - N hN; go_simp; exact hN)
  refine okf (by simp only [Act.put, List.setIfInBounds_toArray, List.set_cons_succ, List.set_cons_zero]; exact rfl) ?_
  apply gy
  · exact rfl
  · (rintro v - N hN; go_simp; exact hN)
  refine okf (by simp only [Act.put, List.setIfInBounds_toArray, List.set_cons_succ, List.set_cons_zero]; exact rfl) ?_
  apply gy
  · exact rfl
  · (rintro v ⟨hgu, hB, hG, -⟩ N hN; have r := hB.r; simp only [BxR] at r; go_simp; exact hN)
  refine okf (by simp only [Act.put, List.setIfInBounds_toArray, List.set_cons_succ, List.set_cons_zero]; exact rfl) ?_
  apply gy
  · exact rfl
  · (rintro v - N hN; go_simp; exact hN)
  refine okf (by simp only [Act.put, List.setIfInBounds_toArray, List.set_cons_succ, List.set_cons_zero]; exact rfl) ?_
  apply gy
  · exact rfl
  · (rintro v ⟨hgu, hB, hG, -⟩ N hN; have r := hB.r; simp only [BxR] at r; go_simp; exact hN)
  refine okf (by simp only [Act.put, List.setIfInBounds_toArray, List.set_cons_succ, List.set_cons_zero]; exact rfl) ?_
  apply gm
  · exact rfl
  · (rintro v ⟨hgu, hB, hG, -⟩ N hN; go_simp; ((with_reducible refine (nat_Mul _ _ (by assumption) (by assumption) _).mono ?_); rintro e w1 ⟨rfl, hb⟩; exact ⟨_, rfl, hN _ hb⟩))
  refine okf (by simp only [Act.put, List.setIfInBounds_toArray, List.set_cons_succ, List.set_cons_zero]; exact rfl) ?_
  apply gm
  · exact rfl
  · (rintro v ⟨hgu, hB, hG, -⟩ N hN; go_simp; ((with_reducible refine (whole_From _ _ (by assumption) _).mono ?_); rintro e w1 ⟨rfl, hb⟩; exact ⟨_, rfl, hN _ hb⟩))
  refine okf (by simp only [Act.put, List.setIfInBounds_toArray, List.set_cons_succ, List.set_cons_zero]; exact rfl) ?_
  refine gend ?_
  rintro v ⟨hgu, hB1, hG1, -⟩
  clear hB hG
  have hB := hB1
  have hG := hG1
  clear hB1 hG1
  refine hL _ _ ?_
  clear hL L hgu
  obtain ⟨u, rfl⟩ : ∃ x, x = v := ⟨_, rfl⟩
  have r := hB.r
  simp only [BxR] at r
  go_wp2_with fail
  clear r
  generalize hu0 : World.setCell (World.setCell (World.setCell u _ _) _ _) _ _ = u0
  have hBG := hB.over hF hG 2 rfl 0 [_, _, _] hu0
  clear hB hG hu0
  simp only [List.modify_succ_cons, List.modify_zero_cons, wrAll, List.setIfInBounds_toArray, List.set_cons_zero, List.set_cons_succ, Nat.zero_add, Nat.reduceAdd] at hBG
  obtain ⟨hB, hG⟩ := hBG
  clear u
  obtain ⟨u, rfl⟩ : ∃ x, x = u0 := ⟨_, rfl⟩
  refine NoK.norm (hN _ _ ?_)
  clear hN K
  refine then_norm ?_
  refine wp_ret ?_
  refine ret_b rfl ?_
  intro N hN
  have r := hB.r
  simp only [BxR] at r
  simp only [results, Tryz.results75]
  go_simp
  refine hN _ ?_
  clear hN N r
  exact ⟨ret_intV (mul_sgn a b), hG⟩

def cmpZ (a b : Int) : Int := if a < b then -1 else if b < a then 1 else 0
theorem cmpZ_neg {a b : Int} (ha : a < 0) (hb : b < 0) : cmpN b.natAbs a.natAbs = cmpZ a b := by
  unfold cmpN cmpZ; split <;> split <;> first | rfl | omega | skip
  all_goals split <;> (try split) <;> omega
theorem cmpZ_pos {a b : Int} (ha : ¬ a < 0) (hb : ¬ b < 0) : cmpN a.natAbs b.natAbs = cmpZ a b := by
  unfold cmpN cmpZ; split <;> split <;> first | rfl | omega | skip
  all_goals split <;> (try split) <;> omega
set_option maxHeartbeats 1000000 in
set_option maxRecDepth 100000 in
theorem whole_Cmp_nn (a b : Int) (hb : bl b.natAbs ≤ 1099511627776) (n1 : a < 0) (w : World) : Calls Tryz.prog 78 #[intV a, intV b] w fun e w' => e = .returned (.int .i64 (cmpZ a b)) ∧ Grow w w' := by
  have g1 : intNeg a = true := decide_eq_true n1
  go_enter Tryz.func78, Tryz.ntmps78
  refine wp_seq (wp_r0 ?_)
  intro K hN
  go_wp2_with fail
  generalize hu : World.alloc (World.alloc w _) _ = u
  obtain ⟨hB, hG⟩ := bx_first [(_, _), (_, _)] w u hu
  have hF := fr_first w [(30, #[]), (30, #[])]
  simp only [numbered, List.map_cons, List.map_nil] at hB hF
  clear hu
  generalize w.heap.size + 1 = b3 at hB hF ⊢
  generalize w.heap.size = b2 at hB hF ⊢
  refine NoK.norm (hN _ _ ?_)
  clear hN K
  refine then_norm ?_
  refine wp_seq ?_
  refine wp_block ?_
  refine wp_seq ?_
  refine wp_r0 ?_
  intro K hN
  have r := hB.r
  simp only [BxR] at r
  go_wp2_with fail
  clear r
  refine NoK.norm (hN _ _ ?_)
  clear hN K
  refine then_norm ?_
  refine wp_cond_split rfl ?_ ?_
  · intro ht
    have ht5 := ht
    refine wp_seq ?_
    refine wp_rs (w := w) allocs 6 [0, 0, 0, 0, 1, 0] (by kernel_rfl) (by simp only [List.drop_succ_cons, List.drop_nil]; exact rfl) (fun _ => True) noG hB hG trivial ?_
    intro K L hN hL
    simp only [List.zip_cons_cons, List.zip_nil_left]
    apply gy
    · exact rfl
    · (rintro v - N hN; go_simp; exact hN)
    refine okf (by simp only [Act.put, List.setIfInBounds_toArray, List.set_cons_succ, List.set_cons_zero]; exact rfl) ?_
    apply gy
    · exact rfl
    · (rintro v ⟨hgu, hB, hG, -⟩ N hN; have r := hB.r; simp only [BxR] at r; go_simp; exact hN)
    refine okf (by simp only [Act.put, List.setIfInBounds_toArray, List.set_cons_succ, List.set_cons_zero]; exact rfl) ?_
    apply gy
    · exact rfl
    · (rintro v - N hN; go_simp; exact hN)
    refine okf (by simp only [Act.put, List.setIfInBounds_toArray, List.set_cons_succ, List.set_cons_zero]; exact rfl) ?_
    apply gy
    · exact rfl
    · (rintro v ⟨hgu, hB, hG, -⟩ N hN; have r := hB.r; simp only [BxR] at r; go_simp; exact hN)
    refine okf (by simp only [Act.put, List.setIfInBounds_toArray, List.set_cons_succ, List.set_cons_zero]; exact rfl) ?_
    apply gm
    · exact rfl
    · (rintro v ⟨hgu, hB, hG, -⟩ N hN; go_simp; ((with_reducible refine (nat_Cmp _ _ (by assumption) _).mono ?_); rintro e w1 ⟨rfl, hb⟩; exact ⟨_, rfl, hN _ hb⟩))
    refine okf (by simp only [Act.put, List.setIfInBounds_toArray, List.set_cons_succ, List.set_cons_zero]; exact rfl) ?_
    apply gy
    · exact rfl
    · (rintro v - N hN; go_simp; exact hN)
    refine okf (by simp only [Act.put, List.setIfInBounds_toArray, List.set_cons_succ, List.set_cons_zero]; exact rfl) ?_
    refine gend ?_
    rintro v ⟨hgu, hB1, hG1, -⟩
    clear hB hG
    have hB := hB1
    have hG := hG1
    clear hB1 hG1
    refine hL _ _ ?_
    clear hL L hgu
    obtain ⟨u, rfl⟩ : ∃ x, x = v := ⟨_, rfl⟩
    refine wpList_nil ?_
    refine NoK.norm (hN _ _ ?_)
    clear hN K
    refine then_norm ?_
    refine wp_ret ?_
    refine blk_ret ?_
    refine then_ret ?_
    refine ret_b rfl ?_
    intro N hN
    have r := hB.r
    simp only [BxR] at r
    simp only [results, Tryz.results78]
    go_simp
    refine hN _ ?_
    clear hN N r
    exact ⟨ret_i64 (cmpZ_neg n1 (of_decide_eq_true ht)), hG⟩
  · intro ht
    have ht5 := ht
    refine wp_seq ?_
    refine wp_r0 ?_
    intro K hN
    have r := hB.r
    simp only [BxR] at r
    go_wp2_with fail
    clear r
    refine NoK.norm (hN _ _ ?_)
    clear hN K
    refine then_norm ?_
    refine wp_cond_split rfl ?_ ?_
    · intro ht
      have ht17 := ht
      refine wp_seq ?_
      refine wp_r0 ?_
      intro K hN
      go_wp2_with fail
      refine NoK.norm (hN _ _ ?_)
      clear hN K
      refine then_norm ?_
      refine wp_ret ?_
      refine blk_ret ?_
      refine then_ret ?_
      refine ret_b rfl ?_
      intro N hN
      have r := hB.r
      simp only [BxR] at r
      simp only [results, Tryz.results78]
      go_simp
      refine hN _ ?_
      clear hN N r
      have n2 : ¬ b < 0 := of_decide_eq_false ht5
      exact ⟨ret_i64 (by unfold cmpZ; rw [if_pos (by omega)]), hG⟩
    · intro ht
      cases ht
set_option maxHeartbeats 1000000 in
set_option maxRecDepth 100000 in
theorem whole_Cmp_pp (a b : Int) (ha : bl a.natAbs ≤ 1099511627776) (n1 : ¬ a < 0) (w : World) : Calls Tryz.prog 78 #[intV a, intV b] w fun e w' => e = .returned (.int .i64 (cmpZ a b)) ∧ Grow w w' := by
  have g1 : intNeg a = false := decide_eq_false n1
  go_enter Tryz.func78, Tryz.ntmps78
  refine wp_seq (wp_r0 ?_)
  intro K hN
  go_wp2_with fail
  generalize hu : World.alloc (World.alloc w _) _ = u
  obtain ⟨hB, hG⟩ := bx_first [(_, _), (_, _)] w u hu
  have hF := fr_first w [(30, #[]), (30, #[])]
  simp only [numbered, List.map_cons, List.map_nil] at hB hF
  clear hu
  generalize w.heap.size + 1 = b3 at hB hF ⊢
  generalize w.heap.size = b2 at hB hF ⊢
  refine NoK.norm (hN _ _ ?_)
  clear hN K
  refine then_norm ?_
  refine wp_seq ?_
  refine wp_block ?_
  refine wp_seq ?_
  refine wp_r0 ?_
  intro K hN
  have r := hB.r
  simp only [BxR] at r
  go_wp2_with fail
  clear r
  refine NoK.norm (hN _ _ ?_)
  clear hN K
  refine then_norm ?_
  refine wp_cond_split rfl ?_ ?_
  · intro ht
    cases ht
  · intro ht
    have ht5 := ht
    refine wp_seq ?_
    refine wp_r0 ?_
    intro K hN
    have r := hB.r
    simp only [BxR] at r
    go_wp2_with fail
    clear r
    refine NoK.norm (hN _ _ ?_)
    clear hN K
    refine then_norm ?_
    refine wp_cond_split rfl ?_ ?_
    · intro ht
      cases ht
    · intro ht
      have ht17 := ht
      refine wp_seq ?_
      refine wp_r0 ?_
      intro K hN
      have r := hB.r
      simp only [BxR] at r
      go_wp2_with fail
      clear r
      refine NoK.norm (hN _ _ ?_)
      clear hN K
      refine then_norm ?_
      refine wp_cond_split rfl ?_ ?_
      · intro ht
        have ht20 := ht
        refine wp_seq ?_
        refine wp_r0 ?_
        intro K hN
        go_wp2_with fail
        refine NoK.norm (hN _ _ ?_)
        clear hN K
        refine then_norm ?_
        refine wp_ret ?_
        refine blk_ret ?_
        refine then_ret ?_
        refine ret_b rfl ?_
        intro N hN
        have r := hB.r
        simp only [BxR] at r
        simp only [results, Tryz.results78]
        go_simp
        refine hN _ ?_
        clear hN N r
        have n2 : b < 0 := of_decide_eq_true ht
        exact ⟨ret_i64 (by unfold cmpZ; rw [if_neg (by omega), if_pos (by omega)]), hG⟩
      · intro ht
        have ht20 := ht
        refine wp_skip ?_
        refine blk_norm ?_
        refine then_norm ?_
        refine wp_seq ?_
        refine wp_rs (w := w) allocs 6 [0, 0, 0, 0, 1, 0] (by kernel_rfl) (by simp only [List.drop_succ_cons, List.drop_nil]; exact rfl) (fun _ => True) noG hB hG trivial ?_
        intro K L hN hL
        simp only [List.zip_cons_cons, List.zip_nil_left]
        apply gy
        · exact rfl
        · (rintro v - N hN; go_simp; exact hN)
        refine okf (by simp only [Act.put, List.setIfInBounds_toArray, List.set_cons_succ, List.set_cons_zero]; exact rfl) ?_
        apply gy
        · exact rfl
        · (rintro v ⟨hgu, hB, hG, -⟩ N hN; have r := hB.r; simp only [BxR] at r; go_simp; exact hN)
        refine okf (by simp only [Act.put, List.setIfInBounds_toArray, List.set_cons_succ, List.set_cons_zero]; exact rfl) ?_
        apply gy
        · exact rfl
        · (rintro v - N hN; go_simp; exact hN)
        refine okf (by simp only [Act.put, List.setIfInBounds_toArray, List.set_cons_succ, List.set_cons_zero]; exact rfl) ?_
        apply gy
        · exact rfl
        · (rintro v ⟨hgu, hB, hG, -⟩ N hN; have r := hB.r; simp only [BxR] at r; go_simp; exact hN)
        refine okf (by simp only [Act.put, List.setIfInBounds_toArray, List.set_cons_succ, List.set_cons_zero]; exact rfl) ?_
        apply gm
        · exact rfl
        · (rintro v ⟨hgu, hB, hG, -⟩ N hN; go_simp; ((with_reducible refine (nat_Cmp _ _ (by assumption) _).mono ?_); rintro e w1 ⟨rfl, hb⟩; exact ⟨_, rfl, hN _ hb⟩))
        refine okf (by simp only [Act.put, List.setIfInBounds_toArray, List.set_cons_succ, List.set_cons_zero]; exact rfl) ?_
        apply gy
        · exact rfl
        · (rintro v - N hN; go_simp; exact hN)
        refine okf (by simp only [Act.put, List.setIfInBounds_toArray, List.set_cons_succ, List.set_cons_zero]; exact rfl) ?_
        refine gend ?_
        rintro v ⟨hgu, hB1, hG1, -⟩
        clear hB hG
        have hB := hB1
        have hG := hG1
        clear hB1 hG1
        refine hL _ _ ?_
        clear hL L hgu
        obtain ⟨u, rfl⟩ : ∃ x, x = v := ⟨_, rfl⟩
        refine wpList_nil ?_
        refine NoK.norm (hN _ _ ?_)
        clear hN K
        refine then_norm ?_
        refine wp_ret ?_
        refine ret_b rfl ?_
        intro N hN
        have r := hB.r
        simp only [BxR] at r
        simp only [results, Tryz.results78]
        go_simp
        refine hN _ ?_
        clear hN N r
        exact ⟨ret_i64 (cmpZ_pos (by omega) (of_decide_eq_false ht)), hG⟩
--! whole_Cmp = whole_Cmp _ _ SIDE SIDE _
theorem whole_Cmp (a b : Int) (ha : bl a.natAbs ≤ 1099511627776) (hb : bl b.natAbs ≤ 1099511627776) (w : World) : Calls Tryz.prog 78 #[intV a, intV b] w fun e w' => e = .returned (.int .i64 (cmpZ a b)) ∧ Grow w w' := by
  by_cases h : a < 0
  · exact whole_Cmp_nn a b hb h w
  · exact whole_Cmp_pp a b ha h w

--! nat_Sub = nat_SubAny _ _ SIDE _
theorem nat_SubAny (a b : Nat) (ha : bl a ≤ 1099511627776) (w : World) : Calls Tryz.prog 121 #[natV a, natV b] w fun e w' => e = .returned (.tuple #[natV (a - b), .bool (decide (b ≤ a))]) ∧ Grow w w' := by
  by_cases h : b ≤ a
  · rw [decide_eq_true h]; exact nat_Sub a b ha h w
  · rw [decide_eq_false h, Nat.sub_eq_zero_of_le (by omega)]; exact nat_Sub_no a b ha (by omega) w
theorem add_same {a b : Int} (h : intNeg a = intNeg b) : sgn (intNeg a) (a.natAbs + b.natAbs) = a + b := by
  have h1 := sgn_self a
  have h2 := sgn_self b
  rw [← h] at h2
  revert h1 h2
  clear h
  generalize intNeg a = p
  generalize a.natAbs = x
  generalize b.natAbs = y
  rintro rfl rfl
  cases p <;> simp [sgn] <;> omega
theorem add_fst {a b : Int} (h : ¬ intNeg a = intNeg b) (hle : b.natAbs ≤ a.natAbs) : sgn (intNeg a) (a.natAbs - b.natAbs) = a + b := by
  have h1 := sgn_self a
  have h2 := sgn_self b
  revert h1 h2 h hle
  generalize intNeg a = p
  generalize intNeg b = q
  generalize a.natAbs = x
  generalize b.natAbs = y
  intro h hle
  rintro rfl rfl
  revert h
  cases p <;> cases q <;> simp [sgn] <;> omega
theorem add_snd {a b : Int} (h : ¬ intNeg a = intNeg b) (hle : ¬ b.natAbs ≤ a.natAbs) : sgn (intNeg b) (b.natAbs - a.natAbs) = a + b := by
  rw [add_fst (a := b) (b := a) (fun e => h e.symm) (by omega), Int.add_comm]
set_option maxHeartbeats 1000000 in
set_option maxRecDepth 100000 in
--! whole_Add = whole_Add _ _ SIDE SIDE _
theorem whole_Add (a b : Int) (ha : bl a.natAbs < 1099511627776) (hb : bl b.natAbs < 1099511627776) (w : World) : Calls Tryz.prog 66 #[intV a, intV b] w fun e w' => e = .returned (intV (zadd a b)) ∧ Grow w w' := by
  have h1 : bl a.natAbs ≤ 1099511627776 := by omega
  have h2 : bl b.natAbs ≤ 1099511627776 := by omega
  have h3 : bl (a.natAbs + b.natAbs) ≤ 1099511627776 := Nat.le_trans (bl_add_le _ _) (by omega)
  have h4 : bl (a.natAbs - b.natAbs) ≤ 1099511627776 := Nat.le_trans (bl_sub_le _ _) h1
  have h5 : bl (b.natAbs - a.natAbs) ≤ 1099511627776 := Nat.le_trans (bl_sub_le _ _) h2
  go_enter Tryz.func66, Tryz.ntmps66
  refine wp_seq (wp_r0 ?_)
  intro K hN
  go_wp2_with fail
  generalize hu : World.alloc (World.alloc (World.alloc w _) _) _ = u
  obtain ⟨hB, hG⟩ := bx_first [(_, _), (_, _), (_, _)] w u hu
  have hF := fr_first w [(30, #[]), (30, #[]), (30, #[])]
  simp only [numbered, List.map_cons, List.map_nil] at hB hF
  clear hu
  generalize w.heap.size + 1 + 1 = b4 at hB hF ⊢
  generalize w.heap.size + 1 = b3 at hB hF ⊢
  generalize w.heap.size = b2 at hB hF ⊢
  refine NoK.norm (hN _ _ ?_)
  clear hN K
  refine then_norm ?_
  refine wp_seq ?_
  refine wp_seq ?_
  refine wp_r0 ?_
  intro K hN
  have r := hB.r
  simp only [BxR] at r
  go_wp2_with fail
  clear r
  refine NoK.norm (hN _ _ ?_)
  clear hN K
  refine then_norm ?_
  refine wp_cond_split rfl ?_ ?_
  · intro ht
    have ht13 := ht
    refine wp_seq ?_
    refine wp_rd (w := w) allocs 8 [] [(0, 0), (0, 1), (0, 2), (0, 3), (0, 4), (0, 5), (1, 6), (1, 7)] (by kernel_rfl) (by kernel_rfl) (by simp only [List.drop_succ_cons, List.drop_zero]; exact rfl) (fun _ => True) noG hB hG trivial ?_
    intro K L hN hL
    simp only [pickOps, List.getElem?_toArray, List.getElem?_cons_zero, List.getElem?_cons_succ]
    apply gy
    · exact rfl
    · (rintro v - N hN; go_simp; exact hN)
    refine okf (by simp only [Act.put, List.setIfInBounds_toArray, List.set_cons_succ, List.set_cons_zero]; exact rfl) ?_
    apply gy
    · exact rfl
    · (rintro v ⟨hgu, hB, hG, -⟩ N hN; have r := hB.r; simp only [BxR] at r; go_simp; exact hN)
    refine okf (by simp only [Act.put, List.setIfInBounds_toArray, List.set_cons_succ, List.set_cons_zero]; exact rfl) ?_
    apply gy
    · exact rfl
    · (rintro v - N hN; go_simp; exact hN)
    refine okf (by simp only [Act.put, List.setIfInBounds_toArray, List.set_cons_succ, List.set_cons_zero]; exact rfl) ?_
    apply gy
    · exact rfl
    · (rintro v ⟨hgu, hB, hG, -⟩ N hN; have r := hB.r; simp only [BxR] at r; go_simp; exact hN)
    refine okf (by simp only [Act.put, List.setIfInBounds_toArray, List.set_cons_succ, List.set_cons_zero]; exact rfl) ?_
    apply gy
    · exact rfl
    · (rintro v - N hN; go_simp; exact hN)
    refine okf (by simp only [Act.put, List.setIfInBounds_toArray, List.set_cons_succ, List.set_cons_zero]; exact rfl) ?_
    apply gy
    · exact rfl
    · (rintro v ⟨hgu, hB, hG, -⟩ N hN; have r := hB.r; simp only [BxR] at r; go_simp; exact hN)
    refine okf (by simp only [Act.put, List.setIfInBounds_toArray, List.set_cons_succ, List.set_cons_zero]; exact rfl) ?_
    apply gm
    · exact rfl
    · (rintro v ⟨hgu, hB, hG, -⟩ N hN; go_simp; ((with_reducible refine (nat_Add _ _ (by assumption) (by assumption) _).mono ?_); rintro e w1 ⟨rfl, hb⟩; exact ⟨_, rfl, hN _ hb⟩))
    refine okf (by simp only [Act.put, List.setIfInBounds_toArray, List.set_cons_succ, List.set_cons_zero]; exact rfl) ?_
    apply gm
    · exact rfl
    · (rintro v ⟨hgu, hB, hG, -⟩ N hN; go_simp; ((with_reducible refine (whole_From _ _ (by assumption) _).mono ?_); rintro e w1 ⟨rfl, hb⟩; exact ⟨_, rfl, hN _ hb⟩))
    refine okf (by simp only [Act.put, List.setIfInBounds_toArray, List.set_cons_succ, List.set_cons_zero]; exact rfl) ?_
    refine gend ?_
    rintro v ⟨hgu, hB1, hG1, -⟩
    clear hB hG
    have hB := hB1
    have hG := hG1
    clear hB1 hG1
    refine hL _ _ ?_
    clear hL L hgu
    obtain ⟨u, rfl⟩ : ∃ x, x = v := ⟨_, rfl⟩
    have r := hB.r
    simp only [BxR] at r
    go_wp2_with fail
    clear r
    generalize hu0 : World.setCell (World.setCell (World.setCell u _ _) _ _) _ _ = u0
    have hBG := hB.over hF hG 2 rfl 0 [_, _, _] hu0
    clear hB hG hu0
    simp only [List.modify_succ_cons, List.modify_zero_cons, wrAll, List.setIfInBounds_toArray, List.set_cons_zero, List.set_cons_succ, Nat.zero_add, Nat.reduceAdd] at hBG
    obtain ⟨hB, hG⟩ := hBG
    clear u
    obtain ⟨u, rfl⟩ : ∃ x, x = u0 := ⟨_, rfl⟩
    refine NoK.norm (hN _ _ ?_)
    clear hN K
    refine then_norm ?_
    refine wp_ret ?_
    refine then_ret ?_
    refine ret_b rfl ?_
    intro N hN
    have r := hB.r
    simp only [BxR] at r
    simp only [results, Tryz.results66]
    go_simp
    refine hN _ ?_
    clear hN N r
    exact ⟨ret_intV (add_same (by simpa using ht)), hG⟩
  · intro ht
    have ht13 := ht
    refine wp_skip ?_
    refine then_norm ?_
    refine wp_seq ?_
    refine wp_seq ?_
    refine wp_rs (w := w) allocs 9 [0, 0, 0, 0, 1, 0, 0, 0, 2] (by kernel_rfl) (by simp only [List.drop_succ_cons, List.drop_zero]; exact rfl) (fun _ => True) noG hB hG trivial ?_
    intro K L hN hL
    simp only [List.zip_cons_cons, List.zip_nil_left]
    apply gy
    · exact rfl
    · (rintro v - N hN; go_simp; exact hN)
    refine okf (by simp only [Act.put, List.setIfInBounds_toArray, List.set_cons_succ, List.set_cons_zero]; exact rfl) ?_
    apply gy
    · exact rfl
    · (rintro v ⟨hgu, hB, hG, -⟩ N hN; have r := hB.r; simp only [BxR] at r; go_simp; exact hN)
    refine okf (by simp only [Act.put, List.setIfInBounds_toArray, List.set_cons_succ, List.set_cons_zero]; exact rfl) ?_
    apply gy
    · exact rfl
    · (rintro v - N hN; go_simp; exact hN)
    refine okf (by simp only [Act.put, List.setIfInBounds_toArray, List.set_cons_succ, List.set_cons_zero]; exact rfl) ?_
    apply gy
    · exact rfl
    · (rintro v ⟨hgu, hB, hG, -⟩ N hN; have r := hB.r; simp only [BxR] at r; go_simp; exact hN)
    refine okf (by simp only [Act.put, List.setIfInBounds_toArray, List.set_cons_succ, List.set_cons_zero]; exact rfl) ?_
    apply gm
    · exact rfl
    · (rintro v ⟨hgu, hB, hG, -⟩ N hN; go_simp; ((with_reducible refine (nat_SubAny _ _ (by assumption) _).mono ?_); rintro e w1 ⟨rfl, hb⟩; exact ⟨_, rfl, hN _ hb⟩))
    refine okf (by simp only [Act.put, List.setIfInBounds_toArray, List.set_cons_succ, List.set_cons_zero]; exact rfl) ?_
    apply gy
    · exact rfl
    · (rintro v - N hN; go_simp; exact hN)
    refine okf (by simp only [Act.put, List.setIfInBounds_toArray, List.set_cons_succ, List.set_cons_zero]; exact rfl) ?_
    apply gy
    · exact rfl
    · (rintro v - N hN; go_simp; exact hN)
    refine okf (by simp only [Act.put, List.setIfInBounds_toArray, List.set_cons_succ, List.set_cons_zero]; exact rfl) ?_
    apply gy
    · exact rfl
    · (rintro v - N hN; go_simp; exact hN)
    refine okf (by simp only [Act.put, List.setIfInBounds_toArray, List.set_cons_succ, List.set_cons_zero]; exact rfl) ?_
    refine ga (newObj_Nat _ _ _ _ _) fun b5 hb5 hn5 => ?_
    refine okf (by simp only [Act.put, List.setIfInBounds_toArray, List.set_cons_succ, List.set_cons_zero]; exact rfl) ?_
    refine gend ?_
    rintro v ⟨⟨hgu, hB1, hG1, -⟩, h5⟩
    have hF := Fr.new (tk := []) hF hB hG hb5 hn5
    simp only [List.cons_append, List.nil_append, List.map_cons, List.map_nil] at hF
    clear hB hG
    have hB := (Bx.cons h5 hB1)
    have hG := hG1
    clear hB1 hG1 h5
    refine hL _ _ ?_
    clear hL L hgu
    obtain ⟨u, rfl⟩ : ∃ x, x = v := ⟨_, rfl⟩
    have r := hB.r
    simp only [BxR] at r
    go_wp2_with fail
    clear r
    generalize hu0 : World.setCell (World.setCell u _ _) _ _ = u0
    have hBG := hB.over hF hG 0 rfl 0 [_, _] hu0
    clear hB hG hu0
    simp only [List.modify_succ_cons, List.modify_zero_cons, wrAll, List.setIfInBounds_toArray, List.set_cons_zero, List.set_cons_succ, Nat.zero_add, Nat.reduceAdd] at hBG
    obtain ⟨hB, hG⟩ := hBG
    clear u
    obtain ⟨u, rfl⟩ : ∃ x, x = u0 := ⟨_, rfl⟩
    refine NoK.norm (hN _ _ ?_)
    clear hN K
    refine then_norm ?_
    refine wp_seq ?_
    refine wp_r0 ?_
    intro K hN
    go_wp2_with fail
    refine NoK.norm (hN _ _ ?_)
    clear hN K
    refine then_norm ?_
    refine wp_cond_split rfl ?_ ?_
    · intro ht
      have ht30 := ht
      refine wp_seq ?_
      refine wp_rs (w := w) allocs 4 [0, 0, 0, 1] (by kernel_rfl) (by simp only [List.drop_succ_cons, List.drop_zero]; exact rfl) (fun _ => True) noG hB hG trivial ?_
      intro K L hN hL
      simp only [List.zip_cons_cons, List.zip_nil_left]
      apply gy
      · exact rfl
      · (rintro v - N hN; go_simp; exact hN)
      refine okf (by simp only [Act.put, List.setIfInBounds_toArray, List.set_cons_succ, List.set_cons_zero]; exact rfl) ?_
      apply gy
      · exact rfl
      · (rintro v ⟨hgu, hB, hG, -⟩ N hN; have r := hB.r; simp only [BxR] at r; go_simp; exact hN)
      refine okf (by simp only [Act.put, List.setIfInBounds_toArray, List.set_cons_succ, List.set_cons_zero]; exact rfl) ?_
      apply gy
      · exact rfl
      · (rintro v ⟨hgu, hB, hG, -⟩ N hN; have r := hB.r; simp only [BxR] at r; go_simp; exact hN)
      refine okf (by simp only [Act.put, List.setIfInBounds_toArray, List.set_cons_succ, List.set_cons_zero]; exact rfl) ?_
      apply gm
      · exact rfl
      · (rintro v ⟨hgu, hB, hG, -⟩ N hN; go_simp; ((with_reducible refine (whole_From _ _ (by assumption) _).mono ?_); rintro e w1 ⟨rfl, hb⟩; exact ⟨_, rfl, hN _ hb⟩))
      refine okf (by simp only [Act.put, List.setIfInBounds_toArray, List.set_cons_succ, List.set_cons_zero]; exact rfl) ?_
      refine gend ?_
      rintro v ⟨hgu, hB1, hG1, -⟩
      clear hB hG
      have hB := hB1
      have hG := hG1
      clear hB1 hG1
      refine hL _ _ ?_
      clear hL L hgu
      obtain ⟨u, rfl⟩ : ∃ x, x = v := ⟨_, rfl⟩
      have r := hB.r
      simp only [BxR] at r
      go_wp2_with fail
      clear r
      generalize hu0 : World.setCell (World.setCell (World.setCell u _ _) _ _) _ _ = u0
      have hBG := hB.over hF hG 3 rfl 0 [_, _, _] hu0
      clear hB hG hu0
      simp only [List.modify_succ_cons, List.modify_zero_cons, wrAll, List.setIfInBounds_toArray, List.set_cons_zero, List.set_cons_succ, Nat.zero_add, Nat.reduceAdd] at hBG
      obtain ⟨hB, hG⟩ := hBG
      clear u
      obtain ⟨u, rfl⟩ : ∃ x, x = u0 := ⟨_, rfl⟩
      refine NoK.norm (hN _ _ ?_)
      clear hN K
      refine then_norm ?_
      refine wp_ret ?_
      refine then_ret ?_
      refine ret_b rfl ?_
      intro N hN
      have r := hB.r
      simp only [BxR] at r
      simp only [results, Tryz.results66]
      go_simp
      refine hN _ ?_
      clear hN N r
      exact ⟨ret_intV (add_fst (by simpa using ht13) (by simpa using ht)), hG⟩
    · intro ht
      have ht30 := ht
      refine wp_skip ?_
      refine then_norm ?_
      refine wp_seq ?_
      refine wp_rs (w := w) allocs 9 [0, 0, 0, 0, 1, 0, 0, 0, 2] (by kernel_rfl) (by simp only [List.drop_succ_cons, List.drop_zero]; exact rfl) (fun _ => True) noG hB hG trivial ?_
      intro K L hN hL
      simp only [List.zip_cons_cons, List.zip_nil_left]
      apply gy
      · exact rfl
      · (rintro v - N hN; go_simp; exact hN)
      refine okf (by simp only [Act.put, List.setIfInBounds_toArray, List.set_cons_succ, List.set_cons_zero]; exact rfl) ?_
      apply gy
      · exact rfl
      · (rintro v ⟨hgu, hB, hG, -⟩ N hN; have r := hB.r; simp only [BxR] at r; go_simp; exact hN)
      refine okf (by simp only [Act.put, List.setIfInBounds_toArray, List.set_cons_succ, List.set_cons_zero]; exact rfl) ?_
      apply gy
      · exact rfl
      · (rintro v - N hN; go_simp; exact hN)
      refine okf (by simp only [Act.put, List.setIfInBounds_toArray, List.set_cons_succ, List.set_cons_zero]; exact rfl) ?_
      apply gy
      · exact rfl
      · (rintro v ⟨hgu, hB, hG, -⟩ N hN; have r := hB.r; simp only [BxR] at r; go_simp; exact hN)
      refine okf (by simp only [Act.put, List.setIfInBounds_toArray, List.set_cons_succ, List.set_cons_zero]; exact rfl) ?_
      apply gm
      · exact rfl
      · (rintro v ⟨hgu, hB, hG, -⟩ N hN; go_simp; ((with_reducible refine (nat_SubAny _ _ (by assumption) _).mono ?_); rintro e w1 ⟨rfl, hb⟩; exact ⟨_, rfl, hN _ hb⟩))
      refine okf (by simp only [Act.put, List.setIfInBounds_toArray, List.set_cons_succ, List.set_cons_zero]; exact rfl) ?_
      apply gy
      · exact rfl
      · (rintro v - N hN; go_simp; exact hN)
      refine okf (by simp only [Act.put, List.setIfInBounds_toArray, List.set_cons_succ, List.set_cons_zero]; exact rfl) ?_
      apply gy
      · exact rfl
      · (rintro v - N hN; go_simp; exact hN)
      refine okf (by simp only [Act.put, List.setIfInBounds_toArray, List.set_cons_succ, List.set_cons_zero]; exact rfl) ?_
      apply gy
      · exact rfl
      · (rintro v - N hN; go_simp; exact hN)
      refine okf (by simp only [Act.put, List.setIfInBounds_toArray, List.set_cons_succ, List.set_cons_zero]; exact rfl) ?_
      refine ga (newObj_Nat _ _ _ _ _) fun b7 hb7 hn7 => ?_
      refine okf (by simp only [Act.put, List.setIfInBounds_toArray, List.set_cons_succ, List.set_cons_zero]; exact rfl) ?_
      refine gend ?_
      rintro v ⟨⟨hgu, hB1, hG1, -⟩, h7⟩
      have hF := Fr.new (tk := []) hF hB hG hb7 hn7
      simp only [List.cons_append, List.nil_append, List.map_cons, List.map_nil] at hF
      clear hB hG
      have hB := (Bx.cons h7 hB1)
      have hG := hG1
      clear hB1 hG1 h7
      refine hL _ _ ?_
      clear hL L hgu
      obtain ⟨u, rfl⟩ : ∃ x, x = v := ⟨_, rfl⟩
      have r := hB.r
      simp only [BxR] at r
      go_wp2_with fail
      clear r
      generalize hu0 : World.setCell (World.setCell u _ _) _ _ = u0
      have hBG := hB.over hF hG 0 rfl 0 [_, _] hu0
      clear hB hG hu0
      simp only [List.modify_succ_cons, List.modify_zero_cons, wrAll, List.setIfInBounds_toArray, List.set_cons_zero, List.set_cons_succ, Nat.zero_add, Nat.reduceAdd] at hBG
      obtain ⟨hB, hG⟩ := hBG
      clear u
      obtain ⟨u, rfl⟩ : ∃ x, x = u0 := ⟨_, rfl⟩
      refine NoK.norm (hN _ _ ?_)
      clear hN K
      refine then_norm ?_
      refine wp_seq ?_
      refine wp_rs (w := w) allocs 4 [0, 0, 0, 1] (by kernel_rfl) (by simp only [List.drop_succ_cons, List.drop_zero]; exact rfl) (fun _ => True) noG hB hG trivial ?_
      intro K L hN hL
      simp only [List.zip_cons_cons, List.zip_nil_left]
      apply gy
      · exact rfl
      · (rintro v - N hN; go_simp; exact hN)
      refine okf (by simp only [Act.put, List.setIfInBounds_toArray, List.set_cons_succ, List.set_cons_zero]; exact rfl) ?_
      apply gy
      · exact rfl
      · (rintro v ⟨hgu, hB, hG, -⟩ N hN; have r := hB.r; simp only [BxR] at r; go_simp; exact hN)
      refine okf (by simp only [Act.put, List.setIfInBounds_toArray, List.set_cons_succ, List.set_cons_zero]; exact rfl) ?_
      apply gy
      · exact rfl
      · (rintro v ⟨hgu, hB, hG, -⟩ N hN; have r := hB.r; simp only [BxR] at r; go_simp; exact hN)
      refine okf (by simp only [Act.put, List.setIfInBounds_toArray, List.set_cons_succ, List.set_cons_zero]; exact rfl) ?_
      apply gm
      · exact rfl
      · (rintro v ⟨hgu, hB, hG, -⟩ N hN; go_simp; ((with_reducible refine (whole_From _ _ (by assumption) _).mono ?_); rintro e w1 ⟨rfl, hb⟩; exact ⟨_, rfl, hN _ hb⟩))
      refine okf (by simp only [Act.put, List.setIfInBounds_toArray, List.set_cons_succ, List.set_cons_zero]; exact rfl) ?_
      refine gend ?_
      rintro v ⟨hgu, hB1, hG1, -⟩
      clear hB hG
      have hB := hB1
      have hG := hG1
      clear hB1 hG1
      refine hL _ _ ?_
      clear hL L hgu
      obtain ⟨u, rfl⟩ : ∃ x, x = v := ⟨_, rfl⟩
      have r := hB.r
      simp only [BxR] at r
      go_wp2_with fail
      clear r
      generalize hu0 : World.setCell (World.setCell (World.setCell u _ _) _ _) _ _ = u0
      have hBG := hB.over hF hG 4 rfl 0 [_, _, _] hu0
      clear hB hG hu0
      simp only [List.modify_succ_cons, List.modify_zero_cons, wrAll, List.setIfInBounds_toArray, List.set_cons_zero, List.set_cons_succ, Nat.zero_add, Nat.reduceAdd] at hBG
      obtain ⟨hB, hG⟩ := hBG
      clear u
      obtain ⟨u, rfl⟩ : ∃ x, x = u0 := ⟨_, rfl⟩
      refine NoK.norm (hN _ _ ?_)
      clear hN K
      refine then_norm ?_
      refine wp_ret ?_
      refine ret_b rfl ?_
      intro N hN
      have r := hB.r
      simp only [BxR] at r
      simp only [results, Tryz.results66]
      go_simp
      refine hN _ ?_
      clear hN N r
      exact ⟨ret_intV (add_snd (by simpa using ht13) (by simpa using ht)), hG⟩
end Go.Proofs.YtimjnkfcnpfoeaaGreatDoor

/-
  whole.down: words moved down in place, by all zeros at the end.
-/
namespace Go.Proofs.YtimjnkfcnpfoeaaGreatDoor
open Go.RowKit
/-- rows of words in other blocks stay -/
def Oth (b : Nat) (w w' : World) : Prop := ∀ b2 o2 l2, b2 ≠ b → Wds w b2 o2 l2 → Wds w' b2 o2 l2
theorem Oth.set {b : Nat} {w w' : World} (h : Oth b w w') (i : Nat) (v : Value) : Oth b w (w'.setCell ⟨b, i, none⟩ v) := fun b2 o2 l2 hn hw => (h b2 o2 l2 hn hw).far (p := ⟨b, i, none⟩) hn v
theorem Oth.grow {b : Nat} {w w' w'' : World} (h : Oth b w w') (hg : Grow w' w'') : Oth b w w'' := fun b2 o2 l2 hn hw => (h b2 o2 l2 hn hw).grow hg
theorem Oth.refl (b : Nat) (w : World) : Oth b w w := fun _ _ _ _ h => h
theorem Oth.trans {b : Nat} {w w' w'' : World} (h : Oth b w w') (k : Oth b w' w'') : Oth b w w'' := fun b2 o2 l2 hn hw => k b2 o2 l2 hn (h b2 o2 l2 hn hw)
/-- what down hands back -/
def Dn (V : Nat) (zs : List Nat) : Prop := ∃ z, V = 2 ^ z * val W64 zs ∧ val W64 zs % 2 = 1
theorem down_val {l zs : List Nat} {z : Nat} (hz : Tz (val W64 l) z) (hd : Dig W64 l) (h : val W64 zs = val W64 (l.drop (z / 64)) / 2 ^ (z % 64)) : val W64 l = 2 ^ z * val W64 zs ∧ val W64 zs % 2 = 1 := by
  obtain ⟨m, hm⟩ := hz
  rw [h, val_cut W64_pos hd, Nat.div_div_eq_div_mul, show W64 ^ (z / 64) * 2 ^ (z % 64) = 2 ^ z from pow_split z, hm, Nat.mul_div_cancel_left _ (Nat.two_pow_pos z)]
  exact ⟨rfl, by omega⟩
set_option maxHeartbeats 1000000 in
set_option maxRecDepth 100000 in
theorem whole_down (b off : Nat) (l : List Nat) (c : Nat) (w0 w : World) (h : Wds w b off l) (hd : Dig W64 l) (hv : val W64 l ≠ 0) (hm : l.length ≤ 34359738368) (hc : l.length ≤ c) (hcm : c ≤ 1099511627776) (hT : Tab w0) (hg0 : Grow w0 w) (hb0 : w0.heap.size ≤ b) :
    Calls Tryz.prog 161 #[.slice (some ⟨b, off, none⟩) l.length c] w fun e w' => ∃ (o' c' : Nat) (zs : List Nat), e = .returned (.slice (some ⟨b, o', none⟩) (trimL zs).length c') ∧ (Wds w' b o' zs ∧ Dig W64 zs ∧ zs.length ≤ l.length ∧ zs.length ≤ c' ∧ c' ≤ c ∧ (∃ z, Tz (val W64 l) z ∧ val W64 l = 2 ^ z * val W64 zs) ∧ val W64 zs % 2 = 1 ∧ Oth b w w') ∧ Grow w0 w' := by
  have hzs := whole_zeros b off l c hd hv hm w h (hT.grow hg0)
  obtain ⟨n, hn⟩ : ∃ n, n = l.length := ⟨_, rfl⟩
  rw [← hn] at hm hc hzs
  rw [← hn]
  have H := Lib.hid h
  have Hzs := Lib.hid hzs
  have Hn := Lib.hid hn
  have Hd := Lib.hid hd
  have Hg0 := Lib.hid hg0
  clear h hzs hn hd hg0 hT hv
  go_enter Tryz.func161, Tryz.ntmps161
  go_wp2_with (go_at_call 160; ((with_reducible refine (Hzs.out).mono ?_); rintro e w1 ⟨z, rfl, htz, hzn, rfl⟩; have Htz := Lib.hid htz; clear htz; obtain ⟨wh, hwh⟩ : ∃ q, q = z / 64 := ⟨_, rfl⟩; obtain ⟨p, hp⟩ : ∃ q, q = z % 64 := ⟨_, rfl⟩; have hp64 : p < 64 := (by omega); have q1 : (z : Int).tdiv 64 = (wh : Nat) := (by rw [Int.tdiv_eq_ediv_of_nonneg (by omega)]; omega); have q2 : (z : Int).tmod 64 = (p : Nat) := (by rw [Int.tmod_eq_emod_of_nonneg (by omega)]; omega); have q3 : (z : Int) / 64 = (wh : Nat) := (by omega); have q4 : (z : Int) % 64 = (p : Nat) := (by omega); have hwn : wh < n := (by omega); have Hwh := Lib.hid hwh; have Hp := Lib.hid hp; clear hwh hp hzn))
  obtain ⟨m, hmm⟩ : ∃ m, m = n - wh := ⟨_, rfl⟩
  obtain ⟨O, hO⟩ : ∃ O, O = off + wh := ⟨_, rfl⟩
  obtain ⟨C, hC⟩ : ∃ C, C = c - wh := ⟨_, rfl⟩
  obtain ⟨l', hl'⟩ : ∃ l', l' = l.drop wh := ⟨_, rfl⟩
  rw [← hmm, ← hO, ← hC]
  have hW : Wds w1 b O l' := by rw [hO, hl']; exact H.out.drop wh
  have hl'n : m = l'.length := by rw [hl', List.length_drop, hmm, Hn.out]
  have hd' : Dig W64 l' := fun x hx => Hd.out x (by rw [hl'] at hx; exact List.mem_of_mem_drop hx)
  obtain ⟨t, ht⟩ : ∃ t, t = 64 - p := ⟨_, rfl⟩
  have hpw : W64 = 2 ^ p * 2 ^ t := by rw [← Nat.pow_add, show p + t = 64 by omega]; rfl
  have fsm : min p 64 = p := by omega
  have ftm : min t 64 = t := by omega
  have ft : (64 - (p : Int)) = (t : Nat) := by omega
  have ft2 : IntKind.i64.wrap (64 - (p : Int)) = (t : Nat) := by rw [ft]; exact IntWalk.i64_in _ (by omega)
  have ft3 : IntKind.i64.wrap (t : Int) = (t : Nat) := IntWalk.i64_in _ (by omega)
  have hm2 : m ≤ 34359738368 := by omega
  have hCm : m ≤ C := by omega
  have hCc : C ≤ c := by omega
  have HW := Lib.hid hW
  have Hl'n := Lib.hid hl'n
  have Hl' := Lib.hid hl'
  have Hd' := Lib.hid hd'
  have Hpw := Lib.hid hpw
  have Hmm := Lib.hid hmm
  clear hW hl'n hl' hd' hpw hmm hO hC ht q1 q2 q3 q4 H Hzs
  go_loopw [16] (fun i wr => ∃ (k : Nat) (zs : List Nat), k ≤ m ∧ i = .int .i64 k ∧ DnI (2 ^ p) (2 ^ t) l' k zs ∧ Wds wr b O zs ∧ Oth b w1 wr ∧ Grow w0 wr) (fun i _ => m - (intOf i).toNat)
  case atStart => exact ⟨0, l', by omega, rfl, DnI.start _ _ _, HW.out, Oth.refl _ _, Hg0.out⟩
  case round =>
    obtain ⟨k, zs, hk, rfl, hI, hR, hO, hG⟩ := hrel
    have HI := Lib.hid hI
    have HG := Lib.hid hG
    have HR := Lib.hid hR
    have HO := Lib.hid hO
    clear hI hG hR hO
    rcases Nat.lt_or_ge k m with hkm | hkm
    · have hkl : k < l'.length := by rw [← Hl'n.out]; exact hkm
      have hkz : k < zs.length := by rw [HI.out.1]; exact hkl
      have hc1 := HR.out.cell hkz
      have hf1 := HR.out.frozen (O + k)
      rw [← dg_eq hkz, HI.out.2.2 k (Nat.le_refl _)] at hc1
      have hnx := HI.out.next hkl
      have hxW := dg_lt W64_pos Hd'.out k
      have hyW := dg_lt W64_pos Hd'.out (k + 1)
      have hy1 := HI.out.2.2 (k + 1) (by omega)
      obtain ⟨x, hx⟩ : ∃ x, x = dg l' k := ⟨_, rfl⟩
      obtain ⟨y, hy⟩ : ∃ x, x = dg l' (k + 1) := ⟨_, rfl⟩
      rw [← hx] at hc1 hnx hxW
      rw [← hy] at hnx hyW hy1
      obtain ⟨q, hq⟩ : ∃ q, q = x / 2 ^ p := ⟨_, rfl⟩
      obtain ⟨L, hL⟩ : ∃ q, q = y % 2 ^ p * 2 ^ t := ⟨_, rfl⟩
      have hdd := down_digit (y := y) Hpw.out (Nat.two_pow_pos _) hxW
      rw [← hq, ← hL] at hnx hdd
      have fq : (x : Int) / 2 ^ p = (q : Nat) := by rw [hq]; simp
      have hdj : decide ((k : Int) < (m : Int)) = true := by simp; omega
      rcases Nat.lt_or_ge (k + 1) m with hin | hin
      · obtain ⟨S, hS⟩ : ∃ S, S = q + L := ⟨_, rfl⟩
        rw [← hS] at hnx
        have fL : IntKind.u64.wrap ((y : Int) * 2 ^ t) = (L : Nat) := by
          have e := (shl_split y W64 (2 ^ t) (Nat.two_pow_pos _) (2 ^ p) (by rw [Nat.mul_comm]; exact Hpw.out) (Nat.two_pow_pos _)).2
          rw [show ((y : Int) * 2 ^ t) = ((y * 2 ^ t : Nat) : Int) by simp, hL, ← e]; exact wrapM
        have fo : bits .or .u64 (q : Int) (L : Int) = (S : Nat) := by
          rw [hS]
          have hyW : q < 18446744073709551616 := by have := hdd.1; unfold W64 at this; omega
          rw [u64_or_nat _ _ hyW (by have := hdd.1; unfold W64 at this; omega), or_add' hdd.2 (by rw [hL]; exact Nat.dvd_mul_left _ _), Nat.add_comm]
        have hset1 := HR.out.set k q hkz
        have hc2 := hset1.cell (i := k) (by rw [List.length_set]; exact hkz)
        have hf2 := hset1.frozen (O + k)
        rw [List.getElem_set_self] at hc2
        have hk1z : k + 1 < (zs.set k q).length := by rw [List.length_set, HI.out.1, ← Hl'n.out]; exact hin
        have hc3 := hset1.cell hk1z
        rw [← dg_eq hk1z, dg_set_ne _ _ (by omega), hy1] at hc3
        have hset2 := hset1.set k S (by rw [List.length_set]; exact hkz)
        rw [List.set_set] at hset2
        have Hset2 := Lib.hid hset2
        have Hnx := Lib.hid hnx
        have hO1 := HO.out.set (O + k) (.int .u64 (q : Nat))
        have hG1 := HG.out.setCell (p := ⟨b, O + k, none⟩) hb0 (.int .u64 (q : Nat))
        have hc9 : decide ((k : Int) + 1 < (m : Int)) = true := by simp; omega
        have HO1 := Lib.hid hO1
        have HG1 := Lib.hid hG1
        clear hS hset1 hset2 hnx hdd hx hy hq hL hkz hk1z hy1 hO1 hG1
        go_wp2_with fail
        have hset2 := Hset2.out
        have hO1 := HO1.out
        have hG1 := HG1.out
        clear Hset2 HO1 HG1
        generalize wr.setCell ⟨b, O + k, none⟩ (.int .u64 q) = w2 at hc2 hf2 hc3 hset2 hG1 hO1 ⊢
        have Hset2 := Lib.hid hset2
        have HG1 := Lib.hid hG1
        have HO1 := Lib.hid hO1
        clear hset2 hG1 hO1 hc1 hf1 hc9 hdj
        obtain ⟨K1, hK1⟩ : ∃ K, K = k + 1 := ⟨_, rfl⟩
        have f1 : IntKind.i64.wrap ((k : Int) + 1) = (K1 : Nat) := by rw [show ((k : Int) + 1) = (K1 : Nat) by omega]; exact IntWalk.i64_in _ (by omega)
        have hK1m : K1 < m := by omega
        rw [← hK1] at hc3
        have HK1 := Lib.hid hK1
        clear hK1 hin hkl
        go_still_tail 13, (by kernel_rfl)
        go_wp2_with fail
        go_roundw
        case rel => exact ⟨K1, _, by omega, rfl, by rw [HK1.out]; exact Hnx.out, Hset2.out.grow (Grow.drew _), (HO1.out.set (O + k) _).grow (Grow.drew _), (HG1.out.setCell (p := ⟨b, O + k, none⟩) hb0 _).trans (Grow.drew _)⟩
        case measure => have := HK1.out; simp [intOf]; omega
      · have hy0 : y = 0 := by rw [hy]; exact dg_over (by rw [← Hl'n.out]; exact hin)
        have hL0 : L = 0 := by rw [hL, hy0, Nat.zero_mod, Nat.zero_mul]
        rw [hL0, Nat.add_zero] at hnx
        have Hset1 := Lib.hid (HR.out.set k q hkz)
        have Hnx := Lib.hid hnx
        have hc9 : decide ((k : Int) + 1 < (m : Int)) = false := by simp; omega
        clear hnx hdd hx hy hq hL hkz hy0 hL0 hy1
        go_wp2_with fail
        go_roundw
        case rel => exact ⟨k + 1, _, by omega, by go_num, Hnx.out, Hset1.out, HO.out.set (O + k) _, HG.out.setCell (p := ⟨b, O + k, none⟩) hb0 _⟩
        case measure => simp [intOf]; omega
    · obtain rfl : m = k := by omega
      have hdn := HI.out
      rw [Hl'n.out] at hdn
      obtain ⟨hv1, hd1⟩ := hdn.done Hpw.out (Nat.two_pow_pos _) W64_pos Hd'.out
      have hzl : zs.length = m := by rw [HI.out.1, Hl'n.out]
      have htr : Calls Tryz.prog 193 #[.slice (some ⟨b, O, none⟩) m C] wr fun e w' => e = .returned (.slice (some ⟨b, O, none⟩) (trimL zs).length C) ∧ wr = w' := by
        have := whole_trim (some ⟨b, O, none⟩) zs C wr (fun _ => ⟨_, _, rfl, HR.out⟩) (by omega) (by omega)
        rw [hzl] at this
        exact this
      have hvv := down_val Htz.out Hd.out (zs := zs) (by rw [← Hwh.out, ← Hp.out, ← Hl'.out]; exact hv1)
      have Htr := Lib.hid htr
      have Hvv := Lib.hid hvv
      have Hd1 := Lib.hid hd1
      have Hzl := Lib.hid hzl
      clear hdn hv1 hd1 htr hvv hzl
      have hdj : decide ((m : Int) < (m : Int)) = false := by simp
      go_wp2_with (go_at_call 193; ((with_reducible refine (Htr.out).mono ?_); rintro e w1 ⟨rfl, rfl⟩))
      go_ret
      exact ⟨O, C, zs, rfl, ⟨HR.out, Hd1.out, by rw [Hzl.out, Hmm.out]; omega, by rw [Hzl.out]; exact hCm, hCc, ⟨z, Htz.out, Hvv.out.1⟩, Hvv.out.2, HO.out⟩, HG.out⟩
end Go.Proofs.YtimjnkfcnpfoeaaGreatDoor

/-
  whole.number: words as a number.
-/
namespace Go.Proofs.YtimjnkfcnpfoeaaGreatDoor
open Go.RowKit
theorem dg_val {W : Nat} (hW : 0 < W) {l : List Nat} (hd : Dig W l) (k : Nat) : dg l k = val W l / W ^ k % W := by
  rcases Nat.lt_or_ge k l.length with hk | hk
  · have h1 := val_cut hW hd k
    rw [List.drop_eq_getElem_cons hk, ← dg_eq hk, val_cons] at h1
    rw [← h1, Nat.add_mul_mod_self_left, Nat.mod_eq_of_lt (dg_lt hW hd k)]
  · rw [dg_over hk, Nat.div_eq_of_lt (Nat.lt_of_lt_of_le (val_lt hd) (Nat.pow_le_pow_right hW hk)), Nat.zero_mod]
/-- the byte number i off the words -/
theorem word_byte' {l : List Nat} (hd : Dig W64 l) (i : Nat) : dg l (i / 8) / 2 ^ (8 * (i % 8)) % 256 = val W64 l / 256 ^ i % 256 := by
  rw [dg_val W64_pos hd, pow256 i, ← Nat.div_div_eq_div_mul]
  generalize val W64 l / W64 ^ (i / 8) = x
  have hr : i % 8 < 8 := Nat.mod_lt _ (by omega)
  generalize i % 8 = r at hr
  have e2 : W64 = 2 ^ (8 * r) * (256 * 2 ^ (56 - 8 * r)) := by
    rw [W64_pow, show (256 : Nat) = 2 ^ 8 from rfl, ← Nat.pow_add, ← Nat.pow_add]
    congr 1
    omega
  rw [e2, Nat.mod_mul_right_div_self, Nat.mod_mul_right_mod]
/-- the lowest n digits of V -/
def lowD (B V n : Nat) : List Nat := (List.range n).map fun i => V / B ^ i % B
theorem lowD_len (B V n : Nat) : (lowD B V n).length = n := by unfold lowD; simp
theorem lowD_val (B V n : Nat) : val B (lowD B V n) = V % B ^ n := by
  induction n with
  | zero => simp [lowD, val, Nat.mod_one]
  | succ n ih =>
    have e : lowD B V (n + 1) = lowD B V n ++ [V / B ^ n % B] := by unfold lowD; rw [List.range_succ, List.map_append]; rfl
    rw [e, val_snoc, lowD_len, ih, Nat.mod_pow_succ]
theorem lowD_dg (B V n : Nat) {i : Nat} (h : i < n) : dg (lowD B V n) i = V / B ^ i % B := by
  rw [dg_eq (by rw [lowD_len]; exact h)]; unfold lowD; simp
theorem lowD_dig {B : Nat} (hB : 0 < B) (V n : Nat) : Dig B (lowD B V n) := fun x hx => by
  unfold lowD at hx
  obtain ⟨i, _, rfl⟩ := List.mem_map.1 hx
  exact Nat.mod_lt _ hB
set_option maxHeartbeats 1000000 in
set_option maxRecDepth 100000 in
theorem whole_number (b off : Nat) (l : List Nat) (c : Nat) (hd : Dig W64 l) (hm : l.length ≤ 17179869180) (w : World) (h : Wds w b off l) :
    Calls Tryz.prog 164 #[.slice (some ⟨b, off, none⟩) l.length c] w fun e w' => e = .returned (natV (val W64 l)) ∧ Grow w w' := by
  obtain ⟨m, hmm⟩ : ∃ m, m = l.length := ⟨_, rfl⟩
  obtain ⟨n, hn⟩ : ∃ n, n = 8 * m := ⟨_, rfl⟩
  obtain ⟨V, hV⟩ : ∃ V, V = val W64 l := ⟨_, rfl⟩
  have hVn : V < 256 ^ n := by
    have := val_lt hd
    rw [hV, hn, Nat.pow_mul, hmm]
    exact this
  obtain ⟨bs, hbs⟩ : ∃ bs, bs = lowD 256 V n := ⟨_, rfl⟩
  have hbl : bs.length = n := by rw [hbs, lowD_len]
  have hbv : val 256 bs = V := by rw [hbs, lowD_val, Nat.mod_eq_of_lt hVn]
  have hbd : Dig 256 bs := by rw [hbs]; exact lowD_dig (by omega) V n
  have hbg : ∀ i, i < n → dg l (i / 8) / 2 ^ (8 * (i % 8)) % 256 = dg bs i := fun i hi => by rw [word_byte' hd, hbs, lowD_dg _ _ _ hi, hV]
  have hb0 : List.replicate n 0 = bytTo bs 0 := by unfold bytTo; rw [hbl]; simp
  rw [← hV, ← hmm]
  rw [← hmm] at hm
  have hnm : 8 * (m : Int) = (n : Int) := by omega
  have hmk := make_u8 n (by omega) (n : Int) rfl
  have hnb : n ≤ 137438953440 := by omega
  have hnm2 : n ≤ 8 * m := by omega
  have H := Lib.hid h
  have Hd := Lib.hid hd
  have Hmm := Lib.hid hmm
  have Hbl := Lib.hid hbl
  have Hbv := Lib.hid hbv
  have Hbd := Lib.hid hbd
  have Hbg := Lib.hid hbg
  have Hb0 := Lib.hid hb0
  have fw0 : IntKind.i64.wrap (8 * (m : Int)) = (n : Int) := by rw [hnm]; exact IntWalk.i64_in _ (by omega)
  clear h hd hmm hn hV hVn hbs hbl hbv hbd hbg hb0
  go_enter Tryz.func164, Tryz.ntmps164
  refine wp_seq (wp_r0 ?_)
  intro K hN
  go_wp2_with fail
  generalize hu : World.alloc w _ = u
  obtain ⟨hB, hG⟩ := bx_first [(_, _)] w u hu
  have hF := fr_first w [(28, #[])]
  simp only [numbered, List.map_cons, List.map_nil] at hB hF
  clear hu
  generalize w.heap.size = b2 at hB hF ⊢
  refine NoK.norm (hN _ _ ?_)
  clear hN K
  refine then_norm ?_
  refine wp_seq ?_
  refine wp_r0 ?_
  intro K hN
  have r := hB.r
  simp only [BxR] at r
  go_wp2_with fail
  clear r
  refine NoK.norm (hN _ _ ?_)
  clear hN K
  have hbo := Blk.new u 5 (cells8 (List.replicate n 0))
  have hF3 := Fr.new (tk := []) hF hB hG (Nat.le_refl u.heap.size) (by simp)
  have hB3 := Bx.cons hbo (hB.grow (Grow.alloc u (.cells (cells8 (List.replicate n 0)) 5)))
  have hG3 := hG.trans (Grow.alloc u (.cells (cells8 (List.replicate n 0)) 5))
  simp only [List.cons_append, List.nil_append, List.map_cons, List.map_nil] at hF3
  clear hB hF hG hbo
  generalize World.alloc u _ = v at  hB3 hG3 ⊢
  generalize u.heap.size = b3 at hB3 hF3 ⊢
  have hB := hB3
  have hF := hF3
  have hG := hG3
  clear hB3 hF3 hG3
  obtain ⟨u, rfl⟩ : ∃ x, x = v := ⟨_, rfl⟩
  rw [Hb0.out] at hB
  refine then_norm ?_
  refine wp_seq ?_
  refine wp_seq ?_
  refine wp_r0 ?_
  intro K hN
  go_wp2_with fail
  refine NoK.norm (hN _ _ ?_)
  clear hN K
  refine then_norm ?_
  refine wp_block ?_
  go_loopw [11] (fun s0 wr => ∃ (i : Nat) , i ≤ n ∧ s0 = .int .i64 i ∧ Bx wr [(b3, 5, cells8 (bytTo bs i)), (b2, 28, #[.int .u64 0, .string ⟨#[]⟩])] ∧ Grow w wr) (fun s0 _ => n - (intOf s0).toNat)
  case atStart => exact ⟨0, Nat.zero_le _, rfl, hB, hG⟩
  case round =>
    clear hB hG
    obtain ⟨i, hi, rfl, hB, hG⟩ := hrel
    obtain ⟨u, rfl⟩ : ∃ x, x = wr := ⟨_, rfl⟩
    rcases Nat.lt_or_ge i n with hlt0 | hge0
    · have hdec : decide ((i : Int) < (n : Int)) = true := by simp; omega
      have hil : i < bs.length := by rw [Hbl.out]; exact hlt0
      have hst := bytTo_set bs hil
      rw [Hbl.out] at hst
      obtain ⟨k, hk⟩ : ∃ k, k = n - 1 - i := ⟨_, rfl⟩
      rw [← hk] at hst
      have hki : (n : Int) - 1 - (i : Int) = (k : Int) := by omega
      have hkn : k < n := by omega
      have hq0 : i / 8 < l.length := by rw [← Hmm.out]; omega
      have hby := Hbg.out i hlt0
      have hyl := dg_lt (by omega) Hbd.out i
      have hxl : dg l (i / 8) < 18446744073709551616 := dg_lt W64_pos Hd.out _
      obtain ⟨q, hq⟩ : ∃ q, q = i / 8 := ⟨_, rfl⟩
      obtain ⟨p, hp⟩ : ∃ r, r = i % 8 := ⟨_, rfl⟩
      rw [← hq, ← hp] at hby
      rw [← hq] at hq0 hxl
      have hcl : ∀ W, Grow w W → W.cell? ⟨b, off + q, none⟩ = some (.int .u64 (dg l q : Nat)) := fun W hg => by rw [dg_eq hq0]; exact (H.out.grow hg).cell hq0
      obtain ⟨x, hx⟩ : ∃ x, x = dg l q := ⟨_, rfl⟩
      obtain ⟨y, hy⟩ : ∃ y, y = dg bs i := ⟨_, rfl⟩
      rw [← hx] at hby hxl
      simp only [← hx] at hcl
      rw [← hy] at hby hyl hst
      have hp8 : p < 8 := by omega
      have hqm : q < m := by omega
      have f1 : (i : Int).tdiv 8 = (q : Int) := by rw [Int.tdiv_eq_ediv_of_nonneg (by omega)]; omega
      have f2 : (i : Int).tmod 8 = (p : Int) := by rw [Int.tmod_eq_emod_of_nonneg (by omega)]; omega
      have f3 : (i : Int) / 8 = (q : Int) := by omega
      have f4 : (i : Int) % 8 = (p : Int) := by omega
      have f7 : (8 * (p : Int)).toNat = 8 * p := by omega
      have f8 : min (8 * p) 64 = 8 * p := by omega
      have f5 : ((x : Int) / 2 ^ (8 * p) % 256) = (y : Int) := by rw [← hby]; simp
      have g1 : ∃ old, (cells8 (bytTo bs i))[k]? = some old := by
        rw [cells8_get, List.getElem?_eq_getElem (by rw [bytTo_len bs (by omega), Hbl.out]; exact hkn)]
        exact ⟨_, rfl⟩
      obtain ⟨old, g1⟩ := g1
      have G2 := Lib.hid (show (cells8 (bytTo bs i)).setIfInBounds k (.int .u8 (y : Nat)) = cells8 (bytTo bs (i + 1)) by rw [cells8_set, hst])
      have Hcl := Lib.hid hcl
      clear hil hst hk hq0 hby hq hp hcl hx hy
      refine wp_seq ?_
      refine wp_r0 ?_
      intro K hN
      go_wp2_with fail
      refine NoK.norm (hN _ _ ?_)
      clear hN K
      refine then_norm ?_
      refine wp_seq ?_
      refine wp_cond_true (rfl) ?_
      refine wp_skip ?_
      refine then_norm ?_
      refine wp_seq ?_
      refine wp_block ?_
      refine wp_seq ?_
      refine wp_r0 ?_
      intro K hN
      go_wp2_with fail
      refine NoK.norm (hN _ _ ?_)
      clear hN K
      refine then_norm ?_
      refine wp_r0 ?_
      intro K hN
      have r := hB.r
      simp only [BxR] at r
      have hcb := Hcl.out u hG
      go_wp2_with fail
      clear r
      generalize hu0 : World.setCell u _ _ = u0
      have hBG := hB.over hF hG 0 rfl k [_] hu0
      clear hB hG
      simp only [List.modify_succ_cons, List.modify_zero_cons, wrAll, G2.out] at hBG
      obtain ⟨hB, hG⟩ := hBG
      clear hu0
      obtain ⟨u, rfl⟩ : ∃ x, x = u0 := ⟨_, rfl⟩
      refine NoK.norm (hN _ _ ?_)
      clear hN K
      refine blk_norm ?_
      refine then_norm ?_
      refine wp_r0 ?_
      intro K hN
      go_wp2_with fail
      refine NoK.norm (hN _ _ ?_)
      clear hN K
      refine then_norm ?_
      go_roundw
      case rel => exact ⟨i + 1, by omega, by go_num, hB, hG⟩
      case measure => simp [intOf]; try omega
    · obtain rfl : n = i := by omega
      have hdec : decide ((n : Int) < (n : Int)) = false := by simp
      have hfb : ∀ W, Blk W b3 5 (cells8 (bytTo bs n)) → Calls Tryz.prog 141 #[.slice (some ⟨b3, 0, none⟩) n n] W fun e w' => e = .returned (natV V) ∧ Grow W w' := fun W hw => by
        have e : bytTo bs n = bs.reverse := by rw [← Hbl.out]; exact bytTo_all bs
        rw [e] at hw
        have := nat_FromBytes (some ⟨b3, 0, none⟩) bs.reverse n (fun x hx => Hbd.out x (List.mem_reverse.1 hx)) (by rw [List.length_reverse, Hbl.out]; omega) W (By.of hw)
        rw [List.length_reverse, Hbl.out, List.reverse_reverse, Hbv.out] at this
        exact this
      have Hfb := Lib.hid hfb
      clear hfb
      refine wp_seq ?_
      refine wp_r0 ?_
      intro K hN
      go_wp2_with fail
      refine NoK.norm (hN _ _ ?_)
      clear hN K
      refine then_norm ?_
      refine wp_seq ?_
      refine wp_cond_false (rfl) ?_
      refine wp_exit ?_
      refine then_exit ?_
      refine then_exit ?_
      refine blk_exit ?_
      refine then_norm ?_
      refine wp_seq ?_
      refine wp_rs (w := w) allocs 2 [0, 1] (by kernel_rfl) (by simp only [List.drop_succ_cons, List.drop_zero]; exact rfl) (fun _ => True) noG hB hG trivial ?_
      intro K L hN hL
      simp only [List.zip_cons_cons, List.zip_nil_left]
      apply gy
      · exact rfl
      · (rintro v - N hN; go_simp; exact hN)
      refine okf (by simp only [Act.put, List.setIfInBounds_toArray, List.set_cons_succ, List.set_cons_zero]; exact rfl) ?_
      apply gm
      · exact rfl
      · (rintro v ⟨hgu, hB, hG, -⟩ N hN; go_simp; ((with_reducible refine (Hfb.out _ hB.head).mono ?_); rintro e w1 ⟨rfl, hb⟩; exact ⟨_, rfl, hN _ hb⟩))
      refine okf (by simp only [Act.put, List.setIfInBounds_toArray, List.set_cons_succ, List.set_cons_zero]; exact rfl) ?_
      refine gend ?_
      rintro v ⟨hgu, hB1, hG1, -⟩
      clear hB hG
      have hB := hB1
      have hG := hG1
      clear hB1 hG1
      refine hL _ _ ?_
      clear hL L hgu
      obtain ⟨u, rfl⟩ : ∃ x, x = v := ⟨_, rfl⟩
      have r := hB.r
      simp only [BxR] at r
      go_wp2_with fail
      clear r
      generalize hu0 : World.setCell (World.setCell u _ _) _ _ = u0
      have hBG := hB.over hF hG 1 rfl 0 [_, _] hu0
      clear hB hG hu0
      simp only [List.modify_succ_cons, List.modify_zero_cons, wrAll, List.setIfInBounds_toArray, List.set_cons_zero, List.set_cons_succ, Nat.zero_add, Nat.reduceAdd] at hBG
      obtain ⟨hB, hG⟩ := hBG
      clear u
      obtain ⟨u, rfl⟩ : ∃ x, x = u0 := ⟨_, rfl⟩
      refine NoK.norm (hN _ _ ?_)
      clear hN K
      refine then_norm ?_
      refine wp_ret ?_
      refine ret_b rfl ?_
      intro N hN
      have r := hB.r
      simp only [BxR] at r
      simp only [results, Tryz.results164]
      go_simp
      refine hN _ ?_
      clear hN N r
      exact ⟨rfl, hG⟩
end Go.Proofs.YtimjnkfcnpfoeaaGreatDoor

/-
  nat.Shift to the left; what whole.binary keeps round for round.
-/
namespace Go.Proofs.YtimjnkfcnpfoeaaGreatDoor
open Go.RowKit
theorem shiftUp_Y (A : Option Addr) (l : List Nat) (c n V : Nat) (hd : Dig W64 l) (hm : l.length ≤ 17179869184) (hn : n ≤ 65536) (hV : V = val W64 l * 2 ^ n) (w : World) (hr : Rd w A l) :
    Calls Tryz.prog 189 #[.slice A l.length c, .int .i64 n] w (RetY (fun x : Nat × List Nat => .slice (some ⟨x.1, 0, none⟩) x.2.length x.2.length) (fun x W => Wrow W x.1 x.2 ∧ x.2.length ≤ 17179970000 ∧ Dig W64 x.2 ∧ val W64 x.2 = V) w) :=
  (nat_shiftUp A l c n hd (by omega) (by omega) w hr).mono fun e w' ⟨zs, he, h1, h2, h3, h4, h5⟩ => ⟨(_, zs), he, ⟨h1, by show zs.length ≤ _; omega, h3, h4.trans hV.symm⟩, h5⟩
set_option maxHeartbeats 1000000 in
set_option maxRecDepth 100000 in
theorem nat_Shift_up (a n : Nat) (ha : bl a ≤ 1099511627776) (hn : n ≤ 65536) (w : World) : Calls Tryz.prog 165 #[natV a, .int .i64 n] w fun e w' => e = .returned (natV (a * 2 ^ n)) ∧ Grow w w' := by
  obtain ⟨m, hm⟩ : ∃ m, m = (digs W64 a).length := ⟨_, rfl⟩
  have hml : m ≤ 17179869184 := by rw [hm]; exact digs_len (a := a) (k := 17179869184) (by omega)
  obtain ⟨V, hV⟩ : ∃ V, V = a * 2 ^ n := ⟨_, rfl⟩
  have hsh : ∀ (W : World) (A : Option Addr), Rd W A (digs W64 a) → Calls Tryz.prog 189 #[.slice A m m, .int .i64 n] W (RetY (fun x : Nat × List Nat => .slice (some ⟨x.1, 0, none⟩) x.2.length x.2.length) (fun x W => Wrow W x.1 x.2 ∧ x.2.length ≤ 17179970000 ∧ Dig W64 x.2 ∧ val W64 x.2 = V) W) := fun W A h => by
    have := shiftUp_Y A (digs W64 a) m n V (dig_digs W64_ge a) (by omega) hn (by rw [val_digs W64_ge]; exact hV) W h
    rw [← hm] at this
    exact this
  have hfw : ∀ (W : World) (x : Nat × List Nat), (Wrow W x.1 x.2 ∧ x.2.length ≤ 17179970000 ∧ Dig W64 x.2 ∧ val W64 x.2 = V) → Calls Tryz.prog 128 #[.slice (some ⟨x.1, 0, none⟩) x.2.length x.2.length] W fun e w' => e = .returned (natV V) ∧ Grow W w' := fun W x ⟨h1, h2, h3, h4⟩ => by
    have := nat_fromWords (some ⟨x.1, 0, none⟩) x.2 x.2.length W (fun _ => ⟨x.1, 0, rfl, h1.wds⟩) h3 (Nat.le_refl _) (by omega) (by omega)
    rw [h4] at this
    exact this
  rw [← hV]
  have Hw := Lib.hid (words_Y a ha m hm)
  have Hsh := Lib.hid hsh
  have Hfw := Lib.hid hfw
  have f1 : min (n : Int) 65536 = (n : Int) := by omega
  have f2 : max (-65536) (n : Int) = (n : Int) := by omega
  have f3 : decide ((n : Int) < 0) = false := by simp
  clear hsh hfw ha hm hV
  go_enter Tryz.func165, Tryz.ntmps165
  refine wp_seq (wp_r0 ?_)
  intro K hN
  go_wp2_with fail
  generalize hu : World.alloc (World.alloc w _) _ = u
  obtain ⟨hB, hG⟩ := bx_first [(_, _), (_, _)] w u hu
  have hF := fr_first w [(28, #[]), (28, #[])]
  simp only [numbered, List.map_cons, List.map_nil] at hB hF
  clear hu
  generalize w.heap.size + 1 = b4 at hB hF ⊢
  generalize w.heap.size = b2 at hB hF ⊢
  refine NoK.norm (hN _ _ ?_)
  clear hN K
  refine then_norm ?_
  refine wp_seq ?_
  refine wp_r0 ?_
  intro K hN
  go_wp2_with fail
  refine NoK.norm (hN _ _ ?_)
  clear hN K
  refine then_norm ?_
  refine wp_seq ?_
  refine wp_seq ?_
  refine wp_r0 ?_
  intro K hN
  go_wp2_with fail
  refine NoK.norm (hN _ _ ?_)
  clear hN K
  refine then_norm ?_
  refine wp_cond_false (rfl) ?_
  refine wp_skip ?_
  refine then_norm ?_
  refine wp_seq ?_
  refine wp_rs (w := w) allocs 5 [0, 1, 0, 1, 1] (by kernel_rfl) (by simp only [List.drop_succ_cons, List.drop_zero]; exact rfl) (fun _ => True) noG hB hG trivial ?_
  intro K L hN hL
  simp only [List.zip_cons_cons, List.zip_nil_left]
  apply gy
  · exact rfl
  · (rintro v ⟨hgu, hB, hG, -⟩ N hN; have r := hB.r; simp only [BxR] at r; go_simp; exact hN)
  refine okf (by simp only [Act.put, List.setIfInBounds_toArray, List.set_cons_succ, List.set_cons_zero]; exact rfl) ?_
  refine gx (Option Addr) (fun A => .slice A m m) (fun A W => Rd W A (digs W64 a)) (fun _ _ _ hg h => h.grow hg) rfl ?_ (fun x17 => ?_)
  · (rintro v ⟨hgu, hB, hG, -⟩ N hN; go_simp; ((with_reducible refine (Hw.out _).mono ?_); rintro e w1 ⟨x, rfl, hx, hg⟩; exact ⟨_, rfl, hN x w1 hx hg⟩))
  refine okf (by simp only [Act.put, List.setIfInBounds_toArray, List.set_cons_succ, List.set_cons_zero]; exact rfl) ?_
  apply gy
  · exact rfl
  · (rintro v - N hN; go_simp; exact hN)
  refine okf (by simp only [Act.put, List.setIfInBounds_toArray, List.set_cons_succ, List.set_cons_zero]; exact rfl) ?_
  refine gx (Nat × List Nat) (fun x => .slice (some ⟨x.1, 0, none⟩) x.2.length x.2.length) (fun x W => Wrow W x.1 x.2 ∧ x.2.length ≤ 17179970000 ∧ Dig W64 x.2 ∧ val W64 x.2 = V) (fun _ _ _ hg h => ⟨h.1.grow hg, h.2⟩) rfl ?_ (fun x19 => ?_)
  · (rintro v ⟨⟨hgu, hB, hG, -⟩, hx17⟩ N hN; go_simp; ((with_reducible refine (Hsh.out _ _ hx17).mono ?_); rintro e w1 ⟨x, rfl, hx, hg⟩; exact ⟨_, rfl, hN x w1 hx hg⟩))
  refine okf (by simp only [Act.put, List.setIfInBounds_toArray, List.set_cons_succ, List.set_cons_zero]; exact rfl) ?_
  apply gm
  · exact rfl
  · (rintro v ⟨⟨⟨hgu, hB, hG, -⟩, hx17⟩, hx19⟩ N hN; go_simp; ((with_reducible refine (Hfw.out _ x19 hx19).mono ?_); rintro e w1 ⟨rfl, hb⟩; exact ⟨_, rfl, hN _ hb⟩))
  refine okf (by simp only [Act.put, List.setIfInBounds_toArray, List.set_cons_succ, List.set_cons_zero]; exact rfl) ?_
  refine gend ?_
  rintro v ⟨⟨⟨hgu, hB1, hG1, -⟩, hx17⟩, hx19⟩
  clear hx17 hx19
  clear hB hG
  have hB := hB1
  have hG := hG1
  clear hB1 hG1
  refine hL _ _ ?_
  clear hL L hgu
  obtain ⟨u, rfl⟩ : ∃ x, x = v := ⟨_, rfl⟩
  have r := hB.r
  simp only [BxR] at r
  go_wp2_with fail
  clear r
  generalize hu0 : World.setCell (World.setCell u _ _) _ _ = u0
  have hBG := hB.over hF hG 1 rfl 0 [_, _] hu0
  clear hB hG hu0
  simp only [List.modify_succ_cons, List.modify_zero_cons, wrAll, List.setIfInBounds_toArray, List.set_cons_zero, List.set_cons_succ, Nat.zero_add, Nat.reduceAdd] at hBG
  obtain ⟨hB, hG⟩ := hBG
  clear u
  obtain ⟨u, rfl⟩ : ∃ x, x = u0 := ⟨_, rfl⟩
  refine NoK.norm (hN _ _ ?_)
  clear hN K
  refine then_norm ?_
  refine wp_ret ?_
  refine ret_b rfl ?_
  intro N hN
  have r := hB.r
  simp only [BxR] at r
  simp only [results, Tryz.results165]
  go_simp
  refine hN _ ?_
  clear hN N r
  exact ⟨rfl, hG⟩
/-- the two numbers of whole.binary, in words -/
structure BinI (u wr : World) (bv ov cv : Nat) (lv : List Nat) (bw ow cw : Nat) (lw : List Nat) (g : Nat) : Prop where
  wv : Wds wr bv ov lv
  ww : Wds wr bw ow lw
  ne : bv ≠ bw
  uv : u.heap.size ≤ bv
  uw : u.heap.size ≤ bw
  dv : Dig W64 lv
  dw : Dig W64 lw
  tv : Tight lv
  tw : Tight lw
  av : val W64 lv % 2 = 1
  aw : val W64 lw % 2 = 1
  gc : Nat.gcd (val W64 lv) (val W64 lw) = g
  sv : lv.length ≤ cv
  sw : lw.length ≤ cw
  mv : cv ≤ 17179869180
  mw : cw ≤ 17179869180
  gr : Grow u wr
theorem BinI.swap {u wr : World} {bv ov cv : Nat} {lv : List Nat} {bw ow cw : Nat} {lw : List Nat} {g : Nat} (h : BinI u wr bv ov cv lv bw ow cw lw g) : BinI u wr bw ow cw lw bv ov cv lv g :=
  ⟨h.ww, h.wv, h.ne.symm, h.uw, h.uv, h.dw, h.dv, h.tw, h.tv, h.aw, h.av, by rw [Nat.gcd_comm]; exact h.gc, h.sw, h.sv, h.mw, h.mv, h.gr⟩
theorem BinI.cmp {u wr : World} {bv ov cv : Nat} {lv : List Nat} {bw ow cw : Nat} {lw : List Nat} {g : Nat} (h : BinI u wr bv ov cv lv bw ow cw lw g) (W : World) (hg : Grow wr W) :
    Calls Tryz.prog 162 #[.slice (some ⟨bv, ov, none⟩) lv.length cv, .slice (some ⟨bw, ow, none⟩) lw.length cw] W fun e w' => e = .returned (.int .i64 (cmpN (val W64 lv) (val W64 lw))) ∧ Grow W w' :=
  whole_compare bv ov bw ow lv lw cv cw W (h.wv.grow hg) (h.ww.grow hg) h.dv h.dw h.tv h.tw (by have := h.sv; have := h.mv; omega)
theorem trim_wds {w : World} {b o : Nat} {zs : List Nat} (h : Wds w b o zs) : Wds w b o (trimL zs) := by rw [trimL_eq_take]; exact h.take _
/-- down, trimmed -/
theorem down_trim (b off : Nat) (l : List Nat) (c : Nat) (w0 w : World) (h : Wds w b off l) (hd : Dig W64 l) (hv : val W64 l ≠ 0) (hc : l.length ≤ c) (hcm : c ≤ 17179869180) (hT : Tab w0) (hg0 : Grow w0 w) (hb0 : w0.heap.size ≤ b) :
    Calls Tryz.prog 161 #[.slice (some ⟨b, off, none⟩) l.length c] w fun e w' => ∃ (o' c' : Nat) (zs : List Nat), e = .returned (.slice (some ⟨b, o', none⟩) zs.length c') ∧ (Wds w' b o' zs ∧ Dig W64 zs ∧ Tight zs ∧ zs.length ≤ c' ∧ c' ≤ 17179869180 ∧ (∃ z, Tz (val W64 l) z ∧ val W64 l = 2 ^ z * val W64 zs) ∧ val W64 zs % 2 = 1 ∧ Oth b w w') ∧ Grow w0 w' :=
  (whole_down b off l c w0 w h hd hv (by omega) hc (by omega) hT hg0 hb0).mono fun e w' ⟨o', c', zs, he, ⟨k1, k2, k3, k4, k5, k6, k7, k8⟩, k9⟩ =>
    ⟨o', c', trimL zs, he, ⟨trim_wds k1, dig_trimL k2, tight_trimL zs, Nat.le_trans (trimL_le zs) k4, by omega, by rw [val_trimL]; exact k6, by rw [val_trimL]; exact k7, k8⟩, k9⟩
/-- behind subtract -/
def SubR (u : World) (bv ov cv : Nat) (lv : List Nat) (bw ow : Nat) (lw : List Nat) (w' : World) (zs : List Nat) : Prop :=
  Wds w' bv ov zs ∧ Dig W64 zs ∧ zs.length ≤ cv ∧ val W64 zs = val W64 lv - val W64 lw ∧ Wds w' bw ow lw ∧ Grow u w'
theorem BinI.sub {u wr : World} {bv ov cv : Nat} {lv : List Nat} {bw ow cw : Nat} {lw : List Nat} {g : Nat} (h : BinI u wr bv ov cv lv bw ow cw lw g) (hlt : val W64 lw < val W64 lv) :
    Calls Tryz.prog 163 #[.slice (some ⟨bv, ov, none⟩) lv.length cv, .slice (some ⟨bw, ow, none⟩) lw.length cw] wr fun e w' => ∃ zs : List Nat, e = .returned (.slice (some ⟨bv, ov, none⟩) zs.length cv) ∧ SubR u bv ov cv lv bw ow lw w' zs := by
  have hl : lw.length ≤ lv.length := by
    rcases Nat.lt_or_ge lv.length lw.length with h1 | h1
    · have := val_lt_len W64_ge h.dv h.tw h.dw h1; omega
    · exact h1
  have h1 := h.sv
  have h2 := h.mv
  exact (whole_subtract bv ov bw ow lv lw cv cw u wr h.wv h.ww h.ne h.dv h.dw hl (Nat.le_of_lt hlt) (by omega) h.sv (by omega) h.gr h.uv).mono fun e w' ⟨zs, he, ⟨k1, k2, k3, k4, k5⟩, k6⟩ =>
    ⟨trimL zs, he, trim_wds k1, dig_trimL k3, Nat.le_trans (trimL_le zs) (by omega), by rw [val_trimL]; exact k4, k5, k6⟩
theorem BinI.down {u wr : World} {bv ov cv : Nat} {lv : List Nat} {bw ow cw : Nat} {lw : List Nat} {g : Nat} (h : BinI u wr bv ov cv lv bw ow cw lw g) (hlt : val W64 lw < val W64 lv) (hT : Tab u) (w' : World) (zs : List Nat) (hs : SubR u bv ov cv lv bw ow lw w' zs) :
    Calls Tryz.prog 161 #[.slice (some ⟨bv, ov, none⟩) zs.length cv] w' fun e w'' => ∃ (o' c' : Nat) (z2 : List Nat), e = .returned (.slice (some ⟨bv, o', none⟩) z2.length c') ∧ BinI u w'' bv o' c' z2 bw ow cw lw g ∧ val W64 z2 < val W64 lv := by
  obtain ⟨k1, k2, k3, k4, k5, k6⟩ := hs
  have hv0 : val W64 zs ≠ 0 := by omega
  refine (down_trim bv ov zs cv u w' k1 k2 hv0 k3 h.mv hT k6 h.uv).mono fun e w'' ⟨o', c', z2, he, ⟨d1, d2, d3, d4, d5, ⟨z, d6, d7⟩, d8, d9⟩, d10⟩ => ⟨o', c', z2, he, ⟨d1, d9 _ _ _ h.ne.symm k5, h.ne, h.uv, h.uw, d2, h.dw, d3, h.tw, d8, h.aw, ?_, d4, h.sw, d5, h.mw, d10⟩, ?_⟩
  · exact gcd_half h.aw hlt (by rw [← k4]; exact d7) h.gc
  · have hp := Nat.two_pow_pos z
    have h1 : val W64 z2 ≤ val W64 zs := by rw [d7]; exact Nat.le_mul_of_pos_left _ hp
    have h2 : 0 < val W64 lw := by have := h.aw; omega
    omega
end Go.Proofs.YtimjnkfcnpfoeaaGreatDoor

/-
  whole.binary: the greatest common divisor by subtractions and halves.
-/
namespace Go.Proofs.YtimjnkfcnpfoeaaGreatDoor
open Go.RowKit
/-- behind the first two calls -/
structure BinS (u wr : World) (b1 : Nat) (z1 : List Nat) (b2 : Nat) (z2 : List Nat) (x y : Nat) : Prop where
  w1 : Wds wr b1 0 z1
  w2 : Wds wr b2 0 z2
  ne : b1 ≠ b2
  u1 : u.heap.size ≤ b1
  u2 : u.heap.size ≤ b2
  d1 : Dig W64 z1
  d2 : Dig W64 z2
  v1 : val W64 z1 = x
  v2 : val W64 z2 = y
  s1 : z1.length ≤ 17179869180
  s2 : z2.length ≤ 17179869180
  gr : Grow u wr
theorem BinS.down1 {u wr : World} {b1 b2 x y : Nat} {z1 z2 : List Nat} (h : BinS u wr b1 z1 b2 z2 x y) (hT : Tab u) (hx : x ≠ 0) :
    Calls Tryz.prog 161 #[.slice (some ⟨b1, 0, none⟩) z1.length z1.length] wr fun e w' => ∃ (o' c' : Nat) (zs : List Nat), e = .returned (.slice (some ⟨b1, o', none⟩) zs.length c') ∧ (Wds w' b1 o' zs ∧ Dig W64 zs ∧ Tight zs ∧ zs.length ≤ c' ∧ c' ≤ 17179869180 ∧ (∃ z, Tz (val W64 z1) z ∧ val W64 z1 = 2 ^ z * val W64 zs) ∧ val W64 zs % 2 = 1 ∧ Oth b1 wr w') ∧ Grow u w' :=
  down_trim b1 0 z1 z1.length u wr h.w1 h.d1 (by rw [h.v1]; exact hx) (Nat.le_refl _) h.s1 hT h.gr h.u1
theorem BinS.down2 {u wr : World} {b1 b2 x y a b : Nat} {z1 z2 : List Nat} (h : BinS u wr b1 z1 b2 z2 x y) (hT : Tab u) (hy : y ≠ 0) (ha : Tz x a) (hb : Tz y b) (o1 c1 : Nat) (l1 : List Nat) (w' : World)
    (hd : (Wds w' b1 o1 l1 ∧ Dig W64 l1 ∧ Tight l1 ∧ l1.length ≤ c1 ∧ c1 ≤ 17179869180 ∧ (∃ z, Tz (val W64 z1) z ∧ val W64 z1 = 2 ^ z * val W64 l1) ∧ val W64 l1 % 2 = 1 ∧ Oth b1 wr w') ∧ Grow u w') :
    Calls Tryz.prog 161 #[.slice (some ⟨b2, 0, none⟩) z2.length z2.length] w' fun e w'' => ∃ (o2 c2 : Nat) (l2 : List Nat) (g : Nat), e = .returned (.slice (some ⟨b2, o2, none⟩) l2.length c2) ∧ BinI u w'' b1 o1 c1 l1 b2 o2 c2 l2 g ∧ Nat.gcd x y = 2 ^ min a b * g := by
  obtain ⟨⟨k1, k2, k3, k4, k5, ⟨z, k6, k7⟩, k8, k9⟩, k10⟩ := hd
  refine (down_trim b2 0 z2 z2.length u w' (k9 _ _ _ h.ne.symm h.w2) h.d2 (by rw [h.v2]; exact hy) (Nat.le_refl _) h.s2 hT k10 h.u2).mono fun e w'' ⟨o2, c2, l2, he, ⟨d1, d2, d3, d4, d5, ⟨t, d6, d7⟩, d8, d9⟩, d10⟩ =>
    ⟨o2, c2, l2, Nat.gcd (val W64 l1) (val W64 l2), he, ⟨d9 _ _ _ h.ne k1, d1, h.ne, h.u1, h.u2, k2, d2, k3, d3, k8, d8, rfl, k4, d4, k5, d5, d10⟩, ?_⟩
  rw [h.v1] at k6 k7
  rw [h.v2] at d6 d7
  rw [ha.inj k6, hb.inj d6]
  exact gcd_twos k7 d7 k8 d8
theorem two_pow_le_of_gcd {x y a g : Nat} (h : Nat.gcd x y = 2 ^ a * g) (hx : x ≠ 0) (d : Nat) (hd : d ≤ a) : bl (g * 2 ^ d) ≤ bl x := by
  refine bl_mono ?_
  have h1 := Nat.gcd_le_left y (Nat.pos_of_ne_zero hx)
  have h2 : g * 2 ^ d ≤ g * 2 ^ a := Nat.mul_le_mul_left _ (Nat.pow_le_pow_right (by omega) hd)
  rw [h, Nat.mul_comm] at h1
  omega
theorem pow_lt_bl {x y a g : Nat} (h : Nat.gcd x y = 2 ^ a * g) (hx : x ≠ 0) : a < bl x := by
  have h1 := Nat.gcd_le_left y (Nat.pos_of_ne_zero hx)
  have h2 : Nat.gcd x y ≠ 0 := fun h0 => hx (Nat.eq_zero_of_gcd_eq_zero_left h0)
  rw [h] at h1 h2
  have h3 : g ≠ 0 := fun h0 => h2 (by rw [h0, Nat.mul_zero])
  exact bl_lt.2 (Nat.le_trans (Nat.le_mul_of_pos_right _ (Nat.pos_of_ne_zero h3)) h1)
theorem Grow.sz {w w' : World} (h : Grow w w') : w.heap.size ≤ w'.heap.size := Below.size h
theorem BinI.grow {u wr W : World} {bv ov cv : Nat} {lv : List Nat} {bw ow cw : Nat} {lw : List Nat} {g : Nat} (h : BinI u wr bv ov cv lv bw ow cw lw g) (hg : Grow wr W) : BinI u W bv ov cv lv bw ow cw lw g :=
  ⟨h.wv.grow hg, h.ww.grow hg, h.ne, h.uv, h.uw, h.dv, h.dw, h.tv, h.tw, h.av, h.aw, h.gc, h.sv, h.sw, h.mv, h.mw, h.gr.trans hg⟩
abbrev WL := Nat × List Nat
abbrev wlV (x : WL) : Value := .slice (some ⟨x.1, 0, none⟩) x.2.length x.2.length
def WLT (B a : Nat) (x : WL) (W : World) : Prop := B ≤ x.1 ∧ Wrow W x.1 x.2 ∧ Dig W64 x.2 ∧ val W64 x.2 = a ∧ x.2.length ≤ 17179869180
theorem WLT.grow {B a : Nat} {x : WL} {W W' : World} (hg : Grow W W') (h : WLT B a x W) : WLT B a x W' := ⟨h.1, h.2.1.grow hg, h.2.2⟩
theorem WLT.sz {B a : Nat} {x : WL} {W : World} (h : WLT B a x W) : x.1 + 1 ≤ W.heap.size := h.2.1.lt
theorem words_B (a : Nat) (ha : bl a ≤ 1099511627520) (B : Nat) (w : World) (hB : B ≤ w.heap.size) : Calls Tryz.prog 159 #[natV a] w (RetY (fun x : WL => wlV x) (WLT B a) w) :=
  (whole_words a ha w).mono fun e w' ⟨b, zs, he, ⟨h1, h2, h3, h4, h5⟩, hg⟩ => ⟨(b, zs), he, ⟨Nat.le_trans hB h1, h2, h3, h4, h5⟩, hg⟩
set_option maxHeartbeats 4000000 in
set_option maxRecDepth 100000 in
theorem whole_binary (x y : Nat) (hx : x ≠ 0) (hy : y ≠ 0) (hbx : bl x ≤ 1099511627520) (hby : bl y ≤ 1099511627520) (w : World) (hT : Tab w) :
    Calls Tryz.prog 126 #[natV x, natV y] w fun e w' => e = .returned (natV (Nat.gcd x y)) ∧ Grow w w' := by
  have Hw1 := Lib.hid (words_B x hbx)
  have Hw2 := Lib.hid (words_B y hby)
  have HT := Lib.hid hT
  have Hx := Lib.hid hx
  have Hy := Lib.hid hy
  have Hbx := Lib.hid hbx
  clear hT hx hy hbx hby
  go_enter Tryz.func126, Tryz.ntmps126
  refine wp_seq (wp_r0 ?_)
  intro K hN
  go_wp2_with fail
  generalize hu : World.alloc (World.alloc (World.alloc w _) _) _ = u
  obtain ⟨hB, hG⟩ := bx_first [(_, _), (_, _), (_, _)] w u hu
  have hF := fr_first w [(28, #[]), (28, #[]), (28, #[])]
  simp only [numbered, List.map_cons, List.map_nil] at hB hF
  clear hu
  generalize w.heap.size + 1 + 1 = b4 at hB hF ⊢
  generalize w.heap.size + 1 = b3 at hB hF ⊢
  generalize w.heap.size = b2 at hB hF ⊢
  refine NoK.norm (hN _ _ ?_)
  clear hN K
  refine then_norm ?_
  refine wp_seq ?_
  obtain ⟨u0, hu0⟩ : ∃ x, x = u := ⟨_, rfl⟩
  have hB0 : Bx u0 _ := hu0 ▸ hB
  have hG0 : Grow w u0 := hu0 ▸ hG
  have hgu0 : Grow u0 u := hu0 ▸ Grow.refl u
  clear hu0
  refine wp_rd (w := w) allocs 5 [] [(0, 0), (0, 2), (1, 1), (1, 3), (0, 4)] (by kernel_rfl) (by kernel_rfl) (by simp only [List.drop_succ_cons, List.drop_zero]; exact rfl) (fun _ => True) noG hB hG trivial ?_
  intro K L hN hL
  simp only [pickOps, List.getElem?_toArray, List.getElem?_cons_zero, List.getElem?_cons_succ]
  apply gy
  · exact rfl
  · (rintro v ⟨hgu, hB, hG, -⟩ N hN; have r := hB.r; simp only [BxR] at r; go_simp; exact hN)
  refine okf (by simp only [Act.put, List.setIfInBounds_toArray, List.set_cons_succ, List.set_cons_zero]; exact rfl) ?_
  apply gy
  · exact rfl
  · (rintro v ⟨hgu, hB, hG, -⟩ N hN; have r := hB.r; simp only [BxR] at r; go_simp; exact hN)
  refine okf (by simp only [Act.put, List.setIfInBounds_toArray, List.set_cons_succ, List.set_cons_zero]; exact rfl) ?_
  refine gx (WL) (fun x => wlV x) (WLT u0.heap.size x) (fun _ _ _ hg h => h.grow hg) rfl ?_ (fun x11 => ?_)
  · (rintro v ⟨hgu, hB, hG, -⟩ N hN; go_simp; ((with_reducible refine (Hw1.out _ _ (hgu0.trans hgu).sz).mono ?_); rintro e w1 ⟨x, rfl, hx, hg⟩; exact ⟨_, rfl, hN x w1 hx hg⟩))
  refine okf (by simp only [Act.put, List.setIfInBounds_toArray, List.set_cons_succ, List.set_cons_zero]; exact rfl) ?_
  refine gx (WL) (fun x => wlV x) (WLT (x11.1 + 1) y) (fun _ _ _ hg h => h.grow hg) rfl ?_ (fun x13 => ?_)
  · (rintro v ⟨⟨hgu, hB, hG, -⟩, hx11⟩ N hN; go_simp; ((with_reducible refine (Hw2.out _ _ hx11.sz).mono ?_); rintro e w1 ⟨x, rfl, hx, hg⟩; exact ⟨_, rfl, hN x w1 hx hg⟩))
  refine okf (by simp only [Act.put, List.setIfInBounds_toArray, List.set_cons_succ, List.set_cons_zero]; exact rfl) ?_
  apply gy
  · exact rfl
  · (rintro v - N hN; go_simp; exact hN)
  refine okf (by simp only [Act.put, List.setIfInBounds_toArray, List.set_cons_succ, List.set_cons_zero]; exact rfl) ?_
  refine gend ?_
  rintro v ⟨⟨⟨hgu, hB1, hG1, -⟩, hx11⟩, hx13⟩
  have hgr := hgu0.trans hgu
  clear hgu0
  clear hB hG
  have hB := hB1
  have hG := hG1
  clear hB1 hG1
  refine hL _ _ ?_
  clear hL L hgu
  obtain ⟨u, rfl⟩ : ∃ x, x = v := ⟨_, rfl⟩
  go_wp2_with fail
  refine NoK.norm (hN _ _ ?_)
  clear hN K
  obtain ⟨b11, z1⟩ := x11
  obtain ⟨b13, z2⟩ := x13
  have hS : BinS u0 u b11 z1 b13 z2 x y := by
    obtain ⟨p1, p2, p3, p4, p5⟩ := hx11
    obtain ⟨q1, q2, q3, q4, q5⟩ := hx13
    simp only at p1 p2 p3 p4 p5 q1 q2 q3 q4 q5
    exact ⟨p2.wds, q2.wds, by omega, p1, by omega, p3, q3, p4, q4, p5, q5, hgr⟩
  have HS := Lib.hid hS
  have HB0 := Lib.hid hB0
  have HG0 := Lib.hid hG0
  have hz1 := whole_zeros b11 0 z1 z1.length hS.d1 (by rw [hS.v1]; exact Hx.out) (by have := hS.s1; omega) u hS.w1 (HT.out.grow hG)
  have hz2 := whole_zeros b13 0 z2 z2.length hS.d2 (by rw [hS.v2]; exact Hy.out) (by have := hS.s2; omega) u hS.w2 (HT.out.grow hG)
  rw [hS.v1] at hz1
  rw [hS.v2] at hz2
  have Hz1 := Lib.hid hz1
  have Hz2 := Lib.hid hz2
  clear hS hB0 hG0 hz1 hz2 hx11 hx13 hgr
  simp only [wlV]
  refine then_norm ?_
  refine wp_seq ?_
  refine wp_r0 ?_
  intro K hN
  go_wp2_with (first
    | (go_at_call_of 160 b11; ((with_reducible refine (Hz1.out).mono ?_); rintro e wz ⟨a, rfl, ha, -, hwz⟩; have hwz := hwz.symm; subst hwz; have Ha := Lib.hid ha; clear ha))
    | (go_at_call_of 160 b13; ((with_reducible refine (Hz2.out).mono ?_); rintro e wz ⟨b, rfl, hb, -, hwz⟩; have hwz := hwz.symm; subst hwz; have Hb := Lib.hid hb; clear hb; obtain ⟨t, ht⟩ : ∃ t : Nat, t = min a b := ⟨_, rfl⟩; have hmin : min (a : Int) (b : Int) = (t : Int) := (by omega); have Ht := Lib.hid ht; clear ht)))
  refine NoK.norm (hN _ _ ?_)
  clear hN K hmin
  have Hd1 := Lib.hid (HS.out.down1 (HT.out.grow HG0.out) Hx.out)
  have Hd2 := Lib.hid (HS.out.down2 (HT.out.grow HG0.out) Hy.out Ha.out Hb.out)
  clear Hz1 Hz2 HS
  refine then_norm ?_
  refine wp_seq ?_
  refine wp_r0 ?_
  intro K hN
  go_wp2_with (first
    | (go_at_call_of 161 b11; ((with_reducible refine (Hd1.out).mono ?_); rintro e wd ⟨o1, c1, l1, rfl, hd⟩; have Hdd := Lib.hid hd; clear hd))
    | (go_at_call_of 161 b13; ((with_reducible refine (Hd2.out o1 c1 l1 wd Hdd.out).mono ?_); rintro e we ⟨o2, c2, l2, g, rfl, hI, hgc⟩; have HI := Lib.hid hI; have Hgc := Lib.hid hgc; clear hI hgc)))
  refine NoK.norm (hN _ _ ?_)
  clear hN K Hd1 Hd2 Hdd hB hG
  rw [← Ht.out] at Hgc
  refine then_norm ?_
  refine wp_seq ?_
  refine wp_block ?_
  go_loopg [5, 6] (val W64 l1 + val W64 l2) (fun k s5 s6 wr => ∃ (bv ov cv : Nat) (lv : List Nat) (bw ow cw : Nat) (lw : List Nat), s5 = .slice (some ⟨bv, ov, none⟩) lv.length cv ∧ s6 = .slice (some ⟨bw, ow, none⟩) lw.length cw ∧ BinI u0 wr bv ov cv lv bw ow cw lw g ∧ k = val W64 lv + val W64 lw)
  case atStart => exact ⟨b11, o1, c1, l1, b13, o2, c2, l2, rfl, rfl, HI.out, rfl⟩
  case round =>
    clear HI
    obtain ⟨bv, ov, cv, lv, bw, ow, cw, lw, rfl, rfl, hI, hgk⟩ := hrel
    obtain ⟨u, rfl⟩ : ∃ x, x = wr := ⟨_, rfl⟩
    have hB := HB0.out.grow hI.gr
    have hG := HG0.out.trans hI.gr
    have HI := Lib.hid hI
    have Hgk := Lib.hid hgk
    clear hI hgk
    rcases Nat.lt_trichotomy (val W64 lv) (val W64 lw) with hlt | heq | hgt
    · have hcm := HI.out.cmp
      rw [cmpN_lt hlt] at hcm
      have Hcm := Lib.hid hcm
      have Hsub := Lib.hid (fun W hg => (HI.out.swap.grow (W := W) hg).sub hlt)
      have Hdn := Lib.hid (HI.out.swap.down hlt (HT.out.grow HG0.out))
      clear hcm
      refine wp_block ?_
      refine wp_seq ?_
      refine wp_rs (w := w) allocs 4 [0, 0, 1, 0] (by kernel_rfl) (by simp only [List.drop_succ_cons, List.drop_nil]; exact rfl) (fun _ => True) noG hB hG trivial ?_
      intro K L hN hL
      simp only [List.zip_cons_cons, List.zip_nil_left]
      apply gy
      · exact rfl
      · (rintro v - N hN; go_simp; exact hN)
      refine okf (by simp only [Act.put, List.setIfInBounds_toArray, List.set_cons_succ, List.set_cons_zero]; exact rfl) ?_
      apply gy
      · exact rfl
      · (rintro v - N hN; go_simp; exact hN)
      refine okf (by simp only [Act.put, List.setIfInBounds_toArray, List.set_cons_succ, List.set_cons_zero]; exact rfl) ?_
      apply gm
      · exact rfl
      · (rintro v ⟨hgu, hB, hG, -⟩ N hN; go_simp; ((with_reducible refine (Hcm.out _ hgu).mono ?_); rintro e w1 ⟨rfl, hb⟩; exact ⟨_, rfl, hN _ hb⟩))
      refine okf (by simp only [Act.put, List.setIfInBounds_toArray, List.set_cons_succ, List.set_cons_zero]; exact rfl) ?_
      apply gy
      · exact rfl
      · (rintro v - N hN; go_simp; exact hN)
      refine okf (by simp only [Act.put, List.setIfInBounds_toArray, List.set_cons_succ, List.set_cons_zero]; exact rfl) ?_
      refine gend ?_
      rintro v ⟨hgu, hB1, hG1, -⟩
      have hgc := hgu
      clear hB hG
      have hB := hB1
      have hG := hG1
      clear hB1 hG1
      refine hL _ _ ?_
      clear hL L hgu
      obtain ⟨u, rfl⟩ : ∃ x, x = v := ⟨_, rfl⟩
      refine wpList_nil ?_
      refine NoK.norm (hN _ _ ?_)
      clear hN K
      refine then_norm ?_
      refine wp_seq ?_
      refine wp_seq ?_
      refine wp_r0 ?_
      intro K hN
      go_wp2_with fail
      refine NoK.norm (hN _ _ ?_)
      clear hN K
      refine then_norm ?_
      refine wp_cond_false (rfl) ?_
      refine wp_skip ?_
      refine then_norm ?_
      refine wp_seq ?_
      refine wp_seq ?_
      refine wp_r0 ?_
      intro K hN
      go_wp2_with fail
      refine NoK.norm (hN _ _ ?_)
      clear hN K
      refine then_norm ?_
      refine wp_cond_true (rfl) ?_
      refine wp_r0 ?_
      intro K hN
      go_wp2_with fail
      refine NoK.norm (hN _ _ ?_)
      clear hN K
      refine then_norm ?_
      refine wp_r0 ?_
      intro K hN
      go_wp2_with (first
        | (go_at_call 163; ((with_reducible refine (Hsub.out _ hgc).mono ?_); rintro e ws ⟨zs, rfl, hs⟩; have Hs := Lib.hid hs; clear hs))
        | (go_at_call 161; ((with_reducible refine (Hdn.out ws zs Hs.out).mono ?_); rintro e wt ⟨o3, c3, z3, rfl, hI2, hlt2⟩; have HI2 := Lib.hid hI2; clear hI2)))
      refine NoK.norm (hN _ _ ?_)
      clear hN K
      refine blk_norm ?_
      refine then_norm ?_
      go_step
      go_roundg (val W64 z3 + val W64 lv)
      case measure => rw [Hgk.out]; omega
      case rel => exact ⟨bw, o3, c3, z3, bv, ov, cv, lv, rfl, rfl, HI2.out, rfl⟩
    · have hcm := HI.out.cmp
      rw [cmpN_eq heq] at hcm
      have Hcm := Lib.hid hcm
      have hgv : g = val W64 lv := by rw [← HI.out.gc, ← heq, Nat.gcd_self]
      have hnum : ∀ W, Grow u W → Calls Tryz.prog 164 #[.slice (some ⟨bv, ov, none⟩) lv.length cv] W fun e w' => e = .returned (natV g) ∧ Grow W w' := fun W hg => by
        rw [hgv]
        exact whole_number bv ov lv cv HI.out.dv (by have := HI.out.sv; have := HI.out.mv; omega) W (HI.out.wv.grow hg)
      have Hnum := Lib.hid hnum
      clear hcm hgv hnum heq
      refine wp_block ?_
      refine wp_seq ?_
      refine wp_rs (w := w) allocs 4 [0, 0, 1, 0] (by kernel_rfl) (by simp only [List.drop_succ_cons, List.drop_nil]; exact rfl) (fun _ => True) noG hB hG trivial ?_
      intro K L hN hL
      simp only [List.zip_cons_cons, List.zip_nil_left]
      apply gy
      · exact rfl
      · (rintro v - N hN; go_simp; exact hN)
      refine okf (by simp only [Act.put, List.setIfInBounds_toArray, List.set_cons_succ, List.set_cons_zero]; exact rfl) ?_
      apply gy
      · exact rfl
      · (rintro v - N hN; go_simp; exact hN)
      refine okf (by simp only [Act.put, List.setIfInBounds_toArray, List.set_cons_succ, List.set_cons_zero]; exact rfl) ?_
      apply gm
      · exact rfl
      · (rintro v ⟨hgu, hB, hG, -⟩ N hN; go_simp; ((with_reducible refine (Hcm.out _ hgu).mono ?_); rintro e w1 ⟨rfl, hb⟩; exact ⟨_, rfl, hN _ hb⟩))
      refine okf (by simp only [Act.put, List.setIfInBounds_toArray, List.set_cons_succ, List.set_cons_zero]; exact rfl) ?_
      apply gy
      · exact rfl
      · (rintro v - N hN; go_simp; exact hN)
      refine okf (by simp only [Act.put, List.setIfInBounds_toArray, List.set_cons_succ, List.set_cons_zero]; exact rfl) ?_
      refine gend ?_
      rintro v ⟨hgu, hB1, hG1, -⟩
      have hgc := hgu
      clear hB hG
      have hB := hB1
      have hG := hG1
      clear hB1 hG1
      refine hL _ _ ?_
      clear hL L hgu
      obtain ⟨u, rfl⟩ : ∃ x, x = v := ⟨_, rfl⟩
      refine wpList_nil ?_
      refine NoK.norm (hN _ _ ?_)
      clear hN K
      refine then_norm ?_
      refine wp_seq ?_
      refine wp_seq ?_
      refine wp_r0 ?_
      intro K hN
      go_wp2_with fail
      refine NoK.norm (hN _ _ ?_)
      clear hN K
      refine then_norm ?_
      refine wp_cond_true (rfl) ?_
      refine wp_exit ?_
      refine then_exit ?_
      refine blk_pass (by decide) ?_
      refine then_exit ?_
      refine blk_exit ?_
      refine then_norm ?_
      refine wp_seq ?_
      refine wp_rs (w := w) allocs 3 [0, 1, 2] (by kernel_rfl) (by simp only [List.drop_succ_cons, List.drop_zero]; exact rfl) (fun _ => True) noG hB hG trivial ?_
      intro K L hN hL
      simp only [List.zip_cons_cons, List.zip_nil_left]
      apply gy
      · exact rfl
      · (rintro v - N hN; go_simp; exact hN)
      refine okf (by simp only [Act.put, List.setIfInBounds_toArray, List.set_cons_succ, List.set_cons_zero]; exact rfl) ?_
      apply gm
      · exact rfl
      · (rintro v ⟨hgu, hB, hG, -⟩ N hN; go_simp; ((with_reducible refine (Hnum.out _ (hgc.trans hgu)).mono ?_); rintro e w1 ⟨rfl, hb⟩; exact ⟨_, rfl, hN _ hb⟩))
      refine okf (by simp only [Act.put, List.setIfInBounds_toArray, List.set_cons_succ, List.set_cons_zero]; exact rfl) ?_
      refine ga (newObj_Nat _ _ _ _ _) fun b9 hb9 hn9 => ?_
      refine okf (by simp only [Act.put, List.setIfInBounds_toArray, List.set_cons_succ, List.set_cons_zero]; exact rfl) ?_
      refine gend ?_
      rintro v ⟨⟨hgu, hB1, hG1, -⟩, h9⟩
      have hF := Fr.new (tk := []) hF hB hG hb9 hn9
      simp only [List.cons_append, List.nil_append, List.map_cons, List.map_nil] at hF
      clear hgc Hcm
      clear hB hG
      have hB := (Bx.cons h9 hB1)
      have hG := hG1
      clear hB1 hG1 h9
      refine hL _ _ ?_
      clear hL L hgu
      obtain ⟨u, rfl⟩ : ∃ x, x = v := ⟨_, rfl⟩
      have r := hB.r
      simp only [BxR] at r
      go_wp2_with fail
      clear r
      generalize hu0 : World.setCell (World.setCell u _ _) _ _ = u0
      have hBG := hB.over hF hG 0 rfl 0 [_, _] hu0
      clear hB hG hu0
      simp only [List.modify_succ_cons, List.modify_zero_cons, wrAll, List.setIfInBounds_toArray, List.set_cons_zero, List.set_cons_succ, Nat.zero_add, Nat.reduceAdd] at hBG
      obtain ⟨hB, hG⟩ := hBG
      clear u
      obtain ⟨u, rfl⟩ : ∃ x, x = u0 := ⟨_, rfl⟩
      refine NoK.norm (hN _ _ ?_)
      clear hN K
      refine then_norm ?_
      refine wp_seq ?_
      refine wp_block ?_
      have htl := pow_lt_bl Hgc.out Hx.out
      have htm : t ≤ 1099511627520 := Nat.le_trans (Nat.le_of_lt htl) Hbx.out
      clear htl
      go_loopw [7] (fun s wr => ∃ (d : Nat) (q : Int), s = .int .i64 q ∧ ((d : Int) + max q 0 = t ∧ -65536 ≤ q) ∧ Bx wr [(b9, 28, #[.int .u64 (natLo (g * 2 ^ d)), .string (natMo (g * 2 ^ d))]), (b2, 28, #[.int .u64 (natLo x), .string (natMo x)]), (b3, 28, #[.int .u64 (natLo y), .string (natMo y)]), (b4, 28, #[.int .u64 0, .string ⟨#[]⟩])] ∧ Grow w wr) (fun s _ => (intOf s).toNat)
      case atStart => exact ⟨0, t, rfl, ⟨by omega, by omega⟩, by rw [Nat.pow_zero, Nat.mul_one]; exact hB, hG⟩
      case round =>
        clear hB hG
        obtain ⟨d, q, rfl, ⟨hq1, hq2⟩, hB, hG⟩ := hrel
        obtain ⟨u, rfl⟩ : ∃ x, x = wr := ⟨_, rfl⟩
        by_cases hq : 0 < q
        · obtain ⟨sh, hsh⟩ : ∃ sh : Nat, (sh : Int) = min q 65536 := ⟨(min q 65536).toNat, by omega⟩
          have f1 : min q 65536 = (sh : Int) := hsh.symm
          have hsl := two_pow_le_of_gcd Hgc.out Hx.out d (by omega)
          obtain ⟨V0, hV0⟩ : ∃ V, V = g * 2 ^ d := ⟨_, rfl⟩
          obtain ⟨V1, hV1⟩ : ∃ V, V = g * 2 ^ (d + sh) := ⟨_, rfl⟩
          have hshift : ∀ W, Calls Tryz.prog 165 #[natV V0, .int .i64 sh] W fun e w' => e = .returned (natV V1) ∧ Grow W w' := fun W => by
            have := nat_Shift_up (g * 2 ^ d) sh (by have := Hbx.out; omega) (by omega) W
            rw [Nat.mul_assoc, ← Nat.pow_add, ← hV0, ← hV1] at this
            exact this
          rw [← hV0] at hB
          have Hshift := Lib.hid hshift
          have HV1 := Lib.hid hV1
          have Hsh := Lib.hid hsh
          clear hshift hV0 hV1 hsl hsh
          have c1 : decide (0 < q) = true := by simpa using hq
          refine wp_seq ?_
          refine wp_seq ?_
          refine wp_r0 ?_
          intro K hN
          go_wp2_with fail
          refine NoK.norm (hN _ _ ?_)
          clear hN K
          refine then_norm ?_
          refine wp_cond_true (rfl) ?_
          refine wp_skip ?_
          refine then_norm ?_
          refine wp_seq ?_
          refine wp_block ?_
          refine wp_rs (w := w) allocs 4 [0, 0, 0, 1] (by kernel_rfl) (by simp only [List.drop_succ_cons, List.drop_zero]; exact rfl) (fun _ => True) noG hB hG trivial ?_
          intro K L hN hL
          simp only [List.zip_cons_cons, List.zip_nil_left]
          apply gy
          · exact rfl
          · (rintro v ⟨hgu, hB, hG, -⟩ N hN; have r := hB.r; simp only [BxR] at r; go_simp; exact hN)
          refine okf (by simp only [Act.put, List.setIfInBounds_toArray, List.set_cons_succ, List.set_cons_zero]; exact rfl) ?_
          apply gy
          · exact rfl
          · (rintro v - N hN; go_simp; exact hN)
          refine okf (by simp only [Act.put, List.setIfInBounds_toArray, List.set_cons_succ, List.set_cons_zero]; exact rfl) ?_
          apply gy
          · exact rfl
          · (rintro v - N hN; go_simp; exact hN)
          refine okf (by simp only [Act.put, List.setIfInBounds_toArray, List.set_cons_succ, List.set_cons_zero]; exact rfl) ?_
          apply gm
          · exact rfl
          · (rintro v ⟨hgu, hB, hG, -⟩ N hN; go_simp; ((with_reducible refine (Hshift.out _).mono ?_); rintro e w1 ⟨rfl, hb⟩; exact ⟨_, rfl, hN _ hb⟩))
          refine okf (by simp only [Act.put, List.setIfInBounds_toArray, List.set_cons_succ, List.set_cons_zero]; exact rfl) ?_
          refine gend ?_
          rintro v ⟨hgu, hB1, hG1, -⟩
          clear hB hG
          have hB := hB1
          have hG := hG1
          clear hB1 hG1
          refine hL _ _ ?_
          clear hL L hgu
          obtain ⟨u, rfl⟩ : ∃ x, x = v := ⟨_, rfl⟩
          have r := hB.r
          simp only [BxR] at r
          go_wp2_with fail
          clear r
          generalize hu0 : World.setCell (World.setCell u _ _) _ _ = u0
          have hBG := hB.over hF hG 0 rfl 0 [_, _] hu0
          clear hB hG hu0
          simp only [List.modify_succ_cons, List.modify_zero_cons, wrAll, List.setIfInBounds_toArray, List.set_cons_zero, List.set_cons_succ, Nat.zero_add, Nat.reduceAdd] at hBG
          obtain ⟨hB, hG⟩ := hBG
          clear u
          obtain ⟨u, rfl⟩ : ∃ x, x = u0 := ⟨_, rfl⟩
          refine NoK.norm (hN _ _ ?_)
          clear hN K
          refine blk_norm ?_
          refine then_norm ?_
          refine wp_r0 ?_
          intro K hN
          go_wp2_with fail
          refine NoK.norm (hN _ _ ?_)
          clear hN K
          refine then_norm ?_
          go_roundw
          case rel => exact ⟨d + sh, q - 65536, by go_num, ⟨by have := Hsh.out; omega, by omega⟩, by rw [← HV1.out]; exact hB, hG⟩
          case measure => simp [intOf]; omega
        · have c1 : decide (0 < q) = false := by simpa using hq
          obtain rfl : t = d := by omega
          refine wp_seq ?_
          refine wp_seq ?_
          refine wp_r0 ?_
          intro K hN
          go_wp2_with fail
          refine NoK.norm (hN _ _ ?_)
          clear hN K
          refine then_norm ?_
          refine wp_cond_false (rfl) ?_
          refine wp_exit ?_
          refine then_exit ?_
          refine then_exit ?_
          refine blk_exit ?_
          refine then_norm ?_
          refine wp_seq ?_
          refine wp_r0 ?_
          intro K hN
          have r := hB.r
          simp only [BxR] at r
          go_wp2_with fail
          clear r
          generalize hu0 : World.setCell (World.setCell u _ _) _ _ = u0
          have hBG := hB.over hF hG 3 rfl 0 [_, _] hu0
          clear hB hG hu0
          simp only [List.modify_succ_cons, List.modify_zero_cons, wrAll, List.setIfInBounds_toArray, List.set_cons_zero, List.set_cons_succ, Nat.zero_add, Nat.reduceAdd] at hBG
          obtain ⟨hB, hG⟩ := hBG
          clear u
          obtain ⟨u, rfl⟩ : ∃ x, x = u0 := ⟨_, rfl⟩
          refine NoK.norm (hN _ _ ?_)
          clear hN K
          refine then_norm ?_
          refine wp_ret ?_
          refine ret_b rfl ?_
          intro N hN
          have r := hB.r
          simp only [BxR] at r
          simp only [results, Tryz.results126]
          go_simp
          refine hN _ ?_
          clear hN N r
          refine And.intro ?_ hG
          rw [Hgc.out, Nat.mul_comm]
    · have hcm := HI.out.cmp
      rw [cmpN_gt hgt] at hcm
      have Hcm := Lib.hid hcm
      have Hsub := Lib.hid (fun W hg => (HI.out.grow (W := W) hg).sub hgt)
      have Hdn := Lib.hid (HI.out.down hgt (HT.out.grow HG0.out))
      clear hcm
      refine wp_block ?_
      refine wp_seq ?_
      refine wp_rs (w := w) allocs 4 [0, 0, 1, 0] (by kernel_rfl) (by simp only [List.drop_succ_cons, List.drop_nil]; exact rfl) (fun _ => True) noG hB hG trivial ?_
      intro K L hN hL
      simp only [List.zip_cons_cons, List.zip_nil_left]
      apply gy
      · exact rfl
      · (rintro v - N hN; go_simp; exact hN)
      refine okf (by simp only [Act.put, List.setIfInBounds_toArray, List.set_cons_succ, List.set_cons_zero]; exact rfl) ?_
      apply gy
      · exact rfl
      · (rintro v - N hN; go_simp; exact hN)
      refine okf (by simp only [Act.put, List.setIfInBounds_toArray, List.set_cons_succ, List.set_cons_zero]; exact rfl) ?_
      apply gm
      · exact rfl
      · (rintro v ⟨hgu, hB, hG, -⟩ N hN; go_simp; ((with_reducible refine (Hcm.out _ hgu).mono ?_); rintro e w1 ⟨rfl, hb⟩; exact ⟨_, rfl, hN _ hb⟩))
      refine okf (by simp only [Act.put, List.setIfInBounds_toArray, List.set_cons_succ, List.set_cons_zero]; exact rfl) ?_
      apply gy
      · exact rfl
      · (rintro v - N hN; go_simp; exact hN)
      refine okf (by simp only [Act.put, List.setIfInBounds_toArray, List.set_cons_succ, List.set_cons_zero]; exact rfl) ?_
      refine gend ?_
      rintro v ⟨hgu, hB1, hG1, -⟩
      have hgc := hgu
      clear hB hG
      have hB := hB1
      have hG := hG1
      clear hB1 hG1
      refine hL _ _ ?_
      clear hL L hgu
      obtain ⟨u, rfl⟩ : ∃ x, x = v := ⟨_, rfl⟩
      refine wpList_nil ?_
      refine NoK.norm (hN _ _ ?_)
      clear hN K
      refine then_norm ?_
      refine wp_seq ?_
      refine wp_seq ?_
      refine wp_r0 ?_
      intro K hN
      go_wp2_with fail
      refine NoK.norm (hN _ _ ?_)
      clear hN K
      refine then_norm ?_
      refine wp_cond_false (rfl) ?_
      refine wp_skip ?_
      refine then_norm ?_
      refine wp_seq ?_
      refine wp_seq ?_
      refine wp_r0 ?_
      intro K hN
      go_wp2_with fail
      refine NoK.norm (hN _ _ ?_)
      clear hN K
      refine then_norm ?_
      refine wp_cond_false (rfl) ?_
      refine wp_skip ?_
      refine then_norm ?_
      refine wp_r0 ?_
      intro K hN
      go_wp2_with (first
        | (go_at_call 163; ((with_reducible refine (Hsub.out _ hgc).mono ?_); rintro e ws ⟨zs, rfl, hs⟩; have Hs := Lib.hid hs; clear hs))
        | (go_at_call 161; ((with_reducible refine (Hdn.out ws zs Hs.out).mono ?_); rintro e wt ⟨o3, c3, z3, rfl, hI2, hlt2⟩; have HI2 := Lib.hid hI2; clear hI2)))
      refine NoK.norm (hN _ _ ?_)
      clear hN K
      refine blk_norm ?_
      refine then_norm ?_
      go_step
      go_roundg (val W64 z3 + val W64 lw)
      case measure => rw [Hgk.out]; omega
      case rel => exact ⟨bv, o3, c3, z3, bw, ow, cw, lw, rfl, rfl, HI2.out, rfl⟩
end Go.Proofs.YtimjnkfcnpfoeaaGreatDoor
