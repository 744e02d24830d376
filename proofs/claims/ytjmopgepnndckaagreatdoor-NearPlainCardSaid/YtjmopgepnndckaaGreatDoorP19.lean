/-
  Contracts and laws: WordA.
-/
import Derived.Test.YtjmopgepnndckaaGreatDoorP18
import Derived.StillTailTactics
set_option linter.unusedSimpArgs false
set_option linter.unusedVariables false
namespace Go.Proofs.YtjmopgepnndckaaGreatDoor
open Go.RowKit
/-- a call whose answer depends on where things came to lie -/
def RetY {X : Type} (f : X → Value) (T : X → World → Prop) (w : World) (e : Ending) (w' : World) : Prop := ∃ x, e = .returned (f x) ∧ T x w' ∧ Grow w w'
theorem dg_reverse {l : List Nat} {i : Nat} (h : i < l.length) : dg l.reverse i = dg l (l.length - 1 - i) := by
 rw [dg_eq (by simpa using h), dg_eq (by omega), List.getElem_reverse]
/-- what the words hold after i bytes -/
def LayI (m : Nat) (l : List Nat) (i : Nat) (zs : List Nat) : Prop := zs.length = m ∧ Dig W64 zs ∧ val W64 zs = val 256 (l.reverse.take i)
theorem LayI.start (m : Nat) (l : List Nat) : LayI m l 0 (List.replicate m 0) :=
 ⟨by simp, fun z hz => (by rw [(List.mem_replicate.1 hz).2]; exact W64_pos), by rw [val_zeros]; rfl⟩
theorem LayI.next {m : Nat} {l zs : List Nat} {i : Nat} (h : LayI m l i zs) (hd : Dig 256 l) (hi : i < l.length) (hm : l.length ≤ 8 * m) :
  dg zs (i / 8) ||| dg l (l.length - 1 - i) * 2 ^ (8 * (i % 8)) = dg zs (i / 8) + dg l (l.length - 1 - i) * 2 ^ (8 * (i % 8)) ∧ dg zs (i / 8) + dg l (l.length - 1 - i) * 2 ^ (8 * (i % 8)) < W64 ∧
  LayI m l (i + 1) (zs.set (i / 8) (dg zs (i / 8) + dg l (l.length - 1 - i) * 2 ^ (8 * (i % 8)))) := by
 obtain ⟨h1, h2, h3⟩ := h
 have hdr : Dig 256 l.reverse := fun x hx => hd x (List.mem_reverse.1 hx)
 have hv : val W64 zs < 256 ^ i := by rw [h3]; exact val_take_lt (by omega) hdr i
 obtain ⟨e1, e2, e3⟩ := lay_low (zs := zs) (i := i) (y := dg l (l.length - 1 - i)) (by omega) hv (dg_lt (by omega) hd _)
 refine ⟨e1, e2, by rw [List.length_set]; exact h1, dig_set h2 _ e2, ?_⟩
 rw [e3, val_take_dg, ← h3, dg_reverse hi, Nat.mul_comm]
theorem LayI.done {m : Nat} {l zs : List Nat} {i : Nat} (h : LayI m l i zs) (hi : i = l.length) : val W64 zs = val 256 l.reverse := by
 rw [h.2.2, List.take_of_length_le (by simp; omega)]
set_option maxHeartbeats 1000000 in
set_option maxRecDepth 100000 in
theorem nat_FromBytes (A : Option Addr) (l : List Nat) (c : Nat) (hd : Dig 256 l) (hm : l.length ≤ 137438953471) (w : World) (hA : By w A l) :
  Calls Tryz.prog 120 #[.slice A l.length c] w fun e w' => e = .returned (natV (val 256 l.reverse)) ∧ Grow w w' := by
 obtain ⟨n, hn⟩ : ∃ n, n = l.length := ⟨_, rfl⟩
 obtain ⟨m, hmm⟩ : ∃ m, m = (n + 7) / 8 := ⟨_, rfl⟩
 have hmi : ((n : Int) + 7) / 8 = (m : Int) := by omega
 have hmt : ((n : Int) + 7).tdiv 8 = (m : Int) := by rw [Int.tdiv_eq_ediv_of_nonneg (by omega)]; exact hmi
 rw [← hn]
 rw [← hn] at hm
 have hw0 : IntKind.i64.wrap ((n : Int) + 7) = (n : Int) + 7 := IntWalk.i64_in _ (by omega)
 have hmk := make_u64 m (by omega) (m : Int) rfl
 have hmb : m ≤ 34359738368 := by omega
 have hn8 : n ≤ 8 * m := by omega
 have HA := Lib.hid hA
 have Hn := Lib.hid hn
 have Hd := Lib.hid hd
 clear hA hn hd hmm
 go_enter Tryz.func120, Tryz.ntmps120
 refine en1 ?_
 intro u hG b2 hB hF
 refine r0T ?_
 have hbo := Blk.new u 43 (cellsW (List.replicate m 0))
 have hF3 := Fr.new (tk := []) hF hB hG (Nat.le_refl u.heap.size) (by simp)
 have hB3 := Bx.cons hbo (hB.grow (Grow.alloc u (.cells (cellsW (List.replicate m 0)) 43)))
 have hG3 := hG.trans (Grow.alloc u (.cells (cellsW (List.replicate m 0)) 43))
 simp only [List.cons_append, List.nil_append, List.map_cons, List.map_nil] at hF3
 clear hB hF hG hbo
 generalize World.alloc u _ = v at  hB3 hG3 ⊢
 generalize u.heap.size = b3 at hB3 hF3 ⊢
 have hB := hB3
 have hF := hF3
 have hG := hG3
 clear hB3 hF3 hG3
 obtain ⟨u, rfl⟩ : ∃ x, x = v := ⟨_, rfl⟩
 refine wp_seq ?_
 refine r0T ?_
 refine wp_block ?_
 go_loopw [12] (fun s0 wr => ∃ (i : Nat) (zs : List Nat), i ≤ n ∧ s0 = .int .i64 i ∧ (LayI m l i zs) ∧ Bx wr [(b3, 43, cellsW zs), (b2, 45, #[.int .u64 0, .string ⟨#[]⟩])] ∧ Grow w wr) (fun s0 _ => n - (intOf s0).toNat)
 case atStart => exact ⟨0, List.replicate m 0, Nat.zero_le _, rfl, LayI.start m l, hB, hG⟩
 case round =>
  clear hB hG
  obtain ⟨i, zs, hi, rfl, hrel0, hB, hG⟩ := hrel
  obtain ⟨u, rfl⟩ : ∃ x, x = wr := ⟨_, rfl⟩
  have H0 := Lib.hid hrel0
  clear hrel0
  rcases Nat.lt_or_ge i n with hlt0 | hge0
  ·have hdec : decide ((i : Int) < (n : Int)) = true := by simp; omega
   obtain ⟨l1, l2, l3⟩ := H0.out.next Hd.out (by rw [← Hn.out]; exact hlt0) (by rw [← Hn.out]; exact hn8)
   obtain ⟨k, hk⟩ : ∃ k, k = n - 1 - i := ⟨_, rfl⟩
   rw [← Hn.out, ← hk] at l1 l2 l3
   have hbk := dg_lt (by omega) Hd.out k
   have hkl : k < l.length := by rw [← Hn.out]; omega
   have hki : (n : Int) - 1 - (i : Int) = (k : Int) := by omega
   have hqz : i / 8 < zs.length := by rw [H0.out.1]; omega
   have hzl := dg_lt W64_pos H0.out.2.1 (i / 8)
   obtain ⟨q, hq⟩ : ∃ q, q = i / 8 := ⟨_, rfl⟩
   obtain ⟨p, hr⟩ : ∃ r, r = i % 8 := ⟨_, rfl⟩
   obtain ⟨y, hy⟩ : ∃ y, y = dg l k := ⟨_, rfl⟩
   obtain ⟨x, hx⟩ : ∃ x, x = dg zs (i / 8) := ⟨_, rfl⟩
   obtain ⟨z, hz⟩ : ∃ z, z = y * 2 ^ (8 * p) := ⟨_, rfl⟩
   obtain ⟨s, hs⟩ : ∃ s, s = x + z := ⟨_, rfl⟩
   have hr8 : p < 8 := by omega
   have hqm : q < m := by omega
   rw [← hx, ← hr, ← hy, ← hz, ← hs] at l1 l2 l3
   rw [← hq] at l3 hqz
   rw [← hx] at hzl
   rw [← hy] at hbk
   unfold W64 at hzl
   have hz64 : z < 18446744073709551616 := by unfold W64 at l2; omega
   have g1 : (cellsW zs)[q]? = some (.int .u64 (x : Nat)) := by rw [cellsW_get, List.getElem?_eq_getElem hqz, hx, ← hq, dg_eq hqz]; rfl
   have G2 := Lib.hid (cellsW_set zs q s)
   obtain ⟨b1, o1, hAe, -⟩ := HA.out.cell hkl
   have hby : ∀ W, Grow w W → W.cell? ⟨b1, o1 + k, none⟩ = some (.int .u8 (y : Nat)) := fun W hg => by
    obtain ⟨b', o', e, hc⟩ := (HA.out.grow hg).cell hkl
    rw [hAe] at e
    cases e
    rw [hy]
    exact hc
   have Hby := Lib.hid hby
   subst hAe
   have L3 := Lib.hid l3
   have f1 : (i : Int).tdiv 8 = (q : Int) := by rw [Int.tdiv_eq_ediv_of_nonneg (by omega)]; omega
   have f2 : (i : Int).tmod 8 = (p : Int) := by rw [Int.tmod_eq_emod_of_nonneg (by omega)]; omega
   have f3 : (i : Int) / 8 = (q : Int) := by omega
   have f4 : (i : Int) % 8 = (p : Int) := by omega
   have f5 : IntKind.u64.wrap ((y : Int) * 2 ^ (8 * p)) = (z : Int) := by
    rw [show ((y : Int) * 2 ^ (8 * p)) = ((z : Nat) : Int) by rw [hz]; simp]; exact wrapN hz64
   have f6 : bits BinOp.or IntKind.u64 (x : Int) (z : Int) = (s : Nat) := by rw [u64_or_nat x z hzl hz64, l1]
   have f7 : (8 * (p : Int)).toNat = 8 * p := by omega
   have f8 : min (8 * p) 64 = 8 * p := by omega
   have f9 : IntKind.u64.wrap (y : Int) = (y : Int) := wrapN (by omega)
   have f10 : IntKind.i64.wrap (q : Int) = (q : Int) := IntWalk.i64_in _ (by omega)
   have f11 : IntKind.i64.wrap (p : Int) = (p : Int) := IntWalk.i64_in _ (by omega)
   have f12 : IntKind.i64.wrap (8 * (p : Int)) = 8 * (p : Int) := IntWalk.i64_in _ (by omega)
   have f13 : IntKind.i64.wrap ((n : Int) - 1) = (n : Int) - 1 := IntWalk.i64_in _ (by omega)
   have f14 : IntKind.i64.wrap (k : Int) = (k : Int) := IntWalk.i64_in _ (by omega)
   have f15 : k < n := by omega
   clear l1 l2 l3 hq hr hy hx hz hs hk hkl hqz hby
   refine r0T ?_
   refine wp_seq ?_
   refine wp_cond_true (rfl) ?_
   refine wp_skip ?_
   refine then_norm ?_
   refine wp_seq ?_
   refine wp_block ?_
   refine r0T ?_
   refine rdC allocs [] [(0, 0), (0, 1), (0, 2), (0, 3), (0, 4), (0, 5), (0, 6), (0, 7), (0, 8), (0, 9), (0, 10), (0, 11), (0, 12), (0, 13), (0, 14), (0, 15), (0, 16), (0, 17), (0, 18), (0, 19)] hB hG fun K L hN hL => ?_
   repeat first | refine gya ?_ | refine gyr ?_ | refine gna ?_ | refine gyb (by (rintro v ⟨hgu, hB, hG, -⟩ N hN; have r := hB.r; simp only [BxR] at r; have hcb := Hby.out v hG; go_simp; exact hN)) ?_
   refine geC hL ?_
   clear hB hG hL L
   rintro u ⟨-, hB, hG, -⟩
   refine gt ?_
   clear hN K
   generalize hu0 : World.setCell u _ _ = u0
   have hBG := hB.over hF hG 0 rfl q [_] hu0
   clear hB hG
   simp only [List.modify_succ_cons, List.modify_zero_cons, wrAll, G2.out] at hBG
   obtain ⟨hB, hG⟩ := hBG
   clear hu0
   obtain ⟨u, rfl⟩ : ∃ x, x = u0 := ⟨_, rfl⟩
   refine blk_norm ?_
   refine then_norm ?_
   refine r0E ?_
   refine then_norm ?_
   go_roundw
   case rel => exact ⟨i + 1, zs.set q s, by omega, by go_num, L3.out, hB, hG⟩
   case measure => simp [intOf]; try omega
  ·obtain rfl : n = i := by omega
   have hdec : decide ((n : Int) < (n : Int)) = false := by simp
   have hfw : ∀ W, Grow w W → Blk W b3 43 (cellsW zs) → Calls Tryz.prog 156 #[.slice (some ⟨b3, 0, none⟩) m m] W fun e w' => e = .returned (natV (val 256 l.reverse)) ∧ Grow W w' := fun W hg hw => by
    have := nat_fromWords (some ⟨b3, 0, none⟩) zs m W (fun _ => ⟨b3, 0, rfl, Wrow.wds hw⟩) H0.out.2.1 (by rw [H0.out.1]; exact Nat.le_refl _) (by rw [H0.out.1]; exact hmb) (by omega)
    rw [H0.out.done Hn.out, H0.out.1] at this
    exact this
   have Hfw := Lib.hid hfw
   clear hfw
   refine r0T ?_
   refine wp_seq ?_
   refine wp_cond_false (rfl) ?_
   refine wp_exit ?_
   refine then_exit ?_
   refine then_exit ?_
   refine blk_exit ?_
   refine then_norm ?_
   refine wp_seq (rsC allocs [0, 1] hB hG fun K L hN hL => ?_)
   refine gs ?_
   refine gmd (C := fun v ⟨hgu, hB, hG, _⟩ => Hfw.out _ hG hB.head) ?_
   refine geC hL ?_
   clear hB hG hL L
   rintro u ⟨-, hB, hG, -⟩
   refine gtT ?_
   clear hN K
   refine st hB hF hG 1 0 [_, _] ?_
   clear hB hG
   intro u hB hG
   refine rt Tryz.results120 ?_
   exact ⟨rfl, hG⟩
set_option maxHeartbeats 1000000 in
set_option maxRecDepth 100000 in
theorem whole_words (a : Nat) (ha : bl a ≤ 1099511627520) (w : World) :
  Calls Tryz.prog 198 #[natV a] w fun e w' => ∃ (b : Nat) (zs : List Nat), e = .returned (.slice (some ⟨b, 0, none⟩) zs.length zs.length) ∧ (w.heap.size ≤ b ∧ Wrow w' b zs ∧ Dig W64 zs ∧ val W64 zs = a ∧ zs.length ≤ 17179869180) ∧ Grow w w' := by
 obtain ⟨l, hl⟩ : ∃ l, l = (byt a).reverse := ⟨_, rfl⟩
 obtain ⟨n, hn⟩ : ∃ n, n = l.length := ⟨_, rfl⟩
 have hd : Dig 256 l := fun x hx => by rw [hl] at hx; exact byt_dig a x (List.mem_reverse.1 hx)
 have hnb : n = (byt a).length := by rw [hn, hl, List.length_reverse]
 have hm : l.length ≤ 137438953440 := by rw [← hn, hnb, byt_length]; omega
 have hlv : val 256 l.reverse = a := by rw [hl, List.reverse_reverse]; exact val_digs (by omega) a
 have hbytes : ∀ W, Calls Tryz.prog 143 #[natV a] W (RetY (fun A : Option Addr => .slice A n n) (fun A W => By W A l) W) := fun W =>
  (nat_Bytes a (by omega) W).mono fun e w' ⟨A, he, hb, hg⟩ => ⟨A, by rw [he, hnb], by rw [hl]; exact hb, hg⟩
 obtain ⟨m, hmm⟩ : ∃ m, m = (n + 7) / 8 := ⟨_, rfl⟩
 have hmi : ((n : Int) + 7) / 8 = (m : Int) := by omega
 have hmt : ((n : Int) + 7).tdiv 8 = (m : Int) := by rw [Int.tdiv_eq_ediv_of_nonneg (by omega)]; exact hmi
 rw [← hn] at hm
 have hw0 : IntKind.i64.wrap ((n : Int) + 7) = (n : Int) + 7 := IntWalk.i64_in _ (by omega)
 have hmk := make_u64 m (by omega) (m : Int) rfl
 have hmb : m ≤ 17179869180 := by omega
 have hn8 : n ≤ 8 * m := by omega
 have Hbytes := Lib.hid hbytes
 have Hlv := Lib.hid hlv
 have Hn := Lib.hid hn
 have Hd := Lib.hid hd
 clear hbytes hn hd hmm hl hnb hlv ha
 go_enter Tryz.func198, Tryz.ntmps198
 refine en1 ?_
 intro u hG b1 hB hF
 refine wp_seq (rsE allocs [0, 1, 0] hB hG fun L hL => ?_)
 refine gs ?_
 refine gxd (X := Option Addr) (fun A => .slice A n n) (fun A W => By W A l) (fun _ _ _ hg h => h.grow hg) (fun x7 => ?_) (C := fun v _ => Hbytes.out _)
 refine gs ?_
 refine geT hL ?_
 clear hB hG hL L
 rintro u ⟨⟨-, hB, hG, -⟩, hx7⟩
 have HG0 := Lib.hid hG
 clear hB hF hG
 obtain ⟨w0, rfl⟩ : ∃ x, x = w := ⟨_, rfl⟩
 obtain ⟨w, hwu⟩ : ∃ x, x = u := ⟨_, rfl⟩
 rw [← hwu] at HG0 hx7
 have hB := Bx.nil u
 have hF := Fr.nil w
 have hG : Grow w u := hwu ▸ Grow.refl u
 clear hwu
 obtain ⟨A, rfl⟩ : ∃ A, A = x7 := ⟨_, rfl⟩
 have HA := Lib.hid hx7
 clear hx7
 refine r0T ?_
 have hbo := Blk.new u 43 (cellsW (List.replicate m 0))
 have hF3 := Fr.new (tk := []) hF hB hG (Nat.le_refl u.heap.size) (by simp)
 have hB3 := Bx.cons hbo (hB.grow (Grow.alloc u (.cells (cellsW (List.replicate m 0)) 43)))
 have hG3 := hG.trans (Grow.alloc u (.cells (cellsW (List.replicate m 0)) 43))
 simp only [List.cons_append, List.nil_append, List.map_cons, List.map_nil] at hF3
 clear hB hF hG hbo
 generalize World.alloc u _ = v at  hB3 hG3 ⊢
 generalize u.heap.size = b4 at hB3 hF3 ⊢
 have hB := hB3
 have hF := hF3
 have hG := hG3
 clear hB3 hF3 hG3
 obtain ⟨u, rfl⟩ : ∃ x, x = v := ⟨_, rfl⟩
 refine wp_seq ?_
 refine r0T ?_
 refine wp_block ?_
 go_loopw [15] (fun s0 wr => ∃ (i : Nat) (zs : List Nat), i ≤ n ∧ s0 = .int .i64 i ∧ (LayI m l i zs) ∧ Bx wr [(b4, 43, cellsW zs)] ∧ Grow w wr) (fun s0 _ => n - (intOf s0).toNat)
 case atStart => exact ⟨0, List.replicate m 0, Nat.zero_le _, rfl, LayI.start m l, hB, hG⟩
 case round =>
  clear hB hG
  obtain ⟨i, zs, hi, rfl, hrel0, hB, hG⟩ := hrel
  obtain ⟨u, rfl⟩ : ∃ x, x = wr := ⟨_, rfl⟩
  have H0 := Lib.hid hrel0
  clear hrel0
  rcases Nat.lt_or_ge i n with hlt0 | hge0
  ·have hdec : decide ((i : Int) < (n : Int)) = true := by simp; omega
   obtain ⟨l1, l2, l3⟩ := H0.out.next Hd.out (by rw [← Hn.out]; exact hlt0) (by rw [← Hn.out]; exact hn8)
   obtain ⟨k, hk⟩ : ∃ k, k = n - 1 - i := ⟨_, rfl⟩
   rw [← Hn.out, ← hk] at l1 l2 l3
   have hbk := dg_lt (by omega) Hd.out k
   have hkl : k < l.length := by rw [← Hn.out]; omega
   have hki : (n : Int) - 1 - (i : Int) = (k : Int) := by omega
   have hqz : i / 8 < zs.length := by rw [H0.out.1]; omega
   have hzl := dg_lt W64_pos H0.out.2.1 (i / 8)
   obtain ⟨q, hq⟩ : ∃ q, q = i / 8 := ⟨_, rfl⟩
   obtain ⟨p, hr⟩ : ∃ r, r = i % 8 := ⟨_, rfl⟩
   obtain ⟨y, hy⟩ : ∃ y, y = dg l k := ⟨_, rfl⟩
   obtain ⟨x, hx⟩ : ∃ x, x = dg zs (i / 8) := ⟨_, rfl⟩
   obtain ⟨z, hz⟩ : ∃ z, z = y * 2 ^ (8 * p) := ⟨_, rfl⟩
   obtain ⟨s, hs⟩ : ∃ s, s = x + z := ⟨_, rfl⟩
   have hr8 : p < 8 := by omega
   have hqm : q < m := by omega
   rw [← hx, ← hr, ← hy, ← hz, ← hs] at l1 l2 l3
   rw [← hq] at l3 hqz
   rw [← hx] at hzl
   rw [← hy] at hbk
   unfold W64 at hzl
   have hz64 : z < 18446744073709551616 := by unfold W64 at l2; omega
   have g1 : (cellsW zs)[q]? = some (.int .u64 (x : Nat)) := by rw [cellsW_get, List.getElem?_eq_getElem hqz, hx, ← hq, dg_eq hqz]; rfl
   have G2 := Lib.hid (cellsW_set zs q s)
   obtain ⟨b1, o1, hAe, -⟩ := HA.out.cell hkl
   have hby : ∀ W, Grow w W → W.cell? ⟨b1, o1 + k, none⟩ = some (.int .u8 (y : Nat)) := fun W hg => by
    obtain ⟨b', o', e, hc⟩ := (HA.out.grow hg).cell hkl
    rw [hAe] at e
    cases e
    rw [hy]
    exact hc
   have Hby := Lib.hid hby
   subst hAe
   have L3 := Lib.hid l3
   have f1 : (i : Int).tdiv 8 = (q : Int) := by rw [Int.tdiv_eq_ediv_of_nonneg (by omega)]; omega
   have f2 : (i : Int).tmod 8 = (p : Int) := by rw [Int.tmod_eq_emod_of_nonneg (by omega)]; omega
   have f3 : (i : Int) / 8 = (q : Int) := by omega
   have f4 : (i : Int) % 8 = (p : Int) := by omega
   have f5 : IntKind.u64.wrap ((y : Int) * 2 ^ (8 * p)) = (z : Int) := by
    rw [show ((y : Int) * 2 ^ (8 * p)) = ((z : Nat) : Int) by rw [hz]; simp]; exact wrapN hz64
   have f6 : bits BinOp.or IntKind.u64 (x : Int) (z : Int) = (s : Nat) := by rw [u64_or_nat x z hzl hz64, l1]
   have f7 : (8 * (p : Int)).toNat = 8 * p := by omega
   have f8 : min (8 * p) 64 = 8 * p := by omega
   have f9 : IntKind.u64.wrap (y : Int) = (y : Int) := wrapN (by omega)
   have f10 : IntKind.i64.wrap (q : Int) = (q : Int) := IntWalk.i64_in _ (by omega)
   have f11 : IntKind.i64.wrap (p : Int) = (p : Int) := IntWalk.i64_in _ (by omega)
   have f12 : IntKind.i64.wrap (8 * (p : Int)) = 8 * (p : Int) := IntWalk.i64_in _ (by omega)
   have f13 : IntKind.i64.wrap ((n : Int) - 1) = (n : Int) - 1 := IntWalk.i64_in _ (by omega)
   have f14 : IntKind.i64.wrap (k : Int) = (k : Int) := IntWalk.i64_in _ (by omega)
   have f15 : k < n := by omega
   clear l1 l2 l3 hq hr hy hx hz hs hk hkl hqz hby
   refine r0T ?_
   refine wp_seq ?_
   refine wp_cond_true (rfl) ?_
   refine wp_skip ?_
   refine then_norm ?_
   refine wp_seq ?_
   refine wp_block ?_
   refine r0T ?_
   refine rdC allocs [] [(0, 0), (0, 1), (0, 2), (0, 3), (0, 4), (0, 5), (0, 6), (0, 7), (0, 8), (0, 9), (0, 10), (0, 11), (0, 12), (0, 13), (0, 14), (0, 15), (0, 16), (0, 17), (0, 18), (0, 19)] hB hG fun K L hN hL => ?_
   repeat first | refine gya ?_ | refine gyr ?_ | refine gna ?_ | refine gyb (by (rintro v ⟨hgu, hB, hG, -⟩ N hN; have r := hB.r; simp only [BxR] at r; have hcb := Hby.out v hG; go_simp; exact hN)) ?_
   refine geC hL ?_
   clear hB hG hL L
   rintro u ⟨-, hB, hG, -⟩
   refine gt ?_
   clear hN K
   generalize hu0 : World.setCell u _ _ = u0
   have hBG := hB.over hF hG 0 rfl q [_] hu0
   clear hB hG
   simp only [List.modify_succ_cons, List.modify_zero_cons, wrAll, G2.out] at hBG
   obtain ⟨hB, hG⟩ := hBG
   clear hu0
   obtain ⟨u, rfl⟩ : ∃ x, x = u0 := ⟨_, rfl⟩
   refine blk_norm ?_
   refine then_norm ?_
   refine r0E ?_
   refine then_norm ?_
   go_roundw
   case rel => exact ⟨i + 1, zs.set q s, by omega, by go_num, L3.out, hB, hG⟩
   case measure => simp [intOf]; try omega
  ·obtain rfl : n = i := by omega
   have hdec : decide ((n : Int) < (n : Int)) = false := by simp
   skip
   refine r0T ?_
   refine wp_seq ?_
   refine wp_cond_false (rfl) ?_
   refine wp_exit ?_
   refine then_exit ?_
   refine then_exit ?_
   refine blk_exit ?_
   refine then_norm ?_
   refine r0T ?_
   refine rt Tryz.results198 ?_
   exact ⟨b4, zs, by rw [H0.out.1], ⟨Nat.le_trans HG0.out.size (hF.1 b4 (by simp)), hB.head, H0.out.2.1, by rw [H0.out.done Hn.out]; exact Hlv.out, by rw [H0.out.1]; exact hmb⟩, HG0.out.trans hG⟩
end Go.Proofs.YtjmopgepnndckaaGreatDoor
