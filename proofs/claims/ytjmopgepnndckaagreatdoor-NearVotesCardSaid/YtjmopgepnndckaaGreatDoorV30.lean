/-
  Contracts and laws: RefF.
-/
import Derived.Test.YtjmopgepnndckaaGreatDoorV29
set_option linter.unusedSimpArgs false
set_option linter.unusedVariables false
namespace Go.Proofs.YtjmopgepnndckaaGreatDoor
open Go.RowKit
theorem ln_bl (a : Nat) : ln a ≤ bl a / 32 + 1 := by
 refine digs_length_le W32_ge (Nat.lt_of_lt_of_le (lt_bl a) ?_)
 rw [show W32 = 2 ^ 32 from rfl, ← Nat.pow_mul]
 exact Nat.pow_le_pow_right (by omega) (by omega)
theorem dgl (a k : Nat) : dg (digs W32 a) k < 4294967296 := dg_lt W32_pos (dig_digs W32_ge a) k
set_option maxHeartbeats 400000 in
theorem ref1_at (x : Ax) (a i : Nat) (w : World) (hx : Rn w x a) : Calls Tryz.prog 206 #[nvV x a, .int .i64 i] w fun e w' => e = .returned (.int .u64 (dg (digs W32 a) i : Nat)) ∧ Grow w w' := by
 obtain ⟨A, c⟩ := x
 obtain ⟨n, hn⟩ : ∃ n, n = ln a := ⟨_, rfl⟩
 show Calls Tryz.prog 206 #[.slice A (ln a) c, .int .i64 i] w _
 rw [← hn]
 rcases Nat.lt_or_ge i n with h | h
 ·obtain ⟨b, off, rfl, hc⟩ := hx.1.cell (i := i) (by rw [hn] at h; exact h)
  have hl := dgl a i
  generalize dg (digs W32 a) i = p at *
  have hp : ((p : Int)) % 18446744073709551616 = (p : Int) := by omega
  clear hx hn
  go_enter Tryz.func206, Tryz.ntmps206
  go_wp2_with fail
  go_ret
  exact ⟨rfl, Grow.refl _⟩
 ·rw [dg_over (l := digs W32 a) (by rw [hn] at h; exact h)]
  have h' : ¬ i < n := by omega
  clear hx hn
  go_enter Tryz.func206, Tryz.ntmps206
  go_wp2_with fail
  go_ret
  exact ⟨rfl, Grow.refl _⟩
/-- a sum: the limbs below k are done -/
def AdI (W N : Nat) (la lb : List Nat) (k c : Nat) (zs : List Nat) : Prop := zs.length = N ∧ Dig W zs ∧ c ≤ 1 ∧ val W (zs.take k) + c * W ^ k = val W (la.take k) + val W (lb.take k)
theorem AdI.start {W : Nat} (N : Nat) (la lb : List Nat) (hW : 0 < W) : AdI W N la lb 0 0 (List.replicate N 0) :=
 ⟨by simp, fun z hz => by rw [(List.mem_replicate.1 hz).2]; exact hW, by omega, by simp [val]⟩
theorem AdI.next {W N : Nat} {la lb zs : List Nat} {k c : Nat} (h : AdI W N la lb k c zs) (hW : 2 ≤ W) (ha : Dig W la) (hb : Dig W lb) (hk : k < N) :
  AdI W N la lb (k + 1) ((dg la k + dg lb k + c) / W) (zs.set k ((dg la k + dg lb k + c) % W)) := by
 obtain ⟨h1, h2, h3, h4⟩ := h
 have e1 := dg_lt (by omega) ha k
 have e2 := dg_lt (by omega) hb k
 refine ⟨by rw [List.length_set]; exact h1, dig_set h2 _ (Nat.mod_lt _ (by omega)), ?_, ?_⟩
 ·have : (dg la k + dg lb k + c) / W < 2 := Nat.div_lt_of_lt_mul (by omega)
  omega
 ·rw [take_set_succ (by omega)]
  exact add_step (by rw [List.length_take]; omega) h4
theorem AdI.done {W N : Nat} {la lb zs : List Nat} {c : Nat} (h : AdI W N la lb N c zs) (hW : 2 ≤ W) (ha : Dig W la) (hb : Dig W lb) (hla : la.length < N) (hlb : lb.length < N) : val W zs = val W la + val W lb := by
 obtain ⟨h1, h2, h3, h4⟩ := h
 rw [List.take_of_length_le (by omega), List.take_of_length_le (by omega), List.take_of_length_le (by omega)] at h4
 have e1 := Nat.lt_of_lt_of_le (val_lt ha) (Nat.pow_le_pow_right (by omega) (show la.length ≤ N - 1 by omega))
 have e2 := Nat.lt_of_lt_of_le (val_lt hb) (Nat.pow_le_pow_right (by omega) (show lb.length ≤ N - 1 by omega))
 have e3 : 2 * W ^ (N - 1) ≤ W ^ N := by
  obtain ⟨m, rfl⟩ : ∃ m, N = m + 1 := ⟨N - 1, by omega⟩
  rw [Nat.add_sub_cancel, Nat.pow_succ, Nat.mul_comm]
  exact Nat.mul_le_mul_left _ hW
 rcases Nat.eq_zero_or_pos c with rfl | hc
 ·omega
 ·obtain rfl : c = 1 := by omega
  omega
/-- behind the last loop: the row trimmed -/
theorem trim_ret {w u : World} {b N a : Nat} {zs : List Nat} (hG : Grow w u) (hR : Blk u b 162 (cells32 zs)) (hl : zs.length = N) (hd : Dig W32 zs) (hv : val W32 zs = a) (hN : N ≤ 1099511627776) :
  ∀ W, Grow u W → Calls Tryz.prog 126 #[.slice (some ⟨b, 0, none⟩) N N] W fun e w' => e = .returned (.slice (some ⟨b, 0, none⟩) (ln a) N) ∧ Grow W w' := fun W hg => by
 have hL : Lim W (some ⟨b, 0, none⟩) zs := (Row32.lim hR).grow hg
 have h1 := ref1_trim (some ⟨b, 0, none⟩) zs N W hL (Nat.le_of_eq hl) (by omega)
 obtain ⟨-, hlen⟩ := rn_trim (a := a) (c := N) hL hd hv (Nat.le_of_eq hl) hN
 rw [hl, hlen] at h1
 exact h1
theorem trim_rn {u : World} {b N a : Nat} {zs : List Nat} (hR : Blk u b 162 (cells32 zs)) (hl : zs.length = N) (hd : Dig W32 zs) (hv : val W32 zs = a) (hN : N ≤ 1099511627776) : Rn u (some ⟨b, 0, none⟩, N) a :=
 (rn_trim (a := a) (c := N) (Row32.lim hR) hd hv (Nat.le_of_eq hl) hN).1
set_option maxHeartbeats 1000000 in
set_option maxRecDepth 100000 in
theorem ref1_NatAdd (x y : Ax) (a b : Nat) (w : World) (hx : Rn w x a) (hy : Rn w y b) (ha : bl a ≤ 1099511627776) (hb : bl b ≤ 1099511627776) : Calls Tryz.prog 191 #[nvV x a, nvV y b] w (Ret (natR (a + b)) w) := by
 have hat1 : ∀ i W, Grow w W → Calls Tryz.prog 206 #[nvV x a, .int .i64 (i : Nat)] W fun e w' => e = .returned (.int .u64 (dg (digs W32 a) i : Nat)) ∧ Grow W w' := fun i W hg => ref1_at x a i W (hx.grow hg)
 have hat2 : ∀ i W, Grow w W → Calls Tryz.prog 206 #[nvV y b, .int .i64 (i : Nat)] W fun e w' => e = .returned (.int .u64 (dg (digs W32 b) i : Nat)) ∧ Grow W w' := fun i W hg => ref1_at y b i W (hy.grow hg)
 obtain ⟨p, hp⟩ : ∃ n, n = ln a := ⟨_, rfl⟩
 obtain ⟨q, hq⟩ : ∃ n, n = ln b := ⟨_, rfl⟩
 obtain ⟨A1, c1⟩ := x
 obtain ⟨A2, c2⟩ := y
 have hpl := ln_bl a
 have hql := ln_bl b
 rw [← hp] at hpl
 rw [← hq] at hql
 obtain ⟨n, hn⟩ : ∃ n, n = max p q := ⟨_, rfl⟩
 have f0 : max (p : Int) (q : Int) = (n : Int) := by omega
 obtain ⟨N, hN⟩ : ∃ N, N = n + 1 := ⟨_, rfl⟩
 have fN : (n : Int) + 1 = (N : Int) := by omega
 have fN2 : IntKind.i64.wrap ((n : Int) + 1) = (N : Int) := by rw [fN]; exact IntWalk.i64_in _ (by omega)
 have hmk := make_u32 N (by omega) (N : Int) rfl
 have hNb : N ≤ 34359738400 := by omega
 have hpN : p < N := by omega
 have hqN : q < N := by omega
 have hnN1 : n + 1 ≤ N := by omega
 have hnN2 : N ≤ n + 1 := by omega
 show Calls Tryz.prog 191 #[.slice A1 (ln a) c1, .slice A2 (ln b) c2] w _
 rw [← hp, ← hq]
 change ∀ i W, Grow w W → Calls Tryz.prog 206 #[.slice A1 (ln a) c1, .int .i64 (i : Nat)] W _ at hat1
 change ∀ i W, Grow w W → Calls Tryz.prog 206 #[.slice A2 (ln b) c2, .int .i64 (i : Nat)] W _ at hat2
 rw [← hp] at hat1
 rw [← hq] at hat2
 have Hat1 := Lib.hid hat1
 have Hat2 := Lib.hid hat2
 have Hp := Lib.hid hp
 have Hq := Lib.hid hq
 clear hat1 hat2 hp hq hx hy hn hN hpl hql ha hb
 go_enter Tryz.func191, Tryz.ntmps191
 refine en0 ?_
 intro u hG hB hF
 refine r0T ?_
 refine r0T ?_
 have hbo := Blk.new u 162 (cells32 (List.replicate N 0))
 have hF3 := Fr.new (tk := []) hF hB hG (Nat.le_refl u.heap.size) (by simp)
 have hB3 := Bx.cons hbo (hB.grow (Grow.alloc u (.cells (cells32 (List.replicate N 0)) 162)))
 have hG3 := hG.trans (Grow.alloc u (.cells (cells32 (List.replicate N 0)) 162))
 simp only [List.cons_append, List.nil_append, List.map_cons, List.map_nil] at hF3
 clear hB hF hG hbo
 generalize World.alloc u _ = v at  hB3 hG3 ⊢
 generalize u.heap.size = b6 at hB3 hF3 ⊢
 have hB := hB3
 have hF := hF3
 have hG := hG3
 clear hB3 hF3 hG3
 obtain ⟨u, rfl⟩ : ∃ x, x = v := ⟨_, rfl⟩
 refine r0T ?_
 refine wp_seq ?_
 refine r0T ?_
 refine wp_block ?_
 go_loopw [8, 7] (fun s0 s1 wr => ∃ (i : Nat) (c : Nat) (zs : List Nat), i ≤ N ∧ s0 = .int .i64 i ∧ s1 = .int .u64 (c : Nat) ∧ (AdI W32 N (digs W32 a) (digs W32 b) i c zs) ∧ Bx wr [(b6, 162, cells32 zs)] ∧ Grow w wr) (fun s0 _ _ => N - (intOf s0).toNat)
 case atStart => exact ⟨0, 0, List.replicate N 0, Nat.zero_le _, rfl, rfl, AdI.start N _ _ W32_pos, hB, hG⟩
 case round =>
  clear hB hG
  obtain ⟨i, c, zs, hi, rfl, rfl, hrel0, hB, hG⟩ := hrel
  obtain ⟨u, rfl⟩ : ∃ x, x = wr := ⟨_, rfl⟩
  have H0 := Lib.hid hrel0
  clear hrel0
  rcases Nat.lt_or_ge i N with hlt0 | hge0
  ·have hdec : decide ((i : Int) < (N : Int)) = true := by simp; omega
   have hin : i ≤ n := by omega
   have hc1 := H0.out.2.2.1
   have hnx := H0.out.next W32_ge (dig_digs W32_ge a) (dig_digs W32_ge b) hlt0
   have hz := H0.out.1
   have e1 := dgl a i
   have e2 := dgl b i
   have ha1 := Hat1.out i
   have ha2 := Hat2.out i
   obtain ⟨X, hX⟩ : ∃ X, X = dg (digs W32 a) i := ⟨_, rfl⟩
   obtain ⟨Y, hY⟩ : ∃ X, X = dg (digs W32 b) i := ⟨_, rfl⟩
   rw [← hX] at e1 hnx
   rw [← hY] at e2 hnx
   simp only [← hX] at ha1
   simp only [← hY] at ha2
   obtain ⟨s1, hs1⟩ : ∃ s, s = c + X := ⟨_, rfl⟩
   obtain ⟨s2, hs2⟩ : ∃ s, s = c + X + Y := ⟨_, rfl⟩
   obtain ⟨d, hd⟩ : ∃ d, d = s2 % 4294967296 := ⟨_, rfl⟩
   obtain ⟨c', hc'⟩ : ∃ d, d = s2 / 4294967296 := ⟨_, rfl⟩
   have hnx2 : AdI W32 N (digs W32 a) (digs W32 b) (i + 1) c' (zs.set i d) := by
    rw [hc', hd, hs2, show c + X + Y = X + Y + c by omega]
    exact hnx
   have f1 : IntKind.u64.wrap ((c : Int) + (X : Int)) = (s1 : Int) := by rw [show (c : Int) + (X : Int) = ((s1 : Nat) : Int) by omega]; exact wrapN (by omega)
   have f2 : IntKind.u64.wrap ((s1 : Int) + (Y : Int)) = (s2 : Int) := by rw [show (s1 : Int) + (Y : Int) = ((s2 : Nat) : Int) by omega]; exact wrapN (by omega)
   have f3 : (s2 : Int) % 4294967296 = (d : Int) := by omega
   have f3' : IntKind.u32.wrap (s2 : Int) = (d : Int) := by rw [← f3]; simp [IntKind.wrap, IntKind.signed, IntKind.bits]
   have f4 : (s2 : Int) / 4294967296 = (c' : Int) := by omega
   have g1 : ∃ old, (cells32 zs)[i]? = some old := by rw [cells32_get, List.getElem?_eq_getElem (by rw [hz]; exact hlt0)]; exact ⟨_, rfl⟩
   obtain ⟨old, g1⟩ := g1
   have G2 := Lib.hid (cells32_set zs i d)
   have Ha1 := Lib.hid ha1
   have Ha2 := Lib.hid ha2
   have Hnx := Lib.hid hnx2
   clear hnx hnx2 ha1 ha2 hX hY hs1 hs2 hd hc' hz hc1
   refine wp_seq ?_
   refine r0T ?_
   refine wp_cond_true (rfl) ?_
   refine wp_skip ?_
   refine then_norm ?_
   refine wp_seq ?_
   refine wp_block ?_
   refine wp_seq (rsE allocs [0, 0, 0, 1, 0, 0, 0, 1, 0, 0] hB hG fun L hL => ?_)
   refine gs ?_
   refine gmd (C := fun v ⟨hgu, hB, hG, _⟩ => Ha1.out _ hG) ?_
   refine gs ?_
   refine gmd (C := fun v ⟨hgu, hB, hG, _⟩ => Ha2.out _ hG) ?_
   refine gs ?_
   refine geT hL ?_
   clear hB hG hL L
   rintro u ⟨-, hB, hG, -⟩
   refine r0T ?_
   generalize hu0 : World.setCell u _ _ = u0
   have hBG := hB.over hF hG 0 rfl i [_] hu0
   clear hB hG
   simp only [List.modify_succ_cons, List.modify_zero_cons, wrAll, G2.out] at hBG
   obtain ⟨hB, hG⟩ := hBG
   clear hu0
   obtain ⟨u, rfl⟩ : ∃ x, x = u0 := ⟨_, rfl⟩
   refine r0E ?_
   refine blk_norm ?_
   refine then_norm ?_
   refine r0E ?_
   refine then_norm ?_
   go_roundw
   case rel => exact ⟨i + 1, c', zs.set i d, by omega, by go_num, rfl, Hnx.out, hB, hG⟩
   case measure => simp [intOf]; try omega
  ·obtain rfl : N = i := by omega
   have hdec : decide ((N : Int) < (N : Int)) = false := by simp
   have hnin : ¬ (N ≤ n) := by omega
   have hvv := H0.out.done W32_ge (dig_digs W32_ge a) (dig_digs W32_ge b) (by rw [show (digs W32 a).length = p from Hp.out.symm]; exact hpN) (by rw [show (digs W32 b).length = q from Hq.out.symm]; exact hqN)
   rw [val_digs W32_ge, val_digs W32_ge] at hvv
   have Htr := Lib.hid (trim_ret hG hB.head H0.out.1 H0.out.2.1 hvv (by omega))
   have Hvv := Lib.hid hvv
   clear hvv
   refine wp_seq ?_
   refine r0T ?_
   refine wp_cond_false (rfl) ?_
   refine wp_exit ?_
   refine then_exit ?_
   refine then_exit ?_
   refine blk_exit ?_
   refine then_norm ?_
   refine wp_seq ?_
   obtain ⟨V, hV⟩ : ∃ V, V = a + b := ⟨_, rfl⟩
   rw [← hV] at Htr
   have HV := Lib.hid hV
   clear hV
   refine rsE allocs [0, 1, 0] hB hG fun L hL => ?_
   refine gs ?_
   refine gmd (C := fun v ⟨hgu, hB, hG, _⟩ => Htr.out _ hgu) ?_
   refine gs ?_
   refine geT hL ?_
   clear hB hG hL L
   rintro u ⟨-, hB, hG, -⟩
   refine rt Tryz.results191 ?_
   exact ⟨(some ⟨b6, 0, none⟩, N), by rw [← HV.out]; rfl, trim_rn hB.head H0.out.1 H0.out.2.1 Hvv.out (by omega), hG⟩
end Go.Proofs.YtjmopgepnndckaaGreatDoor
