/-
  Contracts and laws: RefM RefE.
-/
import Derived.Test.YtimjnkfcnpfoeaaGreatDoorV33
set_option linter.unusedSimpArgs false
set_option linter.unusedVariables false
namespace Go.Proofs.YtimjnkfcnpfoeaaGreatDoor
open Go.RowKit
theorem ref1_NatDiv (x y : Ax) (a b : Nat) (w : World) (hx : Rn w x a) (hy : Rn w y b) (h0 : b ≠ 0) (ha : bl a ≤ BIG) : Calls Tryz.prog 132 #[nvV x a, nvV y b] w (Ret (nnR (a / b) (a % b)) w) := by
 by_cases hs : b < W32
 ·exact ref1_NatDiv_small x y a b w hx hy h0 hs
 ·by_cases hlt : a < b
  ·exact ref1_NatDiv_less x y a b w hx hy hlt
  ·refine ref1_NatDiv_long x y a b w hx hy (by omega) ?_ ha
   have h1 := ln_mono (Nat.not_lt.1 hs)
   have h2 : ln W32 = 2 := by decide +kernel
   omega
set_option maxHeartbeats 1000000 in
set_option maxRecDepth 100000 in
theorem ref1_NatGcd (x y : Ax) (a b : Nat) (w : World) (hx : Rn w x a) (hy : Rn w y b) (ha : bl a ≤ BIG) (hb : bl b ≤ BIG) : Calls Tryz.prog 131 #[nvV x a, nvV y b] w (Ret (natR (Nat.gcd a b)) w) := by
 have Hx := Lib.hid hx
 have Hy := Lib.hid hy
 have Ha := Lib.hid ha
 have Hb := Lib.hid hb
 obtain ⟨g, hg⟩ : ∃ g, g = Nat.gcd a b := ⟨_, rfl⟩
 rw [← hg]
 have Hg := Lib.hid hg.symm
 clear hx hy ha hb hg
 go_enter Tryz.func131, Tryz.ntmps131
 go_wp2_with fail
 go_loopg [0, 1] b (fun k s t wr => ∃ (x y : Ax) (a : Nat), s = nvV x a ∧ t = nvV y k ∧ Nat.gcd a k = g ∧ (bl a ≤ BIG ∧ bl k ≤ BIG) ∧ Rn wr x a ∧ Rn wr y k ∧ Grow w wr)
 case atStart => exact ⟨x, y, a, rfl, rfl, Hg.out, ⟨Ha.out, Hb.out⟩, Hx.out, Hy.out, Grow.refl _⟩
 case round =>
  obtain ⟨x, y, a, rfl, rfl, hgc, hs, hx, hy, hG⟩ := hrel
  rcases Nat.eq_zero_or_pos gk with h0 | h0
  ·have hl : ¬ 0 < ln gk := by rw [h0, ln_zero]; omega
   have Hgc : Hid (a = g) := by rw [h0, Nat.gcd_zero_right] at hgc; exact Lib.hid hgc
   have Hr := Lib.hid hx
   clear hgc hs hx hy h0
   go_wp2_with fail
   go_ret
   exact ⟨x, by rw [← Hgc.out]; rfl, by rw [← Hgc.out]; exact Hr.out, hG⟩
  ·have hl : 0 < ln gk := ln_pos.2 (by omega)
   have hdv := ref1_NatDiv x y a gk wr hx hy (by omega) hs.1
   obtain ⟨q, hq⟩ : ∃ q, q = a / gk := ⟨_, rfl⟩
   obtain ⟨m, hm⟩ : ∃ m, m = a % gk := ⟨_, rfl⟩
   have hmlt : m < gk := by rw [hm]; exact Nat.mod_lt _ h0
   have Hgc : Hid (Nat.gcd gk m = g) := by rw [hm]; exact Lib.hid (gcd_step a gk g hgc)
   rw [← hq, ← hm] at hdv
   have Hdv := Lib.hid (Ret.nn hdv)
   have Hy := Lib.hid hy
   have Hs : Hid (bl gk ≤ BIG ∧ bl m ≤ BIG) := Lib.hid ⟨hs.2, Nat.le_trans (bl_mono (Nat.le_of_lt hmlt)) hs.2⟩
   clear hgc hs hx hy hq hm hdv
   go_wp2_with (go_at_call 132; ((with_reducible refine (Hdv.out).mono ?_); rintro e w1 ⟨y1, y2, rfl, hr1, hr2, hg1⟩))
   go_roundg m
   case rel => exact ⟨y, y2, gk, rfl, rfl, Hgc.out, Hs.out, Hy.out.grow hg1, hr2, hG.trans hg1⟩
   case measure => exact hmlt
end Go.Proofs.YtimjnkfcnpfoeaaGreatDoor
namespace Go.Proofs.YtimjnkfcnpfoeaaGreatDoor
open Go.RowKit
theorem newObj_RInt (d : Option Tmp) (ty : TypeId) (pos : String) (af : Array Edge) (gd : Option (Nat × Bool)) : newObj Tryz.prog ⟨d, .alloc 39, ty, pos, af, gd⟩ = .cells #[.bool false, .slice none 0 0] 39 := by kernel_rfl
theorem newObj_RQ (d : Option Tmp) (ty : TypeId) (pos : String) (af : Array Edge) (gd : Option (Nat × Bool)) : newObj Tryz.prog ⟨d, .alloc 41, ty, pos, af, gd⟩ = .cells #[.bool false, .slice none 0 0, .slice none 0 0] 41 := by kernel_rfl
theorem riV_sgn (x : Ax) (neg : Bool) (a : Nat) : riV x (sgn neg a) = .agg #[.bool (neg && decide (a ≠ 0)), .slice x.1 (ln a) x.2] := by
 unfold riV; rw [intNeg_sgn, sgn_abs]
set_option maxHeartbeats 400000 in
set_option maxRecDepth 100000 in
theorem ref1_I_no (x : Ax) (a : Nat) (w : World) : Calls Tryz.prog 133 #[.bool false, nvV x a] w fun e w' => e = .returned (riV x (sgn false a)) ∧ Grow w w' := by
 rw [riV_sgn, Bool.false_and]
 go_enter Tryz.func133, Tryz.ntmps133
 refine wp_seq (wp_r0 ?_)
 intro K hN
 go_wp2_with fail
 generalize hu : World.alloc w _ = u
 obtain ⟨hB, hG⟩ := bx_first [(_, _)] w u hu
 have hF := fr_first w [(39, #[])]
 simp only [numbered, List.map_cons, List.map_nil] at hB hF
 clear hu
 generalize w.heap.size = b4 at hB hF ⊢
 refine NoK.norm (hN _ _ ?_)
 clear hN K
 refine then_norm ?_
 refine wp_seq ?_
 refine wp_r0 ?_
 intro K hN
 have r := hB.r
 simp only [BxR] at r
 go_wp2_with fail
 clear r
 generalize hu0 : World.setCell (World.setCell u _ _) _ _ = u0
 have hBG := over_n hB hF hG 0 rfl 0 [_, _] hu0
 clear hB hG hu0
 obtain ⟨hB, hG⟩ := hBG
 clear u
 obtain ⟨u, rfl⟩ : ∃ x, x = u0 := ⟨_, rfl⟩
 refine NoK.norm (hN _ _ ?_)
 clear hN K
 refine then_norm ?_
 refine wp_ret ?_
 refine ret_b rfl ?_
 intro N hN
 have r := hB.r
 simp only [BxR] at r
 simp only [results, Tryz.results133]
 go_simp
 refine hN _ ?_
 clear hN N r
 exact ⟨rfl, hG⟩
set_option maxHeartbeats 400000 in
set_option maxRecDepth 100000 in
theorem ref1_I_yes (x : Ax) (a : Nat) (w : World) : Calls Tryz.prog 133 #[.bool true, nvV x a] w fun e w' => e = .returned (riV x (sgn true a)) ∧ Grow w w' := by
 rw [riV_sgn, Bool.true_and]
 have hd : decide (a ≠ 0) = decide (0 < ln a) := by
  have := @ln_pos a
  rw [decide_eq_decide]; exact this.symm
 rw [hd]
 clear hd
 go_enter Tryz.func133, Tryz.ntmps133
 refine wp_seq (wp_r0 ?_)
 intro K hN
 go_wp2_with fail
 generalize hu : World.alloc w _ = u
 obtain ⟨hB, hG⟩ := bx_first [(_, _)] w u hu
 have hF := fr_first w [(39, #[])]
 simp only [numbered, List.map_cons, List.map_nil] at hB hF
 clear hu
 generalize w.heap.size = b4 at hB hF ⊢
 refine NoK.norm (hN _ _ ?_)
 clear hN K
 refine then_norm ?_
 refine wp_seq ?_
 refine wp_r0 ?_
 intro K hN
 have r := hB.r
 simp only [BxR] at r
 go_wp2_with fail
 clear r
 generalize hu0 : World.setCell (World.setCell u _ _) _ _ = u0
 have hBG := over_n hB hF hG 0 rfl 0 [_, _] hu0
 clear hB hG hu0
 obtain ⟨hB, hG⟩ := hBG
 clear u
 obtain ⟨u, rfl⟩ : ∃ x, x = u0 := ⟨_, rfl⟩
 refine NoK.norm (hN _ _ ?_)
 clear hN K
 refine then_norm ?_
 refine wp_ret ?_
 refine ret_b rfl ?_
 intro N hN
 have r := hB.r
 simp only [BxR] at r
 simp only [results, Tryz.results133]
 go_simp
 refine hN _ ?_
 clear hN N r
 exact ⟨rfl, hG⟩
--! ref1_I = ref1_I _ _ _ _
theorem ref1_I (x : Ax) (neg : Bool) (a : Nat) (w : World) : Calls Tryz.prog 133 #[.bool neg, nvV x a] w fun e w' => e = .returned (riV x (sgn neg a)) ∧ Grow w w' := by
 cases neg
 ·exact ref1_I_no x a w
 ·exact ref1_I_yes x a w
set_option maxHeartbeats 400000 in
set_option maxRecDepth 100000 in
theorem ref1_IntOf_neg (n : Int) (h0 : n < 0) (h1 : -9223372036854775808 ≤ n) (w : World) : Calls Tryz.prog 83 #[.int .i64 n] w (Ret (intR n) w) := by
 have hw1 : IntKind.u64.wrap n = n + 18446744073709551616 := by
  simp [IntKind.wrap, IntKind.signed, IntKind.bits]; omega
 have hw2 : IntKind.u64.wrap (-(n + 18446744073709551616)) = (n.natAbs : Nat) := by
  simp [IntKind.wrap, IntKind.signed, IntKind.bits]; omega
 have hlt : n.natAbs < W64 := by unfold W64; omega
 have hd : decide (n < 0) = true := by simpa using h0
 have hn : sgn true n.natAbs = n := by rw [sgn_true]; omega
 have Hn := Lib.hid hn
 clear hn
 go_enter Tryz.func83, Tryz.ntmps83
 refine wp_seq (wp_r0 ?_)
 intro K hN
 go_wp2_with fail
 generalize hu : World.alloc w _ = u
 obtain ⟨hB, hG⟩ := bx_first [(_, _)] w u hu
 have hF := fr_first w [(39, #[])]
 simp only [numbered, List.map_cons, List.map_nil] at hB hF
 clear hu
 generalize w.heap.size = b2 at hB hF ⊢
 refine NoK.norm (hN _ _ ?_)
 clear hN K
 refine then_norm ?_
 refine wp_seq ?_
 refine wp_seq ?_
 refine wp_r0 ?_
 intro K hN
 go_wp2_with fail
 refine NoK.norm (hN _ _ ?_)
 clear hN K
 refine then_norm ?_
 refine wp_cond_true (rfl) ?_
 refine wp_seq ?_
 refine wp_rs (w := w) allocs 5 [0, 0, 0, 1, 1] (by kernel_rfl) (by simp only [List.drop_succ_cons, List.drop_zero]; exact rfl) (fun _ => True) noG hB hG trivial ?_
 intro K L hN hL
 simp only [List.zip_cons_cons, List.zip_nil_left]
 refine gya ?_
 refine gya ?_
 refine gya ?_
 refine gr (natR n.natAbs) rfl ?_ (fun (x8 : Ax) => ?_)
 ·(rintro v ⟨hgu, hB, hG, -⟩ N hN; go_simp; ((with_reducible refine (ref1_NatOf n.natAbs hlt _).mono ?_); rintro e w1 ⟨x, rfl, hx, hg⟩; exact ⟨_, rfl, hN x w1 hx hg⟩))
 refine okf (by simp only [natR, intR, ratR, nnR, Act.put, List.setIfInBounds_toArray, List.set_cons_succ, List.set_cons_zero]; exact rfl) ?_
 refine gma (by (rintro v ⟨⟨hgu, hB, hG, -⟩, hx8⟩ N hN; have hx8 : Rn v x8 _ := hx8; go_simp; with_reducible exact gmc (ref1_I x8 true n.natAbs _) hN)) ?_
 refine gend ?_
 rintro v ⟨⟨hgu, hB1, hG1, -⟩, hx8⟩
 replace hx8 : Rn v x8 _ := hx8
 clear hB hG
 have hB := hB1
 have hG := hG1
 clear hB1 hG1
 refine hL _ _ ?_
 clear hL L hgu
 obtain ⟨u, rfl⟩ : ∃ x, x = v := ⟨_, rfl⟩
 have r := hB.r
 simp only [BxR] at r
 go_wp2_with fail
 clear r
 generalize hu0 : World.setCell (World.setCell u _ _) _ _ = u0
 have hBG := over_n hB hF hG 0 rfl 0 [_, _] hu0
 replace hx8 := hx8.put hB 0 rfl (by first | decide | simp) 0 [_, _] hu0
 clear hB hG hu0
 obtain ⟨hB, hG⟩ := hBG
 clear u
 obtain ⟨u, rfl⟩ : ∃ x, x = u0 := ⟨_, rfl⟩
 refine NoK.norm (hN _ _ ?_)
 clear hN K
 refine then_norm ?_
 refine wp_ret ?_
 refine then_ret ?_
 refine ret_b rfl ?_
 intro N hN
 have r := hB.r
 simp only [BxR] at r
 simp only [results, Tryz.results83]
 go_simp
 refine hN _ ?_
 clear hN N r
 exact ⟨x8, congrArg (fun z : Int => Ending.returned (riV x8 z)) Hn.out, hx8, hG⟩
set_option maxHeartbeats 400000 in
set_option maxRecDepth 100000 in
theorem ref1_IntOf_pos (n : Int) (h0 : 0 ≤ n) (h1 : n ≤ 9223372036854775807) (w : World) : Calls Tryz.prog 83 #[.int .i64 n] w (Ret (intR n) w) := by
 have hw1 : IntKind.u64.wrap n = (n.natAbs : Nat) := by
  simp [IntKind.wrap, IntKind.signed, IntKind.bits]; omega
 have hlt : n.natAbs < W64 := by unfold W64; omega
 have hd : decide (n < 0) = false := by simpa using h0
 have hn : sgn false n.natAbs = n := by rw [sgn_false]; omega
 have Hn := Lib.hid hn
 clear hn
 go_enter Tryz.func83, Tryz.ntmps83
 refine wp_seq (wp_r0 ?_)
 intro K hN
 go_wp2_with fail
 generalize hu : World.alloc w _ = u
 obtain ⟨hB, hG⟩ := bx_first [(_, _)] w u hu
 have hF := fr_first w [(39, #[])]
 simp only [numbered, List.map_cons, List.map_nil] at hB hF
 clear hu
 generalize w.heap.size = b2 at hB hF ⊢
 refine NoK.norm (hN _ _ ?_)
 clear hN K
 refine then_norm ?_
 refine wp_seq ?_
 refine wp_seq ?_
 refine wp_r0 ?_
 intro K hN
 go_wp2_with fail
 refine NoK.norm (hN _ _ ?_)
 clear hN K
 refine then_norm ?_
 refine wp_cond_false (rfl) ?_
 refine wp_skip ?_
 refine then_norm ?_
 refine wp_seq ?_
 refine wp_rs (w := w) allocs 4 [0, 0, 1, 1] (by kernel_rfl) (by simp only [List.drop_succ_cons, List.drop_zero]; exact rfl) (fun _ => True) noG hB hG trivial ?_
 intro K L hN hL
 simp only [List.zip_cons_cons, List.zip_nil_left]
 refine gya ?_
 refine gya ?_
 refine gr (natR n.natAbs) rfl ?_ (fun (x12 : Ax) => ?_)
 ·(rintro v ⟨hgu, hB, hG, -⟩ N hN; go_simp; ((with_reducible refine (ref1_NatOf n.natAbs hlt _).mono ?_); rintro e w1 ⟨x, rfl, hx, hg⟩; exact ⟨_, rfl, hN x w1 hx hg⟩))
 refine okf (by simp only [natR, intR, ratR, nnR, Act.put, List.setIfInBounds_toArray, List.set_cons_succ, List.set_cons_zero]; exact rfl) ?_
 refine gma (by (rintro v ⟨⟨hgu, hB, hG, -⟩, hx12⟩ N hN; have hx12 : Rn v x12 _ := hx12; go_simp; with_reducible exact gmc (ref1_I x12 false n.natAbs _) hN)) ?_
 refine gend ?_
 rintro v ⟨⟨hgu, hB1, hG1, -⟩, hx12⟩
 replace hx12 : Rn v x12 _ := hx12
 clear hB hG
 have hB := hB1
 have hG := hG1
 clear hB1 hG1
 refine hL _ _ ?_
 clear hL L hgu
 obtain ⟨u, rfl⟩ : ∃ x, x = v := ⟨_, rfl⟩
 have r := hB.r
 simp only [BxR] at r
 go_wp2_with fail
 clear r
 generalize hu0 : World.setCell (World.setCell u _ _) _ _ = u0
 have hBG := over_n hB hF hG 0 rfl 0 [_, _] hu0
 replace hx12 := hx12.put hB 0 rfl (by first | decide | simp) 0 [_, _] hu0
 clear hB hG hu0
 obtain ⟨hB, hG⟩ := hBG
 clear u
 obtain ⟨u, rfl⟩ : ∃ x, x = u0 := ⟨_, rfl⟩
 refine NoK.norm (hN _ _ ?_)
 clear hN K
 refine then_norm ?_
 refine wp_ret ?_
 refine ret_b rfl ?_
 intro N hN
 have r := hB.r
 simp only [BxR] at r
 simp only [results, Tryz.results83]
 go_simp
 refine hN _ ?_
 clear hN N r
 exact ⟨x12, congrArg (fun z : Int => Ending.returned (riV x12 z)) Hn.out, hx12, hG⟩
theorem ref1_IntOf (n : Int) (h0 : -9223372036854775808 ≤ n) (h1 : n ≤ 9223372036854775807) (w : World) : Calls Tryz.prog 83 #[.int .i64 n] w (Ret (intR n) w) := by
 by_cases h : n < 0
 ·exact ref1_IntOf_neg n h h0 w
 ·exact ref1_IntOf_pos n (by omega) h1 w
theorem ret_rq {x y : Ax} {z : Int} {d : Nat} {q : Rat} (h1 : q.num = z) (h2 : q.den = d) : Ending.returned (.agg #[.bool (intNeg z), .slice x.1 (ln z.natAbs) x.2, .slice y.1 (ln d) y.2]) = .returned (rqV x y q) := by subst h1; subst h2; rfl
theorem over_num (n d : Int) (h : d ≠ 0) : (qover n d).num = sgn (intNeg n != intNeg d) (n.natAbs / Nat.gcd n.natAbs d.natAbs) := by
 have hd : d.natAbs ≠ 0 := by omega
 by_cases hn : d < 0
 ·rw [over_neg n d hn, num_low _ _ hd, ← sgn_div]
  have e1 : (zneg n).natAbs = n.natAbs := by unfold zneg; exact Int.natAbs_neg n
  rw [e1]
  have e2 : intNeg d = true := decide_eq_true hn
  rw [e2]
  by_cases h0 : n = 0
  ·subst h0; simp [sgn]
  ·congr 1
   unfold intNeg zneg
   rw [Bool.eq_iff_iff]
   simp
   omega
 ·rw [over_pos n d hn, num_low _ _ hd, ← sgn_div]
  have e2 : intNeg d = false := decide_eq_false hn
  rw [e2]
  simp
theorem over_den (n d : Int) (h : d ≠ 0) : (qover n d).den = d.natAbs / Nat.gcd n.natAbs d.natAbs := by
 have hd : d.natAbs ≠ 0 := by omega
 by_cases hn : d < 0
 ·rw [over_neg n d hn, den_low _ _ hd]
  unfold zneg; rw [Int.natAbs_neg]
 ·rw [over_pos n d hn, den_low _ _ hd]
set_option maxHeartbeats 1000000 in
set_option maxRecDepth 100000 in
theorem ref1_Make (x y : Ax) (n d : Int) (w : World) (hx : Rn w x n.natAbs) (hy : Rn w y d.natAbs) (h0 : d ≠ 0) (hn : bl n.natAbs ≤ BIG) (hd : bl d.natAbs ≤ BIG) : Calls Tryz.prog 80 #[riV x n, riV y d] w (Ret (ratR (qover n d)) w) := by
 have He := Lib.hid (And.intro (over_num n d h0) (over_den n d h0))
 have hd0 : d.natAbs ≠ 0 := by omega
 have g0 : Nat.gcd n.natAbs d.natAbs ≠ 0 := fun e => hd0 (Nat.eq_zero_of_gcd_eq_zero_right e)
 go_enter Tryz.func80, Tryz.ntmps80
 refine wp_seq (wp_r0 ?_)
 intro K hN
 go_wp2_with fail
 generalize hu : World.alloc (World.alloc (World.alloc w _) _) _ = u
 obtain ⟨hB, hG⟩ := bx_first [(_, _), (_, _), (_, _)] w u hu
 have hF := fr_first w [(39, #[]), (39, #[]), (41, #[])]
 simp only [numbered, List.map_cons, List.map_nil] at hB hF
 clear hu
 generalize w.heap.size + 1 + 1 = b4 at hB hF ⊢
 generalize w.heap.size + 1 = b3 at hB hF ⊢
 generalize w.heap.size = b2 at hB hF ⊢
 replace hx := hx.grow hG
 replace hy := hy.grow hG
 refine NoK.norm (hN _ _ ?_)
 clear hN K
 refine then_norm ?_
 refine wp_seq ?_
 refine wp_rs (w := w) allocs 6 [0, 0, 0, 0, 1, 0] (by kernel_rfl) (by simp only [List.drop_succ_cons, List.drop_nil]; exact rfl) (fun _ => True) noG hB hG trivial ?_
 intro K L hN hL
 simp only [List.zip_cons_cons, List.zip_nil_left]
 refine gya ?_
 refine gyr ?_
 refine gya ?_
 refine gyr ?_
 refine gr (natR (Nat.gcd n.natAbs d.natAbs)) rfl ?_ (fun (x14 : Ax) => ?_)
 ·(rintro v ⟨hgu, hB, hG, -⟩ N hN; go_simp; ((with_reducible refine (ref1_NatGcd x y n.natAbs d.natAbs _ (hx.grow hgu) (hy.grow hgu) hn hd).mono ?_); rintro e w1 ⟨x, rfl, hx, hg⟩; exact ⟨_, rfl, hN x w1 hx hg⟩))
 refine okf (by simp only [natR, intR, ratR, nnR, Act.put, List.setIfInBounds_toArray, List.set_cons_succ, List.set_cons_zero]; exact rfl) ?_
 refine gya ?_
 refine gend ?_
 rintro v ⟨⟨hgu, hB1, hG1, -⟩, hx14⟩
 replace hx := hx.grow hgu
 replace hy := hy.grow hgu
 replace hx14 : Rn v x14 _ := hx14
 clear hB hG
 have hB := hB1
 have hG := hG1
 clear hB1 hG1
 refine hL _ _ ?_
 clear hL L hgu
 obtain ⟨u, rfl⟩ : ∃ x, x = v := ⟨_, rfl⟩
 refine wpList_nil ?_
 refine NoK.norm (hN _ _ ?_)
 clear hN K
 refine then_norm ?_
 refine wp_seq ?_
 refine wp_rs (w := w) allocs 9 [0, 0, 0, 1, 0, 0, 0, 0, 0] (by kernel_rfl) (by simp only [List.drop_succ_cons, List.drop_nil]; exact rfl) (fun _ => True) noG hB hG trivial ?_
 intro K L hN hL
 simp only [List.zip_cons_cons, List.zip_nil_left]
 refine gya ?_
 refine gyr ?_
 refine gya ?_
 refine gr (nnR (n.natAbs / Nat.gcd n.natAbs d.natAbs) (n.natAbs % Nat.gcd n.natAbs d.natAbs)) rfl ?_ (fun (x19 : Ax × Ax) => ?_)
 ·(rintro v ⟨hgu, hB, hG, -⟩ N hN; go_simp; ((with_reducible refine (ref1_NatDiv x x14 n.natAbs _ _ (hx.grow hgu) (hx14.grow hgu) g0 hn).mono ?_); rintro e w1 ⟨x, rfl, hx, hg⟩; exact ⟨_, rfl, hN x w1 hx hg⟩))
 refine okf (by simp only [natR, intR, ratR, nnR, Act.put, List.setIfInBounds_toArray, List.set_cons_succ, List.set_cons_zero]; exact rfl) ?_
 refine gya ?_
 refine gya ?_
 refine gya ?_
 refine gya ?_
 refine gya ?_
 refine gend ?_
 rintro v ⟨⟨hgu, hB1, hG1, -⟩, hx19⟩
 replace hx := hx.grow hgu
 replace hy := hy.grow hgu
 replace hx14 := hx14.grow hgu
 obtain ⟨hx19a, hx19b⟩ : Rn v x19.1 _ ∧ Rn v x19.2 _ := hx19
 clear hB hG
 have hB := hB1
 have hG := hG1
 clear hB1 hG1
 refine hL _ _ ?_
 clear hL L hgu
 obtain ⟨u, rfl⟩ : ∃ x, x = v := ⟨_, rfl⟩
 refine wpList_nil ?_
 refine NoK.norm (hN _ _ ?_)
 clear hN K
 refine then_norm ?_
 refine wp_seq ?_
 refine wp_rs (w := w) allocs 9 [0, 0, 0, 1, 0, 0, 0, 0, 0] (by kernel_rfl) (by simp only [List.drop_succ_cons, List.drop_nil]; exact rfl) (fun _ => True) noG hB hG trivial ?_
 intro K L hN hL
 simp only [List.zip_cons_cons, List.zip_nil_left]
 refine gya ?_
 refine gyr ?_
 refine gya ?_
 refine gr (nnR (d.natAbs / Nat.gcd n.natAbs d.natAbs) (d.natAbs % Nat.gcd n.natAbs d.natAbs)) rfl ?_ (fun (x26 : Ax × Ax) => ?_)
 ·(rintro v ⟨hgu, hB, hG, -⟩ N hN; go_simp; ((with_reducible refine (ref1_NatDiv y x14 d.natAbs _ _ (hy.grow hgu) (hx14.grow hgu) g0 hd).mono ?_); rintro e w1 ⟨x, rfl, hx, hg⟩; exact ⟨_, rfl, hN x w1 hx hg⟩))
 refine okf (by simp only [natR, intR, ratR, nnR, Act.put, List.setIfInBounds_toArray, List.set_cons_succ, List.set_cons_zero]; exact rfl) ?_
 refine gya ?_
 refine gya ?_
 refine gya ?_
 refine gya ?_
 refine gya ?_
 refine gend ?_
 rintro v ⟨⟨hgu, hB1, hG1, -⟩, hx26⟩
 replace hx := hx.grow hgu
 replace hy := hy.grow hgu
 replace hx14 := hx14.grow hgu
 replace hx19a := hx19a.grow hgu
 replace hx19b := hx19b.grow hgu
 obtain ⟨hx26a, hx26b⟩ : Rn v x26.1 _ ∧ Rn v x26.2 _ := hx26
 clear hB hG
 have hB := hB1
 have hG := hG1
 clear hB1 hG1
 refine hL _ _ ?_
 clear hL L hgu
 obtain ⟨u, rfl⟩ : ∃ x, x = v := ⟨_, rfl⟩
 refine wpList_nil ?_
 refine NoK.norm (hN _ _ ?_)
 clear hN K
 refine then_norm ?_
 refine wp_seq ?_
 refine wp_rs (w := w) allocs 9 [0, 0, 0, 0, 0, 0, 1, 0, 0] (by kernel_rfl) (by simp only [List.drop_succ_cons, List.drop_zero]; exact rfl) (fun _ => True) noG hB hG trivial ?_
 intro K L hN hL
 simp only [List.zip_cons_cons, List.zip_nil_left]
 refine gya ?_
 refine gyr ?_
 refine gya ?_
 refine gyr ?_
 refine gya ?_
 refine gya ?_
 refine gma (by (rintro v ⟨hgu, hB, hG, -⟩ N hN; go_simp; with_reducible exact gmc (ref1_I x19.1 _ (n.natAbs / Nat.gcd n.natAbs d.natAbs) _) hN)) ?_
 refine gya ?_
 refine gya ?_
 refine gend ?_
 rintro v ⟨hgu, hB1, hG1, -⟩
 replace hx := hx.grow hgu
 replace hy := hy.grow hgu
 replace hx14 := hx14.grow hgu
 replace hx19a := hx19a.grow hgu
 replace hx19b := hx19b.grow hgu
 replace hx26a := hx26a.grow hgu
 replace hx26b := hx26b.grow hgu
 clear hB hG
 have hB := hB1
 have hG := hG1
 clear hB1 hG1
 refine hL _ _ ?_
 clear hL L hgu
 obtain ⟨u, rfl⟩ : ∃ x, x = v := ⟨_, rfl⟩
 have r := hB.r
 simp only [BxR] at r
 go_wp2_with fail
 clear r
 generalize hu0 : World.setCell (World.setCell (World.setCell u _ _) _ _) _ _ = u0
 have hBG := over_n hB hF hG 2 rfl 0 [_, _, _] hu0
 replace hx := hx.put hB 2 rfl (by first | decide | simp) 0 [_, _, _] hu0
 replace hy := hy.put hB 2 rfl (by first | decide | simp) 0 [_, _, _] hu0
 replace hx14 := hx14.put hB 2 rfl (by first | decide | simp) 0 [_, _, _] hu0
 replace hx19a := hx19a.put hB 2 rfl (by first | decide | simp) 0 [_, _, _] hu0
 replace hx19b := hx19b.put hB 2 rfl (by first | decide | simp) 0 [_, _, _] hu0
 replace hx26a := hx26a.put hB 2 rfl (by first | decide | simp) 0 [_, _, _] hu0
 replace hx26b := hx26b.put hB 2 rfl (by first | decide | simp) 0 [_, _, _] hu0
 clear hB hG hu0
 obtain ⟨hB, hG⟩ := hBG
 clear u
 obtain ⟨u, rfl⟩ : ∃ x, x = u0 := ⟨_, rfl⟩
 refine NoK.norm (hN _ _ ?_)
 clear hN K
 refine then_norm ?_
 refine wp_ret ?_
 refine ret_b rfl ?_
 intro N hN
 have r := hB.r
 simp only [BxR] at r
 simp only [results, Tryz.results80]
 go_simp
 refine hN _ ?_
 clear hN N r
 exact ⟨(x19.1, x26.1), ret_rq He.out.1 He.out.2, ⟨by rw [He.out.1, sgn_abs]; exact hx19a, by rw [He.out.2]; exact hx26a⟩, hG⟩
set_option maxHeartbeats 1000000 in
set_option maxRecDepth 100000 in
theorem ref1_Over (n d : Int) (h0 : -9223372036854775808 ≤ n) (h1 : n ≤ 9223372036854775807) (h2 : -9223372036854775808 ≤ d) (h3 : d ≤ 9223372036854775807) (hd : d ≠ 0) (w : World) : Calls Tryz.prog 79 #[.int .i64 n, .int .i64 d] w (Ret (ratR (qover n d)) w) := by
 go_enter Tryz.func79, Tryz.ntmps79
 refine wp_seq (wp_r0 ?_)
 intro K hN
 go_wp2_with fail
 generalize hu : World.alloc w _ = u
 obtain ⟨hB, hG⟩ := bx_first [(_, _)] w u hu
 have hF := fr_first w [(41, #[])]
 simp only [numbered, List.map_cons, List.map_nil] at hB hF
 clear hu
 generalize w.heap.size = b4 at hB hF ⊢
 refine NoK.norm (hN _ _ ?_)
 clear hN K
 refine then_norm ?_
 refine wp_seq ?_
 refine wp_rs (w := w) allocs 5 [0, 1, 0, 1, 1] (by kernel_rfl) (by simp only [List.drop_succ_cons, List.drop_zero]; exact rfl) (fun _ => True) noG hB hG trivial ?_
 intro K L hN hL
 simp only [List.zip_cons_cons, List.zip_nil_left]
 refine gya ?_
 refine gr (intR n) rfl ?_ (fun (x6 : Ax) => ?_)
 ·(rintro v ⟨hgu, hB, hG, -⟩ N hN; go_simp; ((with_reducible refine (ref1_IntOf n h0 h1 _).mono ?_); rintro e w1 ⟨x, rfl, hx, hg⟩; exact ⟨_, rfl, hN x w1 hx hg⟩))
 refine okf (by simp only [natR, intR, ratR, nnR, Act.put, List.setIfInBounds_toArray, List.set_cons_succ, List.set_cons_zero]; exact rfl) ?_
 refine gya ?_
 refine gr (intR d) rfl ?_ (fun (x8 : Ax) => ?_)
 ·(rintro v ⟨⟨hgu, hB, hG, -⟩, hx6⟩ N hN; have hx6 : Rn v x6 _ := hx6; go_simp; ((with_reducible refine (ref1_IntOf d h2 h3 _).mono ?_); rintro e w1 ⟨x, rfl, hx, hg⟩; exact ⟨_, rfl, hN x w1 hx hg⟩))
 refine okf (by simp only [natR, intR, ratR, nnR, Act.put, List.setIfInBounds_toArray, List.set_cons_succ, List.set_cons_zero]; exact rfl) ?_
 refine gr (ratR (qover n d)) rfl ?_ (fun (x9 : Ax × Ax) => ?_)
 ·(rintro v ⟨⟨⟨hgu, hB, hG, -⟩, hx6⟩, hx8⟩ N hN; have hx6 : Rn v x6 _ := hx6; have hx8 : Rn v x8 _ := hx8; go_simp; ((with_reducible refine (ref1_Make x6 x8 n d _ hx6 hx8 hd (bl_i64 h0 h1) (bl_i64 h2 h3)).mono ?_); rintro e w1 ⟨x, rfl, hx, hg⟩; exact ⟨_, rfl, hN x w1 hx hg⟩))
 refine okf (by simp only [natR, intR, ratR, nnR, Act.put, List.setIfInBounds_toArray, List.set_cons_succ, List.set_cons_zero]; exact rfl) ?_
 refine gend ?_
 rintro v ⟨⟨⟨⟨hgu, hB1, hG1, -⟩, hx6⟩, hx8⟩, hx9⟩
 replace hx6 : Rn v x6 _ := hx6
 replace hx8 : Rn v x8 _ := hx8
 obtain ⟨hx9a, hx9b⟩ : Rn v x9.1 _ ∧ Rn v x9.2 _ := hx9
 clear hB hG
 have hB := hB1
 have hG := hG1
 clear hB1 hG1
 refine hL _ _ ?_
 clear hL L hgu
 obtain ⟨u, rfl⟩ : ∃ x, x = v := ⟨_, rfl⟩
 have r := hB.r
 simp only [BxR] at r
 go_wp2_with fail
 clear r
 generalize hu0 : World.setCell (World.setCell (World.setCell u _ _) _ _) _ _ = u0
 have hBG := over_n hB hF hG 0 rfl 0 [_, _, _] hu0
 replace hx6 := hx6.put hB 0 rfl (by first | decide | simp) 0 [_, _, _] hu0
 replace hx8 := hx8.put hB 0 rfl (by first | decide | simp) 0 [_, _, _] hu0
 replace hx9a := hx9a.put hB 0 rfl (by first | decide | simp) 0 [_, _, _] hu0
 replace hx9b := hx9b.put hB 0 rfl (by first | decide | simp) 0 [_, _, _] hu0
 clear hB hG hu0
 obtain ⟨hB, hG⟩ := hBG
 clear u
 obtain ⟨u, rfl⟩ : ∃ x, x = u0 := ⟨_, rfl⟩
 refine NoK.norm (hN _ _ ?_)
 clear hN K
 refine then_norm ?_
 refine wp_ret ?_
 refine ret_b rfl ?_
 intro N hN
 have r := hB.r
 simp only [BxR] at r
 simp only [results, Tryz.results79]
 go_simp
 refine hN _ ?_
 clear hN N r
 exact ⟨x9, rfl, ⟨hx9a, hx9b⟩, hG⟩
theorem ref1_NatOf_1 (w : World) : Calls Tryz.prog 84 #[.int .u64 1] w (Ret (natR 1) w) := ref1_NatOf 1 (by unfold W64; omega) w
set_option maxHeartbeats 1000000 in
set_option maxRecDepth 100000 in
theorem ref1_Of (n : Int) (h0 : -9223372036854775808 ≤ n) (h1 : n ≤ 9223372036854775807) (w : World) : Calls Tryz.prog 31 #[.int .i64 n] w (Ret (ratR (qint n)) w) := by
 go_enter Tryz.func31, Tryz.ntmps31
 refine wp_seq (wp_r0 ?_)
 intro K hN
 go_wp2_with fail
 generalize hu : World.alloc w _ = u
 obtain ⟨hB, hG⟩ := bx_first [(_, _)] w u hu
 have hF := fr_first w [(41, #[])]
 simp only [numbered, List.map_cons, List.map_nil] at hB hF
 clear hu
 generalize w.heap.size = b2 at hB hF ⊢
 refine NoK.norm (hN _ _ ?_)
 clear hN K
 refine then_norm ?_
 refine wp_seq ?_
 refine wp_rs (w := w) allocs 4 [0, 1, 1, 0] (by kernel_rfl) (by simp only [List.drop_succ_cons, List.drop_zero]; exact rfl) (fun _ => True) noG hB hG trivial ?_
 intro K L hN hL
 simp only [List.zip_cons_cons, List.zip_nil_left]
 refine gya ?_
 refine gr (intR n) rfl ?_ (fun (x4 : Ax) => ?_)
 ·(rintro v ⟨hgu, hB, hG, -⟩ N hN; go_simp; ((with_reducible refine (ref1_IntOf n h0 h1 _).mono ?_); rintro e w1 ⟨x, rfl, hx, hg⟩; exact ⟨_, rfl, hN x w1 hx hg⟩))
 refine okf (by simp only [natR, intR, ratR, nnR, Act.put, List.setIfInBounds_toArray, List.set_cons_succ, List.set_cons_zero]; exact rfl) ?_
 refine gr (natR 1) rfl ?_ (fun (x5 : Ax) => ?_)
 ·(rintro v ⟨⟨hgu, hB, hG, -⟩, hx4⟩ N hN; have hx4 : Rn v x4 _ := hx4; go_simp; ((with_reducible refine (ref1_NatOf_1 _).mono ?_); rintro e w1 ⟨x, rfl, hx, hg⟩; exact ⟨_, rfl, hN x w1 hx hg⟩))
 refine okf (by simp only [natR, intR, ratR, nnR, Act.put, List.setIfInBounds_toArray, List.set_cons_succ, List.set_cons_zero]; exact rfl) ?_
 refine gya ?_
 refine gend ?_
 rintro v ⟨⟨⟨hgu, hB1, hG1, -⟩, hx4⟩, hx5⟩
 replace hx4 : Rn v x4 _ := hx4
 replace hx5 : Rn v x5 _ := hx5
 clear hB hG
 have hB := hB1
 have hG := hG1
 clear hB1 hG1
 refine hL _ _ ?_
 clear hL L hgu
 obtain ⟨u, rfl⟩ : ∃ x, x = v := ⟨_, rfl⟩
 have r := hB.r
 simp only [BxR] at r
 go_wp2_with fail
 clear r
 generalize hu0 : World.setCell (World.setCell (World.setCell u _ _) _ _) _ _ = u0
 have hBG := over_n hB hF hG 0 rfl 0 [_, _, _] hu0
 replace hx4 := hx4.put hB 0 rfl (by first | decide | simp) 0 [_, _, _] hu0
 replace hx5 := hx5.put hB 0 rfl (by first | decide | simp) 0 [_, _, _] hu0
 clear hB hG hu0
 obtain ⟨hB, hG⟩ := hBG
 clear u
 obtain ⟨u, rfl⟩ : ∃ x, x = u0 := ⟨_, rfl⟩
 refine NoK.norm (hN _ _ ?_)
 clear hN K
 refine then_norm ?_
 refine wp_ret ?_
 refine ret_b rfl ?_
 intro N hN
 have r := hB.r
 simp only [BxR] at r
 simp only [results, Tryz.results31]
 go_simp
 refine hN _ ?_
 clear hN N r
 exact ⟨(x4, x5), ret_rq (qint_num n) (qint_den n), ⟨by rw [qint_num]; exact hx4, by rw [qint_den]; exact hx5⟩, hG⟩
end Go.Proofs.YtimjnkfcnpfoeaaGreatDoor
