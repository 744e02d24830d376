/-
  Contracts and laws: RefN.
-/
import Derived.Test.YtjmopgepnndckaaGreatDoorP36
set_option linter.unusedSimpArgs false
set_option linter.unusedVariables false
namespace Go.Proofs.YtjmopgepnndckaaGreatDoor
open Go.RowKit
theorem ret_ri {x : Ax} {y z : Int} (h : y = z) : Ending.returned (riV x y) = .returned (riV x z) := by rw [h]
theorem rn_sgn {u : World} {x : Ax} {neg : Bool} {n : Nat} {z : Int} (h : sgn neg n = z) (hr : Rn u x n) : Rn u x z.natAbs := by rw [← h, sgn_abs]; exact hr
theorem ri_ret {w u : World} {x : Ax} {neg : Bool} {n : Nat} {z : Int} (h : sgn neg n = z) (hr : Rn u x n) (hG : Grow w u) : Ret (intR z) w (.returned (riV x (sgn neg n))) u := ⟨x, ret_ri h, rn_sgn h hr, hG⟩
theorem cmpN_ge {a b : Nat} (h : decide (0 ≤ cmpN a b) = true) : b ≤ a := by
 have h := of_decide_eq_true h
 unfold cmpN at h
 split at h
 ·omega
 ·omega
theorem cmpN_no {a b : Nat} (h : decide (0 ≤ cmpN a b) = false) : a < b := by
 have h := of_decide_eq_false h
 unfold cmpN at h
 split at h
 ·assumption
 ·split at h <;> omega
theorem bl_zmul (a b : Int) : bl (zmul a b).natAbs ≤ bl a.natAbs + bl b.natAbs := by unfold zmul; rw [Int.natAbs_mul]; exact bl_mul_le _ _
theorem bl_zadd (a b : Int) : bl (zadd a b).natAbs ≤ max (bl a.natAbs) (bl b.natAbs) + 1 := Nat.le_trans (bl_mono (Int.natAbs_add_le a b)) (bl_add_le _ _)
theorem rn_neg {u : World} {x : Ax} {z : Int} (h : Rn u x z.natAbs) : Rn u x (zneg z).natAbs := by unfold zneg; rw [Int.natAbs_neg]; exact h
--! ref1_den = ref1_den _ _ _ _
set_option maxHeartbeats 400000 in
set_option maxRecDepth 100000 in
theorem ref1_den (x y : Ax) (q : Rat) (w : World) : Calls Tryz.prog 104 #[rqV x y q] w fun e w' => e = .returned (riV y (sgn false q.den)) ∧ Grow w w' := by
 rw [riV_sgn, Bool.false_and]
 have hI := fun W => ref1_I y false q.den W
 simp only [riV_sgn, Bool.false_and] at hI
 go_enter Tryz.func104, Tryz.ntmps104
 refine en2 ?_
 intro u hG b2 b1 hB hF
 refine wp_seq (rsC allocs [0, 0, 1] hB hG fun K L hN hL => ?_)
 refine gs ?_
 refine gmw (C := fun v => hI _) ?_
 refine geC hL ?_
 clear hB hG hL L
 rintro u ⟨-, hB, hG, -⟩
 refine gtT ?_
 clear hN K
 refine st hB hF hG 1 0 [_, _] ?_
 clear hB hG
 intro u hB hG
 refine rt Tryz.results104 ?_
 exact ⟨rfl, hG⟩
--! ref1_IntNeg = ref1_IntNeg _ _ _
set_option maxHeartbeats 400000 in
set_option maxRecDepth 100000 in
theorem ref1_IntNeg (x : Ax) (z : Int) (w : World) : Calls Tryz.prog 168 #[riV x z] w fun e w' => e = .returned (riV x (zneg z)) ∧ Grow w w' := by
 go_enter Tryz.func168, Tryz.ntmps168
 refine en2 ?_
 intro u hG b2 b1 hB hF
 refine wp_seq (rsC allocs [0, 0, 0, 0, 0, 1] hB hG fun K L hN hL => ?_)
 refine gs ?_
 refine gmw (C := fun v => ref1_I x _ z.natAbs _) ?_
 refine geC hL ?_
 clear hB hG hL L
 rintro u ⟨-, hB, hG, -⟩
 refine gtT ?_
 clear hN K
 refine st hB hF hG 1 0 [_, _] ?_
 clear hB hG
 intro u hB hG
 refine rt Tryz.results168 ?_
 exact ⟨ret_ri (neg_sgn z), hG⟩
--! ref1_IntSign = ref1_IntSign _ _ _
set_option maxHeartbeats 400000 in
set_option maxRecDepth 100000 in
theorem ref1_IntSign (x : Ax) (z : Int) (w : World) : Calls Tryz.prog 81 #[riV x z] w fun e w' => e = .returned (.int .i64 z.sign) ∧ Grow w w' := by
 go_enter Tryz.func81, Tryz.ntmps81
 refine en1 ?_
 intro u hG b1 hB hF
 refine wp_seq ?_
 refine wp_block ?_
 refine r0T ?_
 refine wp_cond_split rfl ?_ ?_
 ·intro ht
  have ht3 := ht
  refine r0T ?_
  refine rt Tryz.results81 ?_
  have h2 : ln z.natAbs = 0 := by simpa using ht3
  have h3 : z = 0 := by have := @ln_eq_zero z.natAbs; omega
  exact ⟨ret_i64 (by rw [h3]; rfl), hG⟩
 ·intro ht
  have ht3 := ht
  refine r0T ?_
  refine wp_cond_split rfl ?_ ?_
  ·intro ht
   have ht8 := ht
   refine r0T ?_
   refine rt Tryz.results81 ?_
   have h : z < 0 := of_decide_eq_true ht8
   exact ⟨ret_i64 (Int.sign_eq_neg_one_of_neg h).symm, hG⟩
  ·intro ht
   have ht8 := ht
   refine wp_skip ?_
   refine blk_norm ?_
   refine then_norm ?_
   refine r0T ?_
   refine rt Tryz.results81 ?_
   have h : ¬ z < 0 := of_decide_eq_false ht8
   have h2 : ¬ ln z.natAbs = 0 := by simpa using ht3
   have h3 : z ≠ 0 := by have := @ln_eq_zero z.natAbs; omega
   exact ⟨ret_i64 (Int.sign_eq_one_of_pos (by omega)).symm, hG⟩
set_option maxHeartbeats 1000000 in
set_option maxRecDepth 100000 in
theorem ref1_IntMul (x y : Ax) (a b : Int) (w : World) (hx : Rn w x a.natAbs) (hy : Rn w y b.natAbs) (ha : bl a.natAbs ≤ 1099511627776) (hb : bl b.natAbs ≤ 1099511627776) : Calls Tryz.prog 103 #[riV x a, riV y b] w (Ret (intR (zmul a b)) w) := by
 go_enter Tryz.func103, Tryz.ntmps103
 refine en3 ?_
 intro u hG b4 b3 b2 hB hF
 replace hx := hx.grow hG
 replace hy := hy.grow hG
 refine wp_seq (rdC allocs [] [(0, 0), (0, 1), (0, 2), (0, 3), (0, 4), (0, 5), (0, 6), (0, 7), (0, 8), (1, 9), (1, 10)] hB hG fun K L hN hL => ?_)
 refine gs ?_
 refine grd (natR (a.natAbs * b.natAbs)) (fun (x14 : Ax) => ?_) (C := by (rintro v ⟨hgu, hB, hG, -⟩; exact ref1_NatMul x y a.natAbs b.natAbs _ (hx.grow hgu) (hy.grow hgu) ha hb))
 refine gmd (C := by (rintro v ⟨⟨hgu, hB, hG, -⟩, hx14⟩; have hx14 : Rn v x14 _ := hx14; exact ref1_I x14 _ (a.natAbs * b.natAbs) _)) ?_
 refine geC hL ?_
 clear hB hG hL L
 rintro u ⟨⟨hgu, hB, hG, -⟩, hx14⟩
 replace hx := hx.grow hgu
 replace hy := hy.grow hgu
 replace hx14 : Rn u x14 _ := hx14
 clear hgu
 refine gtT ?_
 clear hN K
 refine sv hB hF hG 2 0 [_, _] ?_
 intro u hu hBG
 replace hx := hx.put hB 2 rfl (by first | decide | simp) _ _ hu
 replace hy := hy.put hB 2 rfl (by first | decide | simp) _ _ hu
 replace hx14 := hx14.put hB 2 rfl (by first | decide | simp) _ _ hu
 clear hB hG hu
 obtain ⟨hB, hG⟩ := hBG
 refine rt Tryz.results103 ?_
 exact ri_ret (mul_sgn a b) hx14 hG
set_option maxHeartbeats 1000000 in
set_option maxRecDepth 100000 in
theorem ref1_IntAdd (x y : Ax) (a b : Int) (w : World) (hx : Rn w x a.natAbs) (hy : Rn w y b.natAbs) (ha : bl a.natAbs ≤ 1099511627776) (hb : bl b.natAbs ≤ 1099511627776) : Calls Tryz.prog 166 #[riV x a, riV y b] w (Ret (intR (zadd a b)) w) := by
 go_enter Tryz.func166, Tryz.ntmps166
 refine en3 ?_
 intro u hG b4 b3 b2 hB hF
 replace hx := hx.grow hG
 replace hy := hy.grow hG
 refine wp_seq ?_
 refine r0T ?_
 refine wp_cond_split rfl ?_ ?_
 ·intro ht
  have ht9 := ht
  refine wp_seq (rdC allocs [] [(0, 0), (0, 1), (0, 2), (0, 3), (0, 4), (0, 5), (1, 6), (1, 7)] hB hG fun K L hN hL => ?_)
  refine gs ?_
  refine grd (natR (a.natAbs + b.natAbs)) (fun (x16 : Ax) => ?_) (C := by (rintro v ⟨hgu, hB, hG, -⟩; exact ref1_NatAdd x y a.natAbs b.natAbs _ (hx.grow hgu) (hy.grow hgu) ha hb))
  refine gmd (C := by (rintro v ⟨⟨hgu, hB, hG, -⟩, hx16⟩; have hx16 : Rn v x16 _ := hx16; exact ref1_I x16 _ (a.natAbs + b.natAbs) _)) ?_
  refine geC hL ?_
  clear hB hG hL L
  rintro u ⟨⟨hgu, hB, hG, -⟩, hx16⟩
  replace hx := hx.grow hgu
  replace hy := hy.grow hgu
  replace hx16 : Rn u x16 _ := hx16
  clear hgu
  refine gtT ?_
  clear hN K
  refine sv hB hF hG 2 0 [_, _] ?_
  intro u hu hBG
  replace hx := hx.put hB 2 rfl (by first | decide | simp) _ _ hu
  replace hy := hy.put hB 2 rfl (by first | decide | simp) _ _ hu
  replace hx16 := hx16.put hB 2 rfl (by first | decide | simp) _ _ hu
  clear hB hG hu
  obtain ⟨hB, hG⟩ := hBG
  refine rt Tryz.results166 ?_
  exact ri_ret (add_same (by simpa using ht9)) hx16 hG
 ·intro ht
  have ht9 := ht
  refine wp_skip ?_
  refine then_norm ?_
  refine wp_seq ?_
  refine wp_seq (rsE allocs [0, 0, 0, 0, 1, 0] hB hG fun L hL => ?_)
  refine gs ?_
  refine gmd (C := fun v ⟨hgu, hB, hG, _⟩ => ref1_NatCmp x y a.natAbs b.natAbs _ (hx.grow hgu) (hy.grow hgu)) ?_
  refine gs ?_
  refine geT hL ?_
  clear hB hG hL L
  rintro u ⟨hgu, hB, hG, -⟩
  replace hx := hx.grow hgu
  replace hy := hy.grow hgu
  clear hgu
  refine wp_cond_split rfl ?_ ?_
  ·intro ht
   have ht23 := ht
   have hle := cmpN_ge ht
   refine wp_seq (rdC allocs [] [(0, 0), (0, 1), (0, 2), (0, 3), (0, 4), (0, 5), (1, 6), (1, 7)] hB hG fun K L hN hL => ?_)
   refine gs ?_
   refine grd (natR (a.natAbs - b.natAbs)) (fun (x30 : Ax) => ?_) (C := by (rintro v ⟨hgu, hB, hG, -⟩; exact ref1_NatSub x y a.natAbs b.natAbs _ (hx.grow hgu) (hy.grow hgu) hle ha))
   refine gmd (C := by (rintro v ⟨⟨hgu, hB, hG, -⟩, hx30⟩; have hx30 : Rn v x30 _ := hx30; exact ref1_I x30 _ (a.natAbs - b.natAbs) _)) ?_
   refine geC hL ?_
   clear hB hG hL L
   rintro u ⟨⟨hgu, hB, hG, -⟩, hx30⟩
   replace hx := hx.grow hgu
   replace hy := hy.grow hgu
   replace hx30 : Rn u x30 _ := hx30
   clear hgu
   refine gtT ?_
   clear hN K
   refine sv hB hF hG 2 0 [_, _] ?_
   intro u hu hBG
   replace hx := hx.put hB 2 rfl (by first | decide | simp) _ _ hu
   replace hy := hy.put hB 2 rfl (by first | decide | simp) _ _ hu
   replace hx30 := hx30.put hB 2 rfl (by first | decide | simp) _ _ hu
   clear hB hG hu
   obtain ⟨hB, hG⟩ := hBG
   refine rt Tryz.results166 ?_
   exact ri_ret (add_fst (by simpa using ht9) hle) hx30 hG
  ·intro ht
   have ht23 := ht
   have hlt := cmpN_no ht
   refine wp_skip ?_
   refine then_norm ?_
   refine wp_seq (rdC allocs [] [(0, 0), (0, 1), (0, 2), (0, 3), (0, 4), (0, 5), (1, 6), (1, 7)] hB hG fun K L hN hL => ?_)
   refine gs ?_
   refine grd (natR (b.natAbs - a.natAbs)) (fun (x38 : Ax) => ?_) (C := by (rintro v ⟨hgu, hB, hG, -⟩; exact ref1_NatSub y x b.natAbs a.natAbs _ (hy.grow hgu) (hx.grow hgu) (Nat.le_of_lt hlt) hb))
   refine gmd (C := by (rintro v ⟨⟨hgu, hB, hG, -⟩, hx38⟩; have hx38 : Rn v x38 _ := hx38; exact ref1_I x38 _ (b.natAbs - a.natAbs) _)) ?_
   refine geC hL ?_
   clear hB hG hL L
   rintro u ⟨⟨hgu, hB, hG, -⟩, hx38⟩
   replace hx := hx.grow hgu
   replace hy := hy.grow hgu
   replace hx38 : Rn u x38 _ := hx38
   clear hgu
   refine gtT ?_
   clear hN K
   refine sv hB hF hG 2 0 [_, _] ?_
   intro u hu hBG
   replace hx := hx.put hB 2 rfl (by first | decide | simp) _ _ hu
   replace hy := hy.put hB 2 rfl (by first | decide | simp) _ _ hu
   replace hx38 := hx38.put hB 2 rfl (by first | decide | simp) _ _ hu
   clear hB hG hu
   obtain ⟨hB, hG⟩ := hBG
   refine rt Tryz.results166 ?_
   exact ri_ret (add_snd (by simpa using ht9) (Nat.not_le.2 hlt)) hx38 hG
def zsub (a b : Int) : Int := a - b
theorem zsub_eq (a b : Int) : zadd a (zneg b) = zsub a b := by unfold zadd zneg zsub; omega
theorem zsub_sign (a b : Int) : (zsub a b).sign = cmpZ a b := by
 unfold zsub cmpZ
 split
 ·exact Int.sign_eq_neg_one_of_neg (by omega)
 ·split
  ·exact Int.sign_eq_one_of_pos (by omega)
  ·rw [show a - b = 0 by omega]; rfl
set_option maxHeartbeats 1000000 in
set_option maxRecDepth 100000 in
theorem ref1_IntSub (x y : Ax) (a b : Int) (w : World) (hx : Rn w x a.natAbs) (hy : Rn w y b.natAbs) (ha : bl a.natAbs ≤ 1099511627776) (hb : bl b.natAbs ≤ 1099511627776) : Calls Tryz.prog 144 #[riV x a, riV y b] w (Ret (intR (zsub a b)) w) := by
 have hy' := rn_neg hy
 have hb' : bl (zneg b).natAbs ≤ 1099511627776 := by rw [bl_zneg]; exact hb
 have had := fun W h1 h2 => ref1_IntAdd x y a (zneg b) W h1 h2 ha hb'
 rw [zsub_eq] at had
 clear hy
 go_enter Tryz.func144, Tryz.ntmps144
 refine en3 ?_
 intro u hG b4 b3 b2 hB hF
 replace hx := hx.grow hG
 replace hy' := hy'.grow hG
 refine wp_seq (rdC allocs [] [(0, 0), (0, 1), (1, 2), (1, 3)] hB hG fun K L hN hL => ?_)
 refine gs ?_
 refine gmw (C := fun v => ref1_IntNeg _ _ _) ?_
 refine grd (intR (zsub a b)) (fun (x8 : Ax) => ?_) (C := by (rintro v ⟨hgu, hB, hG, -⟩; exact had _ (hx.grow hgu) (hy'.grow hgu)))
 refine geC hL ?_
 clear hB hG hL L
 rintro u ⟨⟨hgu, hB, hG, -⟩, hx8⟩
 replace hx := hx.grow hgu
 replace hy' := hy'.grow hgu
 replace hx8 : Rn u x8 _ := hx8
 clear hgu
 refine gtT ?_
 clear hN K
 refine sv hB hF hG 2 0 [_, _] ?_
 intro u hu hBG
 replace hx := hx.put hB 2 rfl (by first | decide | simp) _ _ hu
 replace hy' := hy'.put hB 2 rfl (by first | decide | simp) _ _ hu
 replace hx8 := hx8.put hB 2 rfl (by first | decide | simp) _ _ hu
 clear hB hG hu
 obtain ⟨hB, hG⟩ := hBG
 refine rt Tryz.results144 ?_
 exact ⟨x8, rfl, hx8, hG⟩
set_option maxHeartbeats 1000000 in
set_option maxRecDepth 100000 in
theorem ref1_IntCmp (x y : Ax) (a b : Int) (w : World) (hx : Rn w x a.natAbs) (hy : Rn w y b.natAbs) (ha : bl a.natAbs ≤ 1099511627776) (hb : bl b.natAbs ≤ 1099511627776) : Calls Tryz.prog 102 #[riV x a, riV y b] w fun e w' => e = .returned (.int .i64 (cmpZ a b)) ∧ Grow w w' := by
 rw [← zsub_sign]
 go_enter Tryz.func102, Tryz.ntmps102
 refine en2 ?_
 intro u hG b3 b2 hB hF
 replace hx := hx.grow hG
 replace hy := hy.grow hG
 refine wp_seq (rsE allocs [0, 0, 1, 1, 0] hB hG fun L hL => ?_)
 refine gs ?_
 refine grd (intR (zsub a b)) (fun (x7 : Ax) => ?_) (C := by (rintro v ⟨hgu, hB, hG, -⟩; exact ref1_IntSub x y a b _ (hx.grow hgu) (hy.grow hgu) ha hb))
 refine gmd (C := by (rintro v ⟨⟨hgu, hB, hG, -⟩, hx7⟩; have hx7 : Rn v x7 _ := hx7; exact ref1_IntSign x7 (zsub a b) _)) ?_
 refine gs ?_
 refine geT hL ?_
 clear hB hG hL L
 rintro u ⟨⟨hgu, hB, hG, -⟩, hx7⟩
 replace hx := hx.grow hgu
 replace hy := hy.grow hgu
 replace hx7 : Rn u x7 _ := hx7
 clear hgu
 refine rt Tryz.results102 ?_
 exact ⟨rfl, hG⟩
end Go.Proofs.YtjmopgepnndckaaGreatDoor
