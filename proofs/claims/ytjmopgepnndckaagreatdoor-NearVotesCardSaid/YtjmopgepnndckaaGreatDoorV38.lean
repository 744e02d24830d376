/-
  Contracts and laws: RefN RefO.
-/
import Derived.Test.YtjmopgepnndckaaGreatDoorV35
set_option linter.unusedSimpArgs false
set_option linter.unusedVariables false
namespace Go.Proofs.YtjmopgepnndckaaGreatDoor
open Go.RowKit
theorem ret_ri {x : Ax} {y z : Int} (h : y = z) : Ending.returned (riV x y) = .returned (riV x z) := by rw [h]
theorem rn_sgn {u : World} {x : Ax} {neg : Bool} {n : Nat} {z : Int} (h : sgn neg n = z) (hr : Rn u x n) : Rn u x z.natAbs := by rw [← h, sgn_abs]; exact hr
theorem ri_ret {w u : World} {x : Ax} {neg : Bool} {n : Nat} {z : Int} (h : sgn neg n = z) (hr : Rn u x n) (hG : Grow w u) : Ret (intR z) w (.returned (riV x (sgn neg n))) u := ⟨x, ret_ri h, rn_sgn h hr, hG⟩
theorem cmpN_ge {a b : Nat} (h : decide (0 ≤ cmpN a b) = true) : b ≤ a := by
 have h := of_decide_eq_true h
 unfold cmpN at h
 split at h
 ·omega
 ·omega
theorem cmpN_no {a b : Nat} (h : decide (0 ≤ cmpN a b) = false) : a < b := by
 have h := of_decide_eq_false h
 unfold cmpN at h
 split at h
 ·assumption
 ·split at h <;> omega
theorem bl_zmul (a b : Int) : bl (zmul a b).natAbs ≤ bl a.natAbs + bl b.natAbs := by unfold zmul; rw [Int.natAbs_mul]; exact bl_mul_le _ _
theorem bl_zadd (a b : Int) : bl (zadd a b).natAbs ≤ max (bl a.natAbs) (bl b.natAbs) + 1 := Nat.le_trans (bl_mono (Int.natAbs_add_le a b)) (bl_add_le _ _)
--! ref1_den = ref1_den _ _ _ _
set_option maxHeartbeats 400000 in
set_option maxRecDepth 100000 in
theorem ref1_den (x y : Ax) (q : Rat) (w : World) : Calls Tryz.prog 104 #[rqV x y q] w fun e w' => e = .returned (riV y (sgn false q.den)) ∧ Grow w w' := by
 rw [riV_sgn, Bool.false_and]
 have hI := fun W => ref1_I y false q.den W
 simp only [riV_sgn, Bool.false_and] at hI
 go_enter Tryz.func104, Tryz.ntmps104
 refine en2 ?_
 intro u hG b2 b1 hB hF
 refine wp_seq (rsC allocs [0, 0, 1] hB hG fun K L hN hL => ?_)
 refine gs ?_
 refine gmw (C := fun v => hI _) ?_
 refine geC hL ?_
 clear hB hG hL L
 rintro u ⟨-, hB, hG, -⟩
 refine gtT ?_
 clear hN K
 refine st hB hF hG 1 0 [_, _] ?_
 clear hB hG
 intro u hB hG
 refine rt Tryz.results104 ?_
 exact ⟨rfl, hG⟩
--! ref1_IntNeg = ref1_IntNeg _ _ _
set_option maxHeartbeats 400000 in
set_option maxRecDepth 100000 in
theorem ref1_IntNeg (x : Ax) (z : Int) (w : World) : Calls Tryz.prog 168 #[riV x z] w fun e w' => e = .returned (riV x (zneg z)) ∧ Grow w w' := by
 go_enter Tryz.func168, Tryz.ntmps168
 refine en2 ?_
 intro u hG b2 b1 hB hF
 refine wp_seq (rsC allocs [0, 0, 0, 0, 0, 1] hB hG fun K L hN hL => ?_)
 refine gs ?_
 refine gmw (C := fun v => ref1_I x _ z.natAbs _) ?_
 refine geC hL ?_
 clear hB hG hL L
 rintro u ⟨-, hB, hG, -⟩
 refine gtT ?_
 clear hN K
 refine st hB hF hG 1 0 [_, _] ?_
 clear hB hG
 intro u hB hG
 refine rt Tryz.results168 ?_
 exact ⟨ret_ri (neg_sgn z), hG⟩
--! ref1_IntSign = ref1_IntSign _ _ _
set_option maxHeartbeats 400000 in
set_option maxRecDepth 100000 in
theorem ref1_IntSign (x : Ax) (z : Int) (w : World) : Calls Tryz.prog 81 #[riV x z] w fun e w' => e = .returned (.int .i64 z.sign) ∧ Grow w w' := by
 go_enter Tryz.func81, Tryz.ntmps81
 refine en1 ?_
 intro u hG b1 hB hF
 refine wp_seq ?_
 refine wp_block ?_
 refine r0T ?_
 refine wp_cond_split rfl ?_ ?_
 ·intro ht
  have ht3 := ht
  refine r0T ?_
  refine rt Tryz.results81 ?_
  have h2 : ln z.natAbs = 0 := by simpa using ht3
  have h3 : z = 0 := by have := @ln_eq_zero z.natAbs; omega
  exact ⟨ret_i64 (by rw [h3]; rfl), hG⟩
 ·intro ht
  have ht3 := ht
  refine r0T ?_
  refine wp_cond_split rfl ?_ ?_
  ·intro ht
   have ht8 := ht
   refine r0T ?_
   refine rt Tryz.results81 ?_
   have h : z < 0 := of_decide_eq_true ht8
   exact ⟨ret_i64 (Int.sign_eq_neg_one_of_neg h).symm, hG⟩
  ·intro ht
   have ht8 := ht
   refine wp_skip ?_
   refine blk_norm ?_
   refine then_norm ?_
   refine r0T ?_
   refine rt Tryz.results81 ?_
   have h : ¬ z < 0 := of_decide_eq_false ht8
   have h2 : ¬ ln z.natAbs = 0 := by simpa using ht3
   have h3 : z ≠ 0 := by have := @ln_eq_zero z.natAbs; omega
   exact ⟨ret_i64 (Int.sign_eq_one_of_pos (by omega)).symm, hG⟩
set_option maxHeartbeats 1000000 in
set_option maxRecDepth 100000 in
theorem ref1_IntMul (x y : Ax) (a b : Int) (w : World) (hx : Rn w x a.natAbs) (hy : Rn w y b.natAbs) (ha : bl a.natAbs ≤ 1099511627776) (hb : bl b.natAbs ≤ 1099511627776) : Calls Tryz.prog 103 #[riV x a, riV y b] w (Ret (intR (zmul a b)) w) := by
 go_enter Tryz.func103, Tryz.ntmps103
 refine en3 ?_
 intro u hG b4 b3 b2 hB hF
 replace hx := hx.grow hG
 replace hy := hy.grow hG
 refine wp_seq (rdC allocs [] [(0, 0), (0, 1), (0, 2), (0, 3), (0, 4), (0, 5), (0, 6), (0, 7), (0, 8), (1, 9), (1, 10)] hB hG fun K L hN hL => ?_)
 refine gs ?_
 refine grd (natR (a.natAbs * b.natAbs)) (fun (x14 : Ax) => ?_) (C := by (rintro v ⟨hgu, hB, hG, -⟩; exact ref1_NatMul x y a.natAbs b.natAbs _ (hx.grow hgu) (hy.grow hgu) ha hb))
 refine gmd (C := by (rintro v ⟨⟨hgu, hB, hG, -⟩, hx14⟩; have hx14 : Rn v x14 _ := hx14; exact ref1_I x14 _ (a.natAbs * b.natAbs) _)) ?_
 refine geC hL ?_
 clear hB hG hL L
 rintro u ⟨⟨hgu, hB, hG, -⟩, hx14⟩
 replace hx := hx.grow hgu
 replace hy := hy.grow hgu
 replace hx14 : Rn u x14 _ := hx14
 clear hgu
 refine gtT ?_
 clear hN K
 refine sv hB hF hG 2 0 [_, _] ?_
 intro u hu hBG
 replace hx := hx.put hB 2 rfl (by first | decide | simp) _ _ hu
 replace hy := hy.put hB 2 rfl (by first | decide | simp) _ _ hu
 replace hx14 := hx14.put hB 2 rfl (by first | decide | simp) _ _ hu
 clear hB hG hu
 obtain ⟨hB, hG⟩ := hBG
 refine rt Tryz.results103 ?_
 exact ri_ret (mul_sgn a b) hx14 hG
set_option maxHeartbeats 1000000 in
set_option maxRecDepth 100000 in
theorem ref1_IntAdd (x y : Ax) (a b : Int) (w : World) (hx : Rn w x a.natAbs) (hy : Rn w y b.natAbs) (ha : bl a.natAbs ≤ 1099511627776) (hb : bl b.natAbs ≤ 1099511627776) : Calls Tryz.prog 166 #[riV x a, riV y b] w (Ret (intR (zadd a b)) w) := by
 go_enter Tryz.func166, Tryz.ntmps166
 refine en3 ?_
 intro u hG b4 b3 b2 hB hF
 replace hx := hx.grow hG
 replace hy := hy.grow hG
 refine wp_seq ?_
 refine r0T ?_
 refine wp_cond_split rfl ?_ ?_
 ·intro ht
  have ht9 := ht
  refine wp_seq (rdC allocs [] [(0, 0), (0, 1), (0, 2), (0, 3), (0, 4), (0, 5), (1, 6), (1, 7)] hB hG fun K L hN hL => ?_)
  refine gs ?_
  refine grd (natR (a.natAbs + b.natAbs)) (fun (x16 : Ax) => ?_) (C := by (rintro v ⟨hgu, hB, hG, -⟩; exact ref1_NatAdd x y a.natAbs b.natAbs _ (hx.grow hgu) (hy.grow hgu) ha hb))
  refine gmd (C := by (rintro v ⟨⟨hgu, hB, hG, -⟩, hx16⟩; have hx16 : Rn v x16 _ := hx16; exact ref1_I x16 _ (a.natAbs + b.natAbs) _)) ?_
  refine geC hL ?_
  clear hB hG hL L
  rintro u ⟨⟨hgu, hB, hG, -⟩, hx16⟩
  replace hx := hx.grow hgu
  replace hy := hy.grow hgu
  replace hx16 : Rn u x16 _ := hx16
  clear hgu
  refine gtT ?_
  clear hN K
  refine sv hB hF hG 2 0 [_, _] ?_
  intro u hu hBG
  replace hx := hx.put hB 2 rfl (by first | decide | simp) _ _ hu
  replace hy := hy.put hB 2 rfl (by first | decide | simp) _ _ hu
  replace hx16 := hx16.put hB 2 rfl (by first | decide | simp) _ _ hu
  clear hB hG hu
  obtain ⟨hB, hG⟩ := hBG
  refine rt Tryz.results166 ?_
  exact ri_ret (add_same (by simpa using ht9)) hx16 hG
 ·intro ht
  have ht9 := ht
  refine wp_skip ?_
  refine then_norm ?_
  refine wp_seq ?_
  refine wp_seq (rsE allocs [0, 0, 0, 0, 1, 0] hB hG fun L hL => ?_)
  refine gs ?_
  refine gmd (C := fun v ⟨hgu, hB, hG, _⟩ => ref1_NatCmp x y a.natAbs b.natAbs _ (hx.grow hgu) (hy.grow hgu)) ?_
  refine gs ?_
  refine geT hL ?_
  clear hB hG hL L
  rintro u ⟨hgu, hB, hG, -⟩
  replace hx := hx.grow hgu
  replace hy := hy.grow hgu
  clear hgu
  refine wp_cond_split rfl ?_ ?_
  ·intro ht
   have ht23 := ht
   have hle := cmpN_ge ht
   refine wp_seq (rdC allocs [] [(0, 0), (0, 1), (0, 2), (0, 3), (0, 4), (0, 5), (1, 6), (1, 7)] hB hG fun K L hN hL => ?_)
   refine gs ?_
   refine grd (natR (a.natAbs - b.natAbs)) (fun (x30 : Ax) => ?_) (C := by (rintro v ⟨hgu, hB, hG, -⟩; exact ref1_NatSub x y a.natAbs b.natAbs _ (hx.grow hgu) (hy.grow hgu) hle ha))
   refine gmd (C := by (rintro v ⟨⟨hgu, hB, hG, -⟩, hx30⟩; have hx30 : Rn v x30 _ := hx30; exact ref1_I x30 _ (a.natAbs - b.natAbs) _)) ?_
   refine geC hL ?_
   clear hB hG hL L
   rintro u ⟨⟨hgu, hB, hG, -⟩, hx30⟩
   replace hx := hx.grow hgu
   replace hy := hy.grow hgu
   replace hx30 : Rn u x30 _ := hx30
   clear hgu
   refine gtT ?_
   clear hN K
   refine sv hB hF hG 2 0 [_, _] ?_
   intro u hu hBG
   replace hx := hx.put hB 2 rfl (by first | decide | simp) _ _ hu
   replace hy := hy.put hB 2 rfl (by first | decide | simp) _ _ hu
   replace hx30 := hx30.put hB 2 rfl (by first | decide | simp) _ _ hu
   clear hB hG hu
   obtain ⟨hB, hG⟩ := hBG
   refine rt Tryz.results166 ?_
   exact ri_ret (add_fst (by simpa using ht9) hle) hx30 hG
  ·intro ht
   have ht23 := ht
   have hlt := cmpN_no ht
   refine wp_skip ?_
   refine then_norm ?_
   refine wp_seq (rdC allocs [] [(0, 0), (0, 1), (0, 2), (0, 3), (0, 4), (0, 5), (1, 6), (1, 7)] hB hG fun K L hN hL => ?_)
   refine gs ?_
   refine grd (natR (b.natAbs - a.natAbs)) (fun (x38 : Ax) => ?_) (C := by (rintro v ⟨hgu, hB, hG, -⟩; exact ref1_NatSub y x b.natAbs a.natAbs _ (hy.grow hgu) (hx.grow hgu) (Nat.le_of_lt hlt) hb))
   refine gmd (C := by (rintro v ⟨⟨hgu, hB, hG, -⟩, hx38⟩; have hx38 : Rn v x38 _ := hx38; exact ref1_I x38 _ (b.natAbs - a.natAbs) _)) ?_
   refine geC hL ?_
   clear hB hG hL L
   rintro u ⟨⟨hgu, hB, hG, -⟩, hx38⟩
   replace hx := hx.grow hgu
   replace hy := hy.grow hgu
   replace hx38 : Rn u x38 _ := hx38
   clear hgu
   refine gtT ?_
   clear hN K
   refine sv hB hF hG 2 0 [_, _] ?_
   intro u hu hBG
   replace hx := hx.put hB 2 rfl (by first | decide | simp) _ _ hu
   replace hy := hy.put hB 2 rfl (by first | decide | simp) _ _ hu
   replace hx38 := hx38.put hB 2 rfl (by first | decide | simp) _ _ hu
   clear hB hG hu
   obtain ⟨hB, hG⟩ := hBG
   refine rt Tryz.results166 ?_
   exact ri_ret (add_snd (by simpa using ht9) (Nat.not_le.2 hlt)) hx38 hG
end Go.Proofs.YtjmopgepnndckaaGreatDoor
namespace Go.Proofs.YtjmopgepnndckaaGreatDoor
open Go.RowKit
/-- a fraction of the document's in memory -/
abbrev Az := Ax × Ax
def Rz (u : World) (p : Az) (q : Rat) : Prop := Rn u p.1 q.num.natAbs ∧ Rn u p.2 q.den
theorem Rz.grow {u u' : World} {p : Az} {q : Rat} (h : Rz u p q) (hg : Grow u u') : Rz u' p q := ⟨h.1.grow hg, h.2.grow hg⟩
abbrev rzV (p : Az) (q : Rat) : Value := rqV p.1 p.2 q
theorem rz_ret {w u : World} {p : Az} {q r : Rat} (e : q = r) (h1 : Rn u p.1 q.num.natAbs) (h2 : Rn u p.2 q.den) (hG : Grow w u) : Ret (ratR r) w (.returned (rqV p.1 p.2 q)) u := by subst e; exact ⟨p, rfl, ⟨h1, h2⟩, hG⟩
theorem ref1_MakeS (x y : Ax) (n : Int) (d : Nat) (q : Rat) (w : World) (hx : Rn w x n.natAbs) (hy : Rn w y d) (h0 : d ≠ 0) (hn : bl n.natAbs ≤ BIG) (hd : bl d ≤ BIG) (he : qover n (sgn false d) = q) : Calls Tryz.prog 114 #[riV x n, riV y (sgn false d)] w (Ret (ratR q) w) := by
 rw [← he]
 exact ref1_Make x y n (sgn false d) w hx (by rw [sgn_abs]; exact hy) (by rw [sgn_false]; omega) hn (by rw [sgn_abs]; exact hd)
theorem ref1_IntMulS (x y : Ax) (a : Int) (d : Nat) (w : World) (hx : Rn w x a.natAbs) (hy : Rn w y d) (ha : bl a.natAbs ≤ 1099511627776) (hb : bl d ≤ 1099511627776) : Calls Tryz.prog 103 #[riV x a, riV y (sgn false d)] w (Ret (intR (zmul a (sgn false d))) w) :=
 ref1_IntMul x y a (sgn false d) w hx (by rw [sgn_abs]; exact hy) ha (by rw [sgn_abs]; exact hb)
theorem ref1_IntMulF (x y : Ax) (d : Nat) (b : Int) (w : World) (hx : Rn w x d) (hy : Rn w y b.natAbs) (ha : bl d ≤ 1099511627776) (hb : bl b.natAbs ≤ 1099511627776) : Calls Tryz.prog 103 #[riV x (sgn false d), riV y b] w (Ret (intR (zmul (sgn false d) b)) w) :=
 ref1_IntMul x y (sgn false d) b w (by rw [sgn_abs]; exact hx) hy (by rw [sgn_abs]; exact ha) hb
theorem q_self (q : Rat) : Rat.divInt q.num (q.den : Int) = q := by rw [Rat.divInt_ofNat]; exact Rat.mkRat_self q
theorem den_ne (q : Rat) : ((q.den : Nat) : Int) ≠ 0 := by have := q.den_nz; omega
theorem add_div (a b : Rat) : qover (zadd (zmul a.num (sgn false b.den)) (zmul b.num (sgn false a.den))) (sgn false (a.den * b.den)) = qadd a b := by
 unfold qover zadd zmul qadd
 rw [sgn_false, sgn_false, sgn_false, Int.natCast_mul, ← Rat.divInt_add_divInt _ _ (den_ne a) (den_ne b), q_self, q_self]
theorem div_div (a b : Rat) : qover (zmul a.num (sgn false b.den)) (zmul (sgn false a.den) b.num) = qdiv a b := by
 unfold qover zmul qdiv
 rw [sgn_false, sgn_false, ← Rat.divInt_mul_divInt, q_self, Rat.div_def]
 congr 1
 conv => rhs; rw [← q_self b, Rat.inv_divInt]
theorem bl_zs (a : Int) (d : Nat) : bl (zmul a (sgn false d)).natAbs ≤ bl a.natAbs + bl d := by have := bl_zmul a (sgn false d); rw [sgn_abs] at this; exact this
set_option maxHeartbeats 1000000 in
set_option maxRecDepth 100000 in
theorem ref1_Add (x1 y1 x2 y2 : Ax) (a b : Rat) (w : World) (h1 : Rn w x1 a.num.natAbs) (h2 : Rn w y1 a.den) (h3 : Rn w x2 b.num.natAbs) (h4 : Rn w y2 b.den) (h : qs a + qs b + 1 ≤ BIG) : Calls Tryz.prog 139 #[rqV x1 y1 a, rqV x2 y2 b] w (Ret (ratR (qadd a b)) w) := by
 have z1 := qs_num a
 have z2 := qs_den a
 have z3 := qs_num b
 have z4 := qs_den b
 have z5 := bl_zs a.num b.den
 have z5' := bl_zs b.num a.den
 have z6 := bl_mul_le a.den b.den
 have z7 := bl_zadd (zmul a.num (sgn false b.den)) (zmul b.num (sgn false a.den))
 have hBl := BIG_le
 have he := add_div a b
 have hd0 : a.den * b.den ≠ 0 := Nat.ne_of_gt (Nat.mul_pos a.den_pos b.den_pos)
 have hm1 := fun W e1 e2 => ref1_IntMulS x1 y2 a.num b.den W e1 e2 (by omega) (by omega)
 have hm2 := fun W e1 e2 => ref1_IntMulS x2 y1 b.num a.den W e1 e2 (by omega) (by omega)
 generalize zmul a.num (sgn false b.den) = n1 at *
 generalize zmul b.num (sgn false a.den) = n2 at *
 go_enter Tryz.func139, Tryz.ntmps139
 refine en3 ?_
 intro u hG b4 b3 b2 hB hF
 replace h1 := h1.grow hG
 replace h2 := h2.grow hG
 replace h3 := h3.grow hG
 replace h4 := h4.grow hG
 refine wp_seq (rdC allocs [] [(0, 0), (0, 1), (0, 2), (0, 5), (0, 6), (0, 7), (0, 11), (0, 12), (0, 13), (0, 14), (1, 3), (1, 4), (1, 8), (1, 9), (1, 10), (1, 15), (1, 16), (1, 17)] hB hG fun K L hN hL => ?_)
 refine gs ?_
 refine gmw (C := fun v => ref1_den _ _ _ _) ?_
 refine grd (intR n1) (fun (x9 : Ax) => ?_) (C := by (rintro v ⟨hgu, hB, hG, -⟩; exact hm1 _ (h1.grow hgu) (h4.grow hgu)))
 refine gmd (C := by (rintro v ⟨⟨hgu, hB, hG, -⟩, hx9⟩; have hx9 : Rn v x9 _ := hx9; exact ref1_den _ _ _ _)) ?_
 refine grd (intR n2) (fun (x14 : Ax) => ?_) (C := by (rintro v ⟨⟨hgu, hB, hG, -⟩, hx9⟩; have hx9 : Rn v x9 _ := hx9; exact hm2 _ (h3.grow hgu) (h2.grow hgu)))
 refine grd (intR (zadd n1 n2)) (fun (x15 : Ax) => ?_) (C := by (rintro v ⟨⟨⟨hgu, hB, hG, -⟩, hx9⟩, hx14⟩; have hx9 : Rn v x9 _ := hx9; have hx14 : Rn v x14 _ := hx14; exact ref1_IntAdd x9 x14 n1 n2 _ hx9 hx14 (by omega) (by omega)))
 refine grd (natR (a.den * b.den)) (fun (x20 : Ax) => ?_) (C := by (rintro v ⟨⟨⟨⟨hgu, hB, hG, -⟩, hx9⟩, hx14⟩, hx15⟩; have hx9 : Rn v x9 _ := hx9; have hx14 : Rn v x14 _ := hx14; have hx15 : Rn v x15 _ := hx15; exact ref1_NatMul y1 y2 a.den b.den _ (h2.grow hgu) (h4.grow hgu) (by omega) (by omega)))
 refine gmd (C := by (rintro v ⟨⟨⟨⟨⟨hgu, hB, hG, -⟩, hx9⟩, hx14⟩, hx15⟩, hx20⟩; have hx9 : Rn v x9 _ := hx9; have hx14 : Rn v x14 _ := hx14; have hx15 : Rn v x15 _ := hx15; have hx20 : Rn v x20 _ := hx20; exact ref1_I x20 _ (a.den * b.den) _)) ?_
 refine grd (ratR (qadd a b)) (fun (x22 : Ax × Ax) => ?_) (C := by (rintro v ⟨⟨⟨⟨⟨hgu, hB, hG, -⟩, hx9⟩, hx14⟩, hx15⟩, hx20⟩; have hx9 : Rn v x9 _ := hx9; have hx14 : Rn v x14 _ := hx14; have hx15 : Rn v x15 _ := hx15; have hx20 : Rn v x20 _ := hx20; exact ref1_MakeS x15 x20 (zadd n1 n2) (a.den * b.den) _ _ hx15 hx20 hd0 (by omega) (by omega) he))
 refine geC hL ?_
 clear hB hG hL L
 rintro u ⟨⟨⟨⟨⟨⟨hgu, hB, hG, -⟩, hx9⟩, hx14⟩, hx15⟩, hx20⟩, hx22⟩
 replace h1 := h1.grow hgu
 replace h2 := h2.grow hgu
 replace h3 := h3.grow hgu
 replace h4 := h4.grow hgu
 replace hx9 : Rn u x9 _ := hx9
 replace hx14 : Rn u x14 _ := hx14
 replace hx15 : Rn u x15 _ := hx15
 replace hx20 : Rn u x20 _ := hx20
 obtain ⟨hx22a, hx22b⟩ : Rn u x22.1 _ ∧ Rn u x22.2 _ := hx22
 clear hgu
 refine gtT ?_
 clear hN K
 refine sv hB hF hG 2 0 [_, _, _] ?_
 intro u hu hBG
 replace h1 := h1.put hB 2 rfl (by first | decide | simp) _ _ hu
 replace h2 := h2.put hB 2 rfl (by first | decide | simp) _ _ hu
 replace h3 := h3.put hB 2 rfl (by first | decide | simp) _ _ hu
 replace h4 := h4.put hB 2 rfl (by first | decide | simp) _ _ hu
 replace hx9 := hx9.put hB 2 rfl (by first | decide | simp) _ _ hu
 replace hx14 := hx14.put hB 2 rfl (by first | decide | simp) _ _ hu
 replace hx15 := hx15.put hB 2 rfl (by first | decide | simp) _ _ hu
 replace hx20 := hx20.put hB 2 rfl (by first | decide | simp) _ _ hu
 replace hx22a := hx22a.put hB 2 rfl (by first | decide | simp) _ _ hu
 replace hx22b := hx22b.put hB 2 rfl (by first | decide | simp) _ _ hu
 clear hB hG hu
 obtain ⟨hB, hG⟩ := hBG
 refine rt Tryz.results139 ?_
 exact ⟨x22, rfl, ⟨hx22a, hx22b⟩, hG⟩
theorem zs_ne {d : Nat} {z : Int} (h : d ≠ 0) (hz : z ≠ 0) : zmul (sgn false d) z ≠ 0 := by unfold zmul; rw [sgn_false]; exact Int.mul_ne_zero (by omega) hz
theorem bl_zf (d : Nat) (z : Int) : bl (zmul (sgn false d) z).natAbs ≤ bl d + bl z.natAbs := by have := bl_zmul (sgn false d) z; rw [sgn_abs] at this; exact this
theorem num_ne {q : Rat} (h : q ≠ 0) : q.num ≠ 0 := fun e => h (Rat.num_eq_zero.1 e)
set_option maxHeartbeats 1000000 in
set_option maxRecDepth 100000 in
theorem ref1_Div (x1 y1 x2 y2 : Ax) (a b : Rat) (w : World) (h1 : Rn w x1 a.num.natAbs) (h2 : Rn w y1 a.den) (h3 : Rn w x2 b.num.natAbs) (h4 : Rn w y2 b.den) (h : qs a + qs b ≤ BIG) (h0 : b ≠ 0) : Calls Tryz.prog 96 #[rqV x1 y1 a, rqV x2 y2 b] w (Ret (ratR (qdiv a b)) w) := by
 have z1 := qs_num a
 have z2 := qs_den a
 have z3 := qs_num b
 have z4 := qs_den b
 have z5 := bl_zs a.num b.den
 have z6 := bl_zf a.den b.num
 have hBl := BIG_le
 have he := div_div a b
 have hd0 := zs_ne (z := b.num) a.den_nz (num_ne h0)
 have hm1 := fun W e1 e2 => ref1_IntMulS x1 y2 a.num b.den W e1 e2 (by omega) (by omega)
 have hm2 := fun W e1 e2 => ref1_IntMulF y1 x2 a.den b.num W e1 e2 (by omega) (by omega)
 generalize zmul a.num (sgn false b.den) = n1 at *
 generalize zmul (sgn false a.den) b.num = n2 at *
 have hmk := fun x y W e1 e2 => ref1_Make x y n1 n2 W e1 e2 hd0 (by omega) (by omega)
 rw [he] at hmk
 go_enter Tryz.func96, Tryz.ntmps96
 refine en3 ?_
 intro u hG b4 b3 b2 hB hF
 replace h1 := h1.grow hG
 replace h2 := h2.grow hG
 replace h3 := h3.grow hG
 replace h4 := h4.grow hG
 refine wp_seq (rdC allocs [] [(0, 0), (0, 1), (0, 2), (0, 5), (0, 7), (0, 8), (1, 3), (1, 4), (1, 6), (1, 9), (1, 10)] hB hG fun K L hN hL => ?_)
 refine gs ?_
 refine gmw (C := fun v => ref1_den _ _ _ _) ?_
 refine grd (intR n1) (fun (x9 : Ax) => ?_) (C := by (rintro v ⟨hgu, hB, hG, -⟩; exact hm1 _ (h1.grow hgu) (h4.grow hgu)))
 refine gmd (C := by (rintro v ⟨⟨hgu, hB, hG, -⟩, hx9⟩; have hx9 : Rn v x9 _ := hx9; exact ref1_den _ _ _ _)) ?_
 refine grd (intR n2) (fun (x14 : Ax) => ?_) (C := by (rintro v ⟨⟨hgu, hB, hG, -⟩, hx9⟩; have hx9 : Rn v x9 _ := hx9; exact hm2 _ (h2.grow hgu) (h3.grow hgu)))
 refine grd (ratR (qdiv a b)) (fun (x15 : Ax × Ax) => ?_) (C := by (rintro v ⟨⟨⟨hgu, hB, hG, -⟩, hx9⟩, hx14⟩; have hx9 : Rn v x9 _ := hx9; have hx14 : Rn v x14 _ := hx14; exact hmk x9 x14 _ hx9 hx14))
 refine geC hL ?_
 clear hB hG hL L
 rintro u ⟨⟨⟨⟨hgu, hB, hG, -⟩, hx9⟩, hx14⟩, hx15⟩
 replace h1 := h1.grow hgu
 replace h2 := h2.grow hgu
 replace h3 := h3.grow hgu
 replace h4 := h4.grow hgu
 replace hx9 : Rn u x9 _ := hx9
 replace hx14 : Rn u x14 _ := hx14
 obtain ⟨hx15a, hx15b⟩ : Rn u x15.1 _ ∧ Rn u x15.2 _ := hx15
 clear hgu
 refine gtT ?_
 clear hN K
 refine sv hB hF hG 2 0 [_, _, _] ?_
 intro u hu hBG
 replace h1 := h1.put hB 2 rfl (by first | decide | simp) _ _ hu
 replace h2 := h2.put hB 2 rfl (by first | decide | simp) _ _ hu
 replace h3 := h3.put hB 2 rfl (by first | decide | simp) _ _ hu
 replace h4 := h4.put hB 2 rfl (by first | decide | simp) _ _ hu
 replace hx9 := hx9.put hB 2 rfl (by first | decide | simp) _ _ hu
 replace hx14 := hx14.put hB 2 rfl (by first | decide | simp) _ _ hu
 replace hx15a := hx15a.put hB 2 rfl (by first | decide | simp) _ _ hu
 replace hx15b := hx15b.put hB 2 rfl (by first | decide | simp) _ _ hu
 clear hB hG hu
 obtain ⟨hB, hG⟩ := hBG
 refine rt Tryz.results96 ?_
 exact ⟨x15, rfl, ⟨hx15a, hx15b⟩, hG⟩
--! ref1_Sign = ref1_Sign _ _ _ _
set_option maxHeartbeats 400000 in
set_option maxRecDepth 100000 in
theorem ref1_Sign (x y : Ax) (q : Rat) (w : World) : Calls Tryz.prog 42 #[rqV x y q] w fun e w' => e = .returned (.int .i64 q.num.sign) ∧ Grow w w' := by
 go_enter Tryz.func42, Tryz.ntmps42
 refine en1 ?_
 intro u hG b1 hB hF
 refine wp_seq (rsE allocs [0, 0, 1, 0] hB hG fun L hL => ?_)
 refine gs ?_
 refine gmw (C := fun v => ref1_IntSign x q.num _) ?_
 refine gs ?_
 refine geT hL ?_
 clear hB hG hL L
 rintro u ⟨-, hB, hG, -⟩
 refine rt Tryz.results42 ?_
 exact ⟨rfl, hG⟩
--! ref1_Neg = ref1_Neg _ _ _ _
set_option maxHeartbeats 400000 in
set_option maxRecDepth 100000 in
theorem ref1_Neg (x y : Ax) (q : Rat) (w : World) : Calls Tryz.prog 165 #[rqV x y q] w fun e w' => e = .returned (rqV x y (qneg q)) ∧ Grow w w' := by
 go_enter Tryz.func165, Tryz.ntmps165
 refine en2 ?_
 intro u hG b2 b1 hB hF
 refine wp_seq (rdC allocs [] [(0, 0), (0, 1), (0, 3), (0, 4), (1, 2), (0, 5)] hB hG fun K L hN hL => ?_)
 refine gs ?_
 refine gmw (C := fun v => ref1_IntNeg _ _ _) ?_
 refine gs ?_
 refine geC hL ?_
 clear hB hG hL L
 rintro u ⟨-, hB, hG, -⟩
 refine gtT ?_
 clear hN K
 refine st hB hF hG 1 0 [_, _, _] ?_
 clear hB hG
 intro u hB hG
 refine rt Tryz.results165 ?_
 exact ⟨ret_rq (q := qneg q) (Rat.neg_num q) (Rat.neg_den q), hG⟩
end Go.Proofs.YtjmopgepnndckaaGreatDoor
