/-
  Contracts and laws: RefO.
-/
import Derived.Test.YtimjnkfcnpfoeaaGreatDoorV37
set_option linter.unusedSimpArgs false
set_option linter.unusedVariables false
namespace Go.Proofs.YtimjnkfcnpfoeaaGreatDoor
open Go.RowKit
/-- a fraction of the document's in memory -/
abbrev Az := Ax × Ax
def Rz (u : World) (p : Az) (q : Rat) : Prop := Rn u p.1 q.num.natAbs ∧ Rn u p.2 q.den
theorem Rz.grow {u u' : World} {p : Az} {q : Rat} (h : Rz u p q) (hg : Grow u u') : Rz u' p q := ⟨h.1.grow hg, h.2.grow hg⟩
abbrev rzV (p : Az) (q : Rat) : Value := rqV p.1 p.2 q
theorem rz_ret {w u : World} {p : Az} {q r : Rat} (e : q = r) (h1 : Rn u p.1 q.num.natAbs) (h2 : Rn u p.2 q.den) (hG : Grow w u) : Ret (ratR r) w (.returned (rqV p.1 p.2 q)) u := by subst e; exact ⟨p, rfl, ⟨h1, h2⟩, hG⟩
theorem ref1_MakeS (x y : Ax) (n : Int) (d : Nat) (q : Rat) (w : World) (hx : Rn w x n.natAbs) (hy : Rn w y d) (h0 : d ≠ 0) (hn : bl n.natAbs ≤ BIG) (hd : bl d ≤ BIG) (he : qover n (sgn false d) = q) : Calls Tryz.prog 80 #[riV x n, riV y (sgn false d)] w (Ret (ratR q) w) := by
 rw [← he]
 exact ref1_Make x y n (sgn false d) w hx (by rw [sgn_abs]; exact hy) (by rw [sgn_false]; omega) hn (by rw [sgn_abs]; exact hd)
theorem ref1_IntMulS (x y : Ax) (a : Int) (d : Nat) (w : World) (hx : Rn w x a.natAbs) (hy : Rn w y d) (ha : bl a.natAbs ≤ 1099511627776) (hb : bl d ≤ 1099511627776) : Calls Tryz.prog 81 #[riV x a, riV y (sgn false d)] w (Ret (intR (zmul a (sgn false d))) w) :=
 ref1_IntMul x y a (sgn false d) w hx (by rw [sgn_abs]; exact hy) ha (by rw [sgn_abs]; exact hb)
theorem ref1_IntMulF (x y : Ax) (d : Nat) (b : Int) (w : World) (hx : Rn w x d) (hy : Rn w y b.natAbs) (ha : bl d ≤ 1099511627776) (hb : bl b.natAbs ≤ 1099511627776) : Calls Tryz.prog 81 #[riV x (sgn false d), riV y b] w (Ret (intR (zmul (sgn false d) b)) w) :=
 ref1_IntMul x y (sgn false d) b w (by rw [sgn_abs]; exact hx) hy (by rw [sgn_abs]; exact ha) hb
theorem q_self (q : Rat) : Rat.divInt q.num (q.den : Int) = q := by rw [Rat.divInt_ofNat]; exact Rat.mkRat_self q
theorem den_ne (q : Rat) : ((q.den : Nat) : Int) ≠ 0 := by have := q.den_nz; omega
theorem add_div (a b : Rat) : qover (zadd (zmul a.num (sgn false b.den)) (zmul b.num (sgn false a.den))) (sgn false (a.den * b.den)) = qadd a b := by
 unfold qover zadd zmul qadd
 rw [sgn_false, sgn_false, sgn_false, Int.natCast_mul, ← Rat.divInt_add_divInt _ _ (den_ne a) (den_ne b), q_self, q_self]
theorem mul_div (a b : Rat) : qover (zmul a.num b.num) (sgn false (a.den * b.den)) = qmul a b := by
 unfold qover zmul qmul
 rw [sgn_false, Int.natCast_mul, ← Rat.divInt_mul_divInt, q_self, q_self]
theorem div_div (a b : Rat) : qover (zmul a.num (sgn false b.den)) (zmul (sgn false a.den) b.num) = qdiv a b := by
 unfold qover zmul qdiv
 rw [sgn_false, sgn_false, ← Rat.divInt_mul_divInt, q_self, Rat.div_def]
 congr 1
 conv => rhs; rw [← q_self b, Rat.inv_divInt]
theorem bl_zs (a : Int) (d : Nat) : bl (zmul a (sgn false d)).natAbs ≤ bl a.natAbs + bl d := by have := bl_zmul a (sgn false d); rw [sgn_abs] at this; exact this
set_option maxHeartbeats 1000000 in
set_option maxRecDepth 100000 in
theorem ref1_Mul (x1 y1 x2 y2 : Ax) (a b : Rat) (w : World) (h1 : Rn w x1 a.num.natAbs) (h2 : Rn w y1 a.den) (h3 : Rn w x2 b.num.natAbs) (h4 : Rn w y2 b.den) (h : qs a + qs b ≤ BIG) : Calls Tryz.prog 115 #[rqV x1 y1 a, rqV x2 y2 b] w (Ret (ratR (qmul a b)) w) := by
 have z1 := qs_num a
 have z2 := qs_den a
 have z3 := qs_num b
 have z4 := qs_den b
 have z5 := bl_zmul a.num b.num
 have z6 := bl_mul_le a.den b.den
 have hBl := BIG_le
 have he := mul_div a b
 have hd0 : a.den * b.den ≠ 0 := Nat.ne_of_gt (Nat.mul_pos a.den_pos b.den_pos)
 go_enter Tryz.func115, Tryz.ntmps115
 refine wp_seq (wp_r0 ?_)
 intro K hN
 go_wp2_with fail
 generalize hu : World.alloc (World.alloc (World.alloc w _) _) _ = u
 obtain ⟨hB, hG⟩ := bx_first [(_, _), (_, _), (_, _)] w u hu
 have hF := fr_first w [(41, #[]), (41, #[]), (41, #[])]
 simp only [numbered, List.map_cons, List.map_nil] at hB hF
 clear hu
 generalize w.heap.size + 1 + 1 = b4 at hB hF ⊢
 generalize w.heap.size + 1 = b3 at hB hF ⊢
 generalize w.heap.size = b2 at hB hF ⊢
 replace h1 := h1.grow hG
 replace h2 := h2.grow hG
 replace h3 := h3.grow hG
 replace h4 := h4.grow hG
 refine NoK.norm (hN _ _ ?_)
 clear hN K
 refine then_norm ?_
 refine wp_seq ?_
 refine wp_rd (w := w) allocs 12 [] [(0, 0), (0, 1), (0, 2), (0, 3), (0, 5), (0, 6), (0, 7), (0, 8), (1, 4), (1, 9), (1, 10), (1, 11)] (by kernel_rfl) (by kernel_rfl) (by simp only [List.drop_succ_cons, List.drop_zero]; exact rfl) (fun _ => True) noG hB hG trivial ?_
 intro K L hN hL
 simp only [pickOps, List.getElem?_toArray, List.getElem?_cons_zero, List.getElem?_cons_succ]
 refine gya ?_
 refine gyr ?_
 refine gya ?_
 refine gyr ?_
 refine gya ?_
 refine gyr ?_
 refine gya ?_
 refine gyr ?_
 refine gr (intR (zmul a.num b.num)) rfl ?_ (fun (x9 : Ax) => ?_)
 ·(rintro v ⟨hgu, hB, hG, -⟩ N hN; go_simp; ((with_reducible refine (ref1_IntMul x1 x2 a.num b.num _ (h1.grow hgu) (h3.grow hgu) (by omega) (by omega)).mono ?_); rintro e w1 ⟨x, rfl, hx, hg⟩; exact ⟨_, rfl, hN x w1 hx hg⟩))
 refine okf (by simp only [natR, intR, ratR, nnR, Act.put, List.setIfInBounds_toArray, List.set_cons_succ, List.set_cons_zero]; exact rfl) ?_
 refine gr (natR (a.den * b.den)) rfl ?_ (fun (x14 : Ax) => ?_)
 ·(rintro v ⟨⟨hgu, hB, hG, -⟩, hx9⟩ N hN; have hx9 : Rn v x9 _ := hx9; go_simp; ((with_reducible refine (ref1_NatMul y1 y2 a.den b.den _ (h2.grow hgu) (h4.grow hgu) (by omega) (by omega)).mono ?_); rintro e w1 ⟨x, rfl, hx, hg⟩; exact ⟨_, rfl, hN x w1 hx hg⟩))
 refine okf (by simp only [natR, intR, ratR, nnR, Act.put, List.setIfInBounds_toArray, List.set_cons_succ, List.set_cons_zero]; exact rfl) ?_
 refine gma (by (rintro v ⟨⟨⟨hgu, hB, hG, -⟩, hx9⟩, hx14⟩ N hN; have hx9 : Rn v x9 _ := hx9; have hx14 : Rn v x14 _ := hx14; go_simp; with_reducible exact gmc (ref1_I x14 _ (a.den * b.den) _) hN)) ?_
 refine gr (ratR (qmul a b)) rfl ?_ (fun (x16 : Ax × Ax) => ?_)
 ·(rintro v ⟨⟨⟨hgu, hB, hG, -⟩, hx9⟩, hx14⟩ N hN; have hx9 : Rn v x9 _ := hx9; have hx14 : Rn v x14 _ := hx14; go_simp; ((with_reducible refine (ref1_MakeS x9 x14 (zmul a.num b.num) (a.den * b.den) _ _ hx9 hx14 hd0 (by omega) (by omega) he).mono ?_); rintro e w1 ⟨x, rfl, hx, hg⟩; exact ⟨_, rfl, hN x w1 hx hg⟩))
 refine okf (by simp only [natR, intR, ratR, nnR, Act.put, List.setIfInBounds_toArray, List.set_cons_succ, List.set_cons_zero]; exact rfl) ?_
 refine gend ?_
 rintro v ⟨⟨⟨⟨hgu, hB1, hG1, -⟩, hx9⟩, hx14⟩, hx16⟩
 replace h1 := h1.grow hgu
 replace h2 := h2.grow hgu
 replace h3 := h3.grow hgu
 replace h4 := h4.grow hgu
 replace hx9 : Rn v x9 _ := hx9
 replace hx14 : Rn v x14 _ := hx14
 obtain ⟨hx16a, hx16b⟩ : Rn v x16.1 _ ∧ Rn v x16.2 _ := hx16
 clear hB hG
 have hB := hB1
 have hG := hG1
 clear hB1 hG1
 refine hL _ _ ?_
 clear hL L hgu
 obtain ⟨u, rfl⟩ : ∃ x, x = v := ⟨_, rfl⟩
 have r := hB.r
 simp only [BxR] at r
 go_wp2_with fail
 clear r
 generalize hu0 : World.setCell (World.setCell (World.setCell u _ _) _ _) _ _ = u0
 have hBG := over_n hB hF hG 2 rfl 0 [_, _, _] hu0
 replace h1 := h1.put hB 2 rfl (by first | decide | simp) 0 [_, _, _] hu0
 replace h2 := h2.put hB 2 rfl (by first | decide | simp) 0 [_, _, _] hu0
 replace h3 := h3.put hB 2 rfl (by first | decide | simp) 0 [_, _, _] hu0
 replace h4 := h4.put hB 2 rfl (by first | decide | simp) 0 [_, _, _] hu0
 replace hx9 := hx9.put hB 2 rfl (by first | decide | simp) 0 [_, _, _] hu0
 replace hx14 := hx14.put hB 2 rfl (by first | decide | simp) 0 [_, _, _] hu0
 replace hx16a := hx16a.put hB 2 rfl (by first | decide | simp) 0 [_, _, _] hu0
 replace hx16b := hx16b.put hB 2 rfl (by first | decide | simp) 0 [_, _, _] hu0
 clear hB hG hu0
 obtain ⟨hB, hG⟩ := hBG
 clear u
 obtain ⟨u, rfl⟩ : ∃ x, x = u0 := ⟨_, rfl⟩
 refine NoK.norm (hN _ _ ?_)
 clear hN K
 refine then_norm ?_
 refine wp_ret ?_
 refine ret_b rfl ?_
 intro N hN
 have r := hB.r
 simp only [BxR] at r
 simp only [results, Tryz.results115]
 go_simp
 refine hN _ ?_
 clear hN N r
 exact ⟨x16, rfl, ⟨hx16a, hx16b⟩, hG⟩
set_option maxHeartbeats 1000000 in
set_option maxRecDepth 100000 in
theorem ref1_Add (x1 y1 x2 y2 : Ax) (a b : Rat) (w : World) (h1 : Rn w x1 a.num.natAbs) (h2 : Rn w y1 a.den) (h3 : Rn w x2 b.num.natAbs) (h4 : Rn w y2 b.den) (h : qs a + qs b + 1 ≤ BIG) : Calls Tryz.prog 92 #[rqV x1 y1 a, rqV x2 y2 b] w (Ret (ratR (qadd a b)) w) := by
 have z1 := qs_num a
 have z2 := qs_den a
 have z3 := qs_num b
 have z4 := qs_den b
 have z5 := bl_zs a.num b.den
 have z5' := bl_zs b.num a.den
 have z6 := bl_mul_le a.den b.den
 have z7 := bl_zadd (zmul a.num (sgn false b.den)) (zmul b.num (sgn false a.den))
 have hBl := BIG_le
 have he := add_div a b
 have hd0 : a.den * b.den ≠ 0 := Nat.ne_of_gt (Nat.mul_pos a.den_pos b.den_pos)
 have hm1 := fun W e1 e2 => ref1_IntMulS x1 y2 a.num b.den W e1 e2 (by omega) (by omega)
 have hm2 := fun W e1 e2 => ref1_IntMulS x2 y1 b.num a.den W e1 e2 (by omega) (by omega)
 generalize zmul a.num (sgn false b.den) = n1 at *
 generalize zmul b.num (sgn false a.den) = n2 at *
 go_enter Tryz.func92, Tryz.ntmps92
 refine wp_seq (wp_r0 ?_)
 intro K hN
 go_wp2_with fail
 generalize hu : World.alloc (World.alloc (World.alloc w _) _) _ = u
 obtain ⟨hB, hG⟩ := bx_first [(_, _), (_, _), (_, _)] w u hu
 have hF := fr_first w [(41, #[]), (41, #[]), (41, #[])]
 simp only [numbered, List.map_cons, List.map_nil] at hB hF
 clear hu
 generalize w.heap.size + 1 + 1 = b4 at hB hF ⊢
 generalize w.heap.size + 1 = b3 at hB hF ⊢
 generalize w.heap.size = b2 at hB hF ⊢
 replace h1 := h1.grow hG
 replace h2 := h2.grow hG
 replace h3 := h3.grow hG
 replace h4 := h4.grow hG
 refine NoK.norm (hN _ _ ?_)
 clear hN K
 refine then_norm ?_
 refine wp_seq ?_
 refine wp_rd (w := w) allocs 18 [] [(0, 0), (0, 1), (0, 2), (0, 5), (0, 6), (0, 7), (0, 11), (0, 12), (0, 13), (0, 14), (1, 3), (1, 4), (1, 8), (1, 9), (1, 10), (1, 15), (1, 16), (1, 17)] (by kernel_rfl) (by kernel_rfl) (by simp only [List.drop_succ_cons, List.drop_zero]; exact rfl) (fun _ => True) noG hB hG trivial ?_
 intro K L hN hL
 simp only [pickOps, List.getElem?_toArray, List.getElem?_cons_zero, List.getElem?_cons_succ]
 refine gya ?_
 refine gyr ?_
 refine gyr ?_
 refine gya ?_
 refine gyr ?_
 refine gyr ?_
 refine gya ?_
 refine gyr ?_
 refine gya ?_
 refine gyr ?_
 refine gma (by (rintro v ⟨hgu, hB, hG, -⟩ N hN; go_simp; with_reducible exact gmc (ref1_den _ _ _ _) hN)) ?_
 refine gr (intR n1) rfl ?_ (fun (x9 : Ax) => ?_)
 ·(rintro v ⟨hgu, hB, hG, -⟩ N hN; go_simp; ((with_reducible refine (hm1 _ (h1.grow hgu) (h4.grow hgu)).mono ?_); rintro e w1 ⟨x, rfl, hx, hg⟩; exact ⟨_, rfl, hN x w1 hx hg⟩))
 refine okf (by simp only [natR, intR, ratR, nnR, Act.put, List.setIfInBounds_toArray, List.set_cons_succ, List.set_cons_zero]; exact rfl) ?_
 refine gma (by (rintro v ⟨⟨hgu, hB, hG, -⟩, hx9⟩ N hN; have hx9 : Rn v x9 _ := hx9; go_simp; with_reducible exact gmc (ref1_den _ _ _ _) hN)) ?_
 refine gr (intR n2) rfl ?_ (fun (x14 : Ax) => ?_)
 ·(rintro v ⟨⟨hgu, hB, hG, -⟩, hx9⟩ N hN; have hx9 : Rn v x9 _ := hx9; go_simp; ((with_reducible refine (hm2 _ (h3.grow hgu) (h2.grow hgu)).mono ?_); rintro e w1 ⟨x, rfl, hx, hg⟩; exact ⟨_, rfl, hN x w1 hx hg⟩))
 refine okf (by simp only [natR, intR, ratR, nnR, Act.put, List.setIfInBounds_toArray, List.set_cons_succ, List.set_cons_zero]; exact rfl) ?_
 refine gr (intR (zadd n1 n2)) rfl ?_ (fun (x15 : Ax) => ?_)
 ·(rintro v ⟨⟨⟨hgu, hB, hG, -⟩, hx9⟩, hx14⟩ N hN; have hx9 : Rn v x9 _ := hx9; have hx14 : Rn v x14 _ := hx14; go_simp; ((with_reducible refine (ref1_IntAdd x9 x14 n1 n2 _ hx9 hx14 (by omega) (by omega)).mono ?_); rintro e w1 ⟨x, rfl, hx, hg⟩; exact ⟨_, rfl, hN x w1 hx hg⟩))
 refine okf (by simp only [natR, intR, ratR, nnR, Act.put, List.setIfInBounds_toArray, List.set_cons_succ, List.set_cons_zero]; exact rfl) ?_
 refine gr (natR (a.den * b.den)) rfl ?_ (fun (x20 : Ax) => ?_)
 ·(rintro v ⟨⟨⟨⟨hgu, hB, hG, -⟩, hx9⟩, hx14⟩, hx15⟩ N hN; have hx9 : Rn v x9 _ := hx9; have hx14 : Rn v x14 _ := hx14; have hx15 : Rn v x15 _ := hx15; go_simp; ((with_reducible refine (ref1_NatMul y1 y2 a.den b.den _ (h2.grow hgu) (h4.grow hgu) (by omega) (by omega)).mono ?_); rintro e w1 ⟨x, rfl, hx, hg⟩; exact ⟨_, rfl, hN x w1 hx hg⟩))
 refine okf (by simp only [natR, intR, ratR, nnR, Act.put, List.setIfInBounds_toArray, List.set_cons_succ, List.set_cons_zero]; exact rfl) ?_
 refine gma (by (rintro v ⟨⟨⟨⟨⟨hgu, hB, hG, -⟩, hx9⟩, hx14⟩, hx15⟩, hx20⟩ N hN; have hx9 : Rn v x9 _ := hx9; have hx14 : Rn v x14 _ := hx14; have hx15 : Rn v x15 _ := hx15; have hx20 : Rn v x20 _ := hx20; go_simp; with_reducible exact gmc (ref1_I x20 _ (a.den * b.den) _) hN)) ?_
 refine gr (ratR (qadd a b)) rfl ?_ (fun (x22 : Ax × Ax) => ?_)
 ·(rintro v ⟨⟨⟨⟨⟨hgu, hB, hG, -⟩, hx9⟩, hx14⟩, hx15⟩, hx20⟩ N hN; have hx9 : Rn v x9 _ := hx9; have hx14 : Rn v x14 _ := hx14; have hx15 : Rn v x15 _ := hx15; have hx20 : Rn v x20 _ := hx20; go_simp; ((with_reducible refine (ref1_MakeS x15 x20 (zadd n1 n2) (a.den * b.den) _ _ hx15 hx20 hd0 (by omega) (by omega) he).mono ?_); rintro e w1 ⟨x, rfl, hx, hg⟩; exact ⟨_, rfl, hN x w1 hx hg⟩))
 refine okf (by simp only [natR, intR, ratR, nnR, Act.put, List.setIfInBounds_toArray, List.set_cons_succ, List.set_cons_zero]; exact rfl) ?_
 refine gend ?_
 rintro v ⟨⟨⟨⟨⟨⟨hgu, hB1, hG1, -⟩, hx9⟩, hx14⟩, hx15⟩, hx20⟩, hx22⟩
 replace h1 := h1.grow hgu
 replace h2 := h2.grow hgu
 replace h3 := h3.grow hgu
 replace h4 := h4.grow hgu
 replace hx9 : Rn v x9 _ := hx9
 replace hx14 : Rn v x14 _ := hx14
 replace hx15 : Rn v x15 _ := hx15
 replace hx20 : Rn v x20 _ := hx20
 obtain ⟨hx22a, hx22b⟩ : Rn v x22.1 _ ∧ Rn v x22.2 _ := hx22
 clear hB hG
 have hB := hB1
 have hG := hG1
 clear hB1 hG1
 refine hL _ _ ?_
 clear hL L hgu
 obtain ⟨u, rfl⟩ : ∃ x, x = v := ⟨_, rfl⟩
 have r := hB.r
 simp only [BxR] at r
 go_wp2_with fail
 clear r
 generalize hu0 : World.setCell (World.setCell (World.setCell u _ _) _ _) _ _ = u0
 have hBG := over_n hB hF hG 2 rfl 0 [_, _, _] hu0
 replace h1 := h1.put hB 2 rfl (by first | decide | simp) 0 [_, _, _] hu0
 replace h2 := h2.put hB 2 rfl (by first | decide | simp) 0 [_, _, _] hu0
 replace h3 := h3.put hB 2 rfl (by first | decide | simp) 0 [_, _, _] hu0
 replace h4 := h4.put hB 2 rfl (by first | decide | simp) 0 [_, _, _] hu0
 replace hx9 := hx9.put hB 2 rfl (by first | decide | simp) 0 [_, _, _] hu0
 replace hx14 := hx14.put hB 2 rfl (by first | decide | simp) 0 [_, _, _] hu0
 replace hx15 := hx15.put hB 2 rfl (by first | decide | simp) 0 [_, _, _] hu0
 replace hx20 := hx20.put hB 2 rfl (by first | decide | simp) 0 [_, _, _] hu0
 replace hx22a := hx22a.put hB 2 rfl (by first | decide | simp) 0 [_, _, _] hu0
 replace hx22b := hx22b.put hB 2 rfl (by first | decide | simp) 0 [_, _, _] hu0
 clear hB hG hu0
 obtain ⟨hB, hG⟩ := hBG
 clear u
 obtain ⟨u, rfl⟩ : ∃ x, x = u0 := ⟨_, rfl⟩
 refine NoK.norm (hN _ _ ?_)
 clear hN K
 refine then_norm ?_
 refine wp_ret ?_
 refine ret_b rfl ?_
 intro N hN
 have r := hB.r
 simp only [BxR] at r
 simp only [results, Tryz.results92]
 go_simp
 refine hN _ ?_
 clear hN N r
 exact ⟨x22, rfl, ⟨hx22a, hx22b⟩, hG⟩
theorem zs_ne {d : Nat} {z : Int} (h : d ≠ 0) (hz : z ≠ 0) : zmul (sgn false d) z ≠ 0 := by unfold zmul; rw [sgn_false]; exact Int.mul_ne_zero (by omega) hz
theorem bl_zf (d : Nat) (z : Int) : bl (zmul (sgn false d) z).natAbs ≤ bl d + bl z.natAbs := by have := bl_zmul (sgn false d) z; rw [sgn_abs] at this; exact this
theorem num_ne {q : Rat} (h : q ≠ 0) : q.num ≠ 0 := fun e => h (Rat.num_eq_zero.1 e)
set_option maxHeartbeats 1000000 in
set_option maxRecDepth 100000 in
theorem ref1_Div (x1 y1 x2 y2 : Ax) (a b : Rat) (w : World) (h1 : Rn w x1 a.num.natAbs) (h2 : Rn w y1 a.den) (h3 : Rn w x2 b.num.natAbs) (h4 : Rn w y2 b.den) (h : qs a + qs b ≤ BIG) (h0 : b ≠ 0) : Calls Tryz.prog 29 #[rqV x1 y1 a, rqV x2 y2 b] w (Ret (ratR (qdiv a b)) w) := by
 have z1 := qs_num a
 have z2 := qs_den a
 have z3 := qs_num b
 have z4 := qs_den b
 have z5 := bl_zs a.num b.den
 have z6 := bl_zf a.den b.num
 have hBl := BIG_le
 have he := div_div a b
 have hd0 := zs_ne (z := b.num) a.den_nz (num_ne h0)
 have hm1 := fun W e1 e2 => ref1_IntMulS x1 y2 a.num b.den W e1 e2 (by omega) (by omega)
 have hm2 := fun W e1 e2 => ref1_IntMulF y1 x2 a.den b.num W e1 e2 (by omega) (by omega)
 generalize zmul a.num (sgn false b.den) = n1 at *
 generalize zmul (sgn false a.den) b.num = n2 at *
 have hmk := fun x y W e1 e2 => ref1_Make x y n1 n2 W e1 e2 hd0 (by omega) (by omega)
 rw [he] at hmk
 go_enter Tryz.func29, Tryz.ntmps29
 refine wp_seq (wp_r0 ?_)
 intro K hN
 go_wp2_with fail
 generalize hu : World.alloc (World.alloc (World.alloc w _) _) _ = u
 obtain ⟨hB, hG⟩ := bx_first [(_, _), (_, _), (_, _)] w u hu
 have hF := fr_first w [(41, #[]), (41, #[]), (41, #[])]
 simp only [numbered, List.map_cons, List.map_nil] at hB hF
 clear hu
 generalize w.heap.size + 1 + 1 = b4 at hB hF ⊢
 generalize w.heap.size + 1 = b3 at hB hF ⊢
 generalize w.heap.size = b2 at hB hF ⊢
 replace h1 := h1.grow hG
 replace h2 := h2.grow hG
 replace h3 := h3.grow hG
 replace h4 := h4.grow hG
 refine NoK.norm (hN _ _ ?_)
 clear hN K
 refine then_norm ?_
 refine wp_seq ?_
 refine wp_rd (w := w) allocs 11 [] [(0, 0), (0, 1), (0, 2), (0, 5), (0, 7), (0, 8), (1, 3), (1, 4), (1, 6), (1, 9), (1, 10)] (by kernel_rfl) (by kernel_rfl) (by simp only [List.drop_succ_cons, List.drop_zero]; exact rfl) (fun _ => True) noG hB hG trivial ?_
 intro K L hN hL
 simp only [pickOps, List.getElem?_toArray, List.getElem?_cons_zero, List.getElem?_cons_succ]
 refine gya ?_
 refine gyr ?_
 refine gyr ?_
 refine gyr ?_
 refine gya ?_
 refine gyr ?_
 refine gma (by (rintro v ⟨hgu, hB, hG, -⟩ N hN; go_simp; with_reducible exact gmc (ref1_den _ _ _ _) hN)) ?_
 refine gr (intR n1) rfl ?_ (fun (x9 : Ax) => ?_)
 ·(rintro v ⟨hgu, hB, hG, -⟩ N hN; go_simp; ((with_reducible refine (hm1 _ (h1.grow hgu) (h4.grow hgu)).mono ?_); rintro e w1 ⟨x, rfl, hx, hg⟩; exact ⟨_, rfl, hN x w1 hx hg⟩))
 refine okf (by simp only [natR, intR, ratR, nnR, Act.put, List.setIfInBounds_toArray, List.set_cons_succ, List.set_cons_zero]; exact rfl) ?_
 refine gma (by (rintro v ⟨⟨hgu, hB, hG, -⟩, hx9⟩ N hN; have hx9 : Rn v x9 _ := hx9; go_simp; with_reducible exact gmc (ref1_den _ _ _ _) hN)) ?_
 refine gr (intR n2) rfl ?_ (fun (x14 : Ax) => ?_)
 ·(rintro v ⟨⟨hgu, hB, hG, -⟩, hx9⟩ N hN; have hx9 : Rn v x9 _ := hx9; go_simp; ((with_reducible refine (hm2 _ (h2.grow hgu) (h3.grow hgu)).mono ?_); rintro e w1 ⟨x, rfl, hx, hg⟩; exact ⟨_, rfl, hN x w1 hx hg⟩))
 refine okf (by simp only [natR, intR, ratR, nnR, Act.put, List.setIfInBounds_toArray, List.set_cons_succ, List.set_cons_zero]; exact rfl) ?_
 refine gr (ratR (qdiv a b)) rfl ?_ (fun (x15 : Ax × Ax) => ?_)
 ·(rintro v ⟨⟨⟨hgu, hB, hG, -⟩, hx9⟩, hx14⟩ N hN; have hx9 : Rn v x9 _ := hx9; have hx14 : Rn v x14 _ := hx14; go_simp; ((with_reducible refine (hmk x9 x14 _ hx9 hx14).mono ?_); rintro e w1 ⟨x, rfl, hx, hg⟩; exact ⟨_, rfl, hN x w1 hx hg⟩))
 refine okf (by simp only [natR, intR, ratR, nnR, Act.put, List.setIfInBounds_toArray, List.set_cons_succ, List.set_cons_zero]; exact rfl) ?_
 refine gend ?_
 rintro v ⟨⟨⟨⟨hgu, hB1, hG1, -⟩, hx9⟩, hx14⟩, hx15⟩
 replace h1 := h1.grow hgu
 replace h2 := h2.grow hgu
 replace h3 := h3.grow hgu
 replace h4 := h4.grow hgu
 replace hx9 : Rn v x9 _ := hx9
 replace hx14 : Rn v x14 _ := hx14
 obtain ⟨hx15a, hx15b⟩ : Rn v x15.1 _ ∧ Rn v x15.2 _ := hx15
 clear hB hG
 have hB := hB1
 have hG := hG1
 clear hB1 hG1
 refine hL _ _ ?_
 clear hL L hgu
 obtain ⟨u, rfl⟩ : ∃ x, x = v := ⟨_, rfl⟩
 have r := hB.r
 simp only [BxR] at r
 go_wp2_with fail
 clear r
 generalize hu0 : World.setCell (World.setCell (World.setCell u _ _) _ _) _ _ = u0
 have hBG := over_n hB hF hG 2 rfl 0 [_, _, _] hu0
 replace h1 := h1.put hB 2 rfl (by first | decide | simp) 0 [_, _, _] hu0
 replace h2 := h2.put hB 2 rfl (by first | decide | simp) 0 [_, _, _] hu0
 replace h3 := h3.put hB 2 rfl (by first | decide | simp) 0 [_, _, _] hu0
 replace h4 := h4.put hB 2 rfl (by first | decide | simp) 0 [_, _, _] hu0
 replace hx9 := hx9.put hB 2 rfl (by first | decide | simp) 0 [_, _, _] hu0
 replace hx14 := hx14.put hB 2 rfl (by first | decide | simp) 0 [_, _, _] hu0
 replace hx15a := hx15a.put hB 2 rfl (by first | decide | simp) 0 [_, _, _] hu0
 replace hx15b := hx15b.put hB 2 rfl (by first | decide | simp) 0 [_, _, _] hu0
 clear hB hG hu0
 obtain ⟨hB, hG⟩ := hBG
 clear u
 obtain ⟨u, rfl⟩ : ∃ x, x = u0 := ⟨_, rfl⟩
 refine NoK.norm (hN _ _ ?_)
 clear hN K
 refine then_norm ?_
 refine wp_ret ?_
 refine ret_b rfl ?_
 intro N hN
 have r := hB.r
 simp only [BxR] at r
 simp only [results, Tryz.results29]
 go_simp
 refine hN _ ?_
 clear hN N r
 exact ⟨x15, rfl, ⟨hx15a, hx15b⟩, hG⟩
theorem cmp_div (a b : Rat) : cmpZ (zmul a.num (sgn false b.den)) (zmul b.num (sgn false a.den)) = cmpQ a b := (cmpQ_cross a b).symm
set_option maxHeartbeats 1000000 in
set_option maxRecDepth 100000 in
theorem ref1_Cmp (x1 y1 x2 y2 : Ax) (a b : Rat) (w : World) (h1 : Rn w x1 a.num.natAbs) (h2 : Rn w y1 a.den) (h3 : Rn w x2 b.num.natAbs) (h4 : Rn w y2 b.den) (h : qs a + qs b ≤ BIG) : Calls Tryz.prog 102 #[rqV x1 y1 a, rqV x2 y2 b] w fun e w' => e = .returned (.int .i64 (cmpQ a b)) ∧ Grow w w' := by
 have z1 := qs_num a
 have z2 := qs_den a
 have z3 := qs_num b
 have z4 := qs_den b
 have z5 := bl_zs a.num b.den
 have z5' := bl_zs b.num a.den
 have hBl := BIG_le
 have he := cmp_div a b
 have hm1 := fun W e1 e2 => ref1_IntMulS x1 y2 a.num b.den W e1 e2 (by omega) (by omega)
 have hm2 := fun W e1 e2 => ref1_IntMulS x2 y1 b.num a.den W e1 e2 (by omega) (by omega)
 generalize zmul a.num (sgn false b.den) = n1 at *
 generalize zmul b.num (sgn false a.den) = n2 at *
 go_enter Tryz.func102, Tryz.ntmps102
 refine wp_seq (wp_r0 ?_)
 intro K hN
 go_wp2_with fail
 generalize hu : World.alloc (World.alloc w _) _ = u
 obtain ⟨hB, hG⟩ := bx_first [(_, _), (_, _)] w u hu
 have hF := fr_first w [(41, #[]), (41, #[])]
 simp only [numbered, List.map_cons, List.map_nil] at hB hF
 clear hu
 generalize w.heap.size + 1 = b3 at hB hF ⊢
 generalize w.heap.size = b2 at hB hF ⊢
 replace h1 := h1.grow hG
 replace h2 := h2.grow hG
 replace h3 := h3.grow hG
 replace h4 := h4.grow hG
 refine NoK.norm (hN _ _ ?_)
 clear hN K
 refine then_norm ?_
 refine wp_seq ?_
 refine wp_rd (w := w) allocs 11 [] [(0, 0), (0, 1), (0, 2), (0, 5), (0, 6), (0, 7), (1, 3), (1, 4), (1, 8), (1, 9), (1, 10)] (by kernel_rfl) (by kernel_rfl) (by simp only [List.drop_succ_cons, List.drop_zero]; exact rfl) (fun _ => True) noG hB hG trivial ?_
 intro K L hN hL
 simp only [pickOps, List.getElem?_toArray, List.getElem?_cons_zero, List.getElem?_cons_succ]
 refine gya ?_
 refine gyr ?_
 refine gyr ?_
 refine gya ?_
 refine gyr ?_
 refine gyr ?_
 refine gma (by (rintro v ⟨hgu, hB, hG, -⟩ N hN; go_simp; with_reducible exact gmc (ref1_den _ _ _ _) hN)) ?_
 refine gr (intR n1) rfl ?_ (fun (x9 : Ax) => ?_)
 ·(rintro v ⟨hgu, hB, hG, -⟩ N hN; go_simp; ((with_reducible refine (hm1 _ (h1.grow hgu) (h4.grow hgu)).mono ?_); rintro e w1 ⟨x, rfl, hx, hg⟩; exact ⟨_, rfl, hN x w1 hx hg⟩))
 refine okf (by simp only [natR, intR, ratR, nnR, Act.put, List.setIfInBounds_toArray, List.set_cons_succ, List.set_cons_zero]; exact rfl) ?_
 refine gma (by (rintro v ⟨⟨hgu, hB, hG, -⟩, hx9⟩ N hN; have hx9 : Rn v x9 _ := hx9; go_simp; with_reducible exact gmc (ref1_den _ _ _ _) hN)) ?_
 refine gr (intR n2) rfl ?_ (fun (x14 : Ax) => ?_)
 ·(rintro v ⟨⟨hgu, hB, hG, -⟩, hx9⟩ N hN; have hx9 : Rn v x9 _ := hx9; go_simp; ((with_reducible refine (hm2 _ (h3.grow hgu) (h2.grow hgu)).mono ?_); rintro e w1 ⟨x, rfl, hx, hg⟩; exact ⟨_, rfl, hN x w1 hx hg⟩))
 refine okf (by simp only [natR, intR, ratR, nnR, Act.put, List.setIfInBounds_toArray, List.set_cons_succ, List.set_cons_zero]; exact rfl) ?_
 refine gma (by (rintro v ⟨⟨⟨hgu, hB, hG, -⟩, hx9⟩, hx14⟩ N hN; have hx9 : Rn v x9 _ := hx9; have hx14 : Rn v x14 _ := hx14; go_simp; with_reducible exact gmc (ref1_IntCmp x9 x14 n1 n2 _ hx9 hx14 (by omega) (by omega)) hN)) ?_
 refine gend ?_
 rintro v ⟨⟨⟨hgu, hB1, hG1, -⟩, hx9⟩, hx14⟩
 replace h1 := h1.grow hgu
 replace h2 := h2.grow hgu
 replace h3 := h3.grow hgu
 replace h4 := h4.grow hgu
 replace hx9 : Rn v x9 _ := hx9
 replace hx14 : Rn v x14 _ := hx14
 clear hB hG
 have hB := hB1
 have hG := hG1
 clear hB1 hG1
 refine hL _ _ ?_
 clear hL L hgu
 obtain ⟨u, rfl⟩ : ∃ x, x = v := ⟨_, rfl⟩
 go_wp2_with fail
 refine NoK.norm (hN _ _ ?_)
 clear hN K
 refine then_norm ?_
 refine wp_ret ?_
 refine ret_b rfl ?_
 intro N hN
 have r := hB.r
 simp only [BxR] at r
 simp only [results, Tryz.results102]
 go_simp
 refine hN _ ?_
 clear hN N r
 exact ⟨by first | rfl | exact ret_i64 he, hG⟩
--! ref1_Sign = ref1_Sign _ _ _ _
set_option maxHeartbeats 400000 in
set_option maxRecDepth 100000 in
theorem ref1_Sign (x y : Ax) (q : Rat) (w : World) : Calls Tryz.prog 96 #[rqV x y q] w fun e w' => e = .returned (.int .i64 q.num.sign) ∧ Grow w w' := by
 go_enter Tryz.func96, Tryz.ntmps96
 refine wp_seq (wp_r0 ?_)
 intro K hN
 go_wp2_with fail
 generalize hu : World.alloc w _ = u
 obtain ⟨hB, hG⟩ := bx_first [(_, _)] w u hu
 have hF := fr_first w [(41, #[])]
 simp only [numbered, List.map_cons, List.map_nil] at hB hF
 clear hu
 generalize w.heap.size = b1 at hB hF ⊢
 refine NoK.norm (hN _ _ ?_)
 clear hN K
 refine then_norm ?_
 refine wp_seq ?_
 refine wp_rs (w := w) allocs 4 [0, 0, 1, 0] (by kernel_rfl) (by simp only [List.drop_succ_cons, List.drop_nil]; exact rfl) (fun _ => True) noG hB hG trivial ?_
 intro K L hN hL
 simp only [List.zip_cons_cons, List.zip_nil_left]
 refine gya ?_
 refine gyr ?_
 refine gma (by (rintro v ⟨hgu, hB, hG, -⟩ N hN; go_simp; with_reducible exact gmc (ref1_IntSign x q.num _) hN)) ?_
 refine gya ?_
 refine gend ?_
 rintro v ⟨hgu, hB1, hG1, -⟩
 clear hB hG
 have hB := hB1
 have hG := hG1
 clear hB1 hG1
 refine hL _ _ ?_
 clear hL L hgu
 obtain ⟨u, rfl⟩ : ∃ x, x = v := ⟨_, rfl⟩
 refine wpList_nil ?_
 refine NoK.norm (hN _ _ ?_)
 clear hN K
 refine then_norm ?_
 refine wp_ret ?_
 refine ret_b rfl ?_
 intro N hN
 have r := hB.r
 simp only [BxR] at r
 simp only [results, Tryz.results96]
 go_simp
 refine hN _ ?_
 clear hN N r
 exact ⟨rfl, hG⟩
--! ref1_Neg = ref1_Neg _ _ _ _
set_option maxHeartbeats 400000 in
set_option maxRecDepth 100000 in
theorem ref1_Neg (x y : Ax) (q : Rat) (w : World) : Calls Tryz.prog 139 #[rqV x y q] w fun e w' => e = .returned (rqV x y (qneg q)) ∧ Grow w w' := by
 go_enter Tryz.func139, Tryz.ntmps139
 refine wp_seq (wp_r0 ?_)
 intro K hN
 go_wp2_with fail
 generalize hu : World.alloc (World.alloc w _) _ = u
 obtain ⟨hB, hG⟩ := bx_first [(_, _), (_, _)] w u hu
 have hF := fr_first w [(41, #[]), (41, #[])]
 simp only [numbered, List.map_cons, List.map_nil] at hB hF
 clear hu
 generalize w.heap.size + 1 = b2 at hB hF ⊢
 generalize w.heap.size = b1 at hB hF ⊢
 refine NoK.norm (hN _ _ ?_)
 clear hN K
 refine then_norm ?_
 refine wp_seq ?_
 refine wp_rd (w := w) allocs 6 [] [(0, 0), (0, 1), (0, 3), (0, 4), (1, 2), (0, 5)] (by kernel_rfl) (by kernel_rfl) (by simp only [List.drop_succ_cons, List.drop_zero]; exact rfl) (fun _ => True) noG hB hG trivial ?_
 intro K L hN hL
 simp only [pickOps, List.getElem?_toArray, List.getElem?_cons_zero, List.getElem?_cons_succ]
 refine gya ?_
 refine gyr ?_
 refine gya ?_
 refine gyr ?_
 refine gma (by (rintro v ⟨hgu, hB, hG, -⟩ N hN; go_simp; with_reducible exact gmc (ref1_IntNeg _ _ _) hN)) ?_
 refine gya ?_
 refine gend ?_
 rintro v ⟨hgu, hB1, hG1, -⟩
 clear hB hG
 have hB := hB1
 have hG := hG1
 clear hB1 hG1
 refine hL _ _ ?_
 clear hL L hgu
 obtain ⟨u, rfl⟩ : ∃ x, x = v := ⟨_, rfl⟩
 have r := hB.r
 simp only [BxR] at r
 go_wp2_with fail
 clear r
 generalize hu0 : World.setCell (World.setCell (World.setCell u _ _) _ _) _ _ = u0
 have hBG := over_n hB hF hG 1 rfl 0 [_, _, _] hu0
 clear hB hG hu0
 obtain ⟨hB, hG⟩ := hBG
 clear u
 obtain ⟨u, rfl⟩ : ∃ x, x = u0 := ⟨_, rfl⟩
 refine NoK.norm (hN _ _ ?_)
 clear hN K
 refine then_norm ?_
 refine wp_ret ?_
 refine ret_b rfl ?_
 intro N hN
 have r := hB.r
 simp only [BxR] at r
 simp only [results, Tryz.results139]
 go_simp
 refine hN _ ?_
 clear hN N r
 exact ⟨ret_rq (q := qneg q) (Rat.neg_num q) (Rat.neg_den q), hG⟩
--! ref1_Abs = ref1_Abs _ _ _ _
set_option maxHeartbeats 400000 in
set_option maxRecDepth 100000 in
theorem ref1_Abs (x y : Ax) (q : Rat) (w : World) : Calls Tryz.prog 93 #[rqV x y q] w fun e w' => e = .returned (rqV x y (qabs q)) ∧ Grow w w' := by
 go_enter Tryz.func93, Tryz.ntmps93
 refine wp_seq (wp_r0 ?_)
 intro K hN
 go_wp2_with fail
 generalize hu : World.alloc (World.alloc w _) _ = u
 obtain ⟨hB, hG⟩ := bx_first [(_, _), (_, _)] w u hu
 have hF := fr_first w [(41, #[]), (41, #[])]
 simp only [numbered, List.map_cons, List.map_nil] at hB hF
 clear hu
 generalize w.heap.size + 1 = b2 at hB hF ⊢
 generalize w.heap.size = b1 at hB hF ⊢
 refine NoK.norm (hN _ _ ?_)
 clear hN K
 refine then_norm ?_
 refine wp_seq ?_
 refine wp_rd (w := w) allocs 7 [] [(0, 0), (0, 1), (0, 2), (0, 4), (0, 5), (1, 3), (0, 6)] (by kernel_rfl) (by kernel_rfl) (by simp only [List.drop_succ_cons, List.drop_zero]; exact rfl) (fun _ => True) noG hB hG trivial ?_
 intro K L hN hL
 simp only [pickOps, List.getElem?_toArray, List.getElem?_cons_zero, List.getElem?_cons_succ]
 refine gya ?_
 refine gya ?_
 refine gyr ?_
 refine gya ?_
 refine gyr ?_
 refine gma (by (rintro v ⟨hgu, hB, hG, -⟩ N hN; go_simp; with_reducible exact gmc (ref1_I x _ q.num.natAbs _) hN)) ?_
 refine gya ?_
 refine gend ?_
 rintro v ⟨hgu, hB1, hG1, -⟩
 clear hB hG
 have hB := hB1
 have hG := hG1
 clear hB1 hG1
 refine hL _ _ ?_
 clear hL L hgu
 obtain ⟨u, rfl⟩ : ∃ x, x = v := ⟨_, rfl⟩
 have r := hB.r
 simp only [BxR] at r
 go_wp2_with fail
 clear r
 generalize hu0 : World.setCell (World.setCell (World.setCell u _ _) _ _) _ _ = u0
 have hBG := over_n hB hF hG 1 rfl 0 [_, _, _] hu0
 clear hB hG hu0
 obtain ⟨hB, hG⟩ := hBG
 clear u
 obtain ⟨u, rfl⟩ : ∃ x, x = u0 := ⟨_, rfl⟩
 refine NoK.norm (hN _ _ ?_)
 clear hN K
 refine then_norm ?_
 refine wp_ret ?_
 refine ret_b rfl ?_
 intro N hN
 have r := hB.r
 simp only [BxR] at r
 simp only [results, Tryz.results93]
 go_simp
 refine hN _ ?_
 clear hN N r
 exact ⟨ret_rq (q := qabs q) (abs_num q) (abs_den q), hG⟩
theorem neg_rn {u : World} {x : Ax} {q : Rat} (h : Rn u x q.num.natAbs) : Rn u x (qneg q).num.natAbs := by unfold qneg; rw [Rat.neg_num, Int.natAbs_neg]; exact h
theorem neg_rd {u : World} {x : Ax} {q : Rat} (h : Rn u x q.den) : Rn u x (qneg q).den := by unfold qneg; rw [Rat.neg_den]; exact h
theorem abs_rn {u : World} {x : Ax} {q : Rat} (h : Rn u x q.num.natAbs) : Rn u x (qabs q).num.natAbs := by unfold qabs; rw [abs_num, sgn_abs]; exact h
theorem abs_rd {u : World} {x : Ax} {q : Rat} (h : Rn u x q.den) : Rn u x (qabs q).den := by unfold qabs; rw [abs_den]; exact h
set_option maxHeartbeats 1000000 in
set_option maxRecDepth 100000 in
theorem ref1_Sub (x1 y1 x2 y2 : Ax) (a b : Rat) (w : World) (h1 : Rn w x1 a.num.natAbs) (h2 : Rn w y1 a.den) (h3 : Rn w x2 b.num.natAbs) (h4 : Rn w y2 b.den) (h : qs a + qs b + 1 ≤ BIG) : Calls Tryz.prog 97 #[rqV x1 y1 a, rqV x2 y2 b] w (Ret (ratR (qsub a b)) w) := by
 have z : qs a + qs (qneg b) + 1 ≤ BIG := by rw [qs_qneg]; exact h
 have h3' := neg_rn h3
 have h4' := neg_rd h4
 have had := fun W e1 e2 e3 e4 => ref1_Add x1 y1 x2 y2 a (qneg b) W e1 e2 e3 e4 z
 rw [qsub_eq] at had
 clear h3 h4
 go_enter Tryz.func97, Tryz.ntmps97
 refine wp_seq (wp_r0 ?_)
 intro K hN
 go_wp2_with fail
 generalize hu : World.alloc (World.alloc (World.alloc w _) _) _ = u
 obtain ⟨hB, hG⟩ := bx_first [(_, _), (_, _), (_, _)] w u hu
 have hF := fr_first w [(41, #[]), (41, #[]), (41, #[])]
 simp only [numbered, List.map_cons, List.map_nil] at hB hF
 clear hu
 generalize w.heap.size + 1 + 1 = b4 at hB hF ⊢
 generalize w.heap.size + 1 = b3 at hB hF ⊢
 generalize w.heap.size = b2 at hB hF ⊢
 replace h1 := h1.grow hG
 replace h2 := h2.grow hG
 replace h3' := h3'.grow hG
 replace h4' := h4'.grow hG
 refine NoK.norm (hN _ _ ?_)
 clear hN K
 refine then_norm ?_
 refine wp_seq ?_
 refine wp_rd (w := w) allocs 4 [] [(0, 0), (0, 1), (1, 2), (1, 3)] (by kernel_rfl) (by kernel_rfl) (by simp only [List.drop_succ_cons, List.drop_zero]; exact rfl) (fun _ => True) noG hB hG trivial ?_
 intro K L hN hL
 simp only [pickOps, List.getElem?_toArray, List.getElem?_cons_zero, List.getElem?_cons_succ]
 refine gyr ?_
 refine gyr ?_
 refine gma (by (rintro v ⟨hgu, hB, hG, -⟩ N hN; go_simp; with_reducible exact gmc (ref1_Neg _ _ _ _) hN)) ?_
 refine gr (ratR (qsub a b)) rfl ?_ (fun (x8 : Ax × Ax) => ?_)
 ·(rintro v ⟨hgu, hB, hG, -⟩ N hN; go_simp; ((with_reducible refine (had _ (h1.grow hgu) (h2.grow hgu) (h3'.grow hgu) (h4'.grow hgu)).mono ?_); rintro e w1 ⟨x, rfl, hx, hg⟩; exact ⟨_, rfl, hN x w1 hx hg⟩))
 refine okf (by simp only [natR, intR, ratR, nnR, Act.put, List.setIfInBounds_toArray, List.set_cons_succ, List.set_cons_zero]; exact rfl) ?_
 refine gend ?_
 rintro v ⟨⟨hgu, hB1, hG1, -⟩, hx8⟩
 replace h1 := h1.grow hgu
 replace h2 := h2.grow hgu
 replace h3' := h3'.grow hgu
 replace h4' := h4'.grow hgu
 obtain ⟨hx8a, hx8b⟩ : Rn v x8.1 _ ∧ Rn v x8.2 _ := hx8
 clear hB hG
 have hB := hB1
 have hG := hG1
 clear hB1 hG1
 refine hL _ _ ?_
 clear hL L hgu
 obtain ⟨u, rfl⟩ : ∃ x, x = v := ⟨_, rfl⟩
 have r := hB.r
 simp only [BxR] at r
 go_wp2_with fail
 clear r
 generalize hu0 : World.setCell (World.setCell (World.setCell u _ _) _ _) _ _ = u0
 have hBG := over_n hB hF hG 2 rfl 0 [_, _, _] hu0
 replace h1 := h1.put hB 2 rfl (by first | decide | simp) 0 [_, _, _] hu0
 replace h2 := h2.put hB 2 rfl (by first | decide | simp) 0 [_, _, _] hu0
 replace h3' := h3'.put hB 2 rfl (by first | decide | simp) 0 [_, _, _] hu0
 replace h4' := h4'.put hB 2 rfl (by first | decide | simp) 0 [_, _, _] hu0
 replace hx8a := hx8a.put hB 2 rfl (by first | decide | simp) 0 [_, _, _] hu0
 replace hx8b := hx8b.put hB 2 rfl (by first | decide | simp) 0 [_, _, _] hu0
 clear hB hG hu0
 obtain ⟨hB, hG⟩ := hBG
 clear u
 obtain ⟨u, rfl⟩ : ∃ x, x = u0 := ⟨_, rfl⟩
 refine NoK.norm (hN _ _ ?_)
 clear hN K
 refine then_norm ?_
 refine wp_ret ?_
 refine ret_b rfl ?_
 intro N hN
 have r := hB.r
 simp only [BxR] at r
 simp only [results, Tryz.results97]
 go_simp
 refine hN _ ?_
 clear hN N r
 exact ⟨x8, rfl, ⟨hx8a, hx8b⟩, hG⟩
end Go.Proofs.YtimjnkfcnpfoeaaGreatDoor
