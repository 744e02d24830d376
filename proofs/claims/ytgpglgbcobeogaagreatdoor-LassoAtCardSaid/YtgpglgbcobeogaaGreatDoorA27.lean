/- Contracts and laws. -/
import Derived.Test.YtgpglgbcobeogaaGreatDoorA26
set_option linter.unusedSimpArgs false
set_option linter.unusedVariables false
set_option maxHeartbeats 1000000
set_option maxRecDepth 100000
namespace Go.Proofs.YtgpglgbcobeogaaGreatDoor
open Go.RowKit
abbrev Az:=Ax × Ax
def Rz (u : World) (p : Az) (q : Rat) : Prop:=Rn u p.1 q.num.natAbs ∧ Rn u p.2 q.den
theorem Rz.grow {u u' : World} {p : Az} {q : Rat} (h : Rz u p q) (hg : A4 u u') : Rz u' p q:=⟨h.1.grow hg,h.2.grow hg⟩
theorem A5e (x y : Ax) (n : Int) (d : Nat) (q : Rat) (w : World) (hx : Rn w x n.natAbs) (hy : Rn w y d) (h0 : d ≠ 0) (hn : bl n.natAbs ≤ BIG) (hd : bl d ≤ BIG) (he : G5 n (sgn false d) = q) : Calls Tryz.prog 76 #[riV x n,riV y (sgn false d)] w (Ret (H6 q) w):=by
 rw [← he]
 exact A5I x y n (sgn false d) w hx (by rw [O2];exact hy) (by rw [A0H];omega) hn (by rw [O2];exact hd)
theorem A2F (x y : Ax) (a : Int) (d : Nat) (w : World) (hx : Rn w x a.natAbs) (hy : Rn w y d) (ha : bl a.natAbs ≤ 1099511627776) (hb : bl d ≤ 1099511627776) : Calls Tryz.prog 79 #[riV x a,riV y (sgn false d)] w (Ret (J5 (H7 a (sgn false d))) w) :=
 A5Z x y a (sgn false d) w hx (by rw [O2];exact hy) ha (by rw [O2];exact hb)
theorem B4O (x y : Ax) (d : Nat) (b : Int) (w : World) (hx : Rn w x d) (hy : Rn w y b.natAbs) (ha : bl d ≤ 1099511627776) (hb : bl b.natAbs ≤ 1099511627776) : Calls Tryz.prog 79 #[riV x (sgn false d),riV y b] w (Ret (J5 (H7 (sgn false d) b)) w) :=
 A5Z x y (sgn false d) b w (by rw [O2];exact hx) hy (by rw [O2];exact ha) hb
theorem A1H (q : Rat) : Rat.divInt q.num (q.den : Int) = q:=by rw [Rat.divInt_ofNat];exact Rat.mkRat_self q
theorem A6J (q : Rat) : ((q.den : Nat) : Int) ≠ 0:=by have := q.den_nz;omega
theorem B4S (a b : Rat) : G5 (S9 (H7 a.num (sgn false b.den)) (H7 b.num (sgn false a.den))) (sgn false (a.den * b.den)) = G9 a b:=by
 unfold G5 S9 H7 G9
 rw [A0H,A0H,A0H,Int.natCast_mul,← Rat.divInt_add_divInt _ _ (A6J a) (A6J b),A1H,A1H]
theorem B3R (a b : Rat) : G5 (H7 a.num b.num) (sgn false (a.den * b.den)) = E7 a b:=by
 unfold G5 H7 E7
 rw [A0H,Int.natCast_mul,← Rat.divInt_mul_divInt,A1H,A1H]
theorem A9Z (a b : Rat) : G5 (H7 a.num (sgn false b.den)) (H7 (sgn false a.den) b.num) = I0 a b:=by
 unfold G5 H7 I0
 rw [A0H,A0H,← Rat.divInt_mul_divInt,A1H,Rat.div_def]
 congr 1
 conv=>rhs;rw [← A1H b,Rat.inv_divInt]
theorem A2E (a : Int) (d : Nat) : bl (H7 a (sgn false d)).natAbs ≤ bl a.natAbs + bl d:=by have := A4W a (sgn false d);rw [O2] at this;exact this
theorem A9g (x1 y1 x2 y2 : Ax) (a b : Rat) (w : World) (h1 : Rn w x1 a.num.natAbs) (h2 : Rn w y1 a.den) (h3 : Rn w x2 b.num.natAbs) (h4 : Rn w y2 b.den) (h : qs a + qs b ≤ BIG) : Calls Tryz.prog 28 #[rqV x1 y1 a,rqV x2 y2 b] w (Ret (H6 (E7 a b)) w):=by
 have z1:=F0 a
 have z2:=F8 a
 have z3:=F0 b
 have z4:=F8 b
 have z5:=A4W a.num b.num
 have z6:=N4 a.den b.den
 have hBl:=I1
 have he:=B3R a b
 have hd0 : a.den * b.den ≠ 0:=Nat.ne_of_gt (Nat.mul_pos a.den_pos b.den_pos)
 go_enter Tryz.func28,Tryz.ntmps28
 refine en3 ?_
 intro u hG b4 b3 b2 hB hF
 replace h1:=h1.grow hG
 replace h2:=h2.grow hG
 replace h3:=h3.grow hG
 replace h4:=h4.grow hG
 refine wp_seq (rdC A8 [] [(0,0),(0,1),(0,2),(0,3),(0,5),(0,6),(0,7),(0,8),(1,4),(1,9),(1,10),(1,11)] hB hG fun K L hN hL=>?_)
 refine gs ?_
 refine grd (J5 (H7 a.num b.num)) (fun (x9 : Ax)=>?_) (C:=by (rintro v ⟨hgu,hB,hG,-⟩;exact A5Z x1 x2 a.num b.num _ (h1.grow hgu) (h3.grow hgu) (by omega) (by omega)))
 refine grd (J4 (a.den * b.den)) (fun (x14 : Ax)=>?_) (C:=by (rintro v ⟨⟨hgu,hB,hG,-⟩,hx9⟩;have hx9 : Rn v x9 _:=hx9;exact A45 y1 y2 a.den b.den _ (h2.grow hgu) (h4.grow hgu) (by omega) (by omega)))
 refine gmd (C:=by (rintro v ⟨⟨⟨hgu,hB,hG,-⟩,hx9⟩,hx14⟩;have hx9 : Rn v x9 _:=hx9;have hx14 : Rn v x14 _:=hx14;exact U9 x14 _ (a.den * b.den) _)) ?_
 refine grd (H6 (E7 a b)) (fun (x16 : Ax × Ax)=>?_) (C:=by (rintro v ⟨⟨⟨hgu,hB,hG,-⟩,hx9⟩,hx14⟩;have hx9 : Rn v x9 _:=hx9;have hx14 : Rn v x14 _:=hx14;exact A5e x9 x14 (H7 a.num b.num) (a.den * b.den) _ _ hx9 hx14 hd0 (by omega) (by omega) he))
 refine geC hL ?_
 clear hB hG hL L
 rintro u ⟨⟨⟨⟨hgu,hB,hG,-⟩,hx9⟩,hx14⟩,hx16⟩
 replace h1:=h1.grow hgu
 replace h2:=h2.grow hgu
 replace h3:=h3.grow hgu
 replace h4:=h4.grow hgu
 replace hx9 : Rn u x9 _:=hx9
 replace hx14 : Rn u x14 _:=hx14
 obtain ⟨hx16a,hx16b⟩ : Rn u x16.1 _ ∧ Rn u x16.2 _:=hx16
 clear hgu
 refine gtT ?_
 clear hN K
 refine sv hB hF hG 2 0 [_,_,_] ?_
 intro u hu hBG
 replace h1:=h1.put hB 2 rfl (by first | decide | simp) _ _ hu
 replace h2:=h2.put hB 2 rfl (by first | decide | simp) _ _ hu
 replace h3:=h3.put hB 2 rfl (by first | decide | simp) _ _ hu
 replace h4:=h4.put hB 2 rfl (by first | decide | simp) _ _ hu
 replace hx9:=hx9.put hB 2 rfl (by first | decide | simp) _ _ hu
 replace hx14:=hx14.put hB 2 rfl (by first | decide | simp) _ _ hu
 replace hx16a:=hx16a.put hB 2 rfl (by first | decide | simp) _ _ hu
 replace hx16b:=hx16b.put hB 2 rfl (by first | decide | simp) _ _ hu
 clear hB hG hu
 obtain ⟨hB,hG⟩:=hBG
 refine rt Tryz.results28 ?_
 exact ⟨x16,rfl,⟨hx16a,hx16b⟩,hG⟩
theorem A6i (x1 y1 x2 y2 : Ax) (a b : Rat) (w : World) (h1 : Rn w x1 a.num.natAbs) (h2 : Rn w y1 a.den) (h3 : Rn w x2 b.num.natAbs) (h4 : Rn w y2 b.den) (h : qs a + qs b + 1 ≤ BIG) : Calls Tryz.prog 107 #[rqV x1 y1 a,rqV x2 y2 b] w (Ret (H6 (G9 a b)) w):=by
 have z1:=F0 a
 have z2:=F8 a
 have z3:=F0 b
 have z4:=F8 b
 have z5:=A2E a.num b.den
 have z5':=A2E b.num a.den
 have z6:=N4 a.den b.den
 have z7:=B3q (H7 a.num (sgn false b.den)) (H7 b.num (sgn false a.den))
 have hBl:=I1
 have he:=B4S a b
 have hd0 : a.den * b.den ≠ 0:=Nat.ne_of_gt (Nat.mul_pos a.den_pos b.den_pos)
 have hm1:=fun W e1 e2=>A2F x1 y2 a.num b.den W e1 e2 (by omega) (by omega)
 have hm2:=fun W e1 e2=>A2F x2 y1 b.num a.den W e1 e2 (by omega) (by omega)
 generalize H7 a.num (sgn false b.den) = n1 at *
 generalize H7 b.num (sgn false a.den) = n2 at *
 go_enter Tryz.func107,Tryz.ntmps107
 refine en3 ?_
 intro u hG b4 b3 b2 hB hF
 replace h1:=h1.grow hG
 replace h2:=h2.grow hG
 replace h3:=h3.grow hG
 replace h4:=h4.grow hG
 refine wp_seq (rdC A8 [] [(0,0),(0,1),(0,2),(0,5),(0,6),(0,7),(0,11),(0,12),(0,13),(0,14),(1,3),(1,4),(1,8),(1,9),(1,10),(1,15),(1,16),(1,17)] hB hG fun K L hN hL=>?_)
 refine gs ?_
 refine gmw (C:=fun v=>A1b _ _ _ _) ?_
 refine grd (J5 n1) (fun (x9 : Ax)=>?_) (C:=by (rintro v ⟨hgu,hB,hG,-⟩;exact hm1 _ (h1.grow hgu) (h4.grow hgu)))
 refine gmd (C:=by (rintro v ⟨⟨hgu,hB,hG,-⟩,hx9⟩;have hx9 : Rn v x9 _:=hx9;exact A1b _ _ _ _)) ?_
 refine grd (J5 n2) (fun (x14 : Ax)=>?_) (C:=by (rintro v ⟨⟨hgu,hB,hG,-⟩,hx9⟩;have hx9 : Rn v x9 _:=hx9;exact hm2 _ (h3.grow hgu) (h2.grow hgu)))
 refine grd (J5 (S9 n1 n2)) (fun (x15 : Ax)=>?_) (C:=by (rintro v ⟨⟨⟨hgu,hB,hG,-⟩,hx9⟩,hx14⟩;have hx9 : Rn v x9 _:=hx9;have hx14 : Rn v x14 _:=hx14;exact A6T x9 x14 n1 n2 _ hx9 hx14 (by omega) (by omega)))
 refine grd (J4 (a.den * b.den)) (fun (x20 : Ax)=>?_) (C:=by (rintro v ⟨⟨⟨⟨hgu,hB,hG,-⟩,hx9⟩,hx14⟩,hx15⟩;have hx9 : Rn v x9 _:=hx9;have hx14 : Rn v x14 _:=hx14;have hx15 : Rn v x15 _:=hx15;exact A45 y1 y2 a.den b.den _ (h2.grow hgu) (h4.grow hgu) (by omega) (by omega)))
 refine gmd (C:=by (rintro v ⟨⟨⟨⟨⟨hgu,hB,hG,-⟩,hx9⟩,hx14⟩,hx15⟩,hx20⟩;have hx9 : Rn v x9 _:=hx9;have hx14 : Rn v x14 _:=hx14;have hx15 : Rn v x15 _:=hx15;have hx20 : Rn v x20 _:=hx20;exact U9 x20 _ (a.den * b.den) _)) ?_
 refine grd (H6 (G9 a b)) (fun (x22 : Ax × Ax)=>?_) (C:=by (rintro v ⟨⟨⟨⟨⟨hgu,hB,hG,-⟩,hx9⟩,hx14⟩,hx15⟩,hx20⟩;have hx9 : Rn v x9 _:=hx9;have hx14 : Rn v x14 _:=hx14;have hx15 : Rn v x15 _:=hx15;have hx20 : Rn v x20 _:=hx20;exact A5e x15 x20 (S9 n1 n2) (a.den * b.den) _ _ hx15 hx20 hd0 (by omega) (by omega) he))
 refine geC hL ?_
 clear hB hG hL L
 rintro u ⟨⟨⟨⟨⟨⟨hgu,hB,hG,-⟩,hx9⟩,hx14⟩,hx15⟩,hx20⟩,hx22⟩
 replace h1:=h1.grow hgu
 replace h2:=h2.grow hgu
 replace h3:=h3.grow hgu
 replace h4:=h4.grow hgu
 replace hx9 : Rn u x9 _:=hx9
 replace hx14 : Rn u x14 _:=hx14
 replace hx15 : Rn u x15 _:=hx15
 replace hx20 : Rn u x20 _:=hx20
 obtain ⟨hx22a,hx22b⟩ : Rn u x22.1 _ ∧ Rn u x22.2 _:=hx22
 clear hgu
 refine gtT ?_
 clear hN K
 refine sv hB hF hG 2 0 [_,_,_] ?_
 intro u hu hBG
 replace h1:=h1.put hB 2 rfl (by first | decide | simp) _ _ hu
 replace h2:=h2.put hB 2 rfl (by first | decide | simp) _ _ hu
 replace h3:=h3.put hB 2 rfl (by first | decide | simp) _ _ hu
 replace h4:=h4.put hB 2 rfl (by first | decide | simp) _ _ hu
 replace hx9:=hx9.put hB 2 rfl (by first | decide | simp) _ _ hu
 replace hx14:=hx14.put hB 2 rfl (by first | decide | simp) _ _ hu
 replace hx15:=hx15.put hB 2 rfl (by first | decide | simp) _ _ hu
 replace hx20:=hx20.put hB 2 rfl (by first | decide | simp) _ _ hu
 replace hx22a:=hx22a.put hB 2 rfl (by first | decide | simp) _ _ hu
 replace hx22b:=hx22b.put hB 2 rfl (by first | decide | simp) _ _ hu
 clear hB hG hu
 obtain ⟨hB,hG⟩:=hBG
 refine rt Tryz.results107 ?_
 exact ⟨x22,rfl,⟨hx22a,hx22b⟩,hG⟩
theorem B38 {d : Nat} {z : Int} (h : d ≠ 0) (hz : z ≠ 0) : H7 (sgn false d) z ≠ 0:=by unfold H7;rw [A0H];exact Int.mul_ne_zero (by omega) hz
theorem A8P (d : Nat) (z : Int) : bl (H7 (sgn false d) z).natAbs ≤ bl d + bl z.natAbs:=by have := A4W (sgn false d) z;rw [O2] at this;exact this
theorem A82 {q : Rat} (h : q ≠ 0) : q.num ≠ 0:=fun e=>h (Rat.num_eq_zero.1 e)
theorem B1R (x1 y1 x2 y2 : Ax) (a b : Rat) (w : World) (h1 : Rn w x1 a.num.natAbs) (h2 : Rn w y1 a.den) (h3 : Rn w x2 b.num.natAbs) (h4 : Rn w y2 b.den) (h : qs a + qs b ≤ BIG) (h0 : b ≠ 0) : Calls Tryz.prog 108 #[rqV x1 y1 a,rqV x2 y2 b] w (Ret (H6 (I0 a b)) w):=by
 have z1:=F0 a
 have z2:=F8 a
 have z3:=F0 b
 have z4:=F8 b
 have z5:=A2E a.num b.den
 have z6:=A8P a.den b.num
 have hBl:=I1
 have he:=A9Z a b
 have hd0:=B38 (z:=b.num) a.den_nz (A82 h0)
 have hm1:=fun W e1 e2=>A2F x1 y2 a.num b.den W e1 e2 (by omega) (by omega)
 have hm2:=fun W e1 e2=>B4O y1 x2 a.den b.num W e1 e2 (by omega) (by omega)
 generalize H7 a.num (sgn false b.den) = n1 at *
 generalize H7 (sgn false a.den) b.num = n2 at *
 have hmk:=fun x y W e1 e2=>A5I x y n1 n2 W e1 e2 hd0 (by omega) (by omega)
 rw [he] at hmk
 go_enter Tryz.func108,Tryz.ntmps108
 refine en3 ?_
 intro u hG b4 b3 b2 hB hF
 replace h1:=h1.grow hG
 replace h2:=h2.grow hG
 replace h3:=h3.grow hG
 replace h4:=h4.grow hG
 refine wp_seq (rdC A8 [] [(0,0),(0,1),(0,2),(0,5),(0,7),(0,8),(1,3),(1,4),(1,6),(1,9),(1,10)] hB hG fun K L hN hL=>?_)
 refine gs ?_
 refine gmw (C:=fun v=>A1b _ _ _ _) ?_
 refine grd (J5 n1) (fun (x9 : Ax)=>?_) (C:=by (rintro v ⟨hgu,hB,hG,-⟩;exact hm1 _ (h1.grow hgu) (h4.grow hgu)))
 refine gmd (C:=by (rintro v ⟨⟨hgu,hB,hG,-⟩,hx9⟩;have hx9 : Rn v x9 _:=hx9;exact A1b _ _ _ _)) ?_
 refine grd (J5 n2) (fun (x14 : Ax)=>?_) (C:=by (rintro v ⟨⟨hgu,hB,hG,-⟩,hx9⟩;have hx9 : Rn v x9 _:=hx9;exact hm2 _ (h2.grow hgu) (h3.grow hgu)))
 refine grd (H6 (I0 a b)) (fun (x15 : Ax × Ax)=>?_) (C:=by (rintro v ⟨⟨⟨hgu,hB,hG,-⟩,hx9⟩,hx14⟩;have hx9 : Rn v x9 _:=hx9;have hx14 : Rn v x14 _:=hx14;exact hmk x9 x14 _ hx9 hx14))
 refine geC hL ?_
 clear hB hG hL L
 rintro u ⟨⟨⟨⟨hgu,hB,hG,-⟩,hx9⟩,hx14⟩,hx15⟩
 replace h1:=h1.grow hgu
 replace h2:=h2.grow hgu
 replace h3:=h3.grow hgu
 replace h4:=h4.grow hgu
 replace hx9 : Rn u x9 _:=hx9
 replace hx14 : Rn u x14 _:=hx14
 obtain ⟨hx15a,hx15b⟩ : Rn u x15.1 _ ∧ Rn u x15.2 _:=hx15
 clear hgu
 refine gtT ?_
 clear hN K
 refine sv hB hF hG 2 0 [_,_,_] ?_
 intro u hu hBG
 replace h1:=h1.put hB 2 rfl (by first | decide | simp) _ _ hu
 replace h2:=h2.put hB 2 rfl (by first | decide | simp) _ _ hu
 replace h3:=h3.put hB 2 rfl (by first | decide | simp) _ _ hu
 replace h4:=h4.put hB 2 rfl (by first | decide | simp) _ _ hu
 replace hx9:=hx9.put hB 2 rfl (by first | decide | simp) _ _ hu
 replace hx14:=hx14.put hB 2 rfl (by first | decide | simp) _ _ hu
 replace hx15a:=hx15a.put hB 2 rfl (by first | decide | simp) _ _ hu
 replace hx15b:=hx15b.put hB 2 rfl (by first | decide | simp) _ _ hu
 clear hB hG hu
 obtain ⟨hB,hG⟩:=hBG
 refine rt Tryz.results108 ?_
 exact ⟨x15,rfl,⟨hx15a,hx15b⟩,hG⟩
theorem B2C (a b : Rat) : N0 (H7 a.num (sgn false b.den)) (H7 b.num (sgn false a.den)) = G6 a b:=(A2Q a b).symm
theorem A42 (x1 y1 x2 y2 : Ax) (a b : Rat) (w : World) (h1 : Rn w x1 a.num.natAbs) (h2 : Rn w y1 a.den) (h3 : Rn w x2 b.num.natAbs) (h4 : Rn w y2 b.den) (h : qs a + qs b ≤ BIG) : Calls Tryz.prog 103 #[rqV x1 y1 a,rqV x2 y2 b] w fun e w'=>e = .returned (.int .i64 (G6 a b)) ∧ A4 w w':=by
 have z1:=F0 a
 have z2:=F8 a
 have z3:=F0 b
 have z4:=F8 b
 have z5:=A2E a.num b.den
 have z5':=A2E b.num a.den
 have hBl:=I1
 have he:=B2C a b
 have hm1:=fun W e1 e2=>A2F x1 y2 a.num b.den W e1 e2 (by omega) (by omega)
 have hm2:=fun W e1 e2=>A2F x2 y1 b.num a.den W e1 e2 (by omega) (by omega)
 generalize H7 a.num (sgn false b.den) = n1 at *
 generalize H7 b.num (sgn false a.den) = n2 at *
 go_enter Tryz.func103,Tryz.ntmps103
 refine en2 ?_
 intro u hG b3 b2 hB hF
 replace h1:=h1.grow hG
 replace h2:=h2.grow hG
 replace h3:=h3.grow hG
 replace h4:=h4.grow hG
 refine wp_seq (rdC A8 [] [(0,0),(0,1),(0,2),(0,5),(0,6),(0,7),(1,3),(1,4),(1,8),(1,9),(1,10)] hB hG fun K L hN hL=>?_)
 refine gs ?_
 refine gmw (C:=fun v=>A1b _ _ _ _) ?_
 refine grd (J5 n1) (fun (x9 : Ax)=>?_) (C:=by (rintro v ⟨hgu,hB,hG,-⟩;exact hm1 _ (h1.grow hgu) (h4.grow hgu)))
 refine gmd (C:=by (rintro v ⟨⟨hgu,hB,hG,-⟩,hx9⟩;have hx9 : Rn v x9 _:=hx9;exact A1b _ _ _ _)) ?_
 refine grd (J5 n2) (fun (x14 : Ax)=>?_) (C:=by (rintro v ⟨⟨hgu,hB,hG,-⟩,hx9⟩;have hx9 : Rn v x9 _:=hx9;exact hm2 _ (h3.grow hgu) (h2.grow hgu)))
 refine gmd (C:=by (rintro v ⟨⟨⟨hgu,hB,hG,-⟩,hx9⟩,hx14⟩;have hx9 : Rn v x9 _:=hx9;have hx14 : Rn v x14 _:=hx14;exact B0x x9 x14 n1 n2 _ hx9 hx14 (by omega) (by omega))) ?_
 refine geC hL ?_
 clear hB hG hL L
 rintro u ⟨⟨⟨hgu,hB,hG,-⟩,hx9⟩,hx14⟩
 replace h1:=h1.grow hgu
 replace h2:=h2.grow hgu
 replace h3:=h3.grow hgu
 replace h4:=h4.grow hgu
 replace hx9 : Rn u x9 _:=hx9
 replace hx14 : Rn u x14 _:=hx14
 clear hgu
 refine gtT ?_
 clear hN K
 refine rt Tryz.results103 ?_
 exact ⟨by first | rfl | exact J9 he,hG⟩
theorem A34 (x y : Ax) (q : Rat) (w : World) : Calls Tryz.prog 20 #[rqV x y q] w fun e w'=>e = .returned (.int .i64 q.num.sign) ∧ A4 w w':=by
 go_enter Tryz.func20,Tryz.ntmps20
 refine en1 ?_
 intro u hG b1 hB hF
 refine wp_seq (rsE A8 [0,0,1,0] hB hG fun L hL=>?_)
 refine gs ?_
 refine gmw (C:=fun v=>A5w x q.num _) ?_
 refine gs ?_
 refine geT hL ?_
 clear hB hG hL L
 rintro u ⟨-,hB,hG,-⟩
 refine rt Tryz.results20 ?_
 exact ⟨rfl,hG⟩
theorem B3e (x y : Ax) (q : Rat) (w : World) : Calls Tryz.prog 75 #[rqV x y q] w fun e w'=>e = .returned (rqV x y (R5 q)) ∧ A4 w w':=by
 go_enter Tryz.func75,Tryz.ntmps75
 refine en2 ?_
 intro u hG b2 b1 hB hF
 refine wp_seq (rdC A8 [] [(0,0),(0,1),(0,3),(0,4),(1,2),(0,5)] hB hG fun K L hN hL=>?_)
 refine gs ?_
 refine gmw (C:=fun v=>A8L _ _ _) ?_
 refine gs ?_
 refine geC hL ?_
 clear hB hG hL L
 rintro u ⟨-,hB,hG,-⟩
 refine gtT ?_
 clear hN K
 refine st hB hF hG 1 0 [_,_,_] ?_
 clear hB hG
 intro u hB hG
 refine rt Tryz.results75 ?_
 exact ⟨A3o (q:=R5 q) (Rat.neg_num q) (Rat.neg_den q),hG⟩
theorem B4l (x y : Ax) (q : Rat) (w : World) : Calls Tryz.prog 26 #[rqV x y q] w fun e w'=>e = .returned (rqV x y (A03 q)) ∧ A4 w w':=by
 go_enter Tryz.func26,Tryz.ntmps26
 refine en2 ?_
 intro u hG b2 b1 hB hF
 refine wp_seq (rdC A8 [] [(0,0),(0,1),(0,2),(0,4),(0,5),(1,3),(0,6)] hB hG fun K L hN hL=>?_)
 refine gs ?_
 refine gmw (C:=fun v=>U9 x _ q.num.natAbs _) ?_
 refine gs ?_
 refine geC hL ?_
 clear hB hG hL L
 rintro u ⟨-,hB,hG,-⟩
 refine gtT ?_
 clear hN K
 refine st hB hF hG 1 0 [_,_,_] ?_
 clear hB hG
 intro u hB hG
 refine rt Tryz.results26 ?_
 exact ⟨A3o (q:=A03 q) (A5k q) (A5n q),hG⟩
theorem B10 {u : World} {x : Ax} {q : Rat} (h : Rn u x q.num.natAbs) : Rn u x (R5 q).num.natAbs:=by unfold R5;rw [Rat.neg_num,Int.natAbs_neg];exact h
theorem B0W {u : World} {x : Ax} {q : Rat} (h : Rn u x q.den) : Rn u x (R5 q).den:=by unfold R5;rw [Rat.neg_den];exact h
theorem A3y (x1 y1 x2 y2 : Ax) (a b : Rat) (w : World) (h1 : Rn w x1 a.num.natAbs) (h2 : Rn w y1 a.den) (h3 : Rn w x2 b.num.natAbs) (h4 : Rn w y2 b.den) (h : qs a + qs b + 1 ≤ BIG) : Calls Tryz.prog 104 #[rqV x1 y1 a,rqV x2 y2 b] w (Ret (H6 (C4 a b)) w):=by
 have z : qs a + qs (R5 b) + 1 ≤ BIG:=by rw [A6n];exact h
 have h3':=B10 h3
 have h4':=B0W h4
 have had:=fun W e1 e2 e3 e4=>A6i x1 y1 x2 y2 a (R5 b) W e1 e2 e3 e4 z
 rw [A67] at had
 clear h3 h4
 go_enter Tryz.func104,Tryz.ntmps104
 refine en3 ?_
 intro u hG b4 b3 b2 hB hF
 replace h1:=h1.grow hG
 replace h2:=h2.grow hG
 replace h3':=h3'.grow hG
 replace h4':=h4'.grow hG
 refine wp_seq (rdC A8 [] [(0,0),(0,1),(1,2),(1,3)] hB hG fun K L hN hL=>?_)
 refine gs ?_
 refine gmw (C:=fun v=>B3e _ _ _ _) ?_
 refine grd (H6 (C4 a b)) (fun (x8 : Ax × Ax)=>?_) (C:=by (rintro v ⟨hgu,hB,hG,-⟩;exact had _ (h1.grow hgu) (h2.grow hgu) (h3'.grow hgu) (h4'.grow hgu)))
 refine geC hL ?_
 clear hB hG hL L
 rintro u ⟨⟨hgu,hB,hG,-⟩,hx8⟩
 replace h1:=h1.grow hgu
 replace h2:=h2.grow hgu
 replace h3':=h3'.grow hgu
 replace h4':=h4'.grow hgu
 obtain ⟨hx8a,hx8b⟩ : Rn u x8.1 _ ∧ Rn u x8.2 _:=hx8
 clear hgu
 refine gtT ?_
 clear hN K
 refine sv hB hF hG 2 0 [_,_,_] ?_
 intro u hu hBG
 replace h1:=h1.put hB 2 rfl (by first | decide | simp) _ _ hu
 replace h2:=h2.put hB 2 rfl (by first | decide | simp) _ _ hu
 replace h3':=h3'.put hB 2 rfl (by first | decide | simp) _ _ hu
 replace h4':=h4'.put hB 2 rfl (by first | decide | simp) _ _ hu
 replace hx8a:=hx8a.put hB 2 rfl (by first | decide | simp) _ _ hu
 replace hx8b:=hx8b.put hB 2 rfl (by first | decide | simp) _ _ hu
 clear hB hG hu
 obtain ⟨hB,hG⟩:=hBG
 refine rt Tryz.results104 ?_
 exact ⟨x8,rfl,⟨hx8a,hx8b⟩,hG⟩
end Go.Proofs.YtgpglgbcobeogaaGreatDoor
