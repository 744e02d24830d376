/- Contracts and laws. -/
import Derived.Test.YtjmopgepnndckaaGreatDoorW28
set_option linter.unusedSimpArgs false
set_option linter.unusedVariables false
set_option maxHeartbeats 1000000
set_option maxRecDepth 100000
namespace Go.Proofs.YtjmopgepnndckaaGreatDoor
open Go.RowKit
abbrev Az:=Ax × Ax
def Rz (u : World) (p : Az) (q : Rat) : Prop:=Rn u p.1 q.num.natAbs ∧ Rn u p.2 q.den
theorem Rz.grow {u u' : World} {p : Az} {q : Rat} (h : Rz u p q) (hg : A3 u u') : Rz u' p q:=⟨h.1.grow hg,h.2.grow hg⟩
theorem B1S {w u : World} {p : Az} {q r : Rat} (e : q = r) (h1 : Rn u p.1 q.num.natAbs) (h2 : Rn u p.2 q.den) (hG : A3 w u) : Ret (G5 r) w (.returned (rqV p.1 p.2 q)) u:=by subst e;exact ⟨p,rfl,⟨h1,h2⟩,hG⟩
theorem A8f (x y : Ax) (n : Int) (d : Nat) (q : Rat) (w : World) (hx : Rn w x n.natAbs) (hy : Rn w y d) (h0 : d ≠ 0) (hn : bl n.natAbs ≤ BIG) (hd : bl d ≤ BIG) (he : E7 n (sgn false d) = q) : Calls Tryz.prog 114 #[riV x n,riV y (sgn false d)] w (Ret (G5 q) w):=by
 rw [← he]
 exact A6A x y n (sgn false d) w hx (by rw [P4];exact hy) (by rw [A1T];omega) hn (by rw [P4];exact hd)
theorem A27 (x y : Ax) (a : Int) (d : Nat) (w : World) (hx : Rn w x a.natAbs) (hy : Rn w y d) (ha : bl a.natAbs ≤ 1099511627776) (hb : bl d ≤ 1099511627776) : Calls Tryz.prog 103 #[riV x a,riV y (sgn false d)] w (Ret (J6 (J4 a (sgn false d))) w) :=
 A5h x y a (sgn false d) w hx (by rw [P4];exact hy) ha (by rw [P4];exact hb)
theorem A1d (q : Rat) : Rat.divInt q.num (q.den : Int) = q:=by rw [Rat.divInt_ofNat];exact Rat.mkRat_self q
theorem A7d (q : Rat) : ((q.den : Nat) : Int) ≠ 0:=by have := q.den_nz;omega
theorem B3P (a b : Rat) : E7 (Q0 (J4 a.num (sgn false b.den)) (J4 b.num (sgn false a.den))) (sgn false (a.den * b.den)) = I5 a b:=by
 unfold E7 Q0 J4 I5
 rw [A1T,A1T,A1T,Int.natCast_mul,← Rat.divInt_add_divInt _ _ (A7d a) (A7d b),A1d,A1d]
theorem B3B (a b : Rat) : E7 (J4 a.num b.num) (sgn false (a.den * b.den)) = F4 a b:=by
 unfold E7 J4 F4
 rw [A1T,Int.natCast_mul,← Rat.divInt_mul_divInt,A1d,A1d]
theorem A29 (a : Int) (d : Nat) : bl (J4 a (sgn false d)).natAbs ≤ bl a.natAbs + bl d:=by have := A6y a (sgn false d);rw [P4] at this;exact this
theorem A9f (x1 y1 x2 y2 : Ax) (a b : Rat) (w : World) (h1 : Rn w x1 a.num.natAbs) (h2 : Rn w y1 a.den) (h3 : Rn w x2 b.num.natAbs) (h4 : Rn w y2 b.den) (h : qs a + qs b ≤ BIG) : Calls Tryz.prog 140 #[rqV x1 y1 a,rqV x2 y2 b] w (Ret (G5 (F4 a b)) w):=by
 have z1:=F1 a
 have z2:=F0 a
 have z3:=F1 b
 have z4:=F0 b
 have z5:=A6y a.num b.num
 have z6:=M0 a.den b.den
 have hBl:=J8
 have he:=B3B a b
 have hd0 : a.den * b.den ≠ 0:=Nat.ne_of_gt (Nat.mul_pos a.den_pos b.den_pos)
 go_enter Tryz.func140,Tryz.ntmps140
 refine en3 ?_
 intro u hG b4 b3 b2 hB hF
 replace h1:=h1.grow hG
 replace h2:=h2.grow hG
 replace h3:=h3.grow hG
 replace h4:=h4.grow hG
 refine wp_seq (rdC A5 [] [(0,0),(0,1),(0,2),(0,3),(0,5),(0,6),(0,7),(0,8),(1,4),(1,9),(1,10),(1,11)] hB hG fun K L hN hL=>?_)
 refine gs ?_
 refine grd (J6 (J4 a.num b.num)) (fun (x9 : Ax)=>?_) (C:=by (rintro v ⟨hgu,hB,hG,-⟩;exact A5h x1 x2 a.num b.num _ (h1.grow hgu) (h3.grow hgu) (by omega) (by omega)))
 refine grd (I2 (a.den * b.den)) (fun (x14 : Ax)=>?_) (C:=by (rintro v ⟨⟨hgu,hB,hG,-⟩,hx9⟩;have hx9 : Rn v x9 _:=hx9;exact A4i y1 y2 a.den b.den _ (h2.grow hgu) (h4.grow hgu) (by omega) (by omega)))
 refine gmd (C:=by (rintro v ⟨⟨⟨hgu,hB,hG,-⟩,hx9⟩,hx14⟩;have hx9 : Rn v x9 _:=hx9;have hx14 : Rn v x14 _:=hx14;exact S7 x14 _ (a.den * b.den) _)) ?_
 refine grd (G5 (F4 a b)) (fun (x16 : Ax × Ax)=>?_) (C:=by (rintro v ⟨⟨⟨hgu,hB,hG,-⟩,hx9⟩,hx14⟩;have hx9 : Rn v x9 _:=hx9;have hx14 : Rn v x14 _:=hx14;exact A8f x9 x14 (J4 a.num b.num) (a.den * b.den) _ _ hx9 hx14 hd0 (by omega) (by omega) he))
 refine geC hL ?_
 clear hB hG hL L
 rintro u ⟨⟨⟨⟨hgu,hB,hG,-⟩,hx9⟩,hx14⟩,hx16⟩
 replace h1:=h1.grow hgu
 replace h2:=h2.grow hgu
 replace h3:=h3.grow hgu
 replace h4:=h4.grow hgu
 replace hx9 : Rn u x9 _:=hx9
 replace hx14 : Rn u x14 _:=hx14
 obtain ⟨hx16a,hx16b⟩ : Rn u x16.1 _ ∧ Rn u x16.2 _:=hx16
 clear hgu
 refine gtT ?_
 clear hN K
 refine sv hB hF hG 2 0 [_,_,_] ?_
 intro u hu hBG
 replace h1:=h1.put hB 2 rfl (by first | decide | simp) _ _ hu
 replace h2:=h2.put hB 2 rfl (by first | decide | simp) _ _ hu
 replace h3:=h3.put hB 2 rfl (by first | decide | simp) _ _ hu
 replace h4:=h4.put hB 2 rfl (by first | decide | simp) _ _ hu
 replace hx9:=hx9.put hB 2 rfl (by first | decide | simp) _ _ hu
 replace hx14:=hx14.put hB 2 rfl (by first | decide | simp) _ _ hu
 replace hx16a:=hx16a.put hB 2 rfl (by first | decide | simp) _ _ hu
 replace hx16b:=hx16b.put hB 2 rfl (by first | decide | simp) _ _ hu
 clear hB hG hu
 obtain ⟨hB,hG⟩:=hBG
 refine rt Tryz.results140 ?_
 exact ⟨x16,rfl,⟨hx16a,hx16b⟩,hG⟩
theorem A8s (x1 y1 x2 y2 : Ax) (a b : Rat) (w : World) (h1 : Rn w x1 a.num.natAbs) (h2 : Rn w y1 a.den) (h3 : Rn w x2 b.num.natAbs) (h4 : Rn w y2 b.den) (h : qs a + qs b + 1 ≤ BIG) : Calls Tryz.prog 139 #[rqV x1 y1 a,rqV x2 y2 b] w (Ret (G5 (I5 a b)) w):=by
 have z1:=F1 a
 have z2:=F0 a
 have z3:=F1 b
 have z4:=F0 b
 have z5:=A29 a.num b.den
 have z5':=A29 b.num a.den
 have z6:=M0 a.den b.den
 have z7:=B30 (J4 a.num (sgn false b.den)) (J4 b.num (sgn false a.den))
 have hBl:=J8
 have he:=B3P a b
 have hd0 : a.den * b.den ≠ 0:=Nat.ne_of_gt (Nat.mul_pos a.den_pos b.den_pos)
 have hm1:=fun W e1 e2=>A27 x1 y2 a.num b.den W e1 e2 (by omega) (by omega)
 have hm2:=fun W e1 e2=>A27 x2 y1 b.num a.den W e1 e2 (by omega) (by omega)
 generalize J4 a.num (sgn false b.den) = n1 at *
 generalize J4 b.num (sgn false a.den) = n2 at *
 go_enter Tryz.func139,Tryz.ntmps139
 refine en3 ?_
 intro u hG b4 b3 b2 hB hF
 replace h1:=h1.grow hG
 replace h2:=h2.grow hG
 replace h3:=h3.grow hG
 replace h4:=h4.grow hG
 refine wp_seq (rdC A5 [] [(0,0),(0,1),(0,2),(0,5),(0,6),(0,7),(0,11),(0,12),(0,13),(0,14),(1,3),(1,4),(1,8),(1,9),(1,10),(1,15),(1,16),(1,17)] hB hG fun K L hN hL=>?_)
 refine gs ?_
 refine gmw (C:=fun v=>A3c _ _ _ _) ?_
 refine grd (J6 n1) (fun (x9 : Ax)=>?_) (C:=by (rintro v ⟨hgu,hB,hG,-⟩;exact hm1 _ (h1.grow hgu) (h4.grow hgu)))
 refine gmd (C:=by (rintro v ⟨⟨hgu,hB,hG,-⟩,hx9⟩;have hx9 : Rn v x9 _:=hx9;exact A3c _ _ _ _)) ?_
 refine grd (J6 n2) (fun (x14 : Ax)=>?_) (C:=by (rintro v ⟨⟨hgu,hB,hG,-⟩,hx9⟩;have hx9 : Rn v x9 _:=hx9;exact hm2 _ (h3.grow hgu) (h2.grow hgu)))
 refine grd (J6 (Q0 n1 n2)) (fun (x15 : Ax)=>?_) (C:=by (rintro v ⟨⟨⟨hgu,hB,hG,-⟩,hx9⟩,hx14⟩;have hx9 : Rn v x9 _:=hx9;have hx14 : Rn v x14 _:=hx14;exact A7C x9 x14 n1 n2 _ hx9 hx14 (by omega) (by omega)))
 refine grd (I2 (a.den * b.den)) (fun (x20 : Ax)=>?_) (C:=by (rintro v ⟨⟨⟨⟨hgu,hB,hG,-⟩,hx9⟩,hx14⟩,hx15⟩;have hx9 : Rn v x9 _:=hx9;have hx14 : Rn v x14 _:=hx14;have hx15 : Rn v x15 _:=hx15;exact A4i y1 y2 a.den b.den _ (h2.grow hgu) (h4.grow hgu) (by omega) (by omega)))
 refine gmd (C:=by (rintro v ⟨⟨⟨⟨⟨hgu,hB,hG,-⟩,hx9⟩,hx14⟩,hx15⟩,hx20⟩;have hx9 : Rn v x9 _:=hx9;have hx14 : Rn v x14 _:=hx14;have hx15 : Rn v x15 _:=hx15;have hx20 : Rn v x20 _:=hx20;exact S7 x20 _ (a.den * b.den) _)) ?_
 refine grd (G5 (I5 a b)) (fun (x22 : Ax × Ax)=>?_) (C:=by (rintro v ⟨⟨⟨⟨⟨hgu,hB,hG,-⟩,hx9⟩,hx14⟩,hx15⟩,hx20⟩;have hx9 : Rn v x9 _:=hx9;have hx14 : Rn v x14 _:=hx14;have hx15 : Rn v x15 _:=hx15;have hx20 : Rn v x20 _:=hx20;exact A8f x15 x20 (Q0 n1 n2) (a.den * b.den) _ _ hx15 hx20 hd0 (by omega) (by omega) he))
 refine geC hL ?_
 clear hB hG hL L
 rintro u ⟨⟨⟨⟨⟨⟨hgu,hB,hG,-⟩,hx9⟩,hx14⟩,hx15⟩,hx20⟩,hx22⟩
 replace h1:=h1.grow hgu
 replace h2:=h2.grow hgu
 replace h3:=h3.grow hgu
 replace h4:=h4.grow hgu
 replace hx9 : Rn u x9 _:=hx9
 replace hx14 : Rn u x14 _:=hx14
 replace hx15 : Rn u x15 _:=hx15
 replace hx20 : Rn u x20 _:=hx20
 obtain ⟨hx22a,hx22b⟩ : Rn u x22.1 _ ∧ Rn u x22.2 _:=hx22
 clear hgu
 refine gtT ?_
 clear hN K
 refine sv hB hF hG 2 0 [_,_,_] ?_
 intro u hu hBG
 replace h1:=h1.put hB 2 rfl (by first | decide | simp) _ _ hu
 replace h2:=h2.put hB 2 rfl (by first | decide | simp) _ _ hu
 replace h3:=h3.put hB 2 rfl (by first | decide | simp) _ _ hu
 replace h4:=h4.put hB 2 rfl (by first | decide | simp) _ _ hu
 replace hx9:=hx9.put hB 2 rfl (by first | decide | simp) _ _ hu
 replace hx14:=hx14.put hB 2 rfl (by first | decide | simp) _ _ hu
 replace hx15:=hx15.put hB 2 rfl (by first | decide | simp) _ _ hu
 replace hx20:=hx20.put hB 2 rfl (by first | decide | simp) _ _ hu
 replace hx22a:=hx22a.put hB 2 rfl (by first | decide | simp) _ _ hu
 replace hx22b:=hx22b.put hB 2 rfl (by first | decide | simp) _ _ hu
 clear hB hG hu
 obtain ⟨hB,hG⟩:=hBG
 refine rt Tryz.results139 ?_
 exact ⟨x22,rfl,⟨hx22a,hx22b⟩,hG⟩
theorem B2I (a b : Rat) : K8 (J4 a.num (sgn false b.den)) (J4 b.num (sgn false a.den)) = E5 a b:=(A2H a b).symm
theorem A2S (x1 y1 x2 y2 : Ax) (a b : Rat) (w : World) (h1 : Rn w x1 a.num.natAbs) (h2 : Rn w y1 a.den) (h3 : Rn w x2 b.num.natAbs) (h4 : Rn w y2 b.den) (h : qs a + qs b ≤ BIG) : Calls Tryz.prog 63 #[rqV x1 y1 a,rqV x2 y2 b] w fun e w'=>e = .returned (.int .i64 (E5 a b)) ∧ A3 w w':=by
 have z1:=F1 a
 have z2:=F0 a
 have z3:=F1 b
 have z4:=F0 b
 have z5:=A29 a.num b.den
 have z5':=A29 b.num a.den
 have hBl:=J8
 have he:=B2I a b
 have hm1:=fun W e1 e2=>A27 x1 y2 a.num b.den W e1 e2 (by omega) (by omega)
 have hm2:=fun W e1 e2=>A27 x2 y1 b.num a.den W e1 e2 (by omega) (by omega)
 generalize J4 a.num (sgn false b.den) = n1 at *
 generalize J4 b.num (sgn false a.den) = n2 at *
 go_enter Tryz.func63,Tryz.ntmps63
 refine en2 ?_
 intro u hG b3 b2 hB hF
 replace h1:=h1.grow hG
 replace h2:=h2.grow hG
 replace h3:=h3.grow hG
 replace h4:=h4.grow hG
 refine wp_seq (rdC A5 [] [(0,0),(0,1),(0,2),(0,5),(0,6),(0,7),(1,3),(1,4),(1,8),(1,9),(1,10)] hB hG fun K L hN hL=>?_)
 refine gs ?_
 refine gmw (C:=fun v=>A3c _ _ _ _) ?_
 refine grd (J6 n1) (fun (x9 : Ax)=>?_) (C:=by (rintro v ⟨hgu,hB,hG,-⟩;exact hm1 _ (h1.grow hgu) (h4.grow hgu)))
 refine gmd (C:=by (rintro v ⟨⟨hgu,hB,hG,-⟩,hx9⟩;have hx9 : Rn v x9 _:=hx9;exact A3c _ _ _ _)) ?_
 refine grd (J6 n2) (fun (x14 : Ax)=>?_) (C:=by (rintro v ⟨⟨hgu,hB,hG,-⟩,hx9⟩;have hx9 : Rn v x9 _:=hx9;exact hm2 _ (h3.grow hgu) (h2.grow hgu)))
 refine gmd (C:=by (rintro v ⟨⟨⟨hgu,hB,hG,-⟩,hx9⟩,hx14⟩;have hx9 : Rn v x9 _:=hx9;have hx14 : Rn v x14 _:=hx14;exact B5E x9 x14 n1 n2 _ hx9 hx14 (by omega) (by omega))) ?_
 refine geC hL ?_
 clear hB hG hL L
 rintro u ⟨⟨⟨hgu,hB,hG,-⟩,hx9⟩,hx14⟩
 replace h1:=h1.grow hgu
 replace h2:=h2.grow hgu
 replace h3:=h3.grow hgu
 replace h4:=h4.grow hgu
 replace hx9 : Rn u x9 _:=hx9
 replace hx14 : Rn u x14 _:=hx14
 clear hgu
 refine gtT ?_
 clear hN K
 refine rt Tryz.results63 ?_
 exact ⟨by first | rfl | exact I7 he,hG⟩
theorem B4y (x y : Ax) (q : Rat) (w : World) : Calls Tryz.prog 42 #[rqV x y q] w fun e w'=>e = .returned (.int .i64 q.num.sign) ∧ A3 w w':=by
 go_enter Tryz.func42,Tryz.ntmps42
 refine en1 ?_
 intro u hG b1 hB hF
 refine wp_seq (rsE A5 [0,0,1,0] hB hG fun L hL=>?_)
 refine gs ?_
 refine gmw (C:=fun v=>A79 x q.num _) ?_
 refine gs ?_
 refine geT hL ?_
 clear hB hG hL L
 rintro u ⟨-,hB,hG,-⟩
 refine rt Tryz.results42 ?_
 exact ⟨rfl,hG⟩
theorem A9x (x y : Ax) (q : Rat) (w : World) : Calls Tryz.prog 165 #[rqV x y q] w fun e w'=>e = .returned (rqV x y (S9 q)) ∧ A3 w w':=by
 go_enter Tryz.func165,Tryz.ntmps165
 refine en2 ?_
 intro u hG b2 b1 hB hF
 refine wp_seq (rdC A5 [] [(0,0),(0,1),(0,3),(0,4),(1,2),(0,5)] hB hG fun K L hN hL=>?_)
 refine gs ?_
 refine gmw (C:=fun v=>A8C _ _ _) ?_
 refine gs ?_
 refine geC hL ?_
 clear hB hG hL L
 rintro u ⟨-,hB,hG,-⟩
 refine gtT ?_
 clear hN K
 refine st hB hF hG 1 0 [_,_,_] ?_
 clear hB hG
 intro u hB hG
 refine rt Tryz.results165 ?_
 exact ⟨A4y (q:=S9 q) (Rat.neg_num q) (Rat.neg_den q),hG⟩
theorem B0M {u : World} {x : Ax} {q : Rat} (h : Rn u x q.num.natAbs) : Rn u x (S9 q).num.natAbs:=by unfold S9;rw [Rat.neg_num,Int.natAbs_neg];exact h
theorem B36 {u : World} {x : Ax} {q : Rat} (h : Rn u x q.den) : Rn u x (S9 q).den:=by unfold S9;rw [Rat.neg_den];exact h
theorem A9L (x1 y1 x2 y2 : Ax) (a b : Rat) (w : World) (h1 : Rn w x1 a.num.natAbs) (h2 : Rn w y1 a.den) (h3 : Rn w x2 b.num.natAbs) (h4 : Rn w y2 b.den) (h : qs a + qs b + 1 ≤ BIG) : Calls Tryz.prog 138 #[rqV x1 y1 a,rqV x2 y2 b] w (Ret (G5 (G4 a b)) w):=by
 have z : qs a + qs (S9 b) + 1 ≤ BIG:=by rw [A7y];exact h
 have h3':=B0M h3
 have h4':=B36 h4
 have had:=fun W e1 e2 e3 e4=>A8s x1 y1 x2 y2 a (S9 b) W e1 e2 e3 e4 z
 rw [A6D] at had
 clear h3 h4
 go_enter Tryz.func138,Tryz.ntmps138
 refine en3 ?_
 intro u hG b4 b3 b2 hB hF
 replace h1:=h1.grow hG
 replace h2:=h2.grow hG
 replace h3':=h3'.grow hG
 replace h4':=h4'.grow hG
 refine wp_seq (rdC A5 [] [(0,0),(0,1),(1,2),(1,3)] hB hG fun K L hN hL=>?_)
 refine gs ?_
 refine gmw (C:=fun v=>A9x _ _ _ _) ?_
 refine grd (G5 (G4 a b)) (fun (x8 : Ax × Ax)=>?_) (C:=by (rintro v ⟨hgu,hB,hG,-⟩;exact had _ (h1.grow hgu) (h2.grow hgu) (h3'.grow hgu) (h4'.grow hgu)))
 refine geC hL ?_
 clear hB hG hL L
 rintro u ⟨⟨hgu,hB,hG,-⟩,hx8⟩
 replace h1:=h1.grow hgu
 replace h2:=h2.grow hgu
 replace h3':=h3'.grow hgu
 replace h4':=h4'.grow hgu
 obtain ⟨hx8a,hx8b⟩ : Rn u x8.1 _ ∧ Rn u x8.2 _:=hx8
 clear hgu
 refine gtT ?_
 clear hN K
 refine sv hB hF hG 2 0 [_,_,_] ?_
 intro u hu hBG
 replace h1:=h1.put hB 2 rfl (by first | decide | simp) _ _ hu
 replace h2:=h2.put hB 2 rfl (by first | decide | simp) _ _ hu
 replace h3':=h3'.put hB 2 rfl (by first | decide | simp) _ _ hu
 replace h4':=h4'.put hB 2 rfl (by first | decide | simp) _ _ hu
 replace hx8a:=hx8a.put hB 2 rfl (by first | decide | simp) _ _ hu
 replace hx8b:=hx8b.put hB 2 rfl (by first | decide | simp) _ _ hu
 clear hB hG hu
 obtain ⟨hB,hG⟩:=hBG
 refine rt Tryz.results138 ?_
 exact ⟨x8,rfl,⟨hx8a,hx8b⟩,hG⟩
theorem B42 (a k : Nat) : dg (A6 W32 a) (k / 4) / 2 ^ (8 * (k % 4)) % 256 = dg (byt a) k:=by
 unfold byt
 rw [A1c B8,A1c (by omega)]
 have e1 : (256 : Nat) ^ k = W32 ^ (k / 4) * 2 ^ (8 * (k % 4)):=by
  rw [show W32 = 2 ^ 32 from rfl,show (256 : Nat) = 2 ^ 8 from rfl,← Nat.pow_mul,← Nat.pow_mul,← Nat.pow_add]
  congr 1
  omega
 rw [e1,← Nat.div_div_eq_div_mul]
 generalize a / W32 ^ (k / 4) = x
 have hr : k % 4 < 4:=Nat.mod_lt _ (by omega)
 generalize k % 4 = r at hr
 have e2 : W32 = 2 ^ (8 * r) * (256 * 2 ^ (24 - 8 * r)):=by
  rw [show W32 = 2 ^ 32 from rfl,show (256 : Nat) = 2 ^ 8 from rfl,← Nat.pow_add,← Nat.pow_add]
  congr 1
  omega
 rw [e2,Nat.mod_mul_right_div_self,Nat.mod_mul_right_mod]
theorem B5s (x : Ax) (a : Nat) (w : World) (hx : Rn w x a) (ha : bl a ≤ LIM) : Calls Tryz.prog 121 #[nvV x a] w fun e w'=>∃ b : Nat,e = .returned (.slice (some ⟨b,0,none⟩) (byt a).length (byt a).length) ∧ By w' (some ⟨b,0,none⟩) (byt a).reverse ∧ A3 w w':=by
 unfold LIM at ha
 obtain ⟨A,c⟩:=x
 obtain ⟨n,hn⟩ : ∃ n,n = (byt a).length:=⟨_,rfl⟩
 obtain ⟨m,hm⟩ : ∃ m,m = ln a:=⟨_,rfl⟩
 have hnb : n = (bl a + 7) / 8:=by rw [hn,A01]
 have hmk:=A5N n (by omega) (n : Int) rfl
 have hbits:=fun W (hg : A3 w W)=>A8w (A,c) a W (hx.grow hg) (by omega)
 show Calls Tryz.prog 121 #[.slice A (ln a) c] w _
 change ∀ W,A3 w W → Calls Tryz.prog 157 #[.slice A (ln a) c] W _ at hbits
 rw [← hm] at hbits
 rw [← hm,← hn]
 have Hx:=Lib.hid hx.1
 obtain ⟨B,hB⟩ : ∃ B,B = bl a:=⟨_,rfl⟩
 rw [← hB] at hbits hnb ha
 have hb1 : IntKind.i64.wrap ((B : Int) + 7) = (B : Int) + 7:=IntWalk.i64_in _ (by omega)
 have hdv : ((B : Int) + 7).tdiv 8 = (n : Int):=by rw [Int.tdiv_eq_ediv_of_nonneg (by omega)];omega
 have hdv2 : ((B : Int) + 7) / 8 = (n : Int):=by omega
 have hnB : n ≤ 137438953471:=by omega
 have fnw : IntKind.i64.wrap (n : Int) = (n : Int):=IntWalk.i64_in _ (by omega)
 have Hbits:=Lib.hid hbits
 have Hn:=Lib.hid hn
 have Hm:=Lib.hid hm
 have Hnb:=Lib.hid (hnb.trans (by rw [hB]))
 clear hbits hn hm hx ha hB hnb
 go_enter Tryz.func121,Tryz.ntmps121
 refine en0 ?_
 intro u hG hB hF
 refine wp_seq (rsE A5 [0,1,0,0,0] hB hG fun L hL=>?_)
 refine gs ?_
 refine gmd (C:=fun v ⟨hgu,hB,hG,_⟩=>Hbits.out _ hG) ?_
 refine gs ?_
 refine geT hL ?_
 clear hB hG hL L
 rintro u ⟨-,hB,hG,-⟩
 refine r0T ?_
 have hbo:=Blk.new u 5 (H8 (List.replicate n 0))
 have hF3:=Fr.new (tk:=[]) hF hB hG (Nat.le_refl u.heap.size) (by simp)
 have hB3:=Bx.cons hbo (hB.grow (A3.alloc u (.cells (H8 (List.replicate n 0)) 5)))
 have hG3:=hG.trans (A3.alloc u (.cells (H8 (List.replicate n 0)) 5))
 simp only [List.cons_append,List.nil_append,List.map_cons,List.map_nil] at hF3
 clear hB hF hG hbo
 generalize World.alloc u _ = v at  hB3 hG3 ⊢
 generalize u.heap.size = b11 at hB3 hF3 ⊢
 have hB:=hB3
 have hF:=hF3
 have hG:=hG3
 clear hB3 hF3 hG3
 obtain ⟨u,rfl⟩ : ∃ x,x = v:=⟨_,rfl⟩
 refine wp_seq ?_
 refine r0T ?_
 refine wp_block ?_
 go_loopw [5] (fun s0 wr=>∃ (k : Nat) (zs : List Nat),k ≤ n ∧ s0 = .int .i64 k ∧ (zs = J9 (byt a) k) ∧ Bx wr [(b11,5,H8 zs)] ∧ A3 w wr) (fun s0 _=>n - (intOf s0).toNat)
 case atStart=>exact ⟨0,List.replicate n 0,Nat.zero_le _,rfl,by unfold J9;rw [← Hn.out];simp,hB,hG⟩
 case round =>
  clear hB hG
  obtain ⟨k,zs,hk,rfl,hrel0,hB,hG⟩:=hrel
  obtain ⟨u,rfl⟩ : ∃ x,x = wr:=⟨_,rfl⟩
  have H0:=Lib.hid hrel0
  clear hrel0
  rcases Nat.lt_or_ge k n with hlt0 | hge0
  ·have hdec : decide ((k : Int) < (n : Int)) = true:=by simp;omega
   have hkl : k < (byt a).length:=by rw [← Hn.out];exact hlt0
   have hwk : k / 4 < (A6 W32 a).length:=by
    refine A3h B8 ?_
    have h1 : k < (bl a + 7) / 8:=by rw [← Hnb.out];exact hlt0
    rw [show W32 = 2 ^ 32 from rfl,← Nat.pow_mul]
    exact X7.1 (by omega)
   obtain ⟨ba,oa,hAe,-⟩:=Hx.out.cell hwk
   have hcl : ∀ W,A3 w W → W.cell? ⟨ba,oa + k / 4,none⟩ = some (.int .u32 (dg (A6 W32 a) (k / 4) : Nat)):=fun W hg=>by
    obtain ⟨b',o',e,hc⟩:=(Hx.out.grow hg).cell hwk
    rw [hAe] at e
    cases e
    exact hc
   have hby:=B42 a k
   have hbl:=B4 (by omega) (A0x a) k
   have hst:=A38 (byt a) hkl
   have hxl:=dgl a (k / 4)
   have hwm : k / 4 < m:=by rw [Hm.out];exact hwk
   have hzl : zs.length = n:=by rw [H0.out,A3s _ (by omega),← Hn.out]
   rw [← Hn.out,← H0.out] at hst
   obtain ⟨q,hq⟩ : ∃ q,q = k / 4:=⟨_,rfl⟩
   obtain ⟨r,hr⟩ : ∃ r,r = k % 4:=⟨_,rfl⟩
   have hr8 : r < 4:=by omega
   rw [← hq] at hwm hxl hby
   rw [← hr] at hby
   simp only [← hq] at hcl
   obtain ⟨X,hX⟩ : ∃ x,x = dg (A6 W32 a) q:=⟨_,rfl⟩
   obtain ⟨y,hy⟩ : ∃ y,y = dg (byt a) k:=⟨_,rfl⟩
   rw [← hX] at hby hxl
   simp only [← hX] at hcl
   rw [← hy] at hby hbl hst
   obtain ⟨t,ht⟩ : ∃ t,t = n - 1 - k:=⟨_,rfl⟩
   rw [← ht] at hst
   have f1 : (n : Int) - 1 - (k : Int) = (t : Int):=by omega
   have f1' : (n : Int) - 1 = (t : Int) + (k : Int):=by omega
   have f1w : IntKind.i64.wrap ((t : Int) + (k : Int)) = (t : Int) + (k : Int):=IntWalk.i64_in _ (by omega)
   have htn : t < n:=by omega
   have q1 : (k : Int).tdiv 4 = (q : Int):=by rw [Int.tdiv_eq_ediv_of_nonneg (by omega)];omega
   have q2 : (k : Int).tmod 4 = (r : Int):=by rw [Int.tmod_eq_emod_of_nonneg (by omega)];omega
   have q3 : (k : Int) / 4 = (q : Int):=by omega
   have q4 : (k : Int) % 4 = (r : Int):=by omega
   have q5 : IntKind.i64.wrap (8 * (r : Int)) = 8 * (r : Int):=IntWalk.i64_in _ (by omega)
   have q6 : IntKind.u64.wrap (8 * (r : Int)) = 8 * (r : Int):=u64_wrap_id (x:=8 * (r : Int)) (by omega) (by omega)
   have q7 : (8 * (r : Int)).toNat = 8 * r:=by omega
   have q8 : min (8 * r) 32 = 8 * r:=by omega
   obtain ⟨s,hs⟩ : ∃ s,s = X / 2 ^ (8 * r):=⟨_,rfl⟩
   rw [← hs] at hby
   have q9 : (X : Int) / 2 ^ (8 * r) = (s : Int):=by rw [hs];simp
   have q10 : IntKind.u8.wrap (s : Int) = (y : Int):=by rw [← hby];simp [IntKind.wrap,IntKind.signed,IntKind.bits]
   have q11 : (s : Int) % 256 = (y : Int):=by omega
   have g1 : ∃ old,(H8 zs)[t]? = some old:=by rw [A3G,List.getElem?_eq_getElem (by omega)];exact ⟨_,rfl⟩
   obtain ⟨old,g1⟩:=g1
   have G2:=Lib.hid (A5G zs t y)
   have Hcl:=Lib.hid hcl
   have Hst:=Lib.hid hst
   subst hAe
   clear hcl hst hby hq hr hX hy hs ht hkl hwk hzl
   refine wp_seq ?_
   refine r0T ?_
   refine wp_cond_true (rfl) ?_
   refine wp_skip ?_
   refine A4 ?_
   refine wp_seq ?_
   refine wp_block ?_
   have hcb:=Hcl.out u hG
   refine r0E ?_
   generalize hu0 : World.setCell u _ _ = u0
   have hBG:=hB.over hF hG 0 rfl t [_] hu0
   clear hB hG
   simp only [List.modify_succ_cons,List.modify_zero_cons,F3,G2.out] at hBG
   obtain ⟨hB,hG⟩:=hBG
   clear hu0
   obtain ⟨u,rfl⟩ : ∃ x,x = u0:=⟨_,rfl⟩
   refine D4 ?_
   refine A4 ?_
   refine r0E ?_
   refine A4 ?_
   go_roundw
   case rel=>exact ⟨k + 1,zs.set t y,by omega,by go_num,Hst.out,hB,hG⟩
   case measure=>simp [intOf];try omega
  ·obtain rfl : n = k:=by omega
   have hdec : decide ((n : Int) < (n : Int)) = false:=by simp
   skip
   refine wp_seq ?_
   refine r0T ?_
   refine wp_cond_false (rfl) ?_
   refine wp_exit ?_
   refine B1 ?_
   refine B1 ?_
   refine E3 ?_
   refine A4 ?_
   refine r0T ?_
   refine rt Tryz.results121 ?_
   exact ⟨b11,rfl,by have := By.of hB.head;rw [H0.out,Hn.out,A4n] at this;exact this,hG⟩
theorem A7z (x : Ax) (a : Nat) (w : World) (hx : Rn w x a) (ha : bl a ≤ LIM) : Calls Tryz.prog 80 #[nvV x a] w fun e w'=>e = .returned (A7 a) ∧ A3 w w':=by
 have hby:=fun W (hg : A3 w W)=>B5s x a W (hx.grow hg) ha
 have hfr : ∀ b W,By W (some ⟨b,0,none⟩) (byt a).reverse → Calls Tryz.prog 120 #[.slice (some ⟨b,0,none⟩) (byt a).length (byt a).length] W fun e w'=>e = .returned (A7 a) ∧ A3 W w':=fun b W h=>by
  have h1:=A5r (some ⟨b,0,none⟩) (byt a).reverse (byt a).length (fun y hy=>A0x a y (List.mem_reverse.1 hy)) (by rw [List.length_reverse,A01];unfold LIM at ha;omega) W h
  rw [List.length_reverse,List.reverse_reverse,show val 256 (byt a) = a from C3 (by omega) a] at h1
  exact h1
 obtain ⟨n,hn⟩ : ∃ n,n = (byt a).length:=⟨_,rfl⟩
 rw [← hn] at hby hfr
 have Hby:=Lib.hid hby
 have Hfr:=Lib.hid hfr
 clear hby hfr hn hx ha
 go_enter Tryz.func80,Tryz.ntmps80
 refine en1 ?_
 intro u hG b2 hB hF
 refine wp_seq (rsC A5 [0,1,1] hB hG fun K L hN hL=>?_)
 refine gs ?_
 refine gxd (X:=Nat) (fun b : Nat=>.slice (some ⟨b,0,none⟩) n n) (fun b W=>By W (some ⟨b,0,none⟩) (byt a).reverse) (fun b u u' hg h=>By.grow h hg) (fun x4=>?_) (C:=by (rintro v ⟨hgu,hB,hG,-⟩;exact Hby.out _ hG))
 refine gmd (C:=fun v ⟨⟨hgu,hB,hG,_⟩,hx4⟩=>Hfr.out x4 _ hx4) ?_
 refine geC hL ?_
 clear hB hG hL L
 rintro u ⟨⟨hgu,hB,hG,-⟩,hx4⟩
 clear hx4
 clear hgu
 refine gtT ?_
 clear hN K
 refine st hB hF hG 0 0 [_,_] ?_
 clear hB hG
 intro u hB hG
 refine rt Tryz.results80 ?_
 exact ⟨rfl,hG⟩
theorem B25 (x : Ax) (z : Int) (w : World) (hx : Rn w x z.natAbs) (ha : bl z.natAbs ≤ LIM) : Calls Tryz.prog 78 #[riV x z] w fun e w'=>e = .returned (C8 z) ∧ A3 w w':=by
 have ha' : bl z.natAbs ≤ 1099511627776:=by unfold LIM at ha;omega
 go_enter Tryz.func78,Tryz.ntmps78
 refine en2 ?_
 intro u hG b2 b1 hB hF
 replace hx:=hx.grow hG
 refine wp_seq (rdC A5 [] [(0,0),(0,1),(0,2),(0,3),(1,4),(1,5)] hB hG fun K L hN hL=>?_)
 refine gs ?_
 refine gmd (C:=fun v ⟨hgu,hB,hG,_⟩=>A7z x z.natAbs _ (hx.grow hgu) ha) ?_
 refine gmw (C:=fun v=>O2 _ _ (by assumption) _) ?_
 refine geC hL ?_
 clear hB hG hL L
 rintro u ⟨hgu,hB,hG,-⟩
 replace hx:=hx.grow hgu
 clear hgu
 refine gtT ?_
 clear hN K
 refine sv hB hF hG 1 0 [_,_,_] ?_
 intro u hu hBG
 replace hx:=hx.put hB 1 rfl (by first | decide | simp) _ _ hu
 clear hB hG hu
 obtain ⟨hB,hG⟩:=hBG
 refine rt Tryz.results78 ?_
 exact ⟨A0c (A0H z),hG⟩
theorem A6c (x y : Ax) (q : Rat) (w : World) (h1 : Rn w x q.num.natAbs) (h2 : Rn w y q.den) (ha : qs q ≤ BIG) (HT : Tab w) : Calls Tryz.prog 41 #[rqV x y q] w fun e w'=>e = .returned (qV q) ∧ A3 w w':=by
 have z1:=F1 q
 have z2:=F0 q
 have hBl : BIG ≤ LIM:=by unfold BIG LIM;omega
 have hBm:=J8
 have hmk:=fun W (hT : Tab W)=>A9z q.num (sgn false q.den) (by omega) (by rw [P4];omega) W hT
 have hq : E7 q.num (sgn false q.den) = q:=A1d q
 rw [hq] at hmk
 have z3 : bl q.den ≤ 1099511627776:=by omega
 go_enter Tryz.func41,Tryz.ntmps41
 refine en2 ?_
 intro u hG b2 b1 hB hF
 replace h1:=h1.grow hG
 replace h2:=h2.grow hG
 refine wp_seq (rdC A5 [10] [(0,0),(0,1),(0,3),(0,4),(1,2),(1,5),(1,6),(1,7),(0,8),(0,9),(0,10),(2,11)] hB hG fun K L hN hL=>?_)
 refine gs ?_
 refine gmd (C:=fun v ⟨hgu,hB,hG,_⟩=>B25 x q.num _ (h1.grow hgu) (by omega)) ?_
 refine gmd (C:=fun v ⟨hgu,hB,hG,_⟩=>A7z y q.den _ (h2.grow hgu) (by omega)) ?_
 refine gmw (C:=fun v=>O2 false q.den z3 _) ?_
 refine gmd (C:=fun v ⟨hgu,hB,hG,_⟩=>hmk _ (HT.grow hG)) ?_
 refine gs ?_
 refine gaa (Q8 _ _ _ _ _) fun b3 hb3 hn3=>?_
 replace hF:=hF.n1 [] hB hG hb3 hn3
 refine geC hL ?_
 clear hB hG hL L
 rintro u ⟨⟨hgu,hB,hG,-⟩,h3⟩
 replace hB:=hB.cons' h3
 clear h3
 replace h1:=h1.grow hgu
 replace h2:=h2.grow hgu
 clear hb3 hn3
 clear hgu
 refine gtT ?_
 clear hN K
 refine sv hB hF hG 0 0 [_,_,_,_,_] ?_
 intro u hu hBG
 replace h1:=h1.put hB 0 rfl (by first | decide | simp) _ _ hu
 replace h2:=h2.put hB 0 rfl (by first | decide | simp) _ _ hu
 clear hB hG hu
 obtain ⟨hB,hG⟩:=hBG
 refine r0T ?_
 refine sv hB hF hG 2 0 [_,_,_,_,_] ?_
 intro u hu hBG
 replace h1:=h1.put hB 2 rfl (by first | decide | simp) _ _ hu
 replace h2:=h2.put hB 2 rfl (by first | decide | simp) _ _ hu
 clear hB hG hu
 obtain ⟨hB,hG⟩:=hBG
 refine rt Tryz.results41 ?_
 exact ⟨rfl,hG⟩
end Go.Proofs.YtjmopgepnndckaaGreatDoor
