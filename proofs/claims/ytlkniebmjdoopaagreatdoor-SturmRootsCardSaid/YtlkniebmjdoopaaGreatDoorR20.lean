/- Contracts and laws. -/
import Derived.Test.YtlkniebmjdoopaaGreatDoorR19
set_option linter.unusedSimpArgs false
set_option linter.unusedVariables false
set_option maxHeartbeats 4000000
set_option maxRecDepth 100000
namespace Go.Proofs.YtlkniebmjdoopaaGreatDoor
open Go.RowKit
section
variable (a b : Rat) (w : World)
theorem A6F (HT : Tab w) (h : qs a + qs b + 1 ≤ BIG) (x y : Bool) (hx : ∀ W,Calls Tryz.prog 57 #[qV a] W fun e w'=>e = .returned (.bool x) ∧ A3 W w') (hy : ∀ W,Calls Tryz.prog 57 #[qV b] W fun e w'=>e = .returned (.bool y) ∧ A3 W w') (hxy : (x && y) = false) :
  Calls Tryz.prog 54 #[qV a,qV b] w fun e w'=>e = .returned (qV (I7 a b)) ∧ A3 w w':=by
 have hB40:=K8
 obtain ⟨g1,g0,d1,d2,t1,t2,m1,m2,u1,k1,k0⟩:=B4G a b h
 have d1':=N7 d1
 have d2':=N7 d2
 have g1':=N7 g1
 have He:=Lib.hid (And.intro (A7k a b) (B0n a b))
 obtain ⟨G,hG0⟩ : ∃ G,G = Nat.gcd a.den b.den:=⟨_,rfl⟩
 obtain ⟨U,hU0⟩ : ∃ U,U = T4 (ztm a.num (b.den / G)) (ztm b.num (a.den / G)):=⟨_,rfl⟩
 obtain ⟨H,hH0⟩ : ∃ H,H = Nat.gcd U.natAbs G:=⟨_,rfl⟩
 rw [← hG0] at g1 g0 t1 t2 m1 m2 u1 k1 k0 g1'
 rw [← hU0] at u1 k1 k0
 rw [← hH0] at k1 k0
 have hgc : ∀ W,Tab W → Calls Tryz.prog 59 #[D3 (sgn false a.den),D3 (sgn false b.den)] W fun e w'=>e = .returned (A7 G) ∧ A3 W w':=fun W ht=>hG0 ▸ B55 a.den b.den d1 d2 W ht
 have hgu : ∀ W,Tab W → Calls Tryz.prog 59 #[D3 U,D3 (sgn false G)] W fun e w'=>e = .returned (A7 H) ∧ A3 W w':=fun W ht=>hH0 ▸ A3I U G u1 g1 W ht
 have hau : ∀ W,Calls Tryz.prog 116 #[D3 (ztm a.num (b.den / G)),D3 (ztm b.num (a.den / G))] W fun e w'=>e = .returned (D3 U) ∧ A3 W w':=fun W=>hU0 ▸ A8t _ _ m1 m2 W
 have e1 : (I7 a b).num = ztd U H:=by
  have := He.out.1
  unfold X4 hOf X4 at this
  rw [← hG0] at this
  rw [hH0,hU0]
  exact this
 have e2 : (I7 a b).den = a.den / G * (b.den / H):=by
  have := He.out.2
  unfold hOf X4 at this
  rw [← hG0] at this
  rw [hH0,hU0]
  exact this
 have He2:=Lib.hid (And.intro e1 e2)
 have f1 : bl (a.den / G) ≤ 1099511627776:=Nat.le_trans (M5 _ _) d1'
 have f2 : bl (b.den / H) ≤ 1099511627776:=Nat.le_trans (M5 _ _) d2'
 have f3 : bl (a.den / G * (b.den / H)) ≤ 1099511627776:=by
  have s1:=M9 (a.den / G) (b.den / H)
  have s2:=M5 a.den G
  have s3:=M5 b.den H
  have s4:=F5 a
  have s5:=F5 b
  omega
 have Hx:=Lib.hid hx
 have Hy:=Lib.hid hy
 have Hgc:=Lib.hid hgc
 have Hgu:=Lib.hid hgu
 have Hau:=Lib.hid hau
 clear hx hy hgc hgu hau e1 e2 He hG0 hU0 hH0
 cases x <;> cases y <;> first | (exact absurd hxy (by decide)) | skip
 all_goals clear hxy
 all_goals
  go_enter Tryz.func54,Tryz.ntmps54
  refine en3 ?_
  intro u hG b4 b3 b2 hB hF
  refine wp_seq ?_
  refine wp_seq (rsE A5 [0,1,0,0,1,0] hB hG fun L hL=>?_)
  refine gs ?_
  refine gmw (C:=fun v=>Hx.out _) ?_
  refine gs ?_
  first | refine gmw (C:=fun v=>Hy.out _) ?_ | refine H6 ?_
  refine gs ?_
  refine geT hL ?_
  clear hB hG hL L
  rintro u ⟨-,hB,hG,-⟩
  refine wp_cond_false (rfl) ?_
  refine wp_skip ?_
  refine A4 ?_
  refine wp_seq (rdC A5 [] [(0,0),(0,3),(1,1),(1,2),(1,4),(1,5),(1,6),(2,7)] hB hG fun K L hN hL=>?_)
  refine gs ?_
  refine gmw (C:=fun v=>Q6 _ (by assumption) _) ?_
  refine gmw (C:=fun v=>O2 _ _ (by assumption) _) ?_
  refine gmw (C:=fun v=>Q6 _ (by assumption) _) ?_
  refine gmw (C:=fun v=>O2 _ _ (by assumption) _) ?_
  refine gmd (C:=fun v ⟨hgu,hB,hG,_⟩=>Hgc.out _ (HT.grow hG)) ?_
  refine gaa (K4 _ _ _ _ _) fun b5 hb5 hn5=>?_
  replace hF:=hF.n1 [] hB hG hb5 hn5
  refine geC hL ?_
  clear hB hG hL L
  rintro u ⟨⟨-,hB,hG,-⟩,h5⟩
  replace hB:=hB.cons' h5
  clear h5
  clear hb5 hn5
  refine gtT ?_
  clear hN K
  refine st hB hF hG 0 0 [_,_] ?_
  clear hB hG
  intro u hB hG
  refine wp_seq (rdC A5 [] [(0,0),(0,2),(0,4),(0,6),(1,1),(1,3),(1,5),(1,7),(2,8),(2,9)] hB hG fun K L hN hL=>?_)
  refine gs ?_
  refine gmw (C:=fun v=>Q6 _ (by assumption) _) ?_
  refine gmw (C:=fun v=>A1T a.den G d1 g1 g0 _) ?_
  refine gmw (C:=fun v=>Q6 _ (by assumption) _) ?_
  refine gmw (C:=fun v=>A1T b.den G d2 g1 g0 _) ?_
  refine gaa (K4 _ _ _ _ _) fun b6 hb6 hn6=>?_
  refine gaa (K4 _ _ _ _ _) fun b7 hb7 hn7=>?_
  replace hF:=hF.n1 [] hB hG hb6 hn6
  replace hF:=hF.n1 [b6] hB hG hb7 hn7
  refine geC hL ?_
  clear hB hG hL L
  rintro u ⟨⟨⟨-,hB,hG,-⟩,h6⟩,h7⟩
  replace hB:=hB.cons' h6
  replace hB:=hB.cons' h7
  clear h6 h7
  clear hb6 hn6 hb7 hn7
  have hD : b6 ≠ b7 ∧ b7 ≠ b6:=⟨hF.ne 1 0 rfl rfl (by decide),hF.ne 0 1 rfl rfl (by decide)⟩
  refine gtT ?_
  clear hN K
  clear hD
  refine st2 hB hF hG 1 0 [_,_] 0 0 [_,_] ?_
  clear hB hG
  intro u hB hG
  refine wp_seq (rdC A5 [] [(0,0),(0,1),(0,2),(0,4),(0,5),(0,6),(1,3),(1,7),(1,8),(2,9)] hB hG fun K L hN hL=>?_)
  refine gs ?_
  refine gmw (C:=fun v=>A1d _ _ (by assumption) _) ?_
  refine gmw (C:=fun v=>A1d _ _ (by assumption) _) ?_
  refine gmw (C:=fun v=>Hau.out _) ?_
  refine gaa (A5R _ _ _ _ _) fun b8 hb8 hn8=>?_
  replace hF:=hF.n1 [] hB hG hb8 hn8
  refine geC hL ?_
  clear hB hG hL L
  rintro u ⟨⟨-,hB,hG,-⟩,h8⟩
  replace hB:=hB.cons' h8
  clear h8
  clear hb8 hn8
  refine gtT ?_
  clear hN K
  refine st hB hF hG 0 0 [_,_,_] ?_
  clear hB hG
  intro u hB hG
  refine wp_seq (rdC A5 [] [(0,0),(0,1),(1,2),(1,3),(2,4)] hB hG fun K L hN hL=>?_)
  refine gs ?_
  refine gmw (C:=fun v=>O2 _ _ (by assumption) _) ?_
  refine gmd (C:=fun v ⟨hgu,hB,hG,_⟩=>Hgu.out _ (HT.grow hG)) ?_
  refine gaa (K4 _ _ _ _ _) fun b9 hb9 hn9=>?_
  replace hF:=hF.n1 [] hB hG hb9 hn9
  refine geC hL ?_
  clear hB hG hL L
  rintro u ⟨⟨-,hB,hG,-⟩,h9⟩
  replace hB:=hB.cons' h9
  clear h9
  clear hb9 hn9
  refine gtT ?_
  clear hN K
  refine st hB hF hG 0 0 [_,_] ?_
  clear hB hG
  intro u hB hG
  refine wp_seq (rdC A5 [] [(0,0),(0,1),(0,3),(0,4),(0,6),(1,2),(1,5),(1,7),(1,8),(1,9)] hB hG fun K L hN hL=>?_)
  refine gs ?_
  refine gmw (C:=fun v=>A4N U H u1 k1 k0 _) ?_
  refine gmw (C:=fun v=>Q6 _ (by assumption) _) ?_
  refine gmw (C:=fun v=>A1T b.den H d2 k1 k0 _) ?_
  refine gmw (C:=fun v=>A4t _ _ (by assumption) (by assumption) _) ?_
  refine gmw (C:=fun v=>A3f _ _ (by assumption) _) ?_
  refine geC hL ?_
  clear hB hG hL L
  rintro u ⟨-,hB,hG,-⟩
  refine gtT ?_
  clear hN K
  refine st hB hF hG 7 0 [_,_,_,_,_] ?_
  clear hB hG
  intro u hB hG
  refine rt Tryz.results54 ?_
  exact ⟨A0m He2.out.1 He2.out.2,hG⟩
theorem A31 (h : qs a + qs b + 1 ≤ BIG) (HT : Tab w) : Calls Tryz.prog 54 #[qV a,qV b] w fun e w'=>e = .returned (qV (I7 a b)) ∧ A3 w w':=by
 have hB40:=K8
 have h3 : bl a.den ≤ 1099511627776:=by have := F5 a;omega
 have h4 : bl b.den ≤ 1099511627776:=by have := F5 b;omega
 by_cases ha1 : a.den = 1
 ·by_cases hb1 : b.den = 1
  ·exact B6c a b w h ha1 hb1
  ·exact A6F a b w HT h true false (X0 a h3 ha1) (W6 b h4 hb1) rfl
 ·by_cases hb1 : b.den = 1
  ·exact A6F a b w HT h false true (W6 a h3 ha1) (X0 b h4 hb1) rfl
  ·exact A6F a b w HT h false false (W6 a h3 ha1) (W6 b h4 hb1) rfl
theorem B2L : qs (G7 a) = qs a:=A8x a
theorem B3T : I7 a (G7 b) = A3B a b:=(Rat.sub_eq_add_neg a b).symm
theorem B3R (h : qs a + qs b + 1 ≤ BIG) (HT : Tab w) : Calls Tryz.prog 97 #[qV a,qV b] w fun e w'=>e = .returned (qV (A3B a b)) ∧ A3 w w':=by
 have hB40:=K8
 have h2 : bl b.num.natAbs ≤ 1099511627776:=by have := F7 b;omega
 have h3 : qs a + qs (G7 b) + 1 ≤ BIG:=by rw [B2L];exact h
 go_enter Tryz.func97,Tryz.ntmps97
 refine en3 ?_
 intro u hG b4 b3 b2 hB hF
 refine wp_seq (rdC A5 [] [(0,0),(0,1),(1,2),(1,3)] hB hG fun K L hN hL=>?_)
 refine gs ?_
 refine gmw (C:=fun v=>A6n _ (by assumption) _) ?_
 refine gmd (C:=fun v ⟨hgu,hB,hG,_⟩=>A31 _ _ _ (by assumption) (HT.grow hG)) ?_
 refine geC hL ?_
 clear hB hG hL L
 rintro u ⟨-,hB,hG,-⟩
 refine gtT ?_
 clear hN K
 refine st hB hF hG 2 0 [_,_,_,_,_] ?_
 clear hB hG
 intro u hB hG
 refine rt Tryz.results97 ?_
 exact ⟨B5H (B3T a b),hG⟩
theorem B53 (h : qs a + qs b ≤ BIG) (ha1 : a.den = 1) (hb1 : b.den = 1) : Calls Tryz.prog 16 #[qV a,qV b] w fun e w'=>e = .returned (qV (E2 a b)) ∧ A3 w w':=by
 have hB40:=K8
 have h1 : bl a.num.natAbs + bl b.num.natAbs ≤ 1099511627776:=by have := F7 a;have := F7 b;omega
 have h3 : bl a.den ≤ 1099511627776:=by have := F5 a;omega
 have h4 : bl b.den ≤ 1099511627776:=by have := F5 b;omega
 have e : E2 a b = ((a.num * b.num : Int) : Rat):=by
  unfold E2
  rw [Rat.intCast_mul,← A4I a ha1,← A4I b hb1]
 have e1 : (E2 a b).num = N1 a.num b.num:=by rw [e,Rat.num_intCast];rfl
 have e2 : (E2 a b).den = 1:=by rw [e,Rat.den_intCast]
 have He:=Lib.hid (And.intro e1 e2)
 have Ha1:=Lib.hid ha1
 have Hb1:=Lib.hid hb1
 clear e e1 e2 ha1 hb1
 go_enter Tryz.func16,Tryz.ntmps16
 refine en3 ?_
 intro u hG b4 b3 b2 hB hF
 refine wp_seq ?_
 refine wp_seq (rsE A5 [0,1,0,0,1,0] hB hG fun L hL=>?_)
 refine gs ?_
 refine gmw (C:=fun v=>X0 a h3 Ha1.out _) ?_
 refine gs ?_
 first | refine gmw (C:=fun v=>X0 b h4 Hb1.out _) ?_ | refine H6 ?_
 refine gs ?_
 refine geT hL ?_
 clear hB hG hL L
 rintro u ⟨-,hB,hG,-⟩
 refine wp_cond_true (rfl) ?_
 refine wp_seq (rsC A5 [0,0,0,0,1,0] hB hG fun K L hN hL=>?_)
 refine gs ?_
 refine gmw (C:=fun v=>A6a _ _ (by assumption) _) ?_
 refine gs ?_
 refine geC hL ?_
 clear hB hG hL L
 rintro u ⟨-,hB,hG,-⟩
 refine gtT ?_
 clear hN K
 refine st hB hF hG 2 0 [_,_,_,_,_] ?_
 clear hB hG
 intro u hB hG
 refine rt Tryz.results16 ?_
 exact ⟨A0m He.out.1 He.out.2,hG⟩
theorem A4u (HT : Tab w) (h : qs a + qs b ≤ BIG) (x y : Bool) (hx : ∀ W,Calls Tryz.prog 57 #[qV a] W fun e w'=>e = .returned (.bool x) ∧ A3 W w') (hy : ∀ W,Calls Tryz.prog 57 #[qV b] W fun e w'=>e = .returned (.bool y) ∧ A3 W w') (hxy : (x && y) = false) :
  Calls Tryz.prog 16 #[qV a,qV b] w fun e w'=>e = .returned (qV (E2 a b)) ∧ A3 w w':=by
 have hB40:=K8
 have s1:=F7 a
 have s2:=F5 a
 have s3:=F7 b
 have s4:=F5 b
 have n1 : bl a.num.natAbs ≤ BIG:=by omega
 have n2 : bl b.num.natAbs ≤ BIG:=by omega
 have d1 : bl a.den ≤ BIG:=by omega
 have d2 : bl b.den ≤ BIG:=by omega
 have d1':=N7 d1
 have d2':=N7 d2
 have He:=Lib.hid (And.intro (B09 a b) (A9u a b))
 obtain ⟨G,hG0⟩ : ∃ G,G = Nat.gcd a.num.natAbs b.den:=⟨_,rfl⟩
 obtain ⟨H,hH0⟩ : ∃ H,H = Nat.gcd b.num.natAbs a.den:=⟨_,rfl⟩
 have g0 : G ≠ 0:=fun e=>b.den_nz (Nat.eq_zero_of_gcd_eq_zero_right (hG0 ▸ e))
 have k0 : H ≠ 0:=fun e=>a.den_nz (Nat.eq_zero_of_gcd_eq_zero_right (hH0 ▸ e))
 have g1 : bl G ≤ BIG:=by rw [hG0];exact Nat.le_trans (A3e _ _ b.den_nz) d2
 have k1 : bl H ≤ BIG:=by rw [hH0];exact Nat.le_trans (A3e _ _ a.den_nz) d1
 have hgc : ∀ W,Tab W → Calls Tryz.prog 59 #[D3 a.num,D3 (sgn false b.den)] W fun e w'=>e = .returned (A7 G) ∧ A3 W w':=fun W ht=>hG0 ▸ A3I a.num b.den n1 d2 W ht
 have hgu : ∀ W,Tab W → Calls Tryz.prog 59 #[D3 b.num,D3 (sgn false a.den)] W fun e w'=>e = .returned (A7 H) ∧ A3 W w':=fun W ht=>hH0 ▸ A3I b.num a.den n2 d1 W ht
 have e1 : (E2 a b).num = N1 (ztd a.num G) (ztd b.num H):=by rw [hG0,hH0];exact He.out.1
 have e2 : (E2 a b).den = a.den / H * (b.den / G):=by rw [hG0,hH0];exact He.out.2
 have He2:=Lib.hid (And.intro e1 e2)
 have f1 : bl (a.den / H) ≤ 1099511627776:=Nat.le_trans (M5 _ _) d1'
 have f2 : bl (b.den / G) ≤ 1099511627776:=Nat.le_trans (M5 _ _) d2'
 have f3 : bl (a.den / H * (b.den / G)) ≤ 1099511627776:=by
  have s1:=M9 (a.den / H) (b.den / G)
  have s2:=M5 a.den H
  have s3:=M5 b.den G
  omega
 have f4 : bl (ztd a.num G).natAbs + bl (ztd b.num H).natAbs ≤ 1099511627776:=by
  have s1:=N6 (A2d a.num G)
  have s2:=N6 (A2d b.num H)
  unfold ztd
  omega
 have Hx:=Lib.hid hx
 have Hy:=Lib.hid hy
 have Hgc:=Lib.hid hgc
 have Hgu:=Lib.hid hgu
 clear hx hy hgc hgu e1 e2 He hG0 hH0
 cases x <;> cases y <;> first | (exact absurd hxy (by decide)) | skip
 all_goals clear hxy
 all_goals
  go_enter Tryz.func16,Tryz.ntmps16
  refine en3 ?_
  intro u hG b4 b3 b2 hB hF
  refine wp_seq ?_
  refine wp_seq (rsE A5 [0,1,0,0,1,0] hB hG fun L hL=>?_)
  refine gs ?_
  refine gmw (C:=fun v=>Hx.out _) ?_
  refine gs ?_
  first | refine gmw (C:=fun v=>Hy.out _) ?_ | refine H6 ?_
  refine gs ?_
  refine geT hL ?_
  clear hB hG hL L
  rintro u ⟨-,hB,hG,-⟩
  refine wp_cond_false (rfl) ?_
  refine wp_skip ?_
  refine A4 ?_
  refine wp_seq (rdC A5 [] [(0,0),(0,1),(0,2),(1,3),(1,4),(1,5),(2,6)] hB hG fun K L hN hL=>?_)
  refine gs ?_
  refine gmw (C:=fun v=>Q6 _ (by assumption) _) ?_
  refine gmw (C:=fun v=>O2 _ _ (by assumption) _) ?_
  refine gmd (C:=fun v ⟨hgu,hB,hG,_⟩=>Hgc.out _ (HT.grow hG)) ?_
  refine gaa (K4 _ _ _ _ _) fun b5 hb5 hn5=>?_
  replace hF:=hF.n1 [] hB hG hb5 hn5
  refine geC hL ?_
  clear hB hG hL L
  rintro u ⟨⟨-,hB,hG,-⟩,h5⟩
  replace hB:=hB.cons' h5
  clear h5
  clear hb5 hn5
  refine gtT ?_
  clear hN K
  refine st hB hF hG 0 0 [_,_] ?_
  clear hB hG
  intro u hB hG
  refine wp_seq (rdC A5 [] [(0,0),(0,1),(0,2),(1,3),(1,4),(1,5),(2,6)] hB hG fun K L hN hL=>?_)
  refine gs ?_
  refine gmw (C:=fun v=>Q6 _ (by assumption) _) ?_
  refine gmw (C:=fun v=>O2 _ _ (by assumption) _) ?_
  refine gmd (C:=fun v ⟨hgu,hB,hG,_⟩=>Hgu.out _ (HT.grow hG)) ?_
  refine gaa (K4 _ _ _ _ _) fun b6 hb6 hn6=>?_
  replace hF:=hF.n1 [] hB hG hb6 hn6
  refine geC hL ?_
  clear hB hG hL L
  rintro u ⟨⟨-,hB,hG,-⟩,h6⟩
  replace hB:=hB.cons' h6
  clear h6
  clear hb6 hn6
  refine gtT ?_
  clear hN K
  refine st hB hF hG 0 0 [_,_] ?_
  clear hB hG
  intro u hB hG
  refine wp_seq (rdC A5 [] [(0,0),(0,1),(0,2),(0,4),(0,5),(0,6),(0,9),(0,11),(0,13),(0,15),(1,3),(1,7),(1,8),(1,10),(1,12),(1,14),(1,16),(1,17),(1,18)] hB hG fun K L hN hL=>?_)
  refine gs ?_
  refine gmw (C:=fun v=>A4N a.num G n1 g1 g0 _) ?_
  refine gmw (C:=fun v=>A4N b.num H n2 k1 k0 _) ?_
  refine gmw (C:=fun v=>A6a _ _ (by assumption) _) ?_
  refine gmw (C:=fun v=>Q6 _ (by assumption) _) ?_
  refine gmw (C:=fun v=>A1T a.den H d1 k1 k0 _) ?_
  refine gmw (C:=fun v=>Q6 _ (by assumption) _) ?_
  refine gmw (C:=fun v=>A1T b.den G d2 g1 g0 _) ?_
  refine gmw (C:=fun v=>A4t _ _ (by assumption) (by assumption) _) ?_
  refine gmw (C:=fun v=>A3f _ _ (by assumption) _) ?_
  refine geC hL ?_
  clear hB hG hL L
  rintro u ⟨-,hB,hG,-⟩
  refine gtT ?_
  clear hN K
  refine st hB hF hG 4 0 [_,_,_,_,_] ?_
  clear hB hG
  intro u hB hG
  refine rt Tryz.results16 ?_
  exact ⟨A0m He2.out.1 He2.out.2,hG⟩
theorem A2N (h : qs a + qs b ≤ BIG) (HT : Tab w) : Calls Tryz.prog 16 #[qV a,qV b] w fun e w'=>e = .returned (qV (E2 a b)) ∧ A3 w w':=by
 have hB40:=K8
 have h3 : bl a.den ≤ 1099511627776:=by have := F5 a;omega
 have h4 : bl b.den ≤ 1099511627776:=by have := F5 b;omega
 by_cases ha1 : a.den = 1
 ·by_cases hb1 : b.den = 1
  ·exact B53 a b w h ha1 hb1
  ·exact A4u a b w HT h true false (X0 a h3 ha1) (W6 b h4 hb1) rfl
 ·by_cases hb1 : b.den = 1
  ·exact A4u a b w HT h false true (W6 a h3 ha1) (X0 b h4 hb1) rfl
  ·exact A4u a b w HT h false false (W6 a h3 ha1) (W6 b h4 hb1) rfl
theorem B3g (h : b ≠ 0) : b⁻¹.num = sgn (D2 b.num) b.den:=by
 rw [Rat.num_inv]
 have h0 : b.num ≠ 0:=fun e=>h (Rat.num_eq_zero.1 e)
 unfold sgn D2
 by_cases hn : b.num < 0
 ·rw [if_pos (decide_eq_true hn),Int.sign_eq_neg_one_of_neg hn];omega
 ·rw [if_neg (by simpa using hn),Int.sign_eq_one_of_pos (by omega)];omega
theorem B1e (h : b ≠ 0) : b⁻¹.den = b.num.natAbs:=by
 rw [Rat.den_inv,if_neg (fun e=>h (Rat.num_eq_zero.1 e))]
def A4F (b : Rat) : Rat:=b⁻¹
theorem B7K (h : b ≠ 0) (hb : bl b.num.natAbs ≤ 1099511627776) : Calls Tryz.prog 62 #[D3 (sgn (decide (b.num < 0)) b.den),A7 b.num.natAbs] w fun e w'=>e = .returned (qV (A4F b)) ∧ A3 w w':=by
 have := A3f (sgn (D2 b.num) b.den) b.num.natAbs hb w
 rw [B0v (q:=b⁻¹) (B3g b h) (B1e b h)] at this
 exact this
theorem B3J (h : bl b.num.natAbs ≤ 1099511627776) (h0 : b = 0) : Calls Tryz.prog 51 #[qV a,qV b] w fun e w'=>e = .returned (.tuple #[qV (M0 a b),.bool (nzq b)]) ∧ A3 w w':=by
 have hs : (b.num.sign == 0) = true:=by rw [h0];rfl
 have h1 : M0 a b = 0:=by rw [h0];unfold M0;rw [Rat.div_def,Rat.inv_zero,Rat.mul_zero]
 have h2 : nzq b = false:=by rw [h0];rfl
 rw [h1,h2]
 have Hh:=Lib.hid h0
 clear h0 h1 h2
 go_enter Tryz.func51,Tryz.ntmps51
 refine en3 ?_
 intro u hG b4 b3 b2 hB hF
 refine wp_seq ?_
 refine wp_seq (rsE A5 [0,1,0] hB hG fun L hL=>?_)
 refine gs ?_
 refine gmw (C:=fun v=>T9 _ (by assumption) _) ?_
 refine gs ?_
 refine geT hL ?_
 clear hB hG hL L
 rintro u ⟨-,hB,hG,-⟩
 refine wp_cond_true (rfl) ?_
 refine r0T ?_
 refine st hB hF hG 2 0 [_,_,_,_,_] ?_
 clear hB hG
 intro u hB hG
 refine rt Tryz.results51 ?_
 exact ⟨rfl,hG⟩
theorem B4a (h : qs a + qs b ≤ BIG) (h0 : b ≠ 0) (HT : Tab w) : Calls Tryz.prog 51 #[qV a,qV b] w fun e w'=>e = .returned (.tuple #[qV (M0 a b),.bool (nzq b)]) ∧ A3 w w':=by
 have hB40:=K8
 have n2 : bl b.num.natAbs ≤ 1099511627776:=by have := F7 b;omega
 have d2 : bl b.den ≤ 1099511627776:=by have := F5 b;omega
 have hb0 : b.num ≠ 0:=fun e=>h0 (Rat.num_eq_zero.1 e)
 have hs : (b.num.sign == 0) = false:=by simpa using hb0
 have h2 : nzq b = true:=decide_eq_true h0
 have hi : qs a + qs (A4F b) ≤ BIG:=by unfold A4F;rw [B0E b h0];exact h
 have hd : E2 a (A4F b) = M0 a b:=(Rat.div_def a b).symm
 have Hd:=Lib.hid hd
 rw [h2]
 clear h2 hd
 go_enter Tryz.func51,Tryz.ntmps51
 refine en3 ?_
 intro u hG b4 b3 b2 hB hF
 refine wp_seq ?_
 refine wp_seq (rsE A5 [0,1,0] hB hG fun L hL=>?_)
 refine gs ?_
 refine gmw (C:=fun v=>T9 _ (by assumption) _) ?_
 refine gs ?_
 refine geT hL ?_
 clear hB hG hL L
 rintro u ⟨-,hB,hG,-⟩
 refine wp_cond_false (rfl) ?_
 refine wp_skip ?_
 refine A4 ?_
 refine wp_seq (rdC A5 [] [(0,0),(0,1),(0,4),(0,7),(0,8),(1,2),(0,3),(1,5),(1,6),(1,9),(1,10),(1,11)] hB hG fun K L hN hL=>?_)
 refine gs ?_
 refine gmw (C:=fun v=>T9 _ (by assumption) _) ?_
 refine gs ?_
 refine gmw (C:=fun v=>Q6 _ (by assumption) _) ?_
 refine gmw (C:=fun v=>O2 _ _ (by assumption) _) ?_
 refine gmw (C:=fun v=>A2I _ _) ?_
 refine gmw (C:=fun v=>B7K b _ h0 n2) ?_
 refine gmd (C:=fun v ⟨hgu,hB,hG,_⟩=>A2N _ _ _ (by assumption) (HT.grow hG)) ?_
 refine geC hL ?_
 clear hB hG hL L
 rintro u ⟨-,hB,hG,-⟩
 refine gtT ?_
 clear hN K
 refine st hB hF hG 2 0 [_,_,_,_,_] ?_
 clear hB hG
 intro u hB hG
 refine rt Tryz.results51 ?_
 exact ⟨A4L (Hd.out) rfl,hG⟩
theorem A2y (h : qs a + qs b ≤ BIG) (HT : Tab w) : Calls Tryz.prog 51 #[qV a,qV b] w fun e w'=>e = .returned (.tuple #[qV (M0 a b),.bool (nzq b)]) ∧ A3 w w':=by
 by_cases h0 : b = 0
 ·exact B3J a b w (by have := F7 b;have := K8;omega) h0
 ·exact B4a a b w h h0 HT
end
def W32 : Nat:=4294967296
theorem C3 : 2 ≤ W32:=by unfold W32;omega
theorem D4 : 0 < W32:=by unfold W32;omega
def ln (a : Nat) : Nat:=(A6 W32 a).length
theorem A5C : ln 0 = 0:=rfl
theorem A6i {a : Nat} : ln a = 0 ↔ a = 0:=by
 constructor
 ·intro h
  have h1:=C7 C3 a
  rw [List.eq_nil_of_length_eq_zero h] at h1
  exact h1.symm
 ·rintro rfl;rfl
theorem A05 {a : Nat} : 0 < ln a ↔ a ≠ 0:=by have := @A6i a;omega
def Lim (u : World) (A : Option Addr) (l : List Nat) : Prop :=
 l ≠ [] → ∃ b off cs fr,A = some ⟨b,off,none⟩ ∧ u.heap[b]? = some (.cells cs 176 fr) ∧ ∀ i x,l[i]? = some x → cs[off + i]? = some (.int .u32 (x : Nat))
theorem Lim.nil (u : World) (A : Option Addr) : Lim u A []:=fun h=>absurd rfl h
theorem Lim.grow {u u' : World} {A : Option Addr} {l : List Nat} (h : Lim u A l) (hg : A3 u u') : Lim u' A l:=fun hn=>by
 obtain ⟨b,off,cs,fr,e,hb,hc⟩:=h hn
 exact ⟨b,off,cs,fr,e,(hg.block b (R6 hb)).trans hb,hc⟩
theorem Lim.take {u : World} {A : Option Addr} {l : List Nat} (h : Lim u A l) (n : Nat) : Lim u A (l.take n):=fun hn=>by
 obtain ⟨b,off,cs,fr,e,hb,hc⟩:=h (fun h0=>hn (by rw [h0];simp))
 refine ⟨b,off,cs,fr,e,hb,fun i x hi=>hc i x ?_⟩
 rw [List.getElem?_take] at hi
 split at hi
 ·exact hi
 ·cases hi
theorem Lim.cell {u : World} {A : Option Addr} {l : List Nat} (h : Lim u A l) {i : Nat} (hi : i < l.length) : ∃ b off,A = some ⟨b,off,none⟩ ∧ u.cell? ⟨b,off + i,none⟩ = some (.int .u32 (dg l i : Nat)):=by
 obtain ⟨b,off,cs,fr,e,hb,hc⟩:=h (fun h0=>by rw [h0] at hi;cases hi)
 refine ⟨b,off,e,?_⟩
 rw [D1 hi,← hc i _ (List.getElem?_eq_getElem hi)]
 exact cell_of_row u b (off + i) cs 176 fr hb
theorem Lim.put {u u' : World} {A : Option Addr} {l : List Nat} (h : Lim u A l) {bl : List (Nat × TypeId × Array Value)} (hB : Bx u bl) (k : Nat) {b : Nat} {t : TypeId} {cs : Array Value} (hk : bl[k]? = some (b,t,cs)) (ht : t ≠ 176) (i : Nat) (vs : List Value) (hu : F1 u b i vs = u') : Lim u' A l:=fun hn=>by
 obtain ⟨b',off,cs',fr,e,hb,hc⟩:=h hn
 refine ⟨b',off,cs',fr,e,?_,hc⟩
 have hbk : Blk u b t cs:=hB (b,t,cs) (List.mem_of_getElem? hk)
 have hne : b' ≠ b:=fun e=>by
  subst e
  have := hbk.symm.trans hb
  injection this with this
  injection this with _ h2 _
  exact ht h2
 clear hbk hB hk hc h
 subst hu
 induction vs generalizing u i with
 | nil=>exact hb
 | cons v vs ih=>exact ih _ ((Below.heap_setCell u ⟨b,i,none⟩ v b' hne).trans hb)
theorem A1Q (A : Option Addr) (l : List Nat) (c : Nat) (w : World) (h : Lim w A l) (hc : l.length ≤ c) (hm : c ≤ 9223372036854775807) :
  Calls Tryz.prog 142 #[.slice A l.length c] w fun e w'=>e = .returned (.slice A (C8 l).length c) ∧ A3 w w':=by
 have H:=Lib.hid h
 clear h
 obtain ⟨n,hn⟩ : ∃ n,n = l.length:=⟨_,rfl⟩
 rw [← hn]
 rw [← hn] at hc
 have Hn:=Lib.hid hn
 clear hn
 go_enter Tryz.func142,Tryz.ntmps142
 go_wp2
 go_loop [3] (fun s=>∃ k : Nat,k ≤ n ∧ s = .int .i64 k ∧ C8 (l.take k) = C8 l) (fun s=>(intOf s).toNat)
 case atStart=>exact ⟨n,Nat.le_refl _,rfl,by rw [List.take_of_length_le (by rw [Hn.out];exact Nat.le_refl _)]⟩
 case round =>
  obtain ⟨k,hk,rfl,ht⟩:=hrel
  have Ht:=Lib.hid ht
  clear ht
  rcases Nat.eq_zero_or_pos k with rfl | hpos
  ·go_wp2
   go_ret
   refine ⟨?_,A3.refl _⟩
   have : C8 l = []:=by rw [← Ht.out];rfl
   rw [this]
   rfl
  ·have hkl : k - 1 < l.length:=by rw [← Hn.out];omega
   obtain ⟨b,off,rfl,hcell⟩:=H.out.cell hkl
   have hsn : l.take k = l.take (k - 1) ++ [dg l (k - 1)]:=by
    have := List.take_succ_eq_append_getElem hkl
    rw [show k - 1 + 1 = k by omega] at this
    rw [D1 hkl]
    exact this
   have Hsn:=Lib.hid hsn
   clear hsn
   obtain ⟨x,hx⟩ : ∃ x,x = dg l (k - 1):=⟨_,rfl⟩
   rw [← hx] at hcell
   have Hx:=Lib.hid hx
   clear hx
   have hidx : (0 : Int) ≤ (k : Int) - 1:=by omega
   by_cases h0 : x = 0
   ·subst h0
    go_wp2
    go_round
    case rel=>exact ⟨k - 1,by omega,by go_num,by rw [← Ht.out,Hsn.out,← Hx.out,A66]⟩
    case measure=>simp [intOf];omega
   ·have hb : ((x : Int) == 0) = false:=by simpa using h0
    go_wp2
    go_ret
    refine ⟨?_,A3.refl _⟩
    have : C8 l = l.take k:=by rw [← Ht.out,Hsn.out,A6I _ (by rw [← Hx.out];exact h0)]
    rw [this,List.length_take,Nat.min_eq_left (by omega)]
    rfl
abbrev Ax:=Option Addr × Nat
def Rn (u : World) (x : Ax) (a : Nat) : Prop:=Lim u x.1 (A6 W32 a) ∧ ln a ≤ x.2 ∧ x.2 ≤ 9223372036854775807 ∧ ln a ≤ 1099511627776
theorem Rn.grow {u u' : World} {x : Ax} {a : Nat} (h : Rn u x a) (hg : A3 u u') : Rn u' x a:=⟨h.1.grow hg,h.2⟩
theorem Rn.put {u u' : World} {x : Ax} {a : Nat} (h : Rn u x a) {bl : List (Nat × TypeId × Array Value)} (hB : Bx u bl) (k : Nat) {b : Nat} {t : TypeId} {cs : Array Value} (hk : bl[k]? = some (b,t,cs)) (ht : t ≠ 176) (i : Nat) (vs : List Value) (hu : F1 u b i vs = u') : Rn u' x a:=⟨h.1.put hB k hk ht i vs hu,h.2⟩
abbrev nvV (x : Ax) (a : Nat) : Value:=.slice x.1 (ln a) x.2
abbrev riV (x : Ax) (z : Int) : Value:=.agg #[.bool (D2 z),.slice x.1 (ln z.natAbs) x.2]
abbrev rqV (x y : Ax) (q : Rat) : Value:=.agg #[.bool (D2 q.num),.slice x.1 (ln q.num.natAbs) x.2,.slice y.1 (ln q.den) y.2]
structure Rp where
 X : Type
 f : X → Value
 T : X → World → Prop
 mono : ∀ x w w',A3 w w' → T x w → T x w'
def I8 (a : Nat) : Rp:=⟨Ax,fun x=>nvV x a,fun x v=>Rn v x a,fun _ _ _ hg h=>h.grow hg⟩
def O1 (z : Int) : Rp:=⟨Ax,fun x=>riV x z,fun x v=>Rn v x z.natAbs,fun _ _ _ hg h=>h.grow hg⟩
def G9 (q : Rat) : Rp:=⟨Ax × Ax,fun x=>rqV x.1 x.2 q,fun x v=>Rn v x.1 q.num.natAbs ∧ Rn v x.2 q.den,fun _ _ _ hg h=>⟨h.1.grow hg,h.2.grow hg⟩⟩
def nnR (a b : Nat) : Rp:=⟨Ax × Ax,fun x=>.tuple #[nvV x.1 a,nvV x.2 b],fun x v=>Rn v x.1 a ∧ Rn v x.2 b,fun _ _ _ hg h=>⟨h.1.grow hg,h.2.grow hg⟩⟩
def Ret (R : Rp) (w : World) (e : Ending) (w' : World) : Prop:=∃ x,e = .returned (R.f x) ∧ R.T x w' ∧ A3 w w'
theorem gr {P : Program} {ops : Array Oper} {L : Act → World → Prop} {o : Oper} {r : List (Nat × Oper)} {B : Nat} {tk : List Nat} {a : Act} {F : World → Prop} (R : Rp) (hw : Region.wanted o (yielded ops a.tmps) = true)
  (h : ∀ w,F w → ∀ N : Value → World → Prop,(∀ x w',R.T x w' → A3 w w' → N (R.f x) w') → Move P o a w N) (hr : ∀ x,OKs P ops L B r tk (a.put o.dst (R.f x)) (fun w=>F w ∧ R.T x w)) : OKs P ops L B ((1,o) :: r) tk a F :=
 gx R.X R.f R.T R.mono hw h hr
theorem grd {P : Program} {ops : Array Oper} {L : Act → World → Prop} {o : Oper} {r : List (Nat × Oper)} {B : Nat} {tk : List Nat} {a : Act} {F : World → Prop} (R : Rp) {a' : R.X → Act} {g : FuncId} {args : Array Value} (hr : ∀ x,OKs P ops L B r tk (a' x) (fun w=>F w ∧ R.T x w))
  (hw : Region.wanted o (yielded ops a.tmps) = true:=by exact rfl) (hs : ∀ w (N : Value → World → Prop),(Calls P g args w fun e w''=>∃ u,e = .returned u ∧ N u w'') → Move P o a w N:=by (intro w N h;go_simp <;> with_reducible exact h))
  (hp : ∀ x,a.put o.dst (R.f x) = a' x:=by (intro x;simp only [I8,O1,G9,nnR,Act.put,List.setIfInBounds_toArray,List.set_cons_succ,List.set_cons_zero];exact rfl)) (C : ∀ w,F w → Calls P g args w (Ret R w)) : OKs P ops L B ((1,o) :: r) tk a F :=
 gxd R.f R.T R.mono hr hw hs hp C
theorem B1q (w : World) (o : Obj) : (w.alloc o).heap[w.heap.size]? = some o:=by
 show (w.heap.push _)[w.heap.size]? = _
 simp
theorem B3B (w : World) (l : List Nat) : Lim (w.alloc (.cells (l.map fun x=>Value.int .u32 (x : Nat)).toArray 176)) (some ⟨w.heap.size,0,none⟩) l:=fun _ =>
 ⟨w.heap.size,0,(l.map fun x=>Value.int .u32 (x : Nat)).toArray,(0,0),rfl,B1q w _,fun i x hi=>by simp [hi]⟩
theorem A33 {u : World} {A : Option Addr} {l : List Nat} {c : Nat} {a : Nat} (h : Lim u A l) (hd : Dig W32 l) (hv : val W32 l = a) (hc : l.length ≤ c) (hm : c ≤ 9223372036854775807) (hl : l.length ≤ 1099511627776) : Rn u (A,c) a ∧ (C8 l).length = ln a:=by
 have e : C8 l = A6 W32 a:=by rw [← hv];exact A5H C3 hd
 have h1 : ln a ≤ l.length:=by
  unfold ln
  rw [← e]
  exact A16 l
 refine ⟨⟨?_,Nat.le_trans h1 hc,hm,Nat.le_trans h1 hl⟩,by rw [e];rfl⟩
 rw [← e,A1z];exact h.take _
theorem A3D {u : World} {A : Option Addr} {l : List Nat} {c : Nat} {a : Nat} (h : Lim u A l) (hd : Dig W32 l) (hv : val W32 l = a) (hc : l.length ≤ c) (hm : c ≤ 1099511627776) : Rn u (A,c) a ∧ (C8 l).length = ln a :=
 A33 h hd hv hc (by omega) (by omega)
theorem A4n (n : Nat) (hn : n < W64) (w : World) : Calls Tryz.prog 92 #[.int .u64 n] w (Ret (I8 n) w):=by
 have h1 : n % 4294967296 < 4294967296:=Nat.mod_lt _ (by omega)
 have h2 : n / 4294967296 < 4294967296:=by unfold W64 at hn;omega
 have htr : Calls Tryz.prog 142 #[.slice (some ⟨w.heap.size,0,none⟩) 2 2] (w.alloc (.cells #[.int .u32 ((n : Int) % 4294967296),.int .u32 ((n : Int) / 4294967296)] 176)) fun e w'=>e = .returned (.slice (some ⟨w.heap.size,0,none⟩) (ln n) 2) ∧ Rn w' (some ⟨w.heap.size,0,none⟩,2) n ∧ A3 w w':=by
  have hl:=B3B w [n % 4294967296,n / 4294967296]
  have e1 : ((n % 4294967296 : Nat) : Int) = (n : Int) % 4294967296:=by omega
  have e2 : ((n / 4294967296 : Nat) : Int) = (n : Int) / 4294967296:=by omega
  simp only [List.map_cons,List.map_nil,e1,e2] at hl
  refine (A1Q _ _ 2 _ hl (Nat.le_refl _) (by omega)).mono fun e w' ⟨he,hg⟩=>?_
  obtain ⟨hr,hlen⟩:=A3D (a:=n) (c:=2) (hl.grow hg) (fun x hx=>by
   simp only [List.mem_cons,List.not_mem_nil,or_false] at hx
   unfold W32
   omega) (by simp [val,W32];omega) (Nat.le_refl _) (by omega)
  rw [hlen] at he
  exact ⟨he,hr,(A3.alloc _ _).trans hg⟩
 have Htr:=Lib.hid htr
 clear htr
 go_enter Tryz.func92,Tryz.ntmps92
 go_wp2_with (go_at_call 142;((with_reducible refine (Htr.out).mono ?_);rintro e w1 ⟨rfl,hr,hg⟩))
 go_ret
 exact ⟨(some ⟨w.heap.size,0,none⟩,2),rfl,hr,hg⟩
theorem A5V {a b : Nat} (h : ln a < ln b) : a < b:=by
 have := A3R C3 (E7 C3 a) (A1S C3 b) (E7 C3 b) h
 rwa [C7 C3,C7 C3] at this
theorem A6W {a b : Nat} (h : a ≤ b) : ln a ≤ ln b:=by
 rcases Nat.lt_or_ge (ln b) (ln a) with h' | h'
 ·have := A5V h';omega
 ·exact h'
theorem B3N (x y : Ax) (a b : Nat) (w : World) (hx : Rn w x a) (hy : Rn w y b) (hl : ln a = ln b) :
  Calls Tryz.prog 87 #[nvV x a,nvV y b] w fun e w'=>e = .returned (.int .i64 (E3 a b)) ∧ A3 w w':=by
 obtain ⟨A1,c1⟩:=x
 obtain ⟨A2,c2⟩:=y
 have Hx:=Lib.hid hx.1
 have Hy:=Lib.hid hy.1
 have hm:=hx.2
 simp only at hm
 obtain ⟨n,hn⟩ : ∃ n,n = ln a:=⟨_,rfl⟩
 rw [← hn] at hm
 show Calls Tryz.prog 87 #[.slice A1 (ln a) c1,.slice A2 (ln b) c2] w _
 rw [← hl,← hn]
 have Hn1:=Lib.hid hn
 have Hn2:=Lib.hid (hn.trans hl)
 clear hx hy hl hn
 go_enter Tryz.func87,Tryz.ntmps87
 go_wp2_with fail
 go_loopw [5] (fun s wr=>∃ k : Nat,k ≤ n ∧ s = .int .i64 ((k : Int) - 1) ∧ (A6 W32 a).drop k = (A6 W32 b).drop k ∧ A3 w wr) (fun s _=>(intOf s + 1).toNat)
 case atStart=>exact ⟨n,Nat.le_refl _,rfl,by rw [List.drop_of_length_le (Nat.le_of_eq Hn1.out.symm),List.drop_of_length_le (Nat.le_of_eq Hn2.out.symm)],A3.refl _⟩
 case round =>
  obtain ⟨k,hk,rfl,hd,hG⟩:=hrel
  have Hd:=Lib.hid hd
  clear hd
  rcases Nat.eq_zero_or_pos k with rfl | hpos
  ·have hc : decide ((0 : Int) ≤ ((0 : Nat) : Int) - 1) = false:=by decide
   go_wp2_with fail
   go_ret
   refine ⟨J6 ?_,hG⟩
   have := Hd.out
   simp only [List.drop_zero] at this
   rw [A07 (B5P C3 this)]
  ·obtain ⟨j,rfl⟩ : ∃ j,k = j + 1:=⟨k - 1,by omega⟩
   have e1 : ((j + 1 : Nat) : Int) - 1 = (j : Nat):=by omega
   rw [e1]
   have hj1 : j < (A6 W32 a).length:=by have := Hn1.out;unfold ln at this;omega
   have hj2 : j < (A6 W32 b).length:=by have := Hn2.out;unfold ln at this;omega
   obtain ⟨b1,o1,rfl,hc1⟩:=(Hx.out.grow hG).cell hj1
   obtain ⟨b2,o2,rfl,hc2⟩:=(Hy.out.grow hG).cell hj2
   obtain ⟨p,hp⟩ : ∃ p,p = dg (A6 W32 a) j:=⟨_,rfl⟩
   obtain ⟨q,hq⟩ : ∃ q,q = dg (A6 W32 b) j:=⟨_,rfl⟩
   rw [← hp] at hc1
   rw [← hq] at hc2
   have Hp:=Lib.hid hp
   have Hq:=Lib.hid hq
   clear hp hq e1
   have hc0 : decide ((0 : Int) ≤ (j : Int)) = true:=by simp
   rcases Nat.lt_trichotomy p q with hlt | heq | hgt
   ·have hb1 : ((p : Int) != (q : Int)) = true:=by simp;omega
    have hb2 : decide ((p : Int) < (q : Int)) = true:=by simp;omega
    go_wp2_with fail
    go_quiet (fail)
    go_wp2_with fail
    go_quiet (fail)
    go_wp2_with fail
    go_ret
    refine ⟨J6 ?_,hG.trans ((O6 _ _).trans (O6 _ _))⟩
    have h1:=A10 (E7 C3 a) (Hn1.out.symm.trans Hn2.out) hj1 Hd.out (by rw [← Hp.out,← Hq.out];exact hlt)
    rw [C7 C3,C7 C3] at h1
    rw [P8 h1]
   ·subst heq
    go_wp2_with fail
    go_quiet (fail)
    go_wp2_with fail
    exact ⟨⟨j,by omega,rfl,by rw [A0j hj1,A0j hj2,Hd.out,← Hp.out,← Hq.out],hG.trans (O6 _ _)⟩,by simp [intOf]⟩
   ·have hb1 : ((p : Int) != (q : Int)) = true:=by simp;omega
    have hb2 : decide ((p : Int) < (q : Int)) = false:=by simp;omega
    go_wp2_with fail
    go_quiet (fail)
    go_wp2_with fail
    go_quiet (fail)
    go_wp2_with fail
    go_ret
    refine ⟨J6 ?_,hG.trans ((O6 _ _).trans (O6 _ _))⟩
    have h1:=A10 (E7 C3 b) (Hn2.out.symm.trans Hn1.out) hj2 Hd.out.symm (by rw [← Hp.out,← Hq.out];exact hgt)
    rw [C7 C3,C7 C3] at h1
    rw [V8 h1]
theorem B4h (x y : Ax) (a b : Nat) (w : World) (hl : ln a ≠ ln b) :
  Calls Tryz.prog 87 #[nvV x a,nvV y b] w fun e w'=>e = .returned (.int .i64 (E3 a b)) ∧ A3 w w':=by
 rcases Nat.lt_or_gt_of_ne hl with h | h
 ·rw [P8 (A5V h)]
  go_enter Tryz.func87,Tryz.ntmps87
  go_wp2_with fail
  go_ret
  exact ⟨rfl,A3.refl _⟩
 ·rw [V8 (A5V h)]
  have h' : ¬ ln a < ln b:=by omega
  go_enter Tryz.func87,Tryz.ntmps87
  go_wp2_with fail
  go_ret
  exact ⟨rfl,A3.refl _⟩
theorem A2r (x y : Ax) (a b : Nat) (w : World) (hx : Rn w x a) (hy : Rn w y b) :
  Calls Tryz.prog 87 #[nvV x a,nvV y b] w fun e w'=>e = .returned (.int .i64 (E3 a b)) ∧ A3 w w':=by
 by_cases hl : ln a = ln b
 ·exact B3N x y a b w hx hy hl
 ·exact B4h x y a b w hl
end Go.Proofs.YtlkniebmjdoopaaGreatDoor
