/- Contracts and laws. -/
import Derived.Test.YtlkniebmjdoopaaGreatDoorK21
set_option linter.unusedSimpArgs false
set_option linter.unusedVariables false
set_option maxHeartbeats 4000000
set_option maxRecDepth 100000
namespace Go.Proofs.YtlkniebmjdoopaaGreatDoor
open Go.RowKit
section
variable (a b : Rat) (w : World)
theorem A4t (HT : Tab w) (h : qs a + qs b + 1 ≤ BIG) (x y : Bool) (hx : ∀ W,Calls Tryz.prog 57 #[qV a] W fun e w'=>e = .returned (.bool x) ∧ A3 W w') (hy : ∀ W,Calls Tryz.prog 57 #[qV b] W fun e w'=>e = .returned (.bool y) ∧ A3 W w') (hxy : (x && y) = false) :
  Calls Tryz.prog 54 #[qV a,qV b] w fun e w'=>e = .returned (qV (M4 a b)) ∧ A3 w w':=by
 have hB40:=K9
 obtain ⟨g1,g0,d1,d2,t1,t2,m1,m2,u1,k1,k0⟩:=B26 a b h
 have d1':=M7 d1
 have d2':=M7 d2
 have g1':=M7 g1
 have He:=Lib.hid (And.intro (A9Y a b) (A7m a b))
 obtain ⟨G,hG0⟩ : ∃ G,G = Nat.gcd a.den b.den:=⟨_,rfl⟩
 obtain ⟨U,hU0⟩ : ∃ U,U = A1t (ztm a.num (b.den / G)) (ztm b.num (a.den / G)):=⟨_,rfl⟩
 obtain ⟨H,hH0⟩ : ∃ H,H = Nat.gcd U.natAbs G:=⟨_,rfl⟩
 rw [← hG0] at g1 g0 t1 t2 m1 m2 u1 k1 k0 g1'
 rw [← hU0] at u1 k1 k0
 rw [← hH0] at k1 k0
 have hgc : ∀ W,Tab W → Calls Tryz.prog 59 #[D4 (sgn false a.den),D4 (sgn false b.den)] W fun e w'=>e = .returned (A6 G) ∧ A3 W w':=fun W ht=>hG0 ▸ B1s a.den b.den d1 d2 W ht
 have hgu : ∀ W,Tab W → Calls Tryz.prog 59 #[D4 U,D4 (sgn false G)] W fun e w'=>e = .returned (A6 H) ∧ A3 W w':=fun W ht=>hH0 ▸ A2X U G u1 g1 W ht
 have hau : ∀ W,Calls Tryz.prog 116 #[D4 (ztm a.num (b.den / G)),D4 (ztm b.num (a.den / G))] W fun e w'=>e = .returned (D4 U) ∧ A3 W w':=fun W=>hU0 ▸ B0F _ _ m1 m2 W
 have e1 : (M4 a b).num = ztd U H:=by
  have := He.out.1
  unfold U4 hOf U4 at this
  rw [← hG0] at this
  rw [hH0,hU0]
  exact this
 have e2 : (M4 a b).den = a.den / G * (b.den / H):=by
  have := He.out.2
  unfold hOf U4 at this
  rw [← hG0] at this
  rw [hH0,hU0]
  exact this
 have He2:=Lib.hid (And.intro e1 e2)
 have f1 : bl (a.den / G) ≤ 1099511627776:=Nat.le_trans (M6 _ _) d1'
 have f2 : bl (b.den / H) ≤ 1099511627776:=Nat.le_trans (M6 _ _) d2'
 have f3 : bl (a.den / G * (b.den / H)) ≤ 1099511627776:=by
  have s1:=P5 (a.den / G) (b.den / H)
  have s2:=M6 a.den G
  have s3:=M6 b.den H
  have s4:=F6 a
  have s5:=F6 b
  omega
 have Hx:=Lib.hid hx
 have Hy:=Lib.hid hy
 have Hgc:=Lib.hid hgc
 have Hgu:=Lib.hid hgu
 have Hau:=Lib.hid hau
 clear hx hy hgc hgu hau e1 e2 He hG0 hU0 hH0
 cases x <;> cases y <;> first | (exact absurd hxy (by decide)) | skip
 all_goals clear hxy
 all_goals
  go_enter Tryz.func54,Tryz.ntmps54
  refine en3 ?_
  intro u hG b4 b3 b2 hB hF
  refine wp_seq ?_
  refine wp_seq (rsE A5 [0,1,0,0,1,0] hB hG fun L hL=>?_)
  refine gs ?_
  refine gmw (C:=fun v=>Hx.out _) ?_
  refine gs ?_
  first | refine gmw (C:=fun v=>Hy.out _) ?_ | refine G7 ?_
  refine gs ?_
  refine geT hL ?_
  clear hB hG hL L
  rintro u ⟨-,hB,hG,-⟩
  refine wp_cond_false (rfl) ?_
  refine wp_skip ?_
  refine A4 ?_
  refine wp_seq (rdC A5 [] [(0,0),(0,3),(1,1),(1,2),(1,4),(1,5),(1,6),(2,7)] hB hG fun K L hN hL=>?_)
  refine gs ?_
  refine gmw (C:=fun v=>Q4 _ (by assumption) _) ?_
  refine gmw (C:=fun v=>N9 _ _ (by assumption) _) ?_
  refine gmw (C:=fun v=>Q4 _ (by assumption) _) ?_
  refine gmw (C:=fun v=>N9 _ _ (by assumption) _) ?_
  refine gmd (C:=fun v ⟨hgu,hB,hG,_⟩=>Hgc.out _ (HT.grow hG)) ?_
  refine gaa (I8 _ _ _ _ _) fun b5 hb5 hn5=>?_
  replace hF:=hF.n1 [] hB hG hb5 hn5
  refine geC hL ?_
  clear hB hG hL L
  rintro u ⟨⟨-,hB,hG,-⟩,h5⟩
  replace hB:=hB.cons' h5
  clear h5
  clear hb5 hn5
  refine gtT ?_
  clear hN K
  refine st hB hF hG 0 0 [_,_] ?_
  clear hB hG
  intro u hB hG
  refine wp_seq (rdC A5 [] [(0,0),(0,2),(0,4),(0,6),(1,1),(1,3),(1,5),(1,7),(2,8),(2,9)] hB hG fun K L hN hL=>?_)
  refine gs ?_
  refine gmw (C:=fun v=>Q4 _ (by assumption) _) ?_
  refine gmw (C:=fun v=>A02 a.den G d1 g1 g0 _) ?_
  refine gmw (C:=fun v=>Q4 _ (by assumption) _) ?_
  refine gmw (C:=fun v=>A02 b.den G d2 g1 g0 _) ?_
  refine gaa (I8 _ _ _ _ _) fun b6 hb6 hn6=>?_
  refine gaa (I8 _ _ _ _ _) fun b7 hb7 hn7=>?_
  replace hF:=hF.n1 [] hB hG hb6 hn6
  replace hF:=hF.n1 [b6] hB hG hb7 hn7
  refine geC hL ?_
  clear hB hG hL L
  rintro u ⟨⟨⟨-,hB,hG,-⟩,h6⟩,h7⟩
  replace hB:=hB.cons' h6
  replace hB:=hB.cons' h7
  clear h6 h7
  clear hb6 hn6 hb7 hn7
  have hD : b6 ≠ b7 ∧ b7 ≠ b6:=⟨hF.ne 1 0 rfl rfl (by decide),hF.ne 0 1 rfl rfl (by decide)⟩
  refine gtT ?_
  clear hN K
  clear hD
  refine st2 hB hF hG 1 0 [_,_] 0 0 [_,_] ?_
  clear hB hG
  intro u hB hG
  refine wp_seq (rdC A5 [] [(0,0),(0,1),(0,2),(0,4),(0,5),(0,6),(1,3),(1,7),(1,8),(2,9)] hB hG fun K L hN hL=>?_)
  refine gs ?_
  refine gmw (C:=fun v=>A1b _ _ (by assumption) _) ?_
  refine gmw (C:=fun v=>A1b _ _ (by assumption) _) ?_
  refine gmw (C:=fun v=>Hau.out _) ?_
  refine gaa (A4o _ _ _ _ _) fun b8 hb8 hn8=>?_
  replace hF:=hF.n1 [] hB hG hb8 hn8
  refine geC hL ?_
  clear hB hG hL L
  rintro u ⟨⟨-,hB,hG,-⟩,h8⟩
  replace hB:=hB.cons' h8
  clear h8
  clear hb8 hn8
  refine gtT ?_
  clear hN K
  refine st hB hF hG 0 0 [_,_,_] ?_
  clear hB hG
  intro u hB hG
  refine wp_seq (rdC A5 [] [(0,0),(0,1),(1,2),(1,3),(2,4)] hB hG fun K L hN hL=>?_)
  refine gs ?_
  refine gmw (C:=fun v=>N9 _ _ (by assumption) _) ?_
  refine gmd (C:=fun v ⟨hgu,hB,hG,_⟩=>Hgu.out _ (HT.grow hG)) ?_
  refine gaa (I8 _ _ _ _ _) fun b9 hb9 hn9=>?_
  replace hF:=hF.n1 [] hB hG hb9 hn9
  refine geC hL ?_
  clear hB hG hL L
  rintro u ⟨⟨-,hB,hG,-⟩,h9⟩
  replace hB:=hB.cons' h9
  clear h9
  clear hb9 hn9
  refine gtT ?_
  clear hN K
  refine st hB hF hG 0 0 [_,_] ?_
  clear hB hG
  intro u hB hG
  refine wp_seq (rdC A5 [] [(0,0),(0,1),(0,3),(0,4),(0,6),(1,2),(1,5),(1,7),(1,8),(1,9)] hB hG fun K L hN hL=>?_)
  refine gs ?_
  refine gmw (C:=fun v=>A3k U H u1 k1 k0 _) ?_
  refine gmw (C:=fun v=>Q4 _ (by assumption) _) ?_
  refine gmw (C:=fun v=>A02 b.den H d2 k1 k0 _) ?_
  refine gmw (C:=fun v=>A4m _ _ (by assumption) (by assumption) _) ?_
  refine gmw (C:=fun v=>A4d _ _ (by assumption) _) ?_
  refine geC hL ?_
  clear hB hG hL L
  rintro u ⟨-,hB,hG,-⟩
  refine gtT ?_
  clear hN K
  refine st hB hF hG 7 0 [_,_,_,_,_] ?_
  clear hB hG
  intro u hB hG
  refine rt Tryz.results54 ?_
  exact ⟨A0W He2.out.1 He2.out.2,hG⟩
theorem A3Z (h : qs a + qs b + 1 ≤ BIG) (HT : Tab w) : Calls Tryz.prog 54 #[qV a,qV b] w fun e w'=>e = .returned (qV (M4 a b)) ∧ A3 w w':=by
 have hB40:=K9
 have h3 : bl a.den ≤ 1099511627776:=by have := F6 a;omega
 have h4 : bl b.den ≤ 1099511627776:=by have := F6 b;omega
 by_cases ha1 : a.den = 1
 ·by_cases hb1 : b.den = 1
  ·exact B0U a b w h ha1 hb1
  ·exact A4t a b w HT h true false (T9 a h3 ha1) (V9 b h4 hb1) rfl
 ·by_cases hb1 : b.den = 1
  ·exact A4t a b w HT h false true (V9 a h3 ha1) (T9 b h4 hb1) rfl
  ·exact A4t a b w HT h false false (V9 a h3 ha1) (V9 b h4 hb1) rfl
theorem B5d : qs (A1d a) = qs a:=A5L a
theorem B2f : M4 a (A1d b) = A0e a b:=(Rat.sub_eq_add_neg a b).symm
theorem A8h (h : qs a + qs b + 1 ≤ BIG) (HT : Tab w) : Calls Tryz.prog 97 #[qV a,qV b] w fun e w'=>e = .returned (qV (A0e a b)) ∧ A3 w w':=by
 have hB40:=K9
 have h2 : bl b.num.natAbs ≤ 1099511627776:=by have := F8 b;omega
 have h3 : qs a + qs (A1d b) + 1 ≤ BIG:=by rw [B5d];exact h
 go_enter Tryz.func97,Tryz.ntmps97
 refine en3 ?_
 intro u hG b4 b3 b2 hB hF
 refine wp_seq (rdC A5 [] [(0,0),(0,1),(1,2),(1,3)] hB hG fun K L hN hL=>?_)
 refine gs ?_
 refine gmw (C:=fun v=>A95 _ (by assumption) _) ?_
 refine gmd (C:=fun v ⟨hgu,hB,hG,_⟩=>A3Z _ _ _ (by assumption) (HT.grow hG)) ?_
 refine geC hL ?_
 clear hB hG hL L
 rintro u ⟨-,hB,hG,-⟩
 refine gtT ?_
 clear hN K
 refine st hB hF hG 2 0 [_,_,_,_,_] ?_
 clear hB hG
 intro u hB hG
 refine rt Tryz.results97 ?_
 exact ⟨B38 (B2f a b),hG⟩
theorem B6d (h : qs a + qs b ≤ BIG) (ha1 : a.den = 1) (hb1 : b.den = 1) : Calls Tryz.prog 16 #[qV a,qV b] w fun e w'=>e = .returned (qV (H9 a b)) ∧ A3 w w':=by
 have hB40:=K9
 have h1 : bl a.num.natAbs + bl b.num.natAbs ≤ 1099511627776:=by have := F8 a;have := F8 b;omega
 have h3 : bl a.den ≤ 1099511627776:=by have := F6 a;omega
 have h4 : bl b.den ≤ 1099511627776:=by have := F6 b;omega
 have e : H9 a b = ((a.num * b.num : Int) : Rat):=by
  unfold H9
  rw [Rat.intCast_mul,← A37 a ha1,← A37 b hb1]
 have e1 : (H9 a b).num = A5O a.num b.num:=by rw [e,Rat.num_intCast];rfl
 have e2 : (H9 a b).den = 1:=by rw [e,Rat.den_intCast]
 have He:=Lib.hid (And.intro e1 e2)
 have Ha1:=Lib.hid ha1
 have Hb1:=Lib.hid hb1
 clear e e1 e2 ha1 hb1
 go_enter Tryz.func16,Tryz.ntmps16
 refine en3 ?_
 intro u hG b4 b3 b2 hB hF
 refine wp_seq ?_
 refine wp_seq (rsE A5 [0,1,0,0,1,0] hB hG fun L hL=>?_)
 refine gs ?_
 refine gmw (C:=fun v=>T9 a h3 Ha1.out _) ?_
 refine gs ?_
 first | refine gmw (C:=fun v=>T9 b h4 Hb1.out _) ?_ | refine G7 ?_
 refine gs ?_
 refine geT hL ?_
 clear hB hG hL L
 rintro u ⟨-,hB,hG,-⟩
 refine wp_cond_true (rfl) ?_
 refine wp_seq (rsC A5 [0,0,0,0,1,0] hB hG fun K L hN hL=>?_)
 refine gs ?_
 refine gmw (C:=fun v=>A6U _ _ (by assumption) _) ?_
 refine gs ?_
 refine geC hL ?_
 clear hB hG hL L
 rintro u ⟨-,hB,hG,-⟩
 refine gtT ?_
 clear hN K
 refine st hB hF hG 2 0 [_,_,_,_,_] ?_
 clear hB hG
 intro u hB hG
 refine rt Tryz.results16 ?_
 exact ⟨A0W He.out.1 He.out.2,hG⟩
theorem A5T (HT : Tab w) (h : qs a + qs b ≤ BIG) (x y : Bool) (hx : ∀ W,Calls Tryz.prog 57 #[qV a] W fun e w'=>e = .returned (.bool x) ∧ A3 W w') (hy : ∀ W,Calls Tryz.prog 57 #[qV b] W fun e w'=>e = .returned (.bool y) ∧ A3 W w') (hxy : (x && y) = false) :
  Calls Tryz.prog 16 #[qV a,qV b] w fun e w'=>e = .returned (qV (H9 a b)) ∧ A3 w w':=by
 have hB40:=K9
 have s1:=F8 a
 have s2:=F6 a
 have s3:=F8 b
 have s4:=F6 b
 have n1 : bl a.num.natAbs ≤ BIG:=by omega
 have n2 : bl b.num.natAbs ≤ BIG:=by omega
 have d1 : bl a.den ≤ BIG:=by omega
 have d2 : bl b.den ≤ BIG:=by omega
 have d1':=M7 d1
 have d2':=M7 d2
 have He:=Lib.hid (And.intro (A8G a b) (A7k a b))
 obtain ⟨G,hG0⟩ : ∃ G,G = Nat.gcd a.num.natAbs b.den:=⟨_,rfl⟩
 obtain ⟨H,hH0⟩ : ∃ H,H = Nat.gcd b.num.natAbs a.den:=⟨_,rfl⟩
 have g0 : G ≠ 0:=fun e=>b.den_nz (Nat.eq_zero_of_gcd_eq_zero_right (hG0 ▸ e))
 have k0 : H ≠ 0:=fun e=>a.den_nz (Nat.eq_zero_of_gcd_eq_zero_right (hH0 ▸ e))
 have g1 : bl G ≤ BIG:=by rw [hG0];exact Nat.le_trans (A3G _ _ b.den_nz) d2
 have k1 : bl H ≤ BIG:=by rw [hH0];exact Nat.le_trans (A3G _ _ a.den_nz) d1
 have hgc : ∀ W,Tab W → Calls Tryz.prog 59 #[D4 a.num,D4 (sgn false b.den)] W fun e w'=>e = .returned (A6 G) ∧ A3 W w':=fun W ht=>hG0 ▸ A2X a.num b.den n1 d2 W ht
 have hgu : ∀ W,Tab W → Calls Tryz.prog 59 #[D4 b.num,D4 (sgn false a.den)] W fun e w'=>e = .returned (A6 H) ∧ A3 W w':=fun W ht=>hH0 ▸ A2X b.num a.den n2 d1 W ht
 have e1 : (H9 a b).num = A5O (ztd a.num G) (ztd b.num H):=by rw [hG0,hH0];exact He.out.1
 have e2 : (H9 a b).den = a.den / H * (b.den / G):=by rw [hG0,hH0];exact He.out.2
 have He2:=Lib.hid (And.intro e1 e2)
 have f1 : bl (a.den / H) ≤ 1099511627776:=Nat.le_trans (M6 _ _) d1'
 have f2 : bl (b.den / G) ≤ 1099511627776:=Nat.le_trans (M6 _ _) d2'
 have f3 : bl (a.den / H * (b.den / G)) ≤ 1099511627776:=by
  have s1:=P5 (a.den / H) (b.den / G)
  have s2:=M6 a.den H
  have s3:=M6 b.den G
  omega
 have f4 : bl (ztd a.num G).natAbs + bl (ztd b.num H).natAbs ≤ 1099511627776:=by
  have s1:=N8 (A2M a.num G)
  have s2:=N8 (A2M b.num H)
  unfold ztd
  omega
 have Hx:=Lib.hid hx
 have Hy:=Lib.hid hy
 have Hgc:=Lib.hid hgc
 have Hgu:=Lib.hid hgu
 clear hx hy hgc hgu e1 e2 He hG0 hH0
 cases x <;> cases y <;> first | (exact absurd hxy (by decide)) | skip
 all_goals clear hxy
 all_goals
  go_enter Tryz.func16,Tryz.ntmps16
  refine en3 ?_
  intro u hG b4 b3 b2 hB hF
  refine wp_seq ?_
  refine wp_seq (rsE A5 [0,1,0,0,1,0] hB hG fun L hL=>?_)
  refine gs ?_
  refine gmw (C:=fun v=>Hx.out _) ?_
  refine gs ?_
  first | refine gmw (C:=fun v=>Hy.out _) ?_ | refine G7 ?_
  refine gs ?_
  refine geT hL ?_
  clear hB hG hL L
  rintro u ⟨-,hB,hG,-⟩
  refine wp_cond_false (rfl) ?_
  refine wp_skip ?_
  refine A4 ?_
  refine wp_seq (rdC A5 [] [(0,0),(0,1),(0,2),(1,3),(1,4),(1,5),(2,6)] hB hG fun K L hN hL=>?_)
  refine gs ?_
  refine gmw (C:=fun v=>Q4 _ (by assumption) _) ?_
  refine gmw (C:=fun v=>N9 _ _ (by assumption) _) ?_
  refine gmd (C:=fun v ⟨hgu,hB,hG,_⟩=>Hgc.out _ (HT.grow hG)) ?_
  refine gaa (I8 _ _ _ _ _) fun b5 hb5 hn5=>?_
  replace hF:=hF.n1 [] hB hG hb5 hn5
  refine geC hL ?_
  clear hB hG hL L
  rintro u ⟨⟨-,hB,hG,-⟩,h5⟩
  replace hB:=hB.cons' h5
  clear h5
  clear hb5 hn5
  refine gtT ?_
  clear hN K
  refine st hB hF hG 0 0 [_,_] ?_
  clear hB hG
  intro u hB hG
  refine wp_seq (rdC A5 [] [(0,0),(0,1),(0,2),(1,3),(1,4),(1,5),(2,6)] hB hG fun K L hN hL=>?_)
  refine gs ?_
  refine gmw (C:=fun v=>Q4 _ (by assumption) _) ?_
  refine gmw (C:=fun v=>N9 _ _ (by assumption) _) ?_
  refine gmd (C:=fun v ⟨hgu,hB,hG,_⟩=>Hgu.out _ (HT.grow hG)) ?_
  refine gaa (I8 _ _ _ _ _) fun b6 hb6 hn6=>?_
  replace hF:=hF.n1 [] hB hG hb6 hn6
  refine geC hL ?_
  clear hB hG hL L
  rintro u ⟨⟨-,hB,hG,-⟩,h6⟩
  replace hB:=hB.cons' h6
  clear h6
  clear hb6 hn6
  refine gtT ?_
  clear hN K
  refine st hB hF hG 0 0 [_,_] ?_
  clear hB hG
  intro u hB hG
  refine wp_seq (rdC A5 [] [(0,0),(0,1),(0,2),(0,4),(0,5),(0,6),(0,9),(0,11),(0,13),(0,15),(1,3),(1,7),(1,8),(1,10),(1,12),(1,14),(1,16),(1,17),(1,18)] hB hG fun K L hN hL=>?_)
  refine gs ?_
  refine gmw (C:=fun v=>A3k a.num G n1 g1 g0 _) ?_
  refine gmw (C:=fun v=>A3k b.num H n2 k1 k0 _) ?_
  refine gmw (C:=fun v=>A6U _ _ (by assumption) _) ?_
  refine gmw (C:=fun v=>Q4 _ (by assumption) _) ?_
  refine gmw (C:=fun v=>A02 a.den H d1 k1 k0 _) ?_
  refine gmw (C:=fun v=>Q4 _ (by assumption) _) ?_
  refine gmw (C:=fun v=>A02 b.den G d2 g1 g0 _) ?_
  refine gmw (C:=fun v=>A4m _ _ (by assumption) (by assumption) _) ?_
  refine gmw (C:=fun v=>A4d _ _ (by assumption) _) ?_
  refine geC hL ?_
  clear hB hG hL L
  rintro u ⟨-,hB,hG,-⟩
  refine gtT ?_
  clear hN K
  refine st hB hF hG 4 0 [_,_,_,_,_] ?_
  clear hB hG
  intro u hB hG
  refine rt Tryz.results16 ?_
  exact ⟨A0W He2.out.1 He2.out.2,hG⟩
theorem A2I (h : qs a + qs b ≤ BIG) (HT : Tab w) : Calls Tryz.prog 16 #[qV a,qV b] w fun e w'=>e = .returned (qV (H9 a b)) ∧ A3 w w':=by
 have hB40:=K9
 have h3 : bl a.den ≤ 1099511627776:=by have := F6 a;omega
 have h4 : bl b.den ≤ 1099511627776:=by have := F6 b;omega
 by_cases ha1 : a.den = 1
 ·by_cases hb1 : b.den = 1
  ·exact B6d a b w h ha1 hb1
  ·exact A5T a b w HT h true false (T9 a h3 ha1) (V9 b h4 hb1) rfl
 ·by_cases hb1 : b.den = 1
  ·exact A5T a b w HT h false true (V9 a h3 ha1) (T9 b h4 hb1) rfl
  ·exact A5T a b w HT h false false (V9 a h3 ha1) (V9 b h4 hb1) rfl
theorem B5A (h : b ≠ 0) : b⁻¹.num = sgn (D1 b.num) b.den:=by
 rw [Rat.num_inv]
 have h0 : b.num ≠ 0:=fun e=>h (Rat.num_eq_zero.1 e)
 unfold sgn D1
 by_cases hn : b.num < 0
 ·rw [if_pos (decide_eq_true hn),Int.sign_eq_neg_one_of_neg hn];omega
 ·rw [if_neg (by simpa using hn),Int.sign_eq_one_of_pos (by omega)];omega
theorem B4U (h : b ≠ 0) : b⁻¹.den = b.num.natAbs:=by
 rw [Rat.den_inv,if_neg (fun e=>h (Rat.num_eq_zero.1 e))]
def A35 (b : Rat) : Rat:=b⁻¹
theorem B3K (h : b ≠ 0) (hb : bl b.num.natAbs ≤ 1099511627776) : Calls Tryz.prog 62 #[D4 (sgn (decide (b.num < 0)) b.den),A6 b.num.natAbs] w fun e w'=>e = .returned (qV (A35 b)) ∧ A3 w w':=by
 have := A4d (sgn (D1 b.num) b.den) b.num.natAbs hb w
 rw [A9T (q:=b⁻¹) (B5A b h) (B4U b h)] at this
 exact this
theorem B19 (h : bl b.num.natAbs ≤ 1099511627776) (h0 : b = 0) : Calls Tryz.prog 51 #[qV a,qV b] w fun e w'=>e = .returned (.tuple #[qV (J5 a b),.bool (nzq b)]) ∧ A3 w w':=by
 have hs : (b.num.sign == 0) = true:=by rw [h0];rfl
 have h1 : J5 a b = 0:=by rw [h0];unfold J5;rw [Rat.div_def,Rat.inv_zero,Rat.mul_zero]
 have h2 : nzq b = false:=by rw [h0];rfl
 rw [h1,h2]
 have Hh:=Lib.hid h0
 clear h0 h1 h2
 go_enter Tryz.func51,Tryz.ntmps51
 refine en3 ?_
 intro u hG b4 b3 b2 hB hF
 refine wp_seq ?_
 refine wp_seq (rsE A5 [0,1,0] hB hG fun L hL=>?_)
 refine gs ?_
 refine gmw (C:=fun v=>Q7 _ (by assumption) _) ?_
 refine gs ?_
 refine geT hL ?_
 clear hB hG hL L
 rintro u ⟨-,hB,hG,-⟩
 refine wp_cond_true (rfl) ?_
 refine r0T ?_
 refine st hB hF hG 2 0 [_,_,_,_,_] ?_
 clear hB hG
 intro u hB hG
 refine rt Tryz.results51 ?_
 exact ⟨rfl,hG⟩
theorem B10 (h : qs a + qs b ≤ BIG) (h0 : b ≠ 0) (HT : Tab w) : Calls Tryz.prog 51 #[qV a,qV b] w fun e w'=>e = .returned (.tuple #[qV (J5 a b),.bool (nzq b)]) ∧ A3 w w':=by
 have hB40:=K9
 have n2 : bl b.num.natAbs ≤ 1099511627776:=by have := F8 b;omega
 have d2 : bl b.den ≤ 1099511627776:=by have := F6 b;omega
 have hb0 : b.num ≠ 0:=fun e=>h0 (Rat.num_eq_zero.1 e)
 have hs : (b.num.sign == 0) = false:=by simpa using hb0
 have h2 : nzq b = true:=decide_eq_true h0
 have hi : qs a + qs (A35 b) ≤ BIG:=by unfold A35;rw [A9G b h0];exact h
 have hd : H9 a (A35 b) = J5 a b:=(Rat.div_def a b).symm
 have Hd:=Lib.hid hd
 rw [h2]
 clear h2 hd
 go_enter Tryz.func51,Tryz.ntmps51
 refine en3 ?_
 intro u hG b4 b3 b2 hB hF
 refine wp_seq ?_
 refine wp_seq (rsE A5 [0,1,0] hB hG fun L hL=>?_)
 refine gs ?_
 refine gmw (C:=fun v=>Q7 _ (by assumption) _) ?_
 refine gs ?_
 refine geT hL ?_
 clear hB hG hL L
 rintro u ⟨-,hB,hG,-⟩
 refine wp_cond_false (rfl) ?_
 refine wp_skip ?_
 refine A4 ?_
 refine wp_seq (rdC A5 [] [(0,0),(0,1),(0,4),(0,7),(0,8),(1,2),(0,3),(1,5),(1,6),(1,9),(1,10),(1,11)] hB hG fun K L hN hL=>?_)
 refine gs ?_
 refine gmw (C:=fun v=>Q7 _ (by assumption) _) ?_
 refine gs ?_
 refine gmw (C:=fun v=>Q4 _ (by assumption) _) ?_
 refine gmw (C:=fun v=>N9 _ _ (by assumption) _) ?_
 refine gmw (C:=fun v=>A1f _ _) ?_
 refine gmw (C:=fun v=>B3K b _ h0 n2) ?_
 refine gmd (C:=fun v ⟨hgu,hB,hG,_⟩=>A2I _ _ _ (by assumption) (HT.grow hG)) ?_
 refine geC hL ?_
 clear hB hG hL L
 rintro u ⟨-,hB,hG,-⟩
 refine gtT ?_
 clear hN K
 refine st hB hF hG 2 0 [_,_,_,_,_] ?_
 clear hB hG
 intro u hB hG
 refine rt Tryz.results51 ?_
 exact ⟨A3F (Hd.out) rfl,hG⟩
theorem A2v (h : qs a + qs b ≤ BIG) (HT : Tab w) : Calls Tryz.prog 51 #[qV a,qV b] w fun e w'=>e = .returned (.tuple #[qV (J5 a b),.bool (nzq b)]) ∧ A3 w w':=by
 by_cases h0 : b = 0
 ·exact B19 a b w (by have := F8 b;have := K9;omega) h0
 ·exact B10 a b w h h0 HT
end
end Go.Proofs.YtlkniebmjdoopaaGreatDoor
