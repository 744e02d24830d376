/- Contracts and laws. -/
import Derived.Test.YtjmopgepnndckaaGreatDoorT19
set_option linter.unusedSimpArgs false
set_option linter.unusedVariables false
set_option maxHeartbeats 2000000
set_option maxRecDepth 100000
namespace Go.Proofs.YtjmopgepnndckaaGreatDoor
abbrev nqV (n : Int) (d : Nat) : Value:=.agg #[.bool (C1 n),.int .u64 (B1 n.natAbs),.string (A9 n.natAbs),.int .u64 (B1 (E8 d)),.string (A9 (E8 d))]
theorem A94 : E8 1 = 0:=rfl
theorem A5R {d : Nat} (h : d ≠ 1) : E8 d = d:=if_neg h
theorem A7f {n : Int} {d : Nat} {q : Rat} (h1 : q.num = n) (h2 : q.den = d) : nqV n d = qV q:=by subst h1;subst h2;rfl
theorem A32 (n : Int) (b : Nat) : sgn (C1 n) (n.natAbs / b) = n.tdiv b:=by
 unfold sgn C1
 by_cases h : n < 0
 ·rw [if_pos (decide_eq_true h)]
  obtain ⟨m,rfl⟩ : ∃ m : Nat,n = -(m : Int):=⟨n.natAbs,by omega⟩
  rw [Int.neg_tdiv,Int.natAbs_neg,Int.natAbs_natCast,Int.ofNat_tdiv]
 ·rw [if_neg (by simpa using h)]
  obtain ⟨m,rfl⟩ : ∃ m : Nat,n = (m : Int):=⟨n.natAbs,by omega⟩
  rw [Int.natAbs_natCast,Int.ofNat_tdiv]
theorem A6V (a b : Rat) : (a * b).num = a.num.tdiv (Nat.gcd a.num.natAbs b.den) * b.num.tdiv (Nat.gcd b.num.natAbs a.den):=by
 show (Rat.mul a b).num = _
 unfold Rat.mul
 simp only [Int.divExact_eq_tdiv]
theorem A77 (a b : Rat) : (a * b).den = a.den / Nat.gcd b.num.natAbs a.den * (b.den / Nat.gcd a.num.natAbs b.den):=by
 show (Rat.mul a b).den = _
 unfold Rat.mul
 simp only [Nat.divExact_eq_div]
def W4 (a b : Rat) : Int:=a.num * ((b.den / Nat.gcd a.den b.den : Nat) : Int) + b.num * ((a.den / Nat.gcd a.den b.den : Nat) : Int)
def hOf (a b : Rat) : Nat:=Nat.gcd (W4 a b).natAbs (Nat.gcd a.den b.den)
theorem A53 (a b : Rat) (h : a.den / Nat.gcd a.den b.den * b.den ≠ 0) : a + b = Rat.normalize (W4 a b) (a.den / Nat.gcd a.den b.den * b.den) h:=by
 rw [Rat.add_def]
 have hg : Nat.gcd a.den b.den ≠ 0:=fun h0=>a.den_nz (Nat.eq_zero_of_gcd_eq_zero_left h0)
 obtain ⟨x,hx⟩:=Nat.gcd_dvd_left a.den b.den
 obtain ⟨y,hy⟩:=Nat.gcd_dvd_right a.den b.den
 have hxd : a.den / Nat.gcd a.den b.den = x:=Nat.div_eq_of_eq_mul_right (Nat.pos_of_ne_zero hg) hx
 have hyd : b.den / Nat.gcd a.den b.den = y:=Nat.div_eq_of_eq_mul_right (Nat.pos_of_ne_zero hg) hy
 rw [← Rat.normalize_mul_right (a:=Nat.gcd a.den b.den) h hg]
 congr 1
 ·unfold W4
  rw [hxd,hyd]
  generalize Nat.gcd a.den b.den = g at *
  rw [hx,hy]
  push_cast
  grind
 ·rw [hxd]
  generalize Nat.gcd a.den b.den = g at *
  rw [hx]
  grind
theorem A6x (a b : Rat) : hOf a b = Nat.gcd (W4 a b).natAbs (a.den / Nat.gcd a.den b.den * b.den):=Rat.add.aux a b rfl rfl rfl
theorem A5r (a b : Rat) : a.den / Nat.gcd a.den b.den * b.den ≠ 0:=by
 have h1:=Nat.div_gcd_pos_of_pos_left b.den a.den_pos
 have h2:=b.den_pos
 exact Nat.ne_of_gt (Nat.mul_pos h1 h2)
theorem A7v (a b : Rat) : (a + b).num = (W4 a b).tdiv (hOf a b):=by
 rw [A53 a b (A5r a b),Rat.num_normalize,← A6x]
 refine (Int.tdiv_eq_ediv_of_dvd ?_).symm
 exact Int.ofNat_dvd_left.2 (Nat.gcd_dvd_left _ _)
theorem A8M (a b : Rat) : (a + b).den = a.den / Nat.gcd a.den b.den * (b.den / hOf a b):=by
 rw [A53 a b (A5r a b),Rat.den_normalize,← A6x]
 exact Nat.mul_div_assoc _ (Nat.dvd_trans (Nat.gcd_dvd_right _ _) (Nat.gcd_dvd_right _ _))
theorem A4R (n : Int) (d : Nat) (h : d ≠ 0) : (mkRat n d).num = n.tdiv (Nat.gcd n.natAbs d):=by
 rw [← Rat.normalize_eq_mkRat h,Rat.num_normalize]
 exact (Int.tdiv_eq_ediv_of_dvd (Int.ofNat_dvd_left.2 (Nat.gcd_dvd_left _ _))).symm
theorem A5C (n : Int) (d : Nat) (h : d ≠ 0) : (mkRat n d).den = d / Nat.gcd n.natAbs d:=by
 rw [← Rat.normalize_eq_mkRat h,Rat.den_normalize]
def F1 (a b : Rat) : Int:=if a < b then -1 else if b < a then 1 else 0
theorem A1y (a b : Rat) : F1 a b = K8 (a.num * b.den) (b.num * a.den):=by
 unfold F1 K8
 simp only [Rat.lt_iff]
theorem B3S {a b : Rat} (ha : a.den = 1) (hb : b.den = 1) : F1 a b = K8 a.num b.num:=by
 rw [A1y,ha,hb];simp
theorem A6H {a b : Rat} (h : a.num.sign ≠ b.num.sign) : F1 a b = K8 a.num b.num:=by
 rw [A1y]
 have h1:=a.den_pos
 have h2:=b.den_pos
 generalize a.num = x at *
 generalize b.num = y at *
 generalize a.den = p at *
 generalize b.den = q at *
 have hx : (x * (q : Int)).sign = x.sign:=by rw [Int.sign_mul,Int.sign_eq_one_of_pos (a:=(q : Int)) (by omega),Int.mul_one]
 have hy : (y * (p : Int)).sign = y.sign:=by rw [Int.sign_mul,Int.sign_eq_one_of_pos (a:=(p : Int)) (by omega),Int.mul_one]
 rw [← hx,← hy] at h
 have key : ∀ u v : Int,u.sign ≠ v.sign → K8 u v = K8 u.sign v.sign:=by
  intro u v huv
  unfold K8
  rcases Int.lt_trichotomy u 0 with hu | hu | hu <;> rcases Int.lt_trichotomy v 0 with hv | hv | hv <;>
   (first | (rw [Int.sign_eq_neg_one_of_neg hu] at huv ⊢) | (rw [hu,Int.sign_zero] at huv ⊢) | (rw [Int.sign_eq_one_of_pos hu] at huv ⊢)) <;>
   (first | (rw [Int.sign_eq_neg_one_of_neg hv] at huv ⊢) | (rw [hv,Int.sign_zero] at huv ⊢) | (rw [Int.sign_eq_one_of_pos hv] at huv ⊢)) <;>
   first | (exact absurd rfl huv) | (split <;> (try split) <;> simp <;> omega)
 rw [key _ _ h,hx,hy]
 rw [hx,hy] at h
 exact (key _ _ h).symm
def qs (q : Rat) : Nat:=max (bl q.num.natAbs) (bl q.den)
theorem F6 (q : Rat) : bl q.num.natAbs ≤ qs q:=Nat.le_max_left _ _
theorem F0 (q : Rat) : bl q.den ≤ qs q:=Nat.le_max_right _ _
theorem A1i (n : Int) (g : Nat) : (n.tdiv g).natAbs ≤ n.natAbs:=by
 rw [Int.natAbs_tdiv];exact Nat.div_le_self _ _
theorem A29 (a b : Rat) : qs (a * b) ≤ qs a + qs b:=by
 refine Nat.max_le.2 ⟨?_,?_⟩
 ·rw [A6V,Int.natAbs_mul]
  refine Nat.le_trans (L8 _ _) ?_
  have h1:=N0 (A1i a.num (Nat.gcd a.num.natAbs b.den))
  have h2:=N0 (A1i b.num (Nat.gcd b.num.natAbs a.den))
  have := F6 a
  have := F6 b
  omega
 ·rw [A77]
  refine Nat.le_trans (L8 _ _) ?_
  have h1:=K9 a.den (Nat.gcd b.num.natAbs a.den)
  have h2:=K9 b.den (Nat.gcd a.num.natAbs b.den)
  have := F0 a
  have := F0 b
  omega
theorem A68 (a b : Rat) : bl (W4 a b).natAbs ≤ qs a + qs b + 1:=by
 unfold W4
 have h1:=L8 a.num.natAbs (b.den / Nat.gcd a.den b.den)
 have h2:=L8 b.num.natAbs (a.den / Nat.gcd a.den b.den)
 have h3:=K9 b.den (Nat.gcd a.den b.den)
 have h4:=K9 a.den (Nat.gcd a.den b.den)
 have := F6 a
 have := F0 a
 have := F6 b
 have := F0 b
 refine Nat.le_trans (N0 (Int.natAbs_add_le _ _)) ?_
 rw [Int.natAbs_mul,Int.natAbs_mul,Int.natAbs_natCast,Int.natAbs_natCast]
 refine Nat.le_trans (A4T _ _) ?_
 omega
theorem A6E (a b : Rat) : qs (a + b) ≤ qs a + qs b + 1:=by
 refine Nat.max_le.2 ⟨?_,?_⟩
 ·rw [A7v]
  exact Nat.le_trans (N0 (A1i _ _)) (A68 a b)
 ·rw [A8M]
  refine Nat.le_trans (L8 _ _) ?_
  have h1:=K9 a.den (Nat.gcd a.den b.den)
  have h2:=K9 b.den (hOf a b)
  have := F0 a
  have := F0 b
  omega
theorem A6z (a : Rat) : qs (-a) = qs a:=by
 unfold qs;rw [Rat.neg_num,Rat.neg_den,Int.natAbs_neg]
theorem A3d (a b : Rat) : qs (a - b) ≤ qs a + qs b + 1:=by
 rw [Rat.sub_eq_add_neg]
 have := A6E a (-b)
 rw [A6z] at this
 exact this
theorem B3B (a : Rat) (h : a ≠ 0) : qs a⁻¹ = qs a:=by
 have h0 : a.num ≠ 0:=fun e=>h (Rat.num_eq_zero.1 e)
 unfold qs
 rw [Rat.num_inv,Rat.den_inv,if_neg h0,Int.natAbs_mul,Int.natAbs_natCast,Int.natAbs_sign_of_ne_zero h0,Nat.one_mul,Nat.max_comm]
theorem B3O (a : Rat) : 1 ≤ qs a:=by
 have : 0 < bl a.den:=P3.2 a.den_nz
 have := F0 a
 omega
theorem A5q (n : Int) (k : Nat) (h : n.natAbs < 2 ^ k) (hk : 1 ≤ k) : qs (n : Rat) ≤ k:=by
 refine Nat.max_le.2 ⟨?_,?_⟩
 ·rw [Rat.num_intCast];exact M8.2 h
 ·rw [Rat.den_intCast];exact Nat.le_trans (by decide) hk
end Go.Proofs.YtjmopgepnndckaaGreatDoor
namespace Go.Proofs.YtjmopgepnndckaaGreatDoor
open Go.RowKit
theorem B07 {p q : Rat} (h : p = q) : Ending.returned (qV p) = .returned (qV q):=by rw [h]
theorem A0f {n : Int} {d : Nat} {q : Rat} (h1 : q.num = n) (h2 : q.den = d) : Ending.returned (nqV n d) = .returned (qV q):=by rw [A7f h1 h2]
theorem A5G {a b : Nat} (h : a = b) : Ending.returned (A8 a) = .returned (A8 b):=by rw [h]
theorem B1y {d : Nat} (h : bl d ≤ 1099511627776) : bl (E8 d) ≤ 1099511627776:=by
 unfold E8;split
 ·rw [A0I];omega
 ·exact h
theorem A4b (q : Rat) (h : bl q.den ≤ 1099511627776) (w : World) : Calls Tryz.prog 83 #[qV q] w fun e w'=>e = .returned (.bool (decide (q.den = 1))) ∧ A3 w w':=by
 have hk:=B1y h
 have hd : decide (q.den = 1) = ((bl (E8 q.den) : Int) == 0):=by
  have h2:=q.den_pos
  by_cases h1 : q.den = 1
  ·rw [h1,A94,A0I];rfl
  ·rw [A5R h1,decide_eq_false h1]
   have : bl q.den ≠ 0:=fun e=>by have := U7.1 e;omega
   symm
   simpa using this
 rw [hd]
 clear hd
 go_enter Tryz.func83,Tryz.ntmps83
 refine en1 ?_
 intro u hG b1 hB hF
 refine wp_seq (rsE A6 [0,0,1,0,0] hB hG fun L hL=>?_)
 refine gs ?_
 refine gmw (C:=fun v=>M0 _ (by assumption) _) ?_
 refine gs ?_
 refine geT hL ?_
 clear hB hG hL L
 rintro u ⟨-,hB,hG,-⟩
 refine rt Tryz.results83 ?_
 exact ⟨rfl,hG⟩
theorem B0F (w : World) : Calls Tryz.prog 108 #[.int .u64 1] w fun e w'=>e = .returned (A8 1) ∧ A3 w w':=A2G 1 (by unfold W64;omega) w
theorem P7 (q : Rat) (h : bl q.den ≤ 1099511627776) (w : World) : Calls Tryz.prog 86 #[qV q] w fun e w'=>e = .returned (A8 q.den) ∧ A3 w w':=by
 go_enter Tryz.func86,Tryz.ntmps86
 refine en2 ?_
 intro u hG b2 b1 hB hF
 refine wp_seq ?_
 refine wp_seq (rsE A6 [0,1] hB hG fun L hL=>?_)
 refine gs ?_
 refine gmw (C:=fun v=>A4b _ (by assumption) _) ?_
 refine geT hL ?_
 clear hB hG hL L
 rintro u ⟨-,hB,hG,-⟩
 refine wp_cond_split rfl ?_ ?_
 ·intro ht
  have ht4:=ht
  refine wp_seq (rsC A6 [1] hB hG fun K L hN hL=>?_)
  refine gmw (C:=fun v=>B0F _) ?_
  refine geC hL ?_
  clear hB hG hL L
  rintro u ⟨-,hB,hG,-⟩
  refine gtT ?_
  clear hN K
  refine st hB hF hG 1 0 [_,_] ?_
  clear hB hG
  intro u hB hG
  refine rt Tryz.results86 ?_
  have e : q.den = 1:=of_decide_eq_true ht
  exact ⟨A5G e.symm,hG⟩
 ·intro ht
  have ht4:=ht
  refine wp_skip ?_
  refine A4 ?_
  refine r0T ?_
  refine st hB hF hG 1 0 [_,_] ?_
  clear hB hG
  intro u hB hG
  refine rt Tryz.results86 ?_
  have e : q.den ≠ 1:=of_decide_eq_false ht
  exact ⟨A5G (A5R e),hG⟩
theorem B2H (q : Rat) (w : World) : Calls Tryz.prog 99 #[qV q] w fun e w'=>e = .returned (D5 q.num) ∧ A3 w w':=by
 go_enter Tryz.func99,Tryz.ntmps99
 refine en2 ?_
 intro u hG b2 b1 hB hF
 refine r0T ?_
 refine st hB hF hG 1 0 [_,_,_] ?_
 clear hB hG
 intro u hB hG
 refine rt Tryz.results99 ?_
 exact ⟨rfl,hG⟩
theorem X1 (q : Rat) (h : bl q.num.natAbs ≤ 1099511627776) (w : World) : Calls Tryz.prog 75 #[qV q] w fun e w'=>e = .returned (.int .i64 q.num.sign) ∧ A3 w w':=by
 go_enter Tryz.func75,Tryz.ntmps75
 refine en1 ?_
 intro u hG b1 hB hF
 refine wp_seq (rsE A6 [0,0,1,0] hB hG fun L hL=>?_)
 refine gs ?_
 refine gmw (C:=fun v=>A1n _ (by assumption) _) ?_
 refine gs ?_
 refine geT hL ?_
 clear hB hG hL L
 rintro u ⟨-,hB,hG,-⟩
 refine rt Tryz.results75 ?_
 exact ⟨rfl,hG⟩
theorem A2y (n : Int) (d : Nat) (h : bl d ≤ 1099511627776) (w : World) : Calls Tryz.prog 141 #[D5 n,A8 d] w fun e w'=>e = .returned (nqV n d) ∧ A3 w w':=by
 go_enter Tryz.func141,Tryz.ntmps141
 refine en3 ?_
 intro u hG b4 b3 b2 hB hF
 refine wp_seq ?_
 refine wp_seq (rsE A6 [0,1,0] hB hG fun L hL=>?_)
 refine gs ?_
 refine gmw (C:=fun v=>M0 _ (by assumption) _) ?_
 refine gs ?_
 refine geT hL ?_
 clear hB hG hL L
 rintro u ⟨-,hB,hG,-⟩
 refine wp_cond_split rfl ?_ ?_
 ·intro ht
  have ht7:=ht
  refine r0T ?_
  refine st hB hF hG 2 0 [_,_,_,_,_] ?_
  clear hB hG
  intro u hB hG
  refine rt Tryz.results141 ?_
  have e : d = 1:=A3Y.1 (by simp at ht;omega)
  subst e
  exact ⟨rfl,hG⟩
 ·intro ht
  have ht7:=ht
  refine wp_skip ?_
  refine A4 ?_
  refine r0T ?_
  refine st hB hF hG 2 0 [_,_,_,_,_] ?_
  clear hB hG
  intro u hB hG
  refine rt Tryz.results141 ?_
  have e : d ≠ 1:=fun e=>by
   have h2:=A3Y.2 e
   rw [h2] at ht
   simp at ht
  exact ⟨by rw [nqV,A5R e],hG⟩
theorem A0l (a b : Nat) (ha : bl a ≤ BIG) (hb : bl b ≤ BIG) (h0 : b ≠ 0) (w : World) : Calls Tryz.prog 151 #[A8 a,A8 b] w fun e w'=>e = .returned (A8 (a / b)) ∧ A3 w w':=by
 have hb':=M6 hb
 go_enter Tryz.func151,Tryz.ntmps151
 refine en3 ?_
 intro u hG b4 b3 b2 hB hF
 refine wp_seq ?_
 refine wp_seq (rsE A6 [0,1,0] hB hG fun L hL=>?_)
 refine gs ?_
 refine gmw (C:=fun v=>M0 _ (by assumption) _) ?_
 refine gs ?_
 refine geT hL ?_
 clear hB hG hL L
 rintro u ⟨-,hB,hG,-⟩
 refine wp_cond_split rfl ?_ ?_
 ·intro ht
  have ht10:=ht
  refine r0T ?_
  refine st hB hF hG 2 0 [_,_] ?_
  clear hB hG
  intro u hB hG
  refine rt Tryz.results151 ?_
  have e : b = 1:=A3Y.1 (by simp at ht;omega)
  exact ⟨A5G (by rw [e,Nat.div_one]),hG⟩
 ·intro ht
  have ht10:=ht
  refine wp_skip ?_
  refine A4 ?_
  refine wp_seq (rsC A6 [0,0,1,0,0,0,0,2,2] hB hG fun K L hN hL=>?_)
  refine gs ?_
  refine gmw (C:=fun v=>A1t _ _ (by assumption) (by assumption) (by assumption) _) ?_
  refine gs ?_
  refine gaa (I0 _ _ _ _ _) fun b5 hb5 hn5=>?_
  refine gaa (I0 _ _ _ _ _) fun b6 hb6 hn6=>?_
  replace hF:=hF.n1 [] hB hG hb5 hn5
  replace hF:=hF.n1 [b5] hB hG hb6 hn6
  refine geC hL ?_
  clear hB hG hL L
  rintro u ⟨⟨⟨-,hB,hG,-⟩,h5⟩,h6⟩
  replace hB:=hB.cons' h5
  replace hB:=hB.cons' h6
  clear h5 h6
  clear hb5 hn5 hb6 hn6
  have hD : b5 ≠ b6 ∧ b6 ≠ b5:=⟨hF.ne 1 0 rfl rfl (by decide),hF.ne 0 1 rfl rfl (by decide)⟩
  refine gtT ?_
  clear hN K
  clear hD
  refine st2 hB hF hG 1 0 [_,_] 0 0 [_,_] ?_
  clear hB hG
  intro u hB hG
  refine r0T ?_
  refine st hB hF hG 4 0 [_,_] ?_
  clear hB hG
  intro u hB hG
  refine rt Tryz.results151 ?_
  exact ⟨rfl,hG⟩
theorem A3U (n : Int) (b : Nat) (ha : bl n.natAbs ≤ BIG) (hb : bl b ≤ BIG) (h0 : b ≠ 0) (w : World) : Calls Tryz.prog 150 #[D5 n,A8 b] w fun e w'=>e = .returned (D5 (ztd n b)) ∧ A3 w w':=by
 have ha':=M6 ha
 have hd : bl (n.natAbs / b) ≤ 1099511627776:=Nat.le_trans (K9 _ _) ha'
 go_enter Tryz.func150,Tryz.ntmps150
 refine en3 ?_
 intro u hG b4 b3 b2 hB hF
 refine wp_seq (rdC A6 [] [(0,0),(0,3),(0,5),(1,1),(0,2),(1,4),(1,6),(1,7)] hB hG fun K L hN hL=>?_)
 refine gs ?_
 refine gmw (C:=fun v=>A1n _ (by assumption) _) ?_
 refine gs ?_
 refine gmw (C:=fun v=>A1k _ _) ?_
 refine gmw (C:=fun v=>A0l _ _ (by assumption) (by assumption) (by assumption) _) ?_
 refine gmw (C:=fun v=>O4 _ _ (by assumption) _) ?_
 refine geC hL ?_
 clear hB hG hL L
 rintro u ⟨-,hB,hG,-⟩
 refine gtT ?_
 clear hN K
 refine st hB hF hG 2 0 [_,_,_] ?_
 clear hB hG
 intro u hB hG
 refine rt Tryz.results150 ?_
 exact ⟨A0d (A32 n b),hG⟩
theorem A07 (n : Int) (d : Nat) (h : bl n.natAbs + bl d ≤ 1099511627776) (w : World) : Calls Tryz.prog 85 #[D5 n,A8 d] w fun e w'=>e = .returned (D5 (ztm n d)) ∧ A3 w w':=by
 have hd : bl d ≤ 1099511627776:=by omega
 have h' : bl n.natAbs + bl (sgn false d).natAbs ≤ 1099511627776:=h
 go_enter Tryz.func85,Tryz.ntmps85
 refine en3 ?_
 intro u hG b4 b3 b2 hB hF
 refine wp_seq (rdC A6 [] [(0,0),(0,1),(1,2),(1,3)] hB hG fun K L hN hL=>?_)
 refine gs ?_
 refine gmw (C:=fun v=>O4 _ _ (by assumption) _) ?_
 refine gmw (C:=fun v=>A3z _ _ (by assumption) _) ?_
 refine geC hL ?_
 clear hB hG hL L
 rintro u ⟨-,hB,hG,-⟩
 refine gtT ?_
 clear hN K
 refine st hB hF hG 2 0 [_,_,_] ?_
 clear hB hG
 intro u hB hG
 refine rt Tryz.results85 ?_
 exact ⟨rfl,hG⟩
theorem A14 (n : Int) (d : Nat) (hn : bl n.natAbs ≤ BIG) (hd : bl d ≤ BIG) (w : World) (HT : Tab w) : Calls Tryz.prog 149 #[D5 n,D5 (sgn false d)] w fun e w'=>e = .returned (A8 (Nat.gcd n.natAbs d)) ∧ A3 w w':=by
 have := B26 n (sgn false d) hn (by rw [O9];exact hd) w HT
 rw [O9] at this
 exact this
theorem B0A (c d : Nat) (hc : bl c ≤ BIG) (hd : bl d ≤ BIG) (w : World) (HT : Tab w) : Calls Tryz.prog 149 #[D5 (sgn false c),D5 (sgn false d)] w fun e w'=>e = .returned (A8 (Nat.gcd c d)) ∧ A3 w w':=by
 have := A14 (sgn false c) d (by rw [O9];exact hc) hd w HT
 rw [O9] at this
 exact this
theorem A5f (n : Int) (d : Nat) (hn : bl n.natAbs ≤ BIG) (hd : bl d ≤ BIG) (h0 : d ≠ 0) (w : World) (HT : Tab w) : Calls Tryz.prog 117 #[D5 n,A8 d] w fun e w'=>e = .returned (qV (mkRat n d)) ∧ A3 w w':=by
 have hd':=M6 hd
 have hg : bl (Nat.gcd n.natAbs d) ≤ BIG:=Nat.le_trans (A3Z _ _ h0) hd
 have hg0 : Nat.gcd n.natAbs d ≠ 0:=fun e=>h0 (Nat.eq_zero_of_gcd_eq_zero_right e)
 have hdd : bl (d / Nat.gcd n.natAbs d) ≤ 1099511627776:=Nat.le_trans (K9 _ _) hd'
 go_enter Tryz.func117,Tryz.ntmps117
 refine en3 ?_
 intro u hG b4 b3 b2 hB hF
 refine wp_seq (rdC A6 [] [(0,0),(0,1),(1,2),(1,3),(2,4)] hB hG fun K L hN hL=>?_)
 refine gs ?_
 refine gmw (C:=fun v=>O4 _ _ (by assumption) _) ?_
 refine gmd (C:=fun v ⟨hgu,hB,hG,_⟩=>A14 n d hn hd _ (HT.grow hG)) ?_
 refine gaa (I0 _ _ _ _ _) fun b5 hb5 hn5=>?_
 replace hF:=hF.n1 [] hB hG hb5 hn5
 refine geC hL ?_
 clear hB hG hL L
 rintro u ⟨⟨-,hB,hG,-⟩,h5⟩
 replace hB:=hB.cons' h5
 clear h5
 clear hb5 hn5
 refine gtT ?_
 clear hN K
 refine st hB hF hG 0 0 [_,_] ?_
 clear hB hG
 intro u hB hG
 refine wp_seq (rdC A6 [] [(0,0),(0,1),(0,3),(0,4),(1,2),(1,5),(1,6)] hB hG fun K L hN hL=>?_)
 refine gs ?_
 refine gmw (C:=fun v=>A3U n (Nat.gcd n.natAbs d) hn hg hg0 _) ?_
 refine gmw (C:=fun v=>A0l d (Nat.gcd n.natAbs d) hd hg hg0 _) ?_
 refine gmw (C:=fun v=>A2y _ _ (by assumption) _) ?_
 refine geC hL ?_
 clear hB hG hL L
 rintro u ⟨-,hB,hG,-⟩
 refine gtT ?_
 clear hN K
 refine st hB hF hG 3 0 [_,_,_,_,_] ?_
 clear hB hG
 intro u hB hG
 refine rt Tryz.results117 ?_
 exact ⟨A0f (A4R n d h0) (A5C n d h0),hG⟩
def I5 (a b : Rat) : Rat:=a + b
def H4 (a b : Rat) : Rat:=a - b
def F5 (a b : Rat) : Rat:=a * b
def A1c (a b : Rat) : Rat:=a / b
def U8 (a : Rat) : Rat:=-a
def D8 (n : Int) : Rat:=(n : Rat)
def nz (d : Int) : Bool:=decide (d ≠ 0)
def nzq (q : Rat) : Bool:=decide (q ≠ 0)
def F2 (n d : Int) : Rat:=Rat.divInt n d
theorem A36 (n : Int) : (D8 n).num = n:=Rat.num_intCast n
theorem A30 (n : Int) : (D8 n).den = 1:=Rat.den_intCast n
theorem A3D (n : Int) (h0 : -9223372036854775808 ≤ n) (h1 : n ≤ 9223372036854775807) (w : World) : Calls Tryz.prog 35 #[.int .i64 n] w fun e w'=>e = .returned (qV (D8 n)) ∧ A3 w w':=by
 go_enter Tryz.func35,Tryz.ntmps35
 refine en1 ?_
 intro u hG b2 hB hF
 refine wp_seq (rsC A6 [0,1,0] hB hG fun K L hN hL=>?_)
 refine gs ?_
 refine gmw (C:=fun v=>B4i _ (by assumption) (by assumption) _) ?_
 refine gs ?_
 refine geC hL ?_
 clear hB hG hL L
 rintro u ⟨-,hB,hG,-⟩
 refine gtT ?_
 clear hN K
 refine st hB hF hG 0 0 [_,_,_,_,_] ?_
 clear hB hG
 intro u hB hG
 refine rt Tryz.results35 ?_
 exact ⟨A0f (d:=1) (A36 n) (A30 n),hG⟩
theorem A4w (n d : Int) (h : ¬ d < 0) : F2 n d = mkRat n d.natAbs:=by
 obtain ⟨m,rfl⟩ : ∃ m : Nat,d = (m : Int):=⟨d.natAbs,by omega⟩
 unfold F2
 rw [Rat.divInt_ofNat,Int.natAbs_natCast]
theorem A5I (n d : Int) (h : d < 0) : F2 n d = mkRat (N7 n) d.natAbs:=by
 obtain ⟨m,rfl⟩ : ∃ m : Nat,d = -(m : Int):=⟨d.natAbs,by omega⟩
 unfold F2 N7
 rw [Rat.divInt_neg',Rat.divInt_ofNat,Int.natAbs_neg,Int.natAbs_natCast]
theorem A6o (z : Int) : bl (N7 z).natAbs = bl z.natAbs:=by unfold N7;rw [Int.natAbs_neg]
theorem A2q {p q : Rat} {a b : Bool} (h : p = q) (h' : a = b) : Ending.returned (.tuple #[qV p,.bool a]) = .returned (.tuple #[qV q,.bool b]):=by rw [h,h']
theorem B0W (n d : Int) (hn : bl n.natAbs ≤ BIG) (hd : bl d.natAbs ≤ BIG) (w : World) (HT : Tab w) : Calls Tryz.prog 77 #[D5 n,D5 d] w fun e w'=>e = .returned (.tuple #[qV (F2 n d),.bool (nz d)]) ∧ A3 w w':=by
 have hn':=M6 hn
 have hd':=M6 hd
 have hz : bl (N7 n).natAbs ≤ BIG:=by rw [A6o];exact hn
 go_enter Tryz.func77,Tryz.ntmps77
 refine en3 ?_
 intro u hG b4 b3 b2 hB hF
 refine wp_seq ?_
 refine wp_seq (rsE A6 [0,1,0] hB hG fun L hL=>?_)
 refine gs ?_
 refine gmw (C:=fun v=>A1n _ (by assumption) _) ?_
 refine gs ?_
 refine geT hL ?_
 clear hB hG hL L
 rintro u ⟨-,hB,hG,-⟩
 refine wp_cond_split rfl ?_ ?_
 ·intro ht
  have ht8:=ht
  refine r0T ?_
  refine st hB hF hG 2 0 [_,_,_,_,_] ?_
  clear hB hG
  intro u hB hG
  refine rt Tryz.results77 ?_
  have e : d = 0:=by simpa using ht
  subst e
  exact ⟨A2q (p:=0) (by unfold F2;rw [Rat.divInt_zero]) rfl,hG⟩
 ·intro ht
  have ht8:=ht
  have hd0 : d.natAbs ≠ 0:=fun e=>by
   have : d = 0:=by omega
   rw [this] at ht
   simp at ht
  refine wp_skip ?_
  refine A4 ?_
  refine wp_seq ?_
  refine wp_seq (rsE A6 [0,1,0] hB hG fun L hL=>?_)
  refine gs ?_
  refine gmw (C:=fun v=>A1n _ (by assumption) _) ?_
  refine gs ?_
  refine geT hL ?_
  clear hB hG hL L
  rintro u ⟨-,hB,hG,-⟩
  refine wp_cond_split rfl ?_ ?_
  ·intro ht
   have ht12:=ht
   refine rsC A6 [0,1] hB hG fun K L hN hL=>?_
   refine gs ?_
   refine gmw (C:=fun v=>A5s _ (by assumption) _) ?_
   refine geC hL ?_
   clear hB hG hL L
   rintro u ⟨-,hB,hG,-⟩
   refine gtT ?_
   clear hN K
   refine st hB hF hG 0 0 [_,_,_] ?_
   clear hB hG
   intro u hB hG
   refine wp_seq (rdC A6 [] [(0,0),(0,1),(1,2),(1,3)] hB hG fun K L hN hL=>?_)
   refine gs ?_
   refine gmw (C:=fun v=>A1k _ _) ?_
   refine gmd (C:=fun v ⟨hgu,hB,hG,_⟩=>A5f _ _ (by assumption) (by assumption) (by assumption) _ (HT.grow hG)) ?_
   refine geC hL ?_
   clear hB hG hL L
   rintro u ⟨-,hB,hG,-⟩
   refine gtT ?_
   clear hN K
   refine st hB hF hG 2 0 [_,_,_,_,_] ?_
   clear hB hG
   intro u hB hG
   refine rt Tryz.results77 ?_
   have e : d < 0:=by simpa using ht
   exact ⟨A2q (A5I n d e).symm (decide_eq_true (by omega)).symm,hG⟩
  ·intro ht
   have ht12:=ht
   refine wp_skip ?_
   refine A4 ?_
   refine wp_seq (rdC A6 [] [(0,0),(0,1),(1,2),(1,3)] hB hG fun K L hN hL=>?_)
   refine gs ?_
   refine gmw (C:=fun v=>A1k _ _) ?_
   refine gmd (C:=fun v ⟨hgu,hB,hG,_⟩=>A5f _ _ (by assumption) (by assumption) (by assumption) _ (HT.grow hG)) ?_
   refine geC hL ?_
   clear hB hG hL L
   rintro u ⟨-,hB,hG,-⟩
   refine gtT ?_
   clear hN K
   refine st hB hF hG 2 0 [_,_,_,_,_] ?_
   clear hB hG
   intro u hB hG
   refine rt Tryz.results77 ?_
   have e : ¬ d < 0:=by simpa using ht
   exact ⟨A2q (A4w n d e).symm (decide_eq_true (by omega)).symm,hG⟩
theorem A8f {n : Int} (h0 : -9223372036854775808 ≤ n) (h1 : n ≤ 9223372036854775807) : bl n.natAbs ≤ BIG:=by
 refine Nat.le_trans (M8.2 ?_) A5d
 have : (2 : Nat) ^ 64 = 18446744073709551616:=rfl
 omega
theorem B1n (q : Rat) (h : bl q.num.natAbs ≤ 1099511627776) (w : World) : Calls Tryz.prog 148 #[qV q] w fun e w'=>e = .returned (qV (U8 q)) ∧ A3 w w':=by
 go_enter Tryz.func148,Tryz.ntmps148
 refine en2 ?_
 intro u hG b2 b1 hB hF
 refine wp_seq (rdC A6 [] [(0,0),(0,1),(0,3),(0,4),(1,2),(0,5)] hB hG fun K L hN hL=>?_)
 refine gs ?_
 refine gmw (C:=fun v=>A5s _ (by assumption) _) ?_
 refine gs ?_
 refine geC hL ?_
 clear hB hG hL L
 rintro u ⟨-,hB,hG,-⟩
 refine gtT ?_
 clear hN K
 refine st hB hF hG 1 0 [_,_,_,_,_] ?_
 clear hB hG
 intro u hB hG
 refine rt Tryz.results148 ?_
 exact ⟨A0f (Rat.neg_num q) (Rat.neg_den q),hG⟩
theorem V3 (q : Rat) (h : bl q.den ≤ 1099511627776) (h1 : q.den = 1) (w : World) : Calls Tryz.prog 83 #[qV q] w fun e w'=>e = .returned (.bool true) ∧ A3 w w':=by
 have := A4b q h w
 rw [decide_eq_true h1] at this
 exact this
theorem V6 (q : Rat) (h : bl q.den ≤ 1099511627776) (h1 : ¬ q.den = 1) (w : World) : Calls Tryz.prog 83 #[qV q] w fun e w'=>e = .returned (.bool false) ∧ A3 w w':=by
 have := A4b q h w
 rw [decide_eq_false h1] at this
 exact this
section
variable (a b : Rat) (w : World)
theorem A9A (h : qs a + qs b + 1 ≤ BIG) (ha1 : a.den = 1) (hb1 : b.den = 1) : Calls Tryz.prog 45 #[qV a,qV b] w fun e w'=>e = .returned (.int .i64 (F1 a b)) ∧ A3 w w':=by
 have hB40:=L9
 have h1 : bl a.num.natAbs ≤ 1099511627776:=by have := F6 a;omega
 have h2 : bl b.num.natAbs ≤ 1099511627776:=by have := F6 b;omega
 have h3 : bl a.den ≤ 1099511627776:=by have := F0 a;omega
 have h4 : bl b.den ≤ 1099511627776:=by have := F0 b;omega
 have Ha1:=Lib.hid ha1
 have Hb1:=Lib.hid hb1
 clear ha1 hb1
 go_enter Tryz.func45,Tryz.ntmps45
 refine en2 ?_
 intro u hG b3 b2 hB hF
 refine wp_seq ?_
 refine wp_seq (rdC A6 [] [(0,0),(1,1),(0,2),(0,3),(1,4),(0,5),(0,6),(0,7),(0,9),(1,8),(1,10),(0,11)] hB hG fun K L hN hL=>?_)
 refine gs ?_
 refine gmw (C:=fun v=>V3 a h3 Ha1.out _) ?_
 refine gs ?_
 first | refine gmw (C:=fun v=>V3 b h4 Hb1.out _) ?_ | refine E9 ?_
 refine gs ?_
 first | refine gmw (C:=fun v=>X1 _ (by assumption) _) ?_ | refine E9 ?_
 first | refine gmw (C:=fun v=>X1 _ (by assumption) _) ?_ | refine E9 ?_
 refine gs ?_
 refine geC hL ?_
 clear hB hG hL L
 rintro u ⟨-,hB,hG,-⟩
 refine gtT ?_
 clear hN K
 refine wp_cond_true (rfl) ?_
 refine wp_seq (rsE A6 [0,0,0,0,1,0] hB hG fun L hL=>?_)
 refine gs ?_
 refine gmw (C:=fun v=>A2T _ _ (by assumption) (by assumption) _) ?_
 refine gs ?_
 refine geT hL ?_
 clear hB hG hL L
 rintro u ⟨-,hB,hG,-⟩
 refine rt Tryz.results45 ?_
 exact ⟨I3 (B3S Ha1.out Hb1.out).symm,hG⟩
theorem A9h (h : qs a + qs b + 1 ≤ BIG) (ha1 : a.den = 1) (hb1 : ¬ b.den = 1) : Calls Tryz.prog 45 #[qV a,qV b] w fun e w'=>e = .returned (.int .i64 (F1 a b)) ∧ A3 w w':=by
 have hB40:=L9
 have h1 : bl a.num.natAbs ≤ 1099511627776:=by have := F6 a;omega
 have h2 : bl b.num.natAbs ≤ 1099511627776:=by have := F6 b;omega
 have h3 : bl a.den ≤ 1099511627776:=by have := F0 a;omega
 have h4 : bl b.den ≤ 1099511627776:=by have := F0 b;omega
 have h5 : bl a.num.natAbs + bl b.den ≤ 1099511627776:=by have := F6 a;have := F0 b;omega
 have h6 : bl b.num.natAbs + bl a.den ≤ 1099511627776:=by have := F6 b;have := F0 a;omega
 have h7 : bl (ztm a.num b.den).natAbs ≤ 1099511627776:=by unfold ztm;rw [Int.natAbs_mul];exact Nat.le_trans (L8 _ _) h5
 have h8 : bl (ztm b.num a.den).natAbs ≤ 1099511627776:=by unfold ztm;rw [Int.natAbs_mul];exact Nat.le_trans (L8 _ _) h6
 have Ha1:=Lib.hid ha1
 have Hb1:=Lib.hid hb1
 clear ha1 hb1
 go_enter Tryz.func45,Tryz.ntmps45
 refine en2 ?_
 intro u hG b3 b2 hB hF
 refine wp_seq ?_
 refine wp_seq (rdC A6 [] [(0,0),(1,1),(0,2),(0,3),(1,4),(0,5),(0,6),(0,7),(0,9),(1,8),(1,10),(0,11)] hB hG fun K L hN hL=>?_)
 refine gs ?_
 refine gmw (C:=fun v=>V3 a h3 Ha1.out _) ?_
 refine gs ?_
 first | refine gmw (C:=fun v=>V6 b h4 Hb1.out _) ?_ | refine E9 ?_
 refine gs ?_
 first | refine gmw (C:=fun v=>X1 _ (by assumption) _) ?_ | refine E9 ?_
 first | refine gmw (C:=fun v=>X1 _ (by assumption) _) ?_ | refine E9 ?_
 refine gs ?_
 refine geC hL ?_
 clear hB hG hL L
 rintro u ⟨-,hB,hG,-⟩
 refine gtT ?_
 clear hN K
 refine wp_cond_split rfl ?_ ?_
 ·intro ht
  have ht17:=ht
  refine wp_seq (rsE A6 [0,0,0,0,1,0] hB hG fun L hL=>?_)
  refine gs ?_
  refine gmw (C:=fun v=>A2T _ _ (by assumption) (by assumption) _) ?_
  refine gs ?_
  refine geT hL ?_
  clear hB hG hL L
  rintro u ⟨-,hB,hG,-⟩
  refine rt Tryz.results45 ?_
  exact ⟨I3 (A6H (by simpa using ht)).symm,hG⟩
 ·intro ht
  have ht17:=ht
  refine wp_skip ?_
  refine A4 ?_
  refine wp_seq (rdC A6 [] [(0,0),(0,1),(0,2),(0,5),(0,6),(0,7),(1,3),(1,4),(1,8),(1,9),(1,10)] hB hG fun K L hN hL=>?_)
  refine gs ?_
  refine gmw (C:=fun v=>P7 _ (by assumption) _) ?_
  refine gmw (C:=fun v=>A07 _ _ (by assumption) _) ?_
  refine gmw (C:=fun v=>P7 _ (by assumption) _) ?_
  refine gmw (C:=fun v=>A07 _ _ (by assumption) _) ?_
  refine gmw (C:=fun v=>A2T _ _ (by assumption) (by assumption) _) ?_
  refine geC hL ?_
  clear hB hG hL L
  rintro u ⟨-,hB,hG,-⟩
  refine gtT ?_
  clear hN K
  refine rt Tryz.results45 ?_
  exact ⟨I3 (A1y a b).symm,hG⟩
theorem B2G (h : qs a + qs b + 1 ≤ BIG) (ha1 : ¬ a.den = 1) : Calls Tryz.prog 45 #[qV a,qV b] w fun e w'=>e = .returned (.int .i64 (F1 a b)) ∧ A3 w w':=by
 have hB40:=L9
 have h1 : bl a.num.natAbs ≤ 1099511627776:=by have := F6 a;omega
 have h2 : bl b.num.natAbs ≤ 1099511627776:=by have := F6 b;omega
 have h3 : bl a.den ≤ 1099511627776:=by have := F0 a;omega
 have h4 : bl b.den ≤ 1099511627776:=by have := F0 b;omega
 have h5 : bl a.num.natAbs + bl b.den ≤ 1099511627776:=by have := F6 a;have := F0 b;omega
 have h6 : bl b.num.natAbs + bl a.den ≤ 1099511627776:=by have := F6 b;have := F0 a;omega
 have h7 : bl (ztm a.num b.den).natAbs ≤ 1099511627776:=by unfold ztm;rw [Int.natAbs_mul];exact Nat.le_trans (L8 _ _) h5
 have h8 : bl (ztm b.num a.den).natAbs ≤ 1099511627776:=by unfold ztm;rw [Int.natAbs_mul];exact Nat.le_trans (L8 _ _) h6
 have Ha1:=Lib.hid ha1
 clear ha1
 go_enter Tryz.func45,Tryz.ntmps45
 refine en2 ?_
 intro u hG b3 b2 hB hF
 refine wp_seq ?_
 refine wp_seq (rdC A6 [] [(0,0),(1,1),(0,2),(0,3),(1,4),(0,5),(0,6),(0,7),(0,9),(1,8),(1,10),(0,11)] hB hG fun K L hN hL=>?_)
 refine gs ?_
 refine gmw (C:=fun v=>V6 a h3 Ha1.out _) ?_
 refine gs ?_
 first | refine gmw (C:=fun v=>V6 a h3 Ha1.out _) ?_ | refine E9 ?_
 refine gs ?_
 first | refine gmw (C:=fun v=>X1 _ (by assumption) _) ?_ | refine E9 ?_
 first | refine gmw (C:=fun v=>X1 _ (by assumption) _) ?_ | refine E9 ?_
 refine gs ?_
 refine geC hL ?_
 clear hB hG hL L
 rintro u ⟨-,hB,hG,-⟩
 refine gtT ?_
 clear hN K
 refine wp_cond_split rfl ?_ ?_
 ·intro ht
  have ht17:=ht
  refine wp_seq (rsE A6 [0,0,0,0,1,0] hB hG fun L hL=>?_)
  refine gs ?_
  refine gmw (C:=fun v=>A2T _ _ (by assumption) (by assumption) _) ?_
  refine gs ?_
  refine geT hL ?_
  clear hB hG hL L
  rintro u ⟨-,hB,hG,-⟩
  refine rt Tryz.results45 ?_
  exact ⟨I3 (A6H (by simpa using ht)).symm,hG⟩
 ·intro ht
  have ht17:=ht
  refine wp_skip ?_
  refine A4 ?_
  refine wp_seq (rdC A6 [] [(0,0),(0,1),(0,2),(0,5),(0,6),(0,7),(1,3),(1,4),(1,8),(1,9),(1,10)] hB hG fun K L hN hL=>?_)
  refine gs ?_
  refine gmw (C:=fun v=>P7 _ (by assumption) _) ?_
  refine gmw (C:=fun v=>A07 _ _ (by assumption) _) ?_
  refine gmw (C:=fun v=>P7 _ (by assumption) _) ?_
  refine gmw (C:=fun v=>A07 _ _ (by assumption) _) ?_
  refine gmw (C:=fun v=>A2T _ _ (by assumption) (by assumption) _) ?_
  refine geC hL ?_
  clear hB hG hL L
  rintro u ⟨-,hB,hG,-⟩
  refine gtT ?_
  clear hN K
  refine rt Tryz.results45 ?_
  exact ⟨I3 (A1y a b).symm,hG⟩
theorem A24 (h : qs a + qs b + 1 ≤ BIG) : Calls Tryz.prog 45 #[qV a,qV b] w fun e w'=>e = .returned (.int .i64 (F1 a b)) ∧ A3 w w':=by
 by_cases ha1 : a.den = 1
 ·by_cases hb1 : b.den = 1
  ·exact A9A a b w h ha1 hb1
  ·exact A9h a b w h ha1 hb1
 ·exact B2G a b w h ha1
theorem A3P (q : Rat) (h : q.den = 1) : q = (q.num : Rat):=Rat.ext (Rat.num_intCast _).symm (by rw [h];exact (Rat.den_intCast _).symm)
theorem A99 (h : qs a + qs b + 1 ≤ BIG) (ha1 : a.den = 1) (hb1 : b.den = 1) : Calls Tryz.prog 122 #[qV a,qV b] w fun e w'=>e = .returned (qV (I5 a b)) ∧ A3 w w':=by
 have hB40:=L9
 have h1 : bl a.num.natAbs < 1099511627776:=by have := F6 a;omega
 have h2 : bl b.num.natAbs < 1099511627776:=by have := F6 b;have := B3O a;omega
 have h3 : bl a.den ≤ 1099511627776:=by have := F0 a;omega
 have h4 : bl b.den ≤ 1099511627776:=by have := F0 b;omega
 have e : I5 a b = ((a.num + b.num : Int) : Rat):=by
  unfold I5
  rw [Rat.intCast_add,← A3P a ha1,← A3P b hb1]
 have e1 : (I5 a b).num = Q9 a.num b.num:=by rw [e,Rat.num_intCast];rfl
 have e2 : (I5 a b).den = 1:=by rw [e,Rat.den_intCast]
 have He:=Lib.hid (And.intro e1 e2)
 clear e e1 e2
 have Ha1:=Lib.hid ha1
 have Hb1:=Lib.hid hb1
 clear ha1 hb1
 go_enter Tryz.func122,Tryz.ntmps122
 refine en3 ?_
 intro u hG b4 b3 b2 hB hF
 refine wp_seq ?_
 refine wp_seq (rsE A6 [0,1,0,0,1,0] hB hG fun L hL=>?_)
 refine gs ?_
 refine gmw (C:=fun v=>V3 a h3 Ha1.out _) ?_
 refine gs ?_
 first | refine gmw (C:=fun v=>V3 b h4 Hb1.out _) ?_ | refine E9 ?_
 refine gs ?_
 refine geT hL ?_
 clear hB hG hL L
 rintro u ⟨-,hB,hG,-⟩
 refine wp_cond_true (rfl) ?_
 refine wp_seq (rsC A6 [0,0,0,0,1,0] hB hG fun K L hN hL=>?_)
 refine gs ?_
 refine gmw (C:=fun v=>A6h _ _ (by assumption) (by assumption) _) ?_
 refine gs ?_
 refine geC hL ?_
 clear hB hG hL L
 rintro u ⟨-,hB,hG,-⟩
 refine gtT ?_
 clear hN K
 refine st hB hF hG 2 0 [_,_,_,_,_] ?_
 clear hB hG
 intro u hB hG
 refine rt Tryz.results122 ?_
 exact ⟨A0f He.out.1 He.out.2,hG⟩
theorem B0o (h : qs a + qs b + 1 ≤ BIG) : bl (Nat.gcd a.den b.den) ≤ BIG ∧ Nat.gcd a.den b.den ≠ 0 ∧ bl a.den ≤ BIG ∧ bl b.den ≤ BIG ∧ bl a.num.natAbs + bl (b.den / Nat.gcd a.den b.den) ≤ 1099511627776 ∧ bl b.num.natAbs + bl (a.den / Nat.gcd a.den b.den) ≤ 1099511627776 ∧
  bl (ztm a.num (b.den / Nat.gcd a.den b.den)).natAbs < 1099511627776 ∧ bl (ztm b.num (a.den / Nat.gcd a.den b.den)).natAbs < 1099511627776 ∧ bl (Q9 (ztm a.num (b.den / Nat.gcd a.den b.den)) (ztm b.num (a.den / Nat.gcd a.den b.den))).natAbs ≤ BIG ∧
  bl (Nat.gcd (Q9 (ztm a.num (b.den / Nat.gcd a.den b.den)) (ztm b.num (a.den / Nat.gcd a.den b.den))).natAbs (Nat.gcd a.den b.den)) ≤ BIG ∧ Nat.gcd (Q9 (ztm a.num (b.den / Nat.gcd a.den b.den)) (ztm b.num (a.den / Nat.gcd a.den b.den))).natAbs (Nat.gcd a.den b.den) ≠ 0:=by
 have hB40:=L9
 have s1:=F6 a
 have s2:=F0 a
 have s3:=F6 b
 have s4:=F0 b
 have s5:=K9 b.den (Nat.gcd a.den b.den)
 have s6:=K9 a.den (Nat.gcd a.den b.den)
 have g0 : Nat.gcd a.den b.den ≠ 0:=fun e=>a.den_nz (Nat.eq_zero_of_gcd_eq_zero_left e)
 have g1:=A91 a.den b.den a.den_nz
 have up : bl (W4 a b).natAbs ≤ qs a + qs b + 1:=A68 a b
 have m1 : bl (ztm a.num (b.den / Nat.gcd a.den b.den)).natAbs ≤ bl a.num.natAbs + bl (b.den / Nat.gcd a.den b.den):=by unfold ztm;rw [Int.natAbs_mul];exact L8 _ _
 have m2 : bl (ztm b.num (a.den / Nat.gcd a.den b.den)).natAbs ≤ bl b.num.natAbs + bl (a.den / Nat.gcd a.den b.den):=by unfold ztm;rw [Int.natAbs_mul];exact L8 _ _
 refine ⟨by omega,g0,by omega,by omega,by omega,by omega,by omega,by omega,Nat.le_trans up h,Nat.le_trans (A3Z _ _ g0) (by omega),fun e=>g0 (Nat.eq_zero_of_gcd_eq_zero_right e)⟩
end
end Go.Proofs.YtjmopgepnndckaaGreatDoor
