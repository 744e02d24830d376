/- Contracts and laws. -/
import Derived.Test.YtgpglgbcobeogaaGreatDoorU19
set_option linter.unusedSimpArgs false
set_option linter.unusedVariables false
set_option maxHeartbeats 1000000
set_option maxRecDepth 100000
namespace Go.Proofs.YtgpglgbcobeogaaGreatDoor
abbrev nqV (n : Int) (d : Nat) : Value:=.agg #[.bool (E4 n),.int .u64 (B8 n.natAbs),.string (B7 n.natAbs),.int .u64 (B8 (O9 d)),.string (B7 (O9 d))]
theorem B49 : O9 1 = 0:=rfl
theorem A4U {d : Nat} (h : d ≠ 1) : O9 d = d:=if_neg h
theorem A6S {n : Int} {d : Nat} {q : Rat} (h1 : q.num = n) (h2 : q.den = d) : nqV n d = qV q:=by subst h1;subst h2;rfl
theorem A5T (n : Int) (b : Nat) : sgn (E4 n) (n.natAbs / b) = n.tdiv b:=by
 unfold sgn E4
 by_cases h : n < 0
 ·rw [if_pos (decide_eq_true h)]
  obtain ⟨m,rfl⟩ : ∃ m : Nat,n = -(m : Int):=⟨n.natAbs,by omega⟩
  rw [Int.neg_tdiv,Int.natAbs_neg,Int.natAbs_natCast,Int.ofNat_tdiv]
 ·rw [if_neg (by simpa using h)]
  obtain ⟨m,rfl⟩ : ∃ m : Nat,n = (m : Int):=⟨n.natAbs,by omega⟩
  rw [Int.natAbs_natCast,Int.ofNat_tdiv]
theorem A6i (a b : Rat) : (a * b).num = a.num.tdiv (Nat.gcd a.num.natAbs b.den) * b.num.tdiv (Nat.gcd b.num.natAbs a.den):=by
 show (Rat.mul a b).num = _
 unfold Rat.mul
 simp only [Int.divExact_eq_tdiv]
theorem A8G (a b : Rat) : (a * b).den = a.den / Nat.gcd b.num.natAbs a.den * (b.den / Nat.gcd a.num.natAbs b.den):=by
 show (Rat.mul a b).den = _
 unfold Rat.mul
 simp only [Nat.divExact_eq_div]
def A0A (a b : Rat) : Int:=a.num * ((b.den / Nat.gcd a.den b.den : Nat) : Int) + b.num * ((a.den / Nat.gcd a.den b.den : Nat) : Int)
def hOf (a b : Rat) : Nat:=Nat.gcd (A0A a b).natAbs (Nat.gcd a.den b.den)
theorem A7y (a b : Rat) (h : a.den / Nat.gcd a.den b.den * b.den ≠ 0) : a + b = Rat.normalize (A0A a b) (a.den / Nat.gcd a.den b.den * b.den) h:=by
 rw [Rat.add_def]
 have hg : Nat.gcd a.den b.den ≠ 0:=fun h0=>a.den_nz (Nat.eq_zero_of_gcd_eq_zero_left h0)
 obtain ⟨x,hx⟩:=Nat.gcd_dvd_left a.den b.den
 obtain ⟨y,hy⟩:=Nat.gcd_dvd_right a.den b.den
 have hxd : a.den / Nat.gcd a.den b.den = x:=Nat.div_eq_of_eq_mul_right (Nat.pos_of_ne_zero hg) hx
 have hyd : b.den / Nat.gcd a.den b.den = y:=Nat.div_eq_of_eq_mul_right (Nat.pos_of_ne_zero hg) hy
 rw [← Rat.normalize_mul_right (a:=Nat.gcd a.den b.den) h hg]
 congr 1
 ·unfold A0A
  rw [hxd,hyd]
  generalize Nat.gcd a.den b.den = g at *
  rw [hx,hy]
  push_cast
  grind
 ·rw [hxd]
  generalize Nat.gcd a.den b.den = g at *
  rw [hx]
  grind
theorem A8p (a b : Rat) : hOf a b = Nat.gcd (A0A a b).natAbs (a.den / Nat.gcd a.den b.den * b.den):=Rat.add.aux a b rfl rfl rfl
theorem A7l (a b : Rat) : a.den / Nat.gcd a.den b.den * b.den ≠ 0:=by
 have h1:=Nat.div_gcd_pos_of_pos_left b.den a.den_pos
 have h2:=b.den_pos
 exact Nat.ne_of_gt (Nat.mul_pos h1 h2)
theorem A7r (a b : Rat) : (a + b).num = (A0A a b).tdiv (hOf a b):=by
 rw [A7y a b (A7l a b),Rat.num_normalize,← A8p]
 refine (Int.tdiv_eq_ediv_of_dvd ?_).symm
 exact Int.ofNat_dvd_left.2 (Nat.gcd_dvd_left _ _)
theorem A6J (a b : Rat) : (a + b).den = a.den / Nat.gcd a.den b.den * (b.den / hOf a b):=by
 rw [A7y a b (A7l a b),Rat.den_normalize,← A8p]
 exact Nat.mul_div_assoc _ (Nat.dvd_trans (Nat.gcd_dvd_right _ _) (Nat.gcd_dvd_right _ _))
theorem A4Z (n : Int) (d : Nat) (h : d ≠ 0) : (mkRat n d).num = n.tdiv (Nat.gcd n.natAbs d):=by
 rw [← Rat.normalize_eq_mkRat h,Rat.num_normalize]
 exact (Int.tdiv_eq_ediv_of_dvd (Int.ofNat_dvd_left.2 (Nat.gcd_dvd_left _ _))).symm
theorem A5D (n : Int) (d : Nat) (h : d ≠ 0) : (mkRat n d).den = d / Nat.gcd n.natAbs d:=by
 rw [← Rat.normalize_eq_mkRat h,Rat.den_normalize]
def R8 (a b : Rat) : Int:=if a < b then -1 else if b < a then 1 else 0
theorem A37 (a b : Rat) : R8 a b = Q4 (a.num * b.den) (b.num * a.den):=by
 unfold R8 Q4
 simp only [Rat.lt_iff]
theorem B1m {a b : Rat} (ha : a.den = 1) (hb : b.den = 1) : R8 a b = Q4 a.num b.num:=by
 rw [A37,ha,hb];simp
theorem A7m {a b : Rat} (h : a.num.sign ≠ b.num.sign) : R8 a b = Q4 a.num b.num:=by
 rw [A37]
 have h1:=a.den_pos
 have h2:=b.den_pos
 generalize a.num = x at *
 generalize b.num = y at *
 generalize a.den = p at *
 generalize b.den = q at *
 have hx : (x * (q : Int)).sign = x.sign:=by rw [Int.sign_mul,Int.sign_eq_one_of_pos (a:=(q : Int)) (by omega),Int.mul_one]
 have hy : (y * (p : Int)).sign = y.sign:=by rw [Int.sign_mul,Int.sign_eq_one_of_pos (a:=(p : Int)) (by omega),Int.mul_one]
 rw [← hx,← hy] at h
 have key : ∀ u v : Int,u.sign ≠ v.sign → Q4 u v = Q4 u.sign v.sign:=by
  intro u v huv
  unfold Q4
  rcases Int.lt_trichotomy u 0 with hu | hu | hu <;> rcases Int.lt_trichotomy v 0 with hv | hv | hv <;>
   (first | (rw [Int.sign_eq_neg_one_of_neg hu] at huv ⊢) | (rw [hu,Int.sign_zero] at huv ⊢) | (rw [Int.sign_eq_one_of_pos hu] at huv ⊢)) <;>
   (first | (rw [Int.sign_eq_neg_one_of_neg hv] at huv ⊢) | (rw [hv,Int.sign_zero] at huv ⊢) | (rw [Int.sign_eq_one_of_pos hv] at huv ⊢)) <;>
   first | (exact absurd rfl huv) | (split <;> (try split) <;> simp <;> omega)
 rw [key _ _ h,hx,hy]
 rw [hx,hy] at h
 exact (key _ _ h).symm
def qs (q : Rat) : Nat:=max (bl q.num.natAbs) (bl q.den)
theorem G4 (q : Rat) : bl q.num.natAbs ≤ qs q:=Nat.le_max_left _ _
theorem G6 (q : Rat) : bl q.den ≤ qs q:=Nat.le_max_right _ _
theorem A2O (n : Int) (g : Nat) : (n.tdiv g).natAbs ≤ n.natAbs:=by
 rw [Int.natAbs_tdiv];exact Nat.div_le_self _ _
theorem T4 (a b : Rat) : qs (a * b) ≤ qs a + qs b:=by
 refine Nat.max_le.2 ⟨?_,?_⟩
 ·rw [A6i,Int.natAbs_mul]
  refine Nat.le_trans (N6 _ _) ?_
  have h1:=O8 (A2O a.num (Nat.gcd a.num.natAbs b.den))
  have h2:=O8 (A2O b.num (Nat.gcd b.num.natAbs a.den))
  have := G4 a
  have := G4 b
  omega
 ·rw [A8G]
  refine Nat.le_trans (N6 _ _) ?_
  have h1:=L0 a.den (Nat.gcd b.num.natAbs a.den)
  have h2:=L0 b.den (Nat.gcd a.num.natAbs b.den)
  have := G6 a
  have := G6 b
  omega
theorem A6U (a b : Rat) : bl (A0A a b).natAbs ≤ qs a + qs b + 1:=by
 unfold A0A
 have h1:=N6 a.num.natAbs (b.den / Nat.gcd a.den b.den)
 have h2:=N6 b.num.natAbs (a.den / Nat.gcd a.den b.den)
 have h3:=L0 b.den (Nat.gcd a.den b.den)
 have h4:=L0 a.den (Nat.gcd a.den b.den)
 have := G4 a
 have := G6 a
 have := G4 b
 have := G6 b
 refine Nat.le_trans (O8 (Int.natAbs_add_le _ _)) ?_
 rw [Int.natAbs_mul,Int.natAbs_mul,Int.natAbs_natCast,Int.natAbs_natCast]
 refine Nat.le_trans (A68 _ _) ?_
 omega
theorem A2i (a b : Rat) : qs (a + b) ≤ qs a + qs b + 1:=by
 refine Nat.max_le.2 ⟨?_,?_⟩
 ·rw [A7r]
  exact Nat.le_trans (O8 (A2O _ _)) (A6U a b)
 ·rw [A6J]
  refine Nat.le_trans (N6 _ _) ?_
  have h1:=L0 a.den (Nat.gcd a.den b.den)
  have h2:=L0 b.den (hOf a b)
  have := G6 a
  have := G6 b
  omega
theorem A3E (a : Rat) : qs (-a) = qs a:=by
 unfold qs;rw [Rat.neg_num,Rat.neg_den,Int.natAbs_neg]
theorem A2r (a b : Rat) : qs (a - b) ≤ qs a + qs b + 1:=by
 rw [Rat.sub_eq_add_neg]
 have := A2i a (-b)
 rw [A3E] at this
 exact this
theorem A8E (a : Rat) (h : a ≠ 0) : qs a⁻¹ = qs a:=by
 have h0 : a.num ≠ 0:=fun e=>h (Rat.num_eq_zero.1 e)
 unfold qs
 rw [Rat.num_inv,Rat.den_inv,if_neg h0,Int.natAbs_mul,Int.natAbs_natCast,Int.natAbs_sign_of_ne_zero h0,Nat.one_mul,Nat.max_comm]
theorem A56 (a b : Rat) : qs (a / b) ≤ qs a + qs b:=by
 by_cases h : b = 0
 ·subst h
  have : a / 0 = 0:=by rw [Rat.div_def,Rat.inv_zero,Rat.mul_zero]
  rw [this]
  have h0 : qs 0 = 1:=by show max (bl 0) (bl 1) = 1;rw [A0a,A2U.2 rfl];rfl
  have : 0 < bl a.den:=Q5.2 a.den_nz
  have := G6 a
  omega
 ·rw [Rat.div_def,← A8E b h]
  exact T4 _ _
theorem B5F (a : Rat) : 1 ≤ qs a:=by
 have : 0 < bl a.den:=Q5.2 a.den_nz
 have := G6 a
 omega
theorem A9N (n : Int) (k : Nat) (h : n.natAbs < 2 ^ k) (hk : 1 ≤ k) : qs (n : Rat) ≤ k:=by
 refine Nat.max_le.2 ⟨?_,?_⟩
 ·rw [Rat.num_intCast];exact O3.2 h
 ·rw [Rat.den_intCast];exact Nat.le_trans (by decide) hk
end Go.Proofs.YtgpglgbcobeogaaGreatDoor
namespace Go.Proofs.YtgpglgbcobeogaaGreatDoor
open Go.RowKit
theorem B2c {p q : Rat} (h : p = q) : Ending.returned (qV p) = .returned (qV q):=by rw [h]
theorem A03 {n : Int} {d : Nat} {q : Rat} (h1 : q.num = n) (h2 : q.den = d) : Ending.returned (nqV n d) = .returned (qV q):=by rw [A6S h1 h2]
theorem A4y {a b : Nat} (h : a = b) : Ending.returned (B4 a) = .returned (B4 b):=by rw [h]
theorem B45 {d : Nat} (h : bl d ≤ 1099511627776) : bl (O9 d) ≤ 1099511627776:=by
 unfold O9;split
 ·rw [A0a];omega
 ·exact h
theorem A5u (q : Rat) (h : bl q.den ≤ 1099511627776) (w : World) : Calls Tryz.prog 81 #[qV q] w fun e w'=>e = .returned (.bool (decide (q.den = 1))) ∧ A4 w w':=by
 have hk:=B45 h
 have hd : decide (q.den = 1) = ((bl (O9 q.den) : Int) == 0):=by
  have h2:=q.den_pos
  by_cases h1 : q.den = 1
  ·rw [h1,B49,A0a];rfl
  ·rw [A4U h1,decide_eq_false h1]
   have : bl q.den ≠ 0:=fun e=>by have := X5.1 e;omega
   symm
   simpa using this
 rw [hd]
 clear hd
 go_enter Tryz.func81,Tryz.ntmps81
 refine en1 ?_
 intro u hG b1 hB hF
 refine wp_seq (rsE A8 [0,0,1,0,0] hB hG fun L hL=>?_)
 refine gs ?_
 refine gmw (C:=fun v=>N0 _ (by assumption) _) ?_
 refine gs ?_
 refine geT hL ?_
 clear hB hG hL L
 rintro u ⟨-,hB,hG,-⟩
 refine rt Tryz.results81 ?_
 exact ⟨rfl,hG⟩
theorem B5V (w : World) : Calls Tryz.prog 143 #[.int .u64 1] w fun e w'=>e = .returned (B4 1) ∧ A4 w w':=A2g 1 (by unfold W64;omega) w
theorem R4 (q : Rat) (h : bl q.den ≤ 1099511627776) (w : World) : Calls Tryz.prog 84 #[qV q] w fun e w'=>e = .returned (B4 q.den) ∧ A4 w w':=by
 go_enter Tryz.func84,Tryz.ntmps84
 refine en2 ?_
 intro u hG b2 b1 hB hF
 refine wp_seq ?_
 refine wp_seq (rsE A8 [0,1] hB hG fun L hL=>?_)
 refine gs ?_
 refine gmw (C:=fun v=>A5u _ (by assumption) _) ?_
 refine geT hL ?_
 clear hB hG hL L
 rintro u ⟨-,hB,hG,-⟩
 refine wp_cond_split rfl ?_ ?_
 ·intro ht
  have ht4:=ht
  refine wp_seq (rsC A8 [1] hB hG fun K L hN hL=>?_)
  refine gmw (C:=fun v=>B5V _) ?_
  refine geC hL ?_
  clear hB hG hL L
  rintro u ⟨-,hB,hG,-⟩
  refine gtT ?_
  clear hN K
  refine st hB hF hG 1 0 [_,_] ?_
  clear hB hG
  intro u hB hG
  refine rt Tryz.results84 ?_
  have e : q.den = 1:=of_decide_eq_true ht
  exact ⟨A4y e.symm,hG⟩
 ·intro ht
  have ht4:=ht
  refine wp_skip ?_
  refine A6 ?_
  refine r0T ?_
  refine st hB hF hG 1 0 [_,_] ?_
  clear hB hG
  intro u hB hG
  refine rt Tryz.results84 ?_
  have e : q.den ≠ 1:=of_decide_eq_false ht
  exact ⟨A4y (A4U e),hG⟩
theorem B41 (q : Rat) (w : World) : Calls Tryz.prog 151 #[qV q] w fun e w'=>e = .returned (D8 q.num) ∧ A4 w w':=by
 go_enter Tryz.func151,Tryz.ntmps151
 refine en2 ?_
 intro u hG b2 b1 hB hF
 refine r0T ?_
 refine st hB hF hG 1 0 [_,_,_] ?_
 clear hB hG
 intro u hB hG
 refine rt Tryz.results151 ?_
 exact ⟨rfl,hG⟩
theorem Q8 (q : Rat) (h : bl q.num.natAbs ≤ 1099511627776) (w : World) : Calls Tryz.prog 36 #[qV q] w fun e w'=>e = .returned (.int .i64 q.num.sign) ∧ A4 w w':=by
 go_enter Tryz.func36,Tryz.ntmps36
 refine en1 ?_
 intro u hG b1 hB hF
 refine wp_seq (rsE A8 [0,0,1,0] hB hG fun L hL=>?_)
 refine gs ?_
 refine gmw (C:=fun v=>A2k _ (by assumption) _) ?_
 refine gs ?_
 refine geT hL ?_
 clear hB hG hL L
 rintro u ⟨-,hB,hG,-⟩
 refine rt Tryz.results36 ?_
 exact ⟨rfl,hG⟩
theorem A3m (n : Int) (d : Nat) (h : bl d ≤ 1099511627776) (w : World) : Calls Tryz.prog 85 #[D8 n,B4 d] w fun e w'=>e = .returned (nqV n d) ∧ A4 w w':=by
 go_enter Tryz.func85,Tryz.ntmps85
 refine en3 ?_
 intro u hG b4 b3 b2 hB hF
 refine wp_seq ?_
 refine wp_seq (rsE A8 [0,1,0] hB hG fun L hL=>?_)
 refine gs ?_
 refine gmw (C:=fun v=>N0 _ (by assumption) _) ?_
 refine gs ?_
 refine geT hL ?_
 clear hB hG hL L
 rintro u ⟨-,hB,hG,-⟩
 refine wp_cond_split rfl ?_ ?_
 ·intro ht
  have ht7:=ht
  refine r0T ?_
  refine st hB hF hG 2 0 [_,_,_,_,_] ?_
  clear hB hG
  intro u hB hG
  refine rt Tryz.results85 ?_
  have e : d = 1:=A2U.1 (by simp at ht;omega)
  subst e
  exact ⟨rfl,hG⟩
 ·intro ht
  have ht7:=ht
  refine wp_skip ?_
  refine A6 ?_
  refine r0T ?_
  refine st hB hF hG 2 0 [_,_,_,_,_] ?_
  clear hB hG
  intro u hB hG
  refine rt Tryz.results85 ?_
  have e : d ≠ 1:=fun e=>by
   have h2:=A2U.2 e
   rw [h2] at ht
   simp at ht
  exact ⟨by rw [nqV,A4U e],hG⟩
theorem A1e (a b : Nat) (ha : bl a ≤ BIG) (hb : bl b ≤ BIG) (h0 : b ≠ 0) (w : World) : Calls Tryz.prog 87 #[B4 a,B4 b] w fun e w'=>e = .returned (B4 (a / b)) ∧ A4 w w':=by
 have hb':=O2 hb
 go_enter Tryz.func87,Tryz.ntmps87
 refine en3 ?_
 intro u hG b4 b3 b2 hB hF
 refine wp_seq ?_
 refine wp_seq (rsE A8 [0,1,0] hB hG fun L hL=>?_)
 refine gs ?_
 refine gmw (C:=fun v=>N0 _ (by assumption) _) ?_
 refine gs ?_
 refine geT hL ?_
 clear hB hG hL L
 rintro u ⟨-,hB,hG,-⟩
 refine wp_cond_split rfl ?_ ?_
 ·intro ht
  have ht10:=ht
  refine r0T ?_
  refine st hB hF hG 2 0 [_,_] ?_
  clear hB hG
  intro u hB hG
  refine rt Tryz.results87 ?_
  have e : b = 1:=A2U.1 (by simp at ht;omega)
  exact ⟨A4y (by rw [e,Nat.div_one]),hG⟩
 ·intro ht
  have ht10:=ht
  refine wp_skip ?_
  refine A6 ?_
  refine wp_seq (rsC A8 [0,0,1,0,0,0,0,2,2] hB hG fun K L hN hL=>?_)
  refine gs ?_
  refine gmw (C:=fun v=>A24 _ _ (by assumption) (by assumption) (by assumption) _) ?_
  refine gs ?_
  refine gaa (J3 _ _ _ _ _) fun b5 hb5 hn5=>?_
  refine gaa (J3 _ _ _ _ _) fun b6 hb6 hn6=>?_
  replace hF:=hF.n1 [] hB hG hb5 hn5
  replace hF:=hF.n1 [b5] hB hG hb6 hn6
  refine geC hL ?_
  clear hB hG hL L
  rintro u ⟨⟨⟨-,hB,hG,-⟩,h5⟩,h6⟩
  replace hB:=hB.cons' h5
  replace hB:=hB.cons' h6
  clear h5 h6
  clear hb5 hn5 hb6 hn6
  have hD : b5 ≠ b6 ∧ b6 ≠ b5:=⟨hF.ne 1 0 rfl rfl (by decide),hF.ne 0 1 rfl rfl (by decide)⟩
  refine gtT ?_
  clear hN K
  clear hD
  refine st2 hB hF hG 1 0 [_,_] 0 0 [_,_] ?_
  clear hB hG
  intro u hB hG
  refine r0T ?_
  refine st hB hF hG 4 0 [_,_] ?_
  clear hB hG
  intro u hB hG
  refine rt Tryz.results87 ?_
  exact ⟨rfl,hG⟩
theorem A3h (n : Int) (b : Nat) (ha : bl n.natAbs ≤ BIG) (hb : bl b ≤ BIG) (h0 : b ≠ 0) (w : World) : Calls Tryz.prog 86 #[D8 n,B4 b] w fun e w'=>e = .returned (D8 (ztd n b)) ∧ A4 w w':=by
 have ha':=O2 ha
 have hd : bl (n.natAbs / b) ≤ 1099511627776:=Nat.le_trans (L0 _ _) ha'
 go_enter Tryz.func86,Tryz.ntmps86
 refine en3 ?_
 intro u hG b4 b3 b2 hB hF
 refine wp_seq (rdC A8 [] [(0,0),(0,3),(0,5),(1,1),(0,2),(1,4),(1,6),(1,7)] hB hG fun K L hN hL=>?_)
 refine gs ?_
 refine gmw (C:=fun v=>A2k _ (by assumption) _) ?_
 refine gs ?_
 refine gmw (C:=fun v=>A14 _ _) ?_
 refine gmw (C:=fun v=>A1e _ _ (by assumption) (by assumption) (by assumption) _) ?_
 refine gmw (C:=fun v=>O6 _ _ (by assumption) _) ?_
 refine geC hL ?_
 clear hB hG hL L
 rintro u ⟨-,hB,hG,-⟩
 refine gtT ?_
 clear hN K
 refine st hB hF hG 2 0 [_,_,_] ?_
 clear hB hG
 intro u hB hG
 refine rt Tryz.results86 ?_
 exact ⟨A1P (A5T n b),hG⟩
theorem A1o (n : Int) (d : Nat) (h : bl n.natAbs + bl d ≤ 1099511627776) (w : World) : Calls Tryz.prog 90 #[D8 n,B4 d] w fun e w'=>e = .returned (D8 (ztm n d)) ∧ A4 w w':=by
 have hd : bl d ≤ 1099511627776:=by omega
 have h' : bl n.natAbs + bl (sgn false d).natAbs ≤ 1099511627776:=h
 go_enter Tryz.func90,Tryz.ntmps90
 refine en3 ?_
 intro u hG b4 b3 b2 hB hF
 refine wp_seq (rdC A8 [] [(0,0),(0,1),(1,2),(1,3)] hB hG fun K L hN hL=>?_)
 refine gs ?_
 refine gmw (C:=fun v=>O6 _ _ (by assumption) _) ?_
 refine gmw (C:=fun v=>A40 _ _ (by assumption) _) ?_
 refine geC hL ?_
 clear hB hG hL L
 rintro u ⟨-,hB,hG,-⟩
 refine gtT ?_
 clear hN K
 refine st hB hF hG 2 0 [_,_,_] ?_
 clear hB hG
 intro u hB hG
 refine rt Tryz.results90 ?_
 exact ⟨rfl,hG⟩
theorem A2s (n : Int) (d : Nat) (hn : bl n.natAbs ≤ BIG) (hd : bl d ≤ BIG) (w : World) (HT : Tab w) : Calls Tryz.prog 83 #[D8 n,D8 (sgn false d)] w fun e w'=>e = .returned (B4 (Nat.gcd n.natAbs d)) ∧ A4 w w':=by
 have := B0w n (sgn false d) hn (by rw [U5];exact hd) w HT
 rw [U5] at this
 exact this
theorem B0r (c d : Nat) (hc : bl c ≤ BIG) (hd : bl d ≤ BIG) (w : World) (HT : Tab w) : Calls Tryz.prog 83 #[D8 (sgn false c),D8 (sgn false d)] w fun e w'=>e = .returned (B4 (Nat.gcd c d)) ∧ A4 w w':=by
 have := A2s (sgn false c) d (by rw [U5];exact hc) hd w HT
 rw [U5] at this
 exact this
theorem A8U (n : Int) (d : Nat) (hn : bl n.natAbs ≤ BIG) (hd : bl d ≤ BIG) (h0 : d ≠ 0) (w : World) (HT : Tab w) : Calls Tryz.prog 130 #[D8 n,B4 d] w fun e w'=>e = .returned (qV (mkRat n d)) ∧ A4 w w':=by
 have hd':=O2 hd
 have hg : bl (Nat.gcd n.natAbs d) ≤ BIG:=Nat.le_trans (A3r _ _ h0) hd
 have hg0 : Nat.gcd n.natAbs d ≠ 0:=fun e=>h0 (Nat.eq_zero_of_gcd_eq_zero_right e)
 have hdd : bl (d / Nat.gcd n.natAbs d) ≤ 1099511627776:=Nat.le_trans (L0 _ _) hd'
 go_enter Tryz.func130,Tryz.ntmps130
 refine en3 ?_
 intro u hG b4 b3 b2 hB hF
 refine wp_seq (rdC A8 [] [(0,0),(0,1),(1,2),(1,3),(2,4)] hB hG fun K L hN hL=>?_)
 refine gs ?_
 refine gmw (C:=fun v=>O6 _ _ (by assumption) _) ?_
 refine gmd (C:=fun v ⟨hgu,hB,hG,_⟩=>A2s n d hn hd _ (HT.grow hG)) ?_
 refine gaa (J3 _ _ _ _ _) fun b5 hb5 hn5=>?_
 replace hF:=hF.n1 [] hB hG hb5 hn5
 refine geC hL ?_
 clear hB hG hL L
 rintro u ⟨⟨-,hB,hG,-⟩,h5⟩
 replace hB:=hB.cons' h5
 clear h5
 clear hb5 hn5
 refine gtT ?_
 clear hN K
 refine st hB hF hG 0 0 [_,_] ?_
 clear hB hG
 intro u hB hG
 refine wp_seq (rdC A8 [] [(0,0),(0,1),(0,3),(0,4),(1,2),(1,5),(1,6)] hB hG fun K L hN hL=>?_)
 refine gs ?_
 refine gmw (C:=fun v=>A3h n (Nat.gcd n.natAbs d) hn hg hg0 _) ?_
 refine gmw (C:=fun v=>A1e d (Nat.gcd n.natAbs d) hd hg hg0 _) ?_
 refine gmw (C:=fun v=>A3m _ _ (by assumption) _) ?_
 refine geC hL ?_
 clear hB hG hL L
 rintro u ⟨-,hB,hG,-⟩
 refine gtT ?_
 clear hN K
 refine st hB hF hG 3 0 [_,_,_,_,_] ?_
 clear hB hG
 intro u hB hG
 refine rt Tryz.results130 ?_
 exact ⟨A03 (A4Z n d h0) (A5D n d h0),hG⟩
end Go.Proofs.YtgpglgbcobeogaaGreatDoor
