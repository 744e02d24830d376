/- Contracts and laws. -/
import Derived.Test.YtjmopgepnndckaaGreatDoorK22
set_option linter.unusedSimpArgs false
set_option linter.unusedVariables false
set_option maxHeartbeats 1000000
set_option maxRecDepth 100000
namespace Go.Proofs.YtjmopgepnndckaaGreatDoor
abbrev nqV (n : Int) (d : Nat) : Value:=.agg #[.bool (C1 n),.int .u64 (B1 n.natAbs),.string (A8 n.natAbs),.int .u64 (B1 (D9 d)),.string (A8 (D9 d))]
theorem A7m : D9 1 = 0:=rfl
theorem A3A {d : Nat} (h : d ≠ 1) : D9 d = d:=if_neg h
theorem A5h {n : Int} {d : Nat} {q : Rat} (h1 : q.num = n) (h2 : q.den = d) : nqV n d = qV q:=by subst h1;subst h2;rfl
theorem A3s (n : Int) (b : Nat) : sgn (C1 n) (n.natAbs / b) = n.tdiv b:=by
 unfold sgn C1
 by_cases h : n < 0
 ·rw [if_pos (decide_eq_true h)]
  obtain ⟨m,rfl⟩ : ∃ m : Nat,n = -(m : Int):=⟨n.natAbs,by omega⟩
  rw [Int.neg_tdiv,Int.natAbs_neg,Int.natAbs_natCast,Int.ofNat_tdiv]
 ·rw [if_neg (by simpa using h)]
  obtain ⟨m,rfl⟩ : ∃ m : Nat,n = (m : Int):=⟨n.natAbs,by omega⟩
  rw [Int.natAbs_natCast,Int.ofNat_tdiv]
theorem A4t (a b : Rat) : (a * b).num = a.num.tdiv (Nat.gcd a.num.natAbs b.den) * b.num.tdiv (Nat.gcd b.num.natAbs a.den):=by
 show (Rat.mul a b).num = _
 unfold Rat.mul
 simp only [Int.divExact_eq_tdiv]
theorem A6f (a b : Rat) : (a * b).den = a.den / Nat.gcd b.num.natAbs a.den * (b.den / Nat.gcd a.num.natAbs b.den):=by
 show (Rat.mul a b).den = _
 unfold Rat.mul
 simp only [Nat.divExact_eq_div]
def R7 (a b : Rat) : Int:=a.num * ((b.den / Nat.gcd a.den b.den : Nat) : Int) + b.num * ((a.den / Nat.gcd a.den b.den : Nat) : Int)
def hOf (a b : Rat) : Nat:=Nat.gcd (R7 a b).natAbs (Nat.gcd a.den b.den)
theorem A7e (a b : Rat) (h : a.den / Nat.gcd a.den b.den * b.den ≠ 0) : a + b = Rat.normalize (R7 a b) (a.den / Nat.gcd a.den b.den * b.den) h:=by
 rw [Rat.add_def]
 have hg : Nat.gcd a.den b.den ≠ 0:=fun h0=>a.den_nz (Nat.eq_zero_of_gcd_eq_zero_left h0)
 obtain ⟨x,hx⟩:=Nat.gcd_dvd_left a.den b.den
 obtain ⟨y,hy⟩:=Nat.gcd_dvd_right a.den b.den
 have hxd : a.den / Nat.gcd a.den b.den = x:=Nat.div_eq_of_eq_mul_right (Nat.pos_of_ne_zero hg) hx
 have hyd : b.den / Nat.gcd a.den b.den = y:=Nat.div_eq_of_eq_mul_right (Nat.pos_of_ne_zero hg) hy
 rw [← Rat.normalize_mul_right (a:=Nat.gcd a.den b.den) h hg]
 congr 1
 ·unfold R7
  rw [hxd,hyd]
  generalize Nat.gcd a.den b.den = g at *
  rw [hx,hy]
  push_cast
  grind
 ·rw [hxd]
  generalize Nat.gcd a.den b.den = g at *
  rw [hx]
  grind
theorem A4x (a b : Rat) : hOf a b = Nat.gcd (R7 a b).natAbs (a.den / Nat.gcd a.den b.den * b.den):=Rat.add.aux a b rfl rfl rfl
theorem A51 (a b : Rat) : a.den / Nat.gcd a.den b.den * b.den ≠ 0:=by
 have h1:=Nat.div_gcd_pos_of_pos_left b.den a.den_pos
 have h2:=b.den_pos
 exact Nat.ne_of_gt (Nat.mul_pos h1 h2)
theorem A5y (a b : Rat) : (a + b).num = (R7 a b).tdiv (hOf a b):=by
 rw [A7e a b (A51 a b),Rat.num_normalize,← A4x]
 refine (Int.tdiv_eq_ediv_of_dvd ?_).symm
 exact Int.ofNat_dvd_left.2 (Nat.gcd_dvd_left _ _)
theorem A5g (a b : Rat) : (a + b).den = a.den / Nat.gcd a.den b.den * (b.den / hOf a b):=by
 rw [A7e a b (A51 a b),Rat.den_normalize,← A4x]
 exact Nat.mul_div_assoc _ (Nat.dvd_trans (Nat.gcd_dvd_right _ _) (Nat.gcd_dvd_right _ _))
theorem A3f (n : Int) (d : Nat) (h : d ≠ 0) : (mkRat n d).num = n.tdiv (Nat.gcd n.natAbs d):=by
 rw [← Rat.normalize_eq_mkRat h,Rat.num_normalize]
 exact (Int.tdiv_eq_ediv_of_dvd (Int.ofNat_dvd_left.2 (Nat.gcd_dvd_left _ _))).symm
theorem A32 (n : Int) (d : Nat) (h : d ≠ 0) : (mkRat n d).den = d / Nat.gcd n.natAbs d:=by
 rw [← Rat.normalize_eq_mkRat h,Rat.den_normalize]
def E2 (a b : Rat) : Int:=if a < b then -1 else if b < a then 1 else 0
theorem A2E (a b : Rat) : E2 a b = M4 (a.num * b.den) (b.num * a.den):=by
 unfold E2 M4
 simp only [Rat.lt_iff]
theorem B1F {a b : Rat} (ha : a.den = 1) (hb : b.den = 1) : E2 a b = M4 a.num b.num:=by
 rw [A2E,ha,hb];simp
theorem A4s {a b : Rat} (h : a.num.sign ≠ b.num.sign) : E2 a b = M4 a.num b.num:=by
 rw [A2E]
 have h1:=a.den_pos
 have h2:=b.den_pos
 generalize a.num = x at *
 generalize b.num = y at *
 generalize a.den = p at *
 generalize b.den = q at *
 have hx : (x * (q : Int)).sign = x.sign:=by rw [Int.sign_mul,Int.sign_eq_one_of_pos (a:=(q : Int)) (by omega),Int.mul_one]
 have hy : (y * (p : Int)).sign = y.sign:=by rw [Int.sign_mul,Int.sign_eq_one_of_pos (a:=(p : Int)) (by omega),Int.mul_one]
 rw [← hx,← hy] at h
 have key : ∀ u v : Int,u.sign ≠ v.sign → M4 u v = M4 u.sign v.sign:=by
  intro u v huv
  unfold M4
  rcases Int.lt_trichotomy u 0 with hu | hu | hu <;> rcases Int.lt_trichotomy v 0 with hv | hv | hv <;>
   (first | (rw [Int.sign_eq_neg_one_of_neg hu] at huv ⊢) | (rw [hu,Int.sign_zero] at huv ⊢) | (rw [Int.sign_eq_one_of_pos hu] at huv ⊢)) <;>
   (first | (rw [Int.sign_eq_neg_one_of_neg hv] at huv ⊢) | (rw [hv,Int.sign_zero] at huv ⊢) | (rw [Int.sign_eq_one_of_pos hv] at huv ⊢)) <;>
   first | (exact absurd rfl huv) | (split <;> (try split) <;> simp <;> omega)
 rw [key _ _ h,hx,hy]
 rw [hx,hy] at h
 exact (key _ _ h).symm
def qs (q : Rat) : Nat:=max (bl q.num.natAbs) (bl q.den)
theorem F5 (q : Rat) : bl q.num.natAbs ≤ qs q:=Nat.le_max_left _ _
theorem E6 (q : Rat) : bl q.den ≤ qs q:=Nat.le_max_right _ _
theorem A07 (n : Int) (g : Nat) : (n.tdiv g).natAbs ≤ n.natAbs:=by
 rw [Int.natAbs_tdiv];exact Nat.div_le_self _ _
theorem A3i (a b : Rat) : qs (a * b) ≤ qs a + qs b:=by
 refine Nat.max_le.2 ⟨?_,?_⟩
 ·rw [A4t,Int.natAbs_mul]
  refine Nat.le_trans (M6 _ _) ?_
  have h1:=K5 (A07 a.num (Nat.gcd a.num.natAbs b.den))
  have h2:=K5 (A07 b.num (Nat.gcd b.num.natAbs a.den))
  have := F5 a
  have := F5 b
  omega
 ·rw [A6f]
  refine Nat.le_trans (M6 _ _) ?_
  have h1:=I4 a.den (Nat.gcd b.num.natAbs a.den)
  have h2:=I4 b.den (Nat.gcd a.num.natAbs b.den)
  have := E6 a
  have := E6 b
  omega
theorem A6P (a b : Rat) : bl (R7 a b).natAbs ≤ qs a + qs b + 1:=by
 unfold R7
 have h1:=M6 a.num.natAbs (b.den / Nat.gcd a.den b.den)
 have h2:=M6 b.num.natAbs (a.den / Nat.gcd a.den b.den)
 have h3:=I4 b.den (Nat.gcd a.den b.den)
 have h4:=I4 a.den (Nat.gcd a.den b.den)
 have := F5 a
 have := E6 a
 have := F5 b
 have := E6 b
 refine Nat.le_trans (K5 (Int.natAbs_add_le _ _)) ?_
 rw [Int.natAbs_mul,Int.natAbs_mul,Int.natAbs_natCast,Int.natAbs_natCast]
 refine Nat.le_trans (A6y _ _) ?_
 omega
theorem A5e (a b : Rat) : qs (a + b) ≤ qs a + qs b + 1:=by
 refine Nat.max_le.2 ⟨?_,?_⟩
 ·rw [A5y]
  exact Nat.le_trans (K5 (A07 _ _)) (A6P a b)
 ·rw [A5g]
  refine Nat.le_trans (M6 _ _) ?_
  have h1:=I4 a.den (Nat.gcd a.den b.den)
  have h2:=I4 b.den (hOf a b)
  have := E6 a
  have := E6 b
  omega
theorem A5Z (a : Rat) : qs (-a) = qs a:=by
 unfold qs;rw [Rat.neg_num,Rat.neg_den,Int.natAbs_neg]
theorem A38 (a b : Rat) : qs (a - b) ≤ qs a + qs b + 1:=by
 rw [Rat.sub_eq_add_neg]
 have := A5e a (-b)
 rw [A5Z] at this
 exact this
theorem A97 (a : Rat) (h : a ≠ 0) : qs a⁻¹ = qs a:=by
 have h0 : a.num ≠ 0:=fun e=>h (Rat.num_eq_zero.1 e)
 unfold qs
 rw [Rat.num_inv,Rat.den_inv,if_neg h0,Int.natAbs_mul,Int.natAbs_natCast,Int.natAbs_sign_of_ne_zero h0,Nat.one_mul,Nat.max_comm]
theorem A8X (a : Rat) : 1 ≤ qs a:=by
 have : 0 < bl a.den:=O0.2 a.den_nz
 have := E6 a
 omega
theorem A6d (n : Int) (k : Nat) (h : n.natAbs < 2 ^ k) (hk : 1 ≤ k) : qs (n : Rat) ≤ k:=by
 refine Nat.max_le.2 ⟨?_,?_⟩
 ·rw [Rat.num_intCast];exact K4.2 h
 ·rw [Rat.den_intCast];exact Nat.le_trans (by decide) hk
end Go.Proofs.YtjmopgepnndckaaGreatDoor
namespace Go.Proofs.YtjmopgepnndckaaGreatDoor
open Go.RowKit
theorem A6L {p q : Rat} (h : p = q) : Ending.returned (qV p) = .returned (qV q):=by rw [h]
theorem A0N {n : Int} {d : Nat} {q : Rat} (h1 : q.num = n) (h2 : q.den = d) : Ending.returned (nqV n d) = .returned (qV q):=by rw [A5h h1 h2]
theorem A4P {a b : Nat} (h : a = b) : Ending.returned (A5 a) = .returned (A5 b):=by rw [h]
theorem A9g {d : Nat} (h : bl d ≤ 1099511627776) : bl (D9 d) ≤ 1099511627776:=by
 unfold D9;split
 ·rw [Z6];omega
 ·exact h
theorem A3X (q : Rat) (h : bl q.den ≤ 1099511627776) (w : World) : Calls Tryz.prog 83 #[qV q] w fun e w'=>e = .returned (.bool (decide (q.den = 1))) ∧ A3 w w':=by
 have hk:=A9g h
 have hd : decide (q.den = 1) = ((bl (D9 q.den) : Int) == 0):=by
  have h2:=q.den_pos
  by_cases h1 : q.den = 1
  ·rw [h1,A7m,Z6];rfl
  ·rw [A3A h1,decide_eq_false h1]
   have : bl q.den ≠ 0:=fun e=>by have := R3.1 e;omega
   symm
   simpa using this
 rw [hd]
 clear hd
 go_enter Tryz.func83,Tryz.ntmps83
 refine en1 ?_
 intro u hG b1 hB hF
 refine wp_seq (rsE A6 [0,0,1,0,0] hB hG fun L hL=>?_)
 refine gs ?_
 refine gmw (C:=fun v=>I9 _ (by assumption) _) ?_
 refine gs ?_
 refine geT hL ?_
 clear hB hG hL L
 rintro u ⟨-,hB,hG,-⟩
 refine rt Tryz.results83 ?_
 exact ⟨rfl,hG⟩
theorem A9r (w : World) : Calls Tryz.prog 108 #[.int .u64 1] w fun e w'=>e = .returned (A5 1) ∧ A3 w w':=A1h 1 (by unfold W64;omega) w
theorem N7 (q : Rat) (h : bl q.den ≤ 1099511627776) (w : World) : Calls Tryz.prog 86 #[qV q] w fun e w'=>e = .returned (A5 q.den) ∧ A3 w w':=by
 go_enter Tryz.func86,Tryz.ntmps86
 refine en2 ?_
 intro u hG b2 b1 hB hF
 refine wp_seq ?_
 refine wp_seq (rsE A6 [0,1] hB hG fun L hL=>?_)
 refine gs ?_
 refine gmw (C:=fun v=>A3X _ (by assumption) _) ?_
 refine geT hL ?_
 clear hB hG hL L
 rintro u ⟨-,hB,hG,-⟩
 refine wp_cond_split rfl ?_ ?_
 ·intro ht
  have ht4:=ht
  refine wp_seq (rsC A6 [1] hB hG fun K L hN hL=>?_)
  refine gmw (C:=fun v=>A9r _) ?_
  refine geC hL ?_
  clear hB hG hL L
  rintro u ⟨-,hB,hG,-⟩
  refine gtT ?_
  clear hN K
  refine st hB hF hG 1 0 [_,_] ?_
  clear hB hG
  intro u hB hG
  refine rt Tryz.results86 ?_
  have e : q.den = 1:=of_decide_eq_true ht
  exact ⟨A4P e.symm,hG⟩
 ·intro ht
  have ht4:=ht
  refine wp_skip ?_
  refine A4 ?_
  refine r0T ?_
  refine st hB hF hG 1 0 [_,_] ?_
  clear hB hG
  intro u hB hG
  refine rt Tryz.results86 ?_
  have e : q.den ≠ 1:=of_decide_eq_false ht
  exact ⟨A4P (A3A e),hG⟩
theorem B1k (q : Rat) (w : World) : Calls Tryz.prog 99 #[qV q] w fun e w'=>e = .returned (C3 q.num) ∧ A3 w w':=by
 go_enter Tryz.func99,Tryz.ntmps99
 refine en2 ?_
 intro u hG b2 b1 hB hF
 refine r0T ?_
 refine st hB hF hG 1 0 [_,_,_] ?_
 clear hB hG
 intro u hB hG
 refine rt Tryz.results99 ?_
 exact ⟨rfl,hG⟩
theorem T7 (q : Rat) (h : bl q.num.natAbs ≤ 1099511627776) (w : World) : Calls Tryz.prog 75 #[qV q] w fun e w'=>e = .returned (.int .i64 q.num.sign) ∧ A3 w w':=by
 go_enter Tryz.func75,Tryz.ntmps75
 refine en1 ?_
 intro u hG b1 hB hF
 refine wp_seq (rsE A6 [0,0,1,0] hB hG fun L hL=>?_)
 refine gs ?_
 refine gmw (C:=fun v=>A1e _ (by assumption) _) ?_
 refine gs ?_
 refine geT hL ?_
 clear hB hG hL L
 rintro u ⟨-,hB,hG,-⟩
 refine rt Tryz.results75 ?_
 exact ⟨rfl,hG⟩
theorem A11 (n : Int) (d : Nat) (h : bl d ≤ 1099511627776) (w : World) : Calls Tryz.prog 141 #[C3 n,A5 d] w fun e w'=>e = .returned (nqV n d) ∧ A3 w w':=by
 go_enter Tryz.func141,Tryz.ntmps141
 refine en3 ?_
 intro u hG b4 b3 b2 hB hF
 refine wp_seq ?_
 refine wp_seq (rsE A6 [0,1,0] hB hG fun L hL=>?_)
 refine gs ?_
 refine gmw (C:=fun v=>I9 _ (by assumption) _) ?_
 refine gs ?_
 refine geT hL ?_
 clear hB hG hL L
 rintro u ⟨-,hB,hG,-⟩
 refine wp_cond_split rfl ?_ ?_
 ·intro ht
  have ht7:=ht
  refine r0T ?_
  refine st hB hF hG 2 0 [_,_,_,_,_] ?_
  clear hB hG
  intro u hB hG
  refine rt Tryz.results141 ?_
  have e : d = 1:=A2V.1 (by simp at ht;omega)
  subst e
  exact ⟨rfl,hG⟩
 ·intro ht
  have ht7:=ht
  refine wp_skip ?_
  refine A4 ?_
  refine r0T ?_
  refine st hB hF hG 2 0 [_,_,_,_,_] ?_
  clear hB hG
  intro u hB hG
  refine rt Tryz.results141 ?_
  have e : d ≠ 1:=fun e=>by
   have h2:=A2V.2 e
   rw [h2] at ht
   simp at ht
  exact ⟨by rw [nqV,A3A e],hG⟩
theorem A0A (a b : Nat) (ha : bl a ≤ BIG) (hb : bl b ≤ BIG) (h0 : b ≠ 0) (w : World) : Calls Tryz.prog 151 #[A5 a,A5 b] w fun e w'=>e = .returned (A5 (a / b)) ∧ A3 w w':=by
 have hb':=K3 hb
 go_enter Tryz.func151,Tryz.ntmps151
 refine en3 ?_
 intro u hG b4 b3 b2 hB hF
 refine wp_seq ?_
 refine wp_seq (rsE A6 [0,1,0] hB hG fun L hL=>?_)
 refine gs ?_
 refine gmw (C:=fun v=>I9 _ (by assumption) _) ?_
 refine gs ?_
 refine geT hL ?_
 clear hB hG hL L
 rintro u ⟨-,hB,hG,-⟩
 refine wp_cond_split rfl ?_ ?_
 ·intro ht
  have ht10:=ht
  refine r0T ?_
  refine st hB hF hG 2 0 [_,_] ?_
  clear hB hG
  intro u hB hG
  refine rt Tryz.results151 ?_
  have e : b = 1:=A2V.1 (by simp at ht;omega)
  exact ⟨A4P (by rw [e,Nat.div_one]),hG⟩
 ·intro ht
  have ht10:=ht
  refine wp_skip ?_
  refine A4 ?_
  refine wp_seq (rsC A6 [0,0,1,0,0,0,0,2,2] hB hG fun K L hN hL=>?_)
  refine gs ?_
  refine gmw (C:=fun v=>A1i _ _ (by assumption) (by assumption) (by assumption) _) ?_
  refine gs ?_
  refine gaa (F8 _ _ _ _ _) fun b5 hb5 hn5=>?_
  refine gaa (F8 _ _ _ _ _) fun b6 hb6 hn6=>?_
  replace hF:=hF.n1 [] hB hG hb5 hn5
  replace hF:=hF.n1 [b5] hB hG hb6 hn6
  refine geC hL ?_
  clear hB hG hL L
  rintro u ⟨⟨⟨-,hB,hG,-⟩,h5⟩,h6⟩
  replace hB:=hB.cons' h5
  replace hB:=hB.cons' h6
  clear h5 h6
  clear hb5 hn5 hb6 hn6
  have hD : b5 ≠ b6 ∧ b6 ≠ b5:=⟨hF.ne 1 0 rfl rfl (by decide),hF.ne 0 1 rfl rfl (by decide)⟩
  refine gtT ?_
  clear hN K
  clear hD
  refine st2 hB hF hG 1 0 [_,_] 0 0 [_,_] ?_
  clear hB hG
  intro u hB hG
  refine r0T ?_
  refine st hB hF hG 4 0 [_,_] ?_
  clear hB hG
  intro u hB hG
  refine rt Tryz.results151 ?_
  exact ⟨rfl,hG⟩
theorem A12 (n : Int) (b : Nat) (ha : bl n.natAbs ≤ BIG) (hb : bl b ≤ BIG) (h0 : b ≠ 0) (w : World) : Calls Tryz.prog 150 #[C3 n,A5 b] w fun e w'=>e = .returned (C3 (ztd n b)) ∧ A3 w w':=by
 have ha':=K3 ha
 have hd : bl (n.natAbs / b) ≤ 1099511627776:=Nat.le_trans (I4 _ _) ha'
 go_enter Tryz.func150,Tryz.ntmps150
 refine en3 ?_
 intro u hG b4 b3 b2 hB hF
 refine wp_seq (rdC A6 [] [(0,0),(0,3),(0,5),(1,1),(0,2),(1,4),(1,6),(1,7)] hB hG fun K L hN hL=>?_)
 refine gs ?_
 refine gmw (C:=fun v=>A1e _ (by assumption) _) ?_
 refine gs ?_
 refine gmw (C:=fun v=>A1R _ _) ?_
 refine gmw (C:=fun v=>A0A _ _ (by assumption) (by assumption) (by assumption) _) ?_
 refine gmw (C:=fun v=>O3 _ _ (by assumption) _) ?_
 refine geC hL ?_
 clear hB hG hL L
 rintro u ⟨-,hB,hG,-⟩
 refine gtT ?_
 clear hN K
 refine st hB hF hG 2 0 [_,_,_] ?_
 clear hB hG
 intro u hB hG
 refine rt Tryz.results150 ?_
 exact ⟨A0a (A3s n b),hG⟩
theorem A0c (n : Int) (d : Nat) (h : bl n.natAbs + bl d ≤ 1099511627776) (w : World) : Calls Tryz.prog 85 #[C3 n,A5 d] w fun e w'=>e = .returned (C3 (ztm n d)) ∧ A3 w w':=by
 have hd : bl d ≤ 1099511627776:=by omega
 have h' : bl n.natAbs + bl (sgn false d).natAbs ≤ 1099511627776:=h
 go_enter Tryz.func85,Tryz.ntmps85
 refine en3 ?_
 intro u hG b4 b3 b2 hB hF
 refine wp_seq (rdC A6 [] [(0,0),(0,1),(1,2),(1,3)] hB hG fun K L hN hL=>?_)
 refine gs ?_
 refine gmw (C:=fun v=>O3 _ _ (by assumption) _) ?_
 refine gmw (C:=fun v=>A4h _ _ (by assumption) _) ?_
 refine geC hL ?_
 clear hB hG hL L
 rintro u ⟨-,hB,hG,-⟩
 refine gtT ?_
 clear hN K
 refine st hB hF hG 2 0 [_,_,_] ?_
 clear hB hG
 intro u hB hG
 refine rt Tryz.results85 ?_
 exact ⟨rfl,hG⟩
theorem A01 (n : Int) (d : Nat) (hn : bl n.natAbs ≤ BIG) (hd : bl d ≤ BIG) (w : World) (HT : Tab w) : Calls Tryz.prog 149 #[C3 n,C3 (sgn false d)] w fun e w'=>e = .returned (A5 (Nat.gcd n.natAbs d)) ∧ A3 w w':=by
 have := B2P n (sgn false d) hn (by rw [Y1];exact hd) w HT
 rw [Y1] at this
 exact this
theorem B4F (c d : Nat) (hc : bl c ≤ BIG) (hd : bl d ≤ BIG) (w : World) (HT : Tab w) : Calls Tryz.prog 149 #[C3 (sgn false c),C3 (sgn false d)] w fun e w'=>e = .returned (A5 (Nat.gcd c d)) ∧ A3 w w':=by
 have := A01 (sgn false c) d (by rw [Y1];exact hc) hd w HT
 rw [Y1] at this
 exact this
theorem A7N (n : Int) (d : Nat) (hn : bl n.natAbs ≤ BIG) (hd : bl d ≤ BIG) (h0 : d ≠ 0) (w : World) (HT : Tab w) : Calls Tryz.prog 117 #[C3 n,A5 d] w fun e w'=>e = .returned (qV (mkRat n d)) ∧ A3 w w':=by
 have hd':=K3 hd
 have hg : bl (Nat.gcd n.natAbs d) ≤ BIG:=Nat.le_trans (A2X _ _ h0) hd
 have hg0 : Nat.gcd n.natAbs d ≠ 0:=fun e=>h0 (Nat.eq_zero_of_gcd_eq_zero_right e)
 have hdd : bl (d / Nat.gcd n.natAbs d) ≤ 1099511627776:=Nat.le_trans (I4 _ _) hd'
 go_enter Tryz.func117,Tryz.ntmps117
 refine en3 ?_
 intro u hG b4 b3 b2 hB hF
 refine wp_seq (rdC A6 [] [(0,0),(0,1),(1,2),(1,3),(2,4)] hB hG fun K L hN hL=>?_)
 refine gs ?_
 refine gmw (C:=fun v=>O3 _ _ (by assumption) _) ?_
 refine gmd (C:=fun v ⟨hgu,hB,hG,_⟩=>A01 n d hn hd _ (HT.grow hG)) ?_
 refine gaa (F8 _ _ _ _ _) fun b5 hb5 hn5=>?_
 replace hF:=hF.n1 [] hB hG hb5 hn5
 refine geC hL ?_
 clear hB hG hL L
 rintro u ⟨⟨-,hB,hG,-⟩,h5⟩
 replace hB:=hB.cons' h5
 clear h5
 clear hb5 hn5
 refine gtT ?_
 clear hN K
 refine st hB hF hG 0 0 [_,_] ?_
 clear hB hG
 intro u hB hG
 refine wp_seq (rdC A6 [] [(0,0),(0,1),(0,3),(0,4),(1,2),(1,5),(1,6)] hB hG fun K L hN hL=>?_)
 refine gs ?_
 refine gmw (C:=fun v=>A12 n (Nat.gcd n.natAbs d) hn hg hg0 _) ?_
 refine gmw (C:=fun v=>A0A d (Nat.gcd n.natAbs d) hd hg hg0 _) ?_
 refine gmw (C:=fun v=>A11 _ _ (by assumption) _) ?_
 refine geC hL ?_
 clear hB hG hL L
 rintro u ⟨-,hB,hG,-⟩
 refine gtT ?_
 clear hN K
 refine st hB hF hG 3 0 [_,_,_,_,_] ?_
 clear hB hG
 intro u hB hG
 refine rt Tryz.results117 ?_
 exact ⟨A0N (A3f n d h0) (A32 n d h0),hG⟩
end Go.Proofs.YtjmopgepnndckaaGreatDoor
