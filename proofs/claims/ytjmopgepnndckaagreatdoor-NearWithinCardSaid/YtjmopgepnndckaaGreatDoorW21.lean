/- Contracts and laws. -/
import Derived.Test.YtjmopgepnndckaaGreatDoorW20
set_option linter.unusedSimpArgs false
set_option linter.unusedVariables false
set_option maxHeartbeats 2000000
set_option maxRecDepth 100000
namespace Go.Proofs.YtjmopgepnndckaaGreatDoor
abbrev nqV (n : Int) (d : Nat) : Value:=.agg #[.bool (B7 n),.int .u64 (A9 n.natAbs),.string (A8 n.natAbs),.int .u64 (A9 (E6 d)),.string (A8 (E6 d))]
theorem B1k : E6 1 = 0:=rfl
theorem A4O {d : Nat} (h : d ≠ 1) : E6 d = d:=if_neg h
theorem A8E {n : Int} {d : Nat} {q : Rat} (h1 : q.num = n) (h2 : q.den = d) : nqV n d = qV q:=by subst h1;subst h2;rfl
theorem A5M (n : Int) (b : Nat) : sgn (B7 n) (n.natAbs / b) = n.tdiv b:=by
 unfold sgn B7
 by_cases h : n < 0
 ·rw [if_pos (decide_eq_true h)]
  obtain ⟨m,rfl⟩ : ∃ m : Nat,n = -(m : Int):=⟨n.natAbs,by omega⟩
  rw [Int.neg_tdiv,Int.natAbs_neg,Int.natAbs_natCast,Int.ofNat_tdiv]
 ·rw [if_neg (by simpa using h)]
  obtain ⟨m,rfl⟩ : ∃ m : Nat,n = (m : Int):=⟨n.natAbs,by omega⟩
  rw [Int.natAbs_natCast,Int.ofNat_tdiv]
theorem A5z (a b : Rat) : (a * b).num = a.num.tdiv (Nat.gcd a.num.natAbs b.den) * b.num.tdiv (Nat.gcd b.num.natAbs a.den):=by
 show (Rat.mul a b).num = _
 unfold Rat.mul
 simp only [Int.divExact_eq_tdiv]
theorem A5w (a b : Rat) : (a * b).den = a.den / Nat.gcd b.num.natAbs a.den * (b.den / Nat.gcd a.num.natAbs b.den):=by
 show (Rat.mul a b).den = _
 unfold Rat.mul
 simp only [Nat.divExact_eq_div]
def V6 (a b : Rat) : Int:=a.num * ((b.den / Nat.gcd a.den b.den : Nat) : Int) + b.num * ((a.den / Nat.gcd a.den b.den : Nat) : Int)
def hOf (a b : Rat) : Nat:=Nat.gcd (V6 a b).natAbs (Nat.gcd a.den b.den)
theorem A8a (a b : Rat) (h : a.den / Nat.gcd a.den b.den * b.den ≠ 0) : a + b = Rat.normalize (V6 a b) (a.den / Nat.gcd a.den b.den * b.den) h:=by
 rw [Rat.add_def]
 have hg : Nat.gcd a.den b.den ≠ 0:=fun h0=>a.den_nz (Nat.eq_zero_of_gcd_eq_zero_left h0)
 obtain ⟨x,hx⟩:=Nat.gcd_dvd_left a.den b.den
 obtain ⟨y,hy⟩:=Nat.gcd_dvd_right a.den b.den
 have hxd : a.den / Nat.gcd a.den b.den = x:=Nat.div_eq_of_eq_mul_right (Nat.pos_of_ne_zero hg) hx
 have hyd : b.den / Nat.gcd a.den b.den = y:=Nat.div_eq_of_eq_mul_right (Nat.pos_of_ne_zero hg) hy
 rw [← Rat.normalize_mul_right (a:=Nat.gcd a.den b.den) h hg]
 congr 1
 ·unfold V6
  rw [hxd,hyd]
  generalize Nat.gcd a.den b.den = g at *
  rw [hx,hy]
  push_cast
  grind
 ·rw [hxd]
  generalize Nat.gcd a.den b.den = g at *
  rw [hx]
  grind
theorem A6I (a b : Rat) : hOf a b = Nat.gcd (V6 a b).natAbs (a.den / Nat.gcd a.den b.den * b.den):=Rat.add.aux a b rfl rfl rfl
theorem A5x (a b : Rat) : a.den / Nat.gcd a.den b.den * b.den ≠ 0:=by
 have h1:=Nat.div_gcd_pos_of_pos_left b.den a.den_pos
 have h2:=b.den_pos
 exact Nat.ne_of_gt (Nat.mul_pos h1 h2)
theorem A7K (a b : Rat) : (a + b).num = (V6 a b).tdiv (hOf a b):=by
 rw [A8a a b (A5x a b),Rat.num_normalize,← A6I]
 refine (Int.tdiv_eq_ediv_of_dvd ?_).symm
 exact Int.ofNat_dvd_left.2 (Nat.gcd_dvd_left _ _)
theorem A7h (a b : Rat) : (a + b).den = a.den / Nat.gcd a.den b.den * (b.den / hOf a b):=by
 rw [A8a a b (A5x a b),Rat.den_normalize,← A6I]
 exact Nat.mul_div_assoc _ (Nat.dvd_trans (Nat.gcd_dvd_right _ _) (Nat.gcd_dvd_right _ _))
theorem A5U (n : Int) (d : Nat) (h : d ≠ 0) : (mkRat n d).num = n.tdiv (Nat.gcd n.natAbs d):=by
 rw [← Rat.normalize_eq_mkRat h,Rat.num_normalize]
 exact (Int.tdiv_eq_ediv_of_dvd (Int.ofNat_dvd_left.2 (Nat.gcd_dvd_left _ _))).symm
theorem A5L (n : Int) (d : Nat) (h : d ≠ 0) : (mkRat n d).den = d / Nat.gcd n.natAbs d:=by
 rw [← Rat.normalize_eq_mkRat h,Rat.den_normalize]
def E5 (a b : Rat) : Int:=if a < b then -1 else if b < a then 1 else 0
theorem A2H (a b : Rat) : E5 a b = K8 (a.num * b.den) (b.num * a.den):=by
 unfold E5 K8
 simp only [Rat.lt_iff]
theorem B3W {a b : Rat} (ha : a.den = 1) (hb : b.den = 1) : E5 a b = K8 a.num b.num:=by
 rw [A2H,ha,hb];simp
theorem A6Y {a b : Rat} (h : a.num.sign ≠ b.num.sign) : E5 a b = K8 a.num b.num:=by
 rw [A2H]
 have h1:=a.den_pos
 have h2:=b.den_pos
 generalize a.num = x at *
 generalize b.num = y at *
 generalize a.den = p at *
 generalize b.den = q at *
 have hx : (x * (q : Int)).sign = x.sign:=by rw [Int.sign_mul,Int.sign_eq_one_of_pos (a:=(q : Int)) (by omega),Int.mul_one]
 have hy : (y * (p : Int)).sign = y.sign:=by rw [Int.sign_mul,Int.sign_eq_one_of_pos (a:=(p : Int)) (by omega),Int.mul_one]
 rw [← hx,← hy] at h
 have key : ∀ u v : Int,u.sign ≠ v.sign → K8 u v = K8 u.sign v.sign:=by
  intro u v huv
  unfold K8
  rcases Int.lt_trichotomy u 0 with hu | hu | hu <;> rcases Int.lt_trichotomy v 0 with hv | hv | hv <;>
   (first | (rw [Int.sign_eq_neg_one_of_neg hu] at huv ⊢) | (rw [hu,Int.sign_zero] at huv ⊢) | (rw [Int.sign_eq_one_of_pos hu] at huv ⊢)) <;>
   (first | (rw [Int.sign_eq_neg_one_of_neg hv] at huv ⊢) | (rw [hv,Int.sign_zero] at huv ⊢) | (rw [Int.sign_eq_one_of_pos hv] at huv ⊢)) <;>
   first | (exact absurd rfl huv) | (split <;> (try split) <;> simp <;> omega)
 rw [key _ _ h,hx,hy]
 rw [hx,hy] at h
 exact (key _ _ h).symm
def qs (q : Rat) : Nat:=max (bl q.num.natAbs) (bl q.den)
theorem F1 (q : Rat) : bl q.num.natAbs ≤ qs q:=Nat.le_max_left _ _
theorem F0 (q : Rat) : bl q.den ≤ qs q:=Nat.le_max_right _ _
theorem A2Z (n : Int) (g : Nat) : (n.tdiv g).natAbs ≤ n.natAbs:=by
 rw [Int.natAbs_tdiv];exact Nat.div_le_self _ _
theorem A3K (a b : Rat) : qs (a * b) ≤ qs a + qs b:=by
 refine Nat.max_le.2 ⟨?_,?_⟩
 ·rw [A5z,Int.natAbs_mul]
  refine Nat.le_trans (M0 _ _) ?_
  have h1:=M8 (A2Z a.num (Nat.gcd a.num.natAbs b.den))
  have h2:=M8 (A2Z b.num (Nat.gcd b.num.natAbs a.den))
  have := F1 a
  have := F1 b
  omega
 ·rw [A5w]
  refine Nat.le_trans (M0 _ _) ?_
  have h1:=K7 a.den (Nat.gcd b.num.natAbs a.den)
  have h2:=K7 b.den (Nat.gcd a.num.natAbs b.den)
  have := F0 a
  have := F0 b
  omega
theorem A81 (a b : Rat) : bl (V6 a b).natAbs ≤ qs a + qs b + 1:=by
 unfold V6
 have h1:=M0 a.num.natAbs (b.den / Nat.gcd a.den b.den)
 have h2:=M0 b.num.natAbs (a.den / Nat.gcd a.den b.den)
 have h3:=K7 b.den (Nat.gcd a.den b.den)
 have h4:=K7 a.den (Nat.gcd a.den b.den)
 have := F1 a
 have := F0 a
 have := F1 b
 have := F0 b
 refine Nat.le_trans (M8 (Int.natAbs_add_le _ _)) ?_
 rw [Int.natAbs_mul,Int.natAbs_mul,Int.natAbs_natCast,Int.natAbs_natCast]
 refine Nat.le_trans (A4a _ _) ?_
 omega
theorem A8Z (a b : Rat) : qs (a + b) ≤ qs a + qs b + 1:=by
 refine Nat.max_le.2 ⟨?_,?_⟩
 ·rw [A7K]
  exact Nat.le_trans (M8 (A2Z _ _)) (A81 a b)
 ·rw [A7h]
  refine Nat.le_trans (M0 _ _) ?_
  have h1:=K7 a.den (Nat.gcd a.den b.den)
  have h2:=K7 b.den (hOf a b)
  have := F0 a
  have := F0 b
  omega
theorem A8v (a : Rat) : qs (-a) = qs a:=by
 unfold qs;rw [Rat.neg_num,Rat.neg_den,Int.natAbs_neg]
theorem A22 (a b : Rat) : qs (a - b) ≤ qs a + qs b + 1:=by
 rw [Rat.sub_eq_add_neg]
 have := A8Z a (-b)
 rw [A8v] at this
 exact this
theorem B1W (a : Rat) (h : a ≠ 0) : qs a⁻¹ = qs a:=by
 have h0 : a.num ≠ 0:=fun e=>h (Rat.num_eq_zero.1 e)
 unfold qs
 rw [Rat.num_inv,Rat.den_inv,if_neg h0,Int.natAbs_mul,Int.natAbs_natCast,Int.natAbs_sign_of_ne_zero h0,Nat.one_mul,Nat.max_comm]
theorem B24 (a : Rat) : 1 ≤ qs a:=by
 have : 0 < bl a.den:=P3.2 a.den_nz
 have := F0 a
 omega
theorem A7H (n : Int) (k : Nat) (h : n.natAbs < 2 ^ k) (hk : 1 ≤ k) : qs (n : Rat) ≤ k:=by
 refine Nat.max_le.2 ⟨?_,?_⟩
 ·rw [Rat.num_intCast];exact M6.2 h
 ·rw [Rat.den_intCast];exact Nat.le_trans (by decide) hk
end Go.Proofs.YtjmopgepnndckaaGreatDoor
namespace Go.Proofs.YtjmopgepnndckaaGreatDoor
open Go.RowKit
theorem B0Z {p q : Rat} (h : p = q) : Ending.returned (qV p) = .returned (qV q):=by rw [h]
theorem A0f {n : Int} {d : Nat} {q : Rat} (h1 : q.num = n) (h2 : q.den = d) : Ending.returned (nqV n d) = .returned (qV q):=by rw [A8E h1 h2]
theorem A4c {a b : Nat} (h : a = b) : Ending.returned (A7 a) = .returned (A7 b):=by rw [h]
theorem B2V {d : Nat} (h : bl d ≤ 1099511627776) : bl (E6 d) ≤ 1099511627776:=by
 unfold E6;split
 ·rw [A0K];omega
 ·exact h
theorem A4K (q : Rat) (h : bl q.den ≤ 1099511627776) (w : World) : Calls Tryz.prog 83 #[qV q] w fun e w'=>e = .returned (.bool (decide (q.den = 1))) ∧ A3 w w':=by
 have hk:=B2V h
 have hd : decide (q.den = 1) = ((bl (E6 q.den) : Int) == 0):=by
  have h2:=q.den_pos
  by_cases h1 : q.den = 1
  ·rw [h1,B1k,A0K];rfl
  ·rw [A4O h1,decide_eq_false h1]
   have : bl q.den ≠ 0:=fun e=>by have := R7.1 e;omega
   symm
   simpa using this
 rw [hd]
 clear hd
 go_enter Tryz.func83,Tryz.ntmps83
 refine en1 ?_
 intro u hG b1 hB hF
 refine wp_seq (rsE A5 [0,0,1,0,0] hB hG fun L hL=>?_)
 refine gs ?_
 refine gmw (C:=fun v=>L8 _ (by assumption) _) ?_
 refine gs ?_
 refine geT hL ?_
 clear hB hG hL L
 rintro u ⟨-,hB,hG,-⟩
 refine rt Tryz.results83 ?_
 exact ⟨rfl,hG⟩
theorem B0D (w : World) : Calls Tryz.prog 108 #[.int .u64 1] w fun e w'=>e = .returned (A7 1) ∧ A3 w w':=A10 1 (by unfold W64;omega) w
theorem O7 (q : Rat) (h : bl q.den ≤ 1099511627776) (w : World) : Calls Tryz.prog 86 #[qV q] w fun e w'=>e = .returned (A7 q.den) ∧ A3 w w':=by
 go_enter Tryz.func86,Tryz.ntmps86
 refine en2 ?_
 intro u hG b2 b1 hB hF
 refine wp_seq ?_
 refine wp_seq (rsE A5 [0,1] hB hG fun L hL=>?_)
 refine gs ?_
 refine gmw (C:=fun v=>A4K _ (by assumption) _) ?_
 refine geT hL ?_
 clear hB hG hL L
 rintro u ⟨-,hB,hG,-⟩
 refine wp_cond_split rfl ?_ ?_
 ·intro ht
  have ht4:=ht
  refine wp_seq (rsC A5 [1] hB hG fun K L hN hL=>?_)
  refine gmw (C:=fun v=>B0D _) ?_
  refine geC hL ?_
  clear hB hG hL L
  rintro u ⟨-,hB,hG,-⟩
  refine gtT ?_
  clear hN K
  refine st hB hF hG 1 0 [_,_] ?_
  clear hB hG
  intro u hB hG
  refine rt Tryz.results86 ?_
  have e : q.den = 1:=of_decide_eq_true ht
  exact ⟨A4c e.symm,hG⟩
 ·intro ht
  have ht4:=ht
  refine wp_skip ?_
  refine A4 ?_
  refine r0T ?_
  refine st hB hF hG 1 0 [_,_] ?_
  clear hB hG
  intro u hB hG
  refine rt Tryz.results86 ?_
  have e : q.den ≠ 1:=of_decide_eq_false ht
  exact ⟨A4c (A4O e),hG⟩
theorem B4B (q : Rat) (w : World) : Calls Tryz.prog 99 #[qV q] w fun e w'=>e = .returned (C8 q.num) ∧ A3 w w':=by
 go_enter Tryz.func99,Tryz.ntmps99
 refine en2 ?_
 intro u hG b2 b1 hB hF
 refine r0T ?_
 refine st hB hF hG 1 0 [_,_,_] ?_
 clear hB hG
 intro u hB hG
 refine rt Tryz.results99 ?_
 exact ⟨rfl,hG⟩
theorem R5 (q : Rat) (h : bl q.num.natAbs ≤ 1099511627776) (w : World) : Calls Tryz.prog 75 #[qV q] w fun e w'=>e = .returned (.int .i64 q.num.sign) ∧ A3 w w':=by
 go_enter Tryz.func75,Tryz.ntmps75
 refine en1 ?_
 intro u hG b1 hB hF
 refine wp_seq (rsE A5 [0,0,1,0] hB hG fun L hL=>?_)
 refine gs ?_
 refine gmw (C:=fun v=>A1g _ (by assumption) _) ?_
 refine gs ?_
 refine geT hL ?_
 clear hB hG hL L
 rintro u ⟨-,hB,hG,-⟩
 refine rt Tryz.results75 ?_
 exact ⟨rfl,hG⟩
theorem A3W (n : Int) (d : Nat) (h : bl d ≤ 1099511627776) (w : World) : Calls Tryz.prog 141 #[C8 n,A7 d] w fun e w'=>e = .returned (nqV n d) ∧ A3 w w':=by
 go_enter Tryz.func141,Tryz.ntmps141
 refine en3 ?_
 intro u hG b4 b3 b2 hB hF
 refine wp_seq ?_
 refine wp_seq (rsE A5 [0,1,0] hB hG fun L hL=>?_)
 refine gs ?_
 refine gmw (C:=fun v=>L8 _ (by assumption) _) ?_
 refine gs ?_
 refine geT hL ?_
 clear hB hG hL L
 rintro u ⟨-,hB,hG,-⟩
 refine wp_cond_split rfl ?_ ?_
 ·intro ht
  have ht7:=ht
  refine r0T ?_
  refine st hB hF hG 2 0 [_,_,_,_,_] ?_
  clear hB hG
  intro u hB hG
  refine rt Tryz.results141 ?_
  have e : d = 1:=A3M.1 (by simp at ht;omega)
  subst e
  exact ⟨rfl,hG⟩
 ·intro ht
  have ht7:=ht
  refine wp_skip ?_
  refine A4 ?_
  refine r0T ?_
  refine st hB hF hG 2 0 [_,_,_,_,_] ?_
  clear hB hG
  intro u hB hG
  refine rt Tryz.results141 ?_
  have e : d ≠ 1:=fun e=>by
   have h2:=A3M.2 e
   rw [h2] at ht
   simp at ht
  exact ⟨by rw [nqV,A4O e],hG⟩
theorem A0d (a b : Nat) (ha : bl a ≤ BIG) (hb : bl b ≤ BIG) (h0 : b ≠ 0) (w : World) : Calls Tryz.prog 151 #[A7 a,A7 b] w fun e w'=>e = .returned (A7 (a / b)) ∧ A3 w w':=by
 have hb':=M5 hb
 go_enter Tryz.func151,Tryz.ntmps151
 refine en3 ?_
 intro u hG b4 b3 b2 hB hF
 refine wp_seq ?_
 refine wp_seq (rsE A5 [0,1,0] hB hG fun L hL=>?_)
 refine gs ?_
 refine gmw (C:=fun v=>L8 _ (by assumption) _) ?_
 refine gs ?_
 refine geT hL ?_
 clear hB hG hL L
 rintro u ⟨-,hB,hG,-⟩
 refine wp_cond_split rfl ?_ ?_
 ·intro ht
  have ht10:=ht
  refine r0T ?_
  refine st hB hF hG 2 0 [_,_] ?_
  clear hB hG
  intro u hB hG
  refine rt Tryz.results151 ?_
  have e : b = 1:=A3M.1 (by simp at ht;omega)
  exact ⟨A4c (by rw [e,Nat.div_one]),hG⟩
 ·intro ht
  have ht10:=ht
  refine wp_skip ?_
  refine A4 ?_
  refine wp_seq (rsC A5 [0,0,1,0,0,0,0,2,2] hB hG fun K L hN hL=>?_)
  refine gs ?_
  refine gmw (C:=fun v=>A2G _ _ (by assumption) (by assumption) (by assumption) _) ?_
  refine gs ?_
  refine gaa (I3 _ _ _ _ _) fun b5 hb5 hn5=>?_
  refine gaa (I3 _ _ _ _ _) fun b6 hb6 hn6=>?_
  replace hF:=hF.n1 [] hB hG hb5 hn5
  replace hF:=hF.n1 [b5] hB hG hb6 hn6
  refine geC hL ?_
  clear hB hG hL L
  rintro u ⟨⟨⟨-,hB,hG,-⟩,h5⟩,h6⟩
  replace hB:=hB.cons' h5
  replace hB:=hB.cons' h6
  clear h5 h6
  clear hb5 hn5 hb6 hn6
  have hD : b5 ≠ b6 ∧ b6 ≠ b5:=⟨hF.ne 1 0 rfl rfl (by decide),hF.ne 0 1 rfl rfl (by decide)⟩
  refine gtT ?_
  clear hN K
  clear hD
  refine st2 hB hF hG 1 0 [_,_] 0 0 [_,_] ?_
  clear hB hG
  intro u hB hG
  refine r0T ?_
  refine st hB hF hG 4 0 [_,_] ?_
  clear hB hG
  intro u hB hG
  refine rt Tryz.results151 ?_
  exact ⟨rfl,hG⟩
theorem A26 (n : Int) (b : Nat) (ha : bl n.natAbs ≤ BIG) (hb : bl b ≤ BIG) (h0 : b ≠ 0) (w : World) : Calls Tryz.prog 150 #[C8 n,A7 b] w fun e w'=>e = .returned (C8 (ztd n b)) ∧ A3 w w':=by
 have ha':=M5 ha
 have hd : bl (n.natAbs / b) ≤ 1099511627776:=Nat.le_trans (K7 _ _) ha'
 go_enter Tryz.func150,Tryz.ntmps150
 refine en3 ?_
 intro u hG b4 b3 b2 hB hF
 refine wp_seq (rdC A5 [] [(0,0),(0,3),(0,5),(1,1),(0,2),(1,4),(1,6),(1,7)] hB hG fun K L hN hL=>?_)
 refine gs ?_
 refine gmw (C:=fun v=>A1g _ (by assumption) _) ?_
 refine gs ?_
 refine gmw (C:=fun v=>A2Y _ _) ?_
 refine gmw (C:=fun v=>A0d _ _ (by assumption) (by assumption) (by assumption) _) ?_
 refine gmw (C:=fun v=>O2 _ _ (by assumption) _) ?_
 refine geC hL ?_
 clear hB hG hL L
 rintro u ⟨-,hB,hG,-⟩
 refine gtT ?_
 clear hN K
 refine st hB hF hG 2 0 [_,_,_] ?_
 clear hB hG
 intro u hB hG
 refine rt Tryz.results150 ?_
 exact ⟨A0c (A5M n b),hG⟩
theorem A1N (n : Int) (d : Nat) (h : bl n.natAbs + bl d ≤ 1099511627776) (w : World) : Calls Tryz.prog 85 #[C8 n,A7 d] w fun e w'=>e = .returned (C8 (ztm n d)) ∧ A3 w w':=by
 have hd : bl d ≤ 1099511627776:=by omega
 have h' : bl n.natAbs + bl (sgn false d).natAbs ≤ 1099511627776:=h
 go_enter Tryz.func85,Tryz.ntmps85
 refine en3 ?_
 intro u hG b4 b3 b2 hB hF
 refine wp_seq (rdC A5 [] [(0,0),(0,1),(1,2),(1,3)] hB hG fun K L hN hL=>?_)
 refine gs ?_
 refine gmw (C:=fun v=>O2 _ _ (by assumption) _) ?_
 refine gmw (C:=fun v=>A5X _ _ (by assumption) _) ?_
 refine geC hL ?_
 clear hB hG hL L
 rintro u ⟨-,hB,hG,-⟩
 refine gtT ?_
 clear hN K
 refine st hB hF hG 2 0 [_,_,_] ?_
 clear hB hG
 intro u hB hG
 refine rt Tryz.results85 ?_
 exact ⟨rfl,hG⟩
theorem A1i (n : Int) (d : Nat) (hn : bl n.natAbs ≤ BIG) (hd : bl d ≤ BIG) (w : World) (HT : Tab w) : Calls Tryz.prog 149 #[C8 n,C8 (sgn false d)] w fun e w'=>e = .returned (A7 (Nat.gcd n.natAbs d)) ∧ A3 w w':=by
 have := B2T n (sgn false d) hn (by rw [P4];exact hd) w HT
 rw [P4] at this
 exact this
theorem B4R (c d : Nat) (hc : bl c ≤ BIG) (hd : bl d ≤ BIG) (w : World) (HT : Tab w) : Calls Tryz.prog 149 #[C8 (sgn false c),C8 (sgn false d)] w fun e w'=>e = .returned (A7 (Nat.gcd c d)) ∧ A3 w w':=by
 have := A1i (sgn false c) d (by rw [P4];exact hc) hd w HT
 rw [P4] at this
 exact this
theorem A61 (n : Int) (d : Nat) (hn : bl n.natAbs ≤ BIG) (hd : bl d ≤ BIG) (h0 : d ≠ 0) (w : World) (HT : Tab w) : Calls Tryz.prog 117 #[C8 n,A7 d] w fun e w'=>e = .returned (qV (mkRat n d)) ∧ A3 w w':=by
 have hd':=M5 hd
 have hg : bl (Nat.gcd n.natAbs d) ≤ BIG:=Nat.le_trans (A3F _ _ h0) hd
 have hg0 : Nat.gcd n.natAbs d ≠ 0:=fun e=>h0 (Nat.eq_zero_of_gcd_eq_zero_right e)
 have hdd : bl (d / Nat.gcd n.natAbs d) ≤ 1099511627776:=Nat.le_trans (K7 _ _) hd'
 go_enter Tryz.func117,Tryz.ntmps117
 refine en3 ?_
 intro u hG b4 b3 b2 hB hF
 refine wp_seq (rdC A5 [] [(0,0),(0,1),(1,2),(1,3),(2,4)] hB hG fun K L hN hL=>?_)
 refine gs ?_
 refine gmw (C:=fun v=>O2 _ _ (by assumption) _) ?_
 refine gmd (C:=fun v ⟨hgu,hB,hG,_⟩=>A1i n d hn hd _ (HT.grow hG)) ?_
 refine gaa (I3 _ _ _ _ _) fun b5 hb5 hn5=>?_
 replace hF:=hF.n1 [] hB hG hb5 hn5
 refine geC hL ?_
 clear hB hG hL L
 rintro u ⟨⟨-,hB,hG,-⟩,h5⟩
 replace hB:=hB.cons' h5
 clear h5
 clear hb5 hn5
 refine gtT ?_
 clear hN K
 refine st hB hF hG 0 0 [_,_] ?_
 clear hB hG
 intro u hB hG
 refine wp_seq (rdC A5 [] [(0,0),(0,1),(0,3),(0,4),(1,2),(1,5),(1,6)] hB hG fun K L hN hL=>?_)
 refine gs ?_
 refine gmw (C:=fun v=>A26 n (Nat.gcd n.natAbs d) hn hg hg0 _) ?_
 refine gmw (C:=fun v=>A0d d (Nat.gcd n.natAbs d) hd hg hg0 _) ?_
 refine gmw (C:=fun v=>A3W _ _ (by assumption) _) ?_
 refine geC hL ?_
 clear hB hG hL L
 rintro u ⟨-,hB,hG,-⟩
 refine gtT ?_
 clear hN K
 refine st hB hF hG 3 0 [_,_,_,_,_] ?_
 clear hB hG
 intro u hB hG
 refine rt Tryz.results117 ?_
 exact ⟨A0f (A5U n d h0) (A5L n d h0),hG⟩
def I5 (a b : Rat) : Rat:=a + b
def G4 (a b : Rat) : Rat:=a - b
def F4 (a b : Rat) : Rat:=a * b
def A0w (a b : Rat) : Rat:=a / b
def S9 (a : Rat) : Rat:=-a
def D6 (n : Int) : Rat:=(n : Rat)
def nz (d : Int) : Bool:=decide (d ≠ 0)
def nzq (q : Rat) : Bool:=decide (q ≠ 0)
def E7 (n d : Int) : Rat:=Rat.divInt n d
theorem A4o (n : Int) : (D6 n).num = n:=Rat.num_intCast n
theorem A4E (n : Int) : (D6 n).den = 1:=Rat.den_intCast n
theorem A2m (n : Int) (h0 : -9223372036854775808 ≤ n) (h1 : n ≤ 9223372036854775807) (w : World) : Calls Tryz.prog 35 #[.int .i64 n] w fun e w'=>e = .returned (qV (D6 n)) ∧ A3 w w':=by
 go_enter Tryz.func35,Tryz.ntmps35
 refine en1 ?_
 intro u hG b2 hB hF
 refine wp_seq (rsC A5 [0,1,0] hB hG fun K L hN hL=>?_)
 refine gs ?_
 refine gmw (C:=fun v=>B0t _ (by assumption) (by assumption) _) ?_
 refine gs ?_
 refine geC hL ?_
 clear hB hG hL L
 rintro u ⟨-,hB,hG,-⟩
 refine gtT ?_
 clear hN K
 refine st hB hF hG 0 0 [_,_,_,_,_] ?_
 clear hB hG
 intro u hB hG
 refine rt Tryz.results35 ?_
 exact ⟨A0f (d:=1) (A4o n) (A4E n),hG⟩
theorem A4z (n d : Int) (h : ¬ d < 0) : E7 n d = mkRat n d.natAbs:=by
 obtain ⟨m,rfl⟩ : ∃ m : Nat,d = (m : Int):=⟨d.natAbs,by omega⟩
 unfold E7
 rw [Rat.divInt_ofNat,Int.natAbs_natCast]
theorem A4V (n d : Int) (h : d < 0) : E7 n d = mkRat (N3 n) d.natAbs:=by
 obtain ⟨m,rfl⟩ : ∃ m : Nat,d = -(m : Int):=⟨d.natAbs,by omega⟩
 unfold E7 N3
 rw [Rat.divInt_neg',Rat.divInt_ofNat,Int.natAbs_neg,Int.natAbs_natCast]
theorem A7o (z : Int) : bl (N3 z).natAbs = bl z.natAbs:=by unfold N3;rw [Int.natAbs_neg]
theorem A2s {p q : Rat} {a b : Bool} (h : p = q) (h' : a = b) : Ending.returned (.tuple #[qV p,.bool a]) = .returned (.tuple #[qV q,.bool b]):=by rw [h,h']
theorem A9z (n d : Int) (hn : bl n.natAbs ≤ BIG) (hd : bl d.natAbs ≤ BIG) (w : World) (HT : Tab w) : Calls Tryz.prog 77 #[C8 n,C8 d] w fun e w'=>e = .returned (.tuple #[qV (E7 n d),.bool (nz d)]) ∧ A3 w w':=by
 have hn':=M5 hn
 have hd':=M5 hd
 have hz : bl (N3 n).natAbs ≤ BIG:=by rw [A7o];exact hn
 go_enter Tryz.func77,Tryz.ntmps77
 refine en3 ?_
 intro u hG b4 b3 b2 hB hF
 refine wp_seq ?_
 refine wp_seq (rsE A5 [0,1,0] hB hG fun L hL=>?_)
 refine gs ?_
 refine gmw (C:=fun v=>A1g _ (by assumption) _) ?_
 refine gs ?_
 refine geT hL ?_
 clear hB hG hL L
 rintro u ⟨-,hB,hG,-⟩
 refine wp_cond_split rfl ?_ ?_
 ·intro ht
  have ht8:=ht
  refine r0T ?_
  refine st hB hF hG 2 0 [_,_,_,_,_] ?_
  clear hB hG
  intro u hB hG
  refine rt Tryz.results77 ?_
  have e : d = 0:=by simpa using ht
  subst e
  exact ⟨A2s (p:=0) (by unfold E7;rw [Rat.divInt_zero]) rfl,hG⟩
 ·intro ht
  have ht8:=ht
  have hd0 : d.natAbs ≠ 0:=fun e=>by
   have : d = 0:=by omega
   rw [this] at ht
   simp at ht
  refine wp_skip ?_
  refine A4 ?_
  refine wp_seq ?_
  refine wp_seq (rsE A5 [0,1,0] hB hG fun L hL=>?_)
  refine gs ?_
  refine gmw (C:=fun v=>A1g _ (by assumption) _) ?_
  refine gs ?_
  refine geT hL ?_
  clear hB hG hL L
  rintro u ⟨-,hB,hG,-⟩
  refine wp_cond_split rfl ?_ ?_
  ·intro ht
   have ht12:=ht
   refine rsC A5 [0,1] hB hG fun K L hN hL=>?_
   refine gs ?_
   refine gmw (C:=fun v=>A6k _ (by assumption) _) ?_
   refine geC hL ?_
   clear hB hG hL L
   rintro u ⟨-,hB,hG,-⟩
   refine gtT ?_
   clear hN K
   refine st hB hF hG 0 0 [_,_,_] ?_
   clear hB hG
   intro u hB hG
   refine wp_seq (rdC A5 [] [(0,0),(0,1),(1,2),(1,3)] hB hG fun K L hN hL=>?_)
   refine gs ?_
   refine gmw (C:=fun v=>A2Y _ _) ?_
   refine gmd (C:=fun v ⟨hgu,hB,hG,_⟩=>A61 _ _ (by assumption) (by assumption) (by assumption) _ (HT.grow hG)) ?_
   refine geC hL ?_
   clear hB hG hL L
   rintro u ⟨-,hB,hG,-⟩
   refine gtT ?_
   clear hN K
   refine st hB hF hG 2 0 [_,_,_,_,_] ?_
   clear hB hG
   intro u hB hG
   refine rt Tryz.results77 ?_
   have e : d < 0:=by simpa using ht
   exact ⟨A2s (A4V n d e).symm (decide_eq_true (by omega)).symm,hG⟩
  ·intro ht
   have ht12:=ht
   refine wp_skip ?_
   refine A4 ?_
   refine wp_seq (rdC A5 [] [(0,0),(0,1),(1,2),(1,3)] hB hG fun K L hN hL=>?_)
   refine gs ?_
   refine gmw (C:=fun v=>A2Y _ _) ?_
   refine gmd (C:=fun v ⟨hgu,hB,hG,_⟩=>A61 _ _ (by assumption) (by assumption) (by assumption) _ (HT.grow hG)) ?_
   refine geC hL ?_
   clear hB hG hL L
   rintro u ⟨-,hB,hG,-⟩
   refine gtT ?_
   clear hN K
   refine st hB hF hG 2 0 [_,_,_,_,_] ?_
   clear hB hG
   intro u hB hG
   refine rt Tryz.results77 ?_
   have e : ¬ d < 0:=by simpa using ht
   exact ⟨A2s (A4z n d e).symm (decide_eq_true (by omega)).symm,hG⟩
theorem A8B {n : Int} (h0 : -9223372036854775808 ≤ n) (h1 : n ≤ 9223372036854775807) : bl n.natAbs ≤ BIG:=by
 refine Nat.le_trans (M6.2 ?_) A45
 have : (2 : Nat) ^ 64 = 18446744073709551616:=rfl
 omega
theorem B5p (q : Rat) (h : bl q.num.natAbs ≤ 1099511627776) (w : World) : Calls Tryz.prog 148 #[qV q] w fun e w'=>e = .returned (qV (S9 q)) ∧ A3 w w':=by
 go_enter Tryz.func148,Tryz.ntmps148
 refine en2 ?_
 intro u hG b2 b1 hB hF
 refine wp_seq (rdC A5 [] [(0,0),(0,1),(0,3),(0,4),(1,2),(0,5)] hB hG fun K L hN hL=>?_)
 refine gs ?_
 refine gmw (C:=fun v=>A6k _ (by assumption) _) ?_
 refine gs ?_
 refine geC hL ?_
 clear hB hG hL L
 rintro u ⟨-,hB,hG,-⟩
 refine gtT ?_
 clear hN K
 refine st hB hF hG 1 0 [_,_,_,_,_] ?_
 clear hB hG
 intro u hB hG
 refine rt Tryz.results148 ?_
 exact ⟨A0f (Rat.neg_num q) (Rat.neg_den q),hG⟩
theorem U6 (q : Rat) (h : bl q.den ≤ 1099511627776) (h1 : q.den = 1) (w : World) : Calls Tryz.prog 83 #[qV q] w fun e w'=>e = .returned (.bool true) ∧ A3 w w':=by
 have := A4K q h w
 rw [decide_eq_true h1] at this
 exact this
theorem U4 (q : Rat) (h : bl q.den ≤ 1099511627776) (h1 : ¬ q.den = 1) (w : World) : Calls Tryz.prog 83 #[qV q] w fun e w'=>e = .returned (.bool false) ∧ A3 w w':=by
 have := A4K q h w
 rw [decide_eq_false h1] at this
 exact this
section
variable (a b : Rat) (w : World)
theorem B5o (h : qs a + qs b + 1 ≤ BIG) (ha1 : a.den = 1) (hb1 : b.den = 1) : Calls Tryz.prog 45 #[qV a,qV b] w fun e w'=>e = .returned (.int .i64 (E5 a b)) ∧ A3 w w':=by
 have hB40:=J8
 have h1 : bl a.num.natAbs ≤ 1099511627776:=by have := F1 a;omega
 have h2 : bl b.num.natAbs ≤ 1099511627776:=by have := F1 b;omega
 have h3 : bl a.den ≤ 1099511627776:=by have := F0 a;omega
 have h4 : bl b.den ≤ 1099511627776:=by have := F0 b;omega
 have Ha1:=Lib.hid ha1
 have Hb1:=Lib.hid hb1
 clear ha1 hb1
 go_enter Tryz.func45,Tryz.ntmps45
 refine en2 ?_
 intro u hG b3 b2 hB hF
 refine wp_seq ?_
 refine wp_seq (rdC A5 [] [(0,0),(1,1),(0,2),(0,3),(1,4),(0,5),(0,6),(0,7),(0,9),(1,8),(1,10),(0,11)] hB hG fun K L hN hL=>?_)
 refine gs ?_
 refine gmw (C:=fun v=>U6 a h3 Ha1.out _) ?_
 refine gs ?_
 first | refine gmw (C:=fun v=>U6 b h4 Hb1.out _) ?_ | refine E4 ?_
 refine gs ?_
 first | refine gmw (C:=fun v=>R5 _ (by assumption) _) ?_ | refine E4 ?_
 first | refine gmw (C:=fun v=>R5 _ (by assumption) _) ?_ | refine E4 ?_
 refine gs ?_
 refine geC hL ?_
 clear hB hG hL L
 rintro u ⟨-,hB,hG,-⟩
 refine gtT ?_
 clear hN K
 refine wp_cond_true (rfl) ?_
 refine wp_seq (rsE A5 [0,0,0,0,1,0] hB hG fun L hL=>?_)
 refine gs ?_
 refine gmw (C:=fun v=>A2P _ _ (by assumption) (by assumption) _) ?_
 refine gs ?_
 refine geT hL ?_
 clear hB hG hL L
 rintro u ⟨-,hB,hG,-⟩
 refine rt Tryz.results45 ?_
 exact ⟨I7 (B3W Ha1.out Hb1.out).symm,hG⟩
theorem B0Q (h : qs a + qs b + 1 ≤ BIG) (ha1 : a.den = 1) (hb1 : ¬ b.den = 1) : Calls Tryz.prog 45 #[qV a,qV b] w fun e w'=>e = .returned (.int .i64 (E5 a b)) ∧ A3 w w':=by
 have hB40:=J8
 have h1 : bl a.num.natAbs ≤ 1099511627776:=by have := F1 a;omega
 have h2 : bl b.num.natAbs ≤ 1099511627776:=by have := F1 b;omega
 have h3 : bl a.den ≤ 1099511627776:=by have := F0 a;omega
 have h4 : bl b.den ≤ 1099511627776:=by have := F0 b;omega
 have h5 : bl a.num.natAbs + bl b.den ≤ 1099511627776:=by have := F1 a;have := F0 b;omega
 have h6 : bl b.num.natAbs + bl a.den ≤ 1099511627776:=by have := F1 b;have := F0 a;omega
 have h7 : bl (ztm a.num b.den).natAbs ≤ 1099511627776:=by unfold ztm;rw [Int.natAbs_mul];exact Nat.le_trans (M0 _ _) h5
 have h8 : bl (ztm b.num a.den).natAbs ≤ 1099511627776:=by unfold ztm;rw [Int.natAbs_mul];exact Nat.le_trans (M0 _ _) h6
 have Ha1:=Lib.hid ha1
 have Hb1:=Lib.hid hb1
 clear ha1 hb1
 go_enter Tryz.func45,Tryz.ntmps45
 refine en2 ?_
 intro u hG b3 b2 hB hF
 refine wp_seq ?_
 refine wp_seq (rdC A5 [] [(0,0),(1,1),(0,2),(0,3),(1,4),(0,5),(0,6),(0,7),(0,9),(1,8),(1,10),(0,11)] hB hG fun K L hN hL=>?_)
 refine gs ?_
 refine gmw (C:=fun v=>U6 a h3 Ha1.out _) ?_
 refine gs ?_
 first | refine gmw (C:=fun v=>U4 b h4 Hb1.out _) ?_ | refine E4 ?_
 refine gs ?_
 first | refine gmw (C:=fun v=>R5 _ (by assumption) _) ?_ | refine E4 ?_
 first | refine gmw (C:=fun v=>R5 _ (by assumption) _) ?_ | refine E4 ?_
 refine gs ?_
 refine geC hL ?_
 clear hB hG hL L
 rintro u ⟨-,hB,hG,-⟩
 refine gtT ?_
 clear hN K
 refine wp_cond_split rfl ?_ ?_
 ·intro ht
  have ht17:=ht
  refine wp_seq (rsE A5 [0,0,0,0,1,0] hB hG fun L hL=>?_)
  refine gs ?_
  refine gmw (C:=fun v=>A2P _ _ (by assumption) (by assumption) _) ?_
  refine gs ?_
  refine geT hL ?_
  clear hB hG hL L
  rintro u ⟨-,hB,hG,-⟩
  refine rt Tryz.results45 ?_
  exact ⟨I7 (A6Y (by simpa using ht)).symm,hG⟩
 ·intro ht
  have ht17:=ht
  refine wp_skip ?_
  refine A4 ?_
  refine wp_seq (rdC A5 [] [(0,0),(0,1),(0,2),(0,5),(0,6),(0,7),(1,3),(1,4),(1,8),(1,9),(1,10)] hB hG fun K L hN hL=>?_)
  refine gs ?_
  refine gmw (C:=fun v=>O7 _ (by assumption) _) ?_
  refine gmw (C:=fun v=>A1N _ _ (by assumption) _) ?_
  refine gmw (C:=fun v=>O7 _ (by assumption) _) ?_
  refine gmw (C:=fun v=>A1N _ _ (by assumption) _) ?_
  refine gmw (C:=fun v=>A2P _ _ (by assumption) (by assumption) _) ?_
  refine geC hL ?_
  clear hB hG hL L
  rintro u ⟨-,hB,hG,-⟩
  refine gtT ?_
  clear hN K
  refine rt Tryz.results45 ?_
  exact ⟨I7 (A2H a b).symm,hG⟩
theorem B33 (h : qs a + qs b + 1 ≤ BIG) (ha1 : ¬ a.den = 1) : Calls Tryz.prog 45 #[qV a,qV b] w fun e w'=>e = .returned (.int .i64 (E5 a b)) ∧ A3 w w':=by
 have hB40:=J8
 have h1 : bl a.num.natAbs ≤ 1099511627776:=by have := F1 a;omega
 have h2 : bl b.num.natAbs ≤ 1099511627776:=by have := F1 b;omega
 have h3 : bl a.den ≤ 1099511627776:=by have := F0 a;omega
 have h4 : bl b.den ≤ 1099511627776:=by have := F0 b;omega
 have h5 : bl a.num.natAbs + bl b.den ≤ 1099511627776:=by have := F1 a;have := F0 b;omega
 have h6 : bl b.num.natAbs + bl a.den ≤ 1099511627776:=by have := F1 b;have := F0 a;omega
 have h7 : bl (ztm a.num b.den).natAbs ≤ 1099511627776:=by unfold ztm;rw [Int.natAbs_mul];exact Nat.le_trans (M0 _ _) h5
 have h8 : bl (ztm b.num a.den).natAbs ≤ 1099511627776:=by unfold ztm;rw [Int.natAbs_mul];exact Nat.le_trans (M0 _ _) h6
 have Ha1:=Lib.hid ha1
 clear ha1
 go_enter Tryz.func45,Tryz.ntmps45
 refine en2 ?_
 intro u hG b3 b2 hB hF
 refine wp_seq ?_
 refine wp_seq (rdC A5 [] [(0,0),(1,1),(0,2),(0,3),(1,4),(0,5),(0,6),(0,7),(0,9),(1,8),(1,10),(0,11)] hB hG fun K L hN hL=>?_)
 refine gs ?_
 refine gmw (C:=fun v=>U4 a h3 Ha1.out _) ?_
 refine gs ?_
 first | refine gmw (C:=fun v=>U4 a h3 Ha1.out _) ?_ | refine E4 ?_
 refine gs ?_
 first | refine gmw (C:=fun v=>R5 _ (by assumption) _) ?_ | refine E4 ?_
 first | refine gmw (C:=fun v=>R5 _ (by assumption) _) ?_ | refine E4 ?_
 refine gs ?_
 refine geC hL ?_
 clear hB hG hL L
 rintro u ⟨-,hB,hG,-⟩
 refine gtT ?_
 clear hN K
 refine wp_cond_split rfl ?_ ?_
 ·intro ht
  have ht17:=ht
  refine wp_seq (rsE A5 [0,0,0,0,1,0] hB hG fun L hL=>?_)
  refine gs ?_
  refine gmw (C:=fun v=>A2P _ _ (by assumption) (by assumption) _) ?_
  refine gs ?_
  refine geT hL ?_
  clear hB hG hL L
  rintro u ⟨-,hB,hG,-⟩
  refine rt Tryz.results45 ?_
  exact ⟨I7 (A6Y (by simpa using ht)).symm,hG⟩
 ·intro ht
  have ht17:=ht
  refine wp_skip ?_
  refine A4 ?_
  refine wp_seq (rdC A5 [] [(0,0),(0,1),(0,2),(0,5),(0,6),(0,7),(1,3),(1,4),(1,8),(1,9),(1,10)] hB hG fun K L hN hL=>?_)
  refine gs ?_
  refine gmw (C:=fun v=>O7 _ (by assumption) _) ?_
  refine gmw (C:=fun v=>A1N _ _ (by assumption) _) ?_
  refine gmw (C:=fun v=>O7 _ (by assumption) _) ?_
  refine gmw (C:=fun v=>A1N _ _ (by assumption) _) ?_
  refine gmw (C:=fun v=>A2P _ _ (by assumption) (by assumption) _) ?_
  refine geC hL ?_
  clear hB hG hL L
  rintro u ⟨-,hB,hG,-⟩
  refine gtT ?_
  clear hN K
  refine rt Tryz.results45 ?_
  exact ⟨I7 (A2H a b).symm,hG⟩
theorem A3H (h : qs a + qs b + 1 ≤ BIG) : Calls Tryz.prog 45 #[qV a,qV b] w fun e w'=>e = .returned (.int .i64 (E5 a b)) ∧ A3 w w':=by
 by_cases ha1 : a.den = 1
 ·by_cases hb1 : b.den = 1
  ·exact B5o a b w h ha1 hb1
  ·exact B0Q a b w h ha1 hb1
 ·exact B33 a b w h ha1
theorem A2y (q : Rat) (h : q.den = 1) : q = (q.num : Rat):=Rat.ext (Rat.num_intCast _).symm (by rw [h];exact (Rat.den_intCast _).symm)
theorem B07 (h : qs a + qs b + 1 ≤ BIG) (ha1 : a.den = 1) (hb1 : b.den = 1) : Calls Tryz.prog 122 #[qV a,qV b] w fun e w'=>e = .returned (qV (I5 a b)) ∧ A3 w w':=by
 have hB40:=J8
 have h1 : bl a.num.natAbs < 1099511627776:=by have := F1 a;omega
 have h2 : bl b.num.natAbs < 1099511627776:=by have := F1 b;have := B24 a;omega
 have h3 : bl a.den ≤ 1099511627776:=by have := F0 a;omega
 have h4 : bl b.den ≤ 1099511627776:=by have := F0 b;omega
 have e : I5 a b = ((a.num + b.num : Int) : Rat):=by
  unfold I5
  rw [Rat.intCast_add,← A2y a ha1,← A2y b hb1]
 have e1 : (I5 a b).num = Q0 a.num b.num:=by rw [e,Rat.num_intCast];rfl
 have e2 : (I5 a b).den = 1:=by rw [e,Rat.den_intCast]
 have He:=Lib.hid (And.intro e1 e2)
 clear e e1 e2
 have Ha1:=Lib.hid ha1
 have Hb1:=Lib.hid hb1
 clear ha1 hb1
 go_enter Tryz.func122,Tryz.ntmps122
 refine en3 ?_
 intro u hG b4 b3 b2 hB hF
 refine wp_seq ?_
 refine wp_seq (rsE A5 [0,1,0,0,1,0] hB hG fun L hL=>?_)
 refine gs ?_
 refine gmw (C:=fun v=>U6 a h3 Ha1.out _) ?_
 refine gs ?_
 first | refine gmw (C:=fun v=>U6 b h4 Hb1.out _) ?_ | refine E4 ?_
 refine gs ?_
 refine geT hL ?_
 clear hB hG hL L
 rintro u ⟨-,hB,hG,-⟩
 refine wp_cond_true (rfl) ?_
 refine wp_seq (rsC A5 [0,0,0,0,1,0] hB hG fun K L hN hL=>?_)
 refine gs ?_
 refine gmw (C:=fun v=>A7J _ _ (by assumption) (by assumption) _) ?_
 refine gs ?_
 refine geC hL ?_
 clear hB hG hL L
 rintro u ⟨-,hB,hG,-⟩
 refine gtT ?_
 clear hN K
 refine st hB hF hG 2 0 [_,_,_,_,_] ?_
 clear hB hG
 intro u hB hG
 refine rt Tryz.results122 ?_
 exact ⟨A0f He.out.1 He.out.2,hG⟩
theorem B26 (h : qs a + qs b + 1 ≤ BIG) : bl (Nat.gcd a.den b.den) ≤ BIG ∧ Nat.gcd a.den b.den ≠ 0 ∧ bl a.den ≤ BIG ∧ bl b.den ≤ BIG ∧ bl a.num.natAbs + bl (b.den / Nat.gcd a.den b.den) ≤ 1099511627776 ∧ bl b.num.natAbs + bl (a.den / Nat.gcd a.den b.den) ≤ 1099511627776 ∧
  bl (ztm a.num (b.den / Nat.gcd a.den b.den)).natAbs < 1099511627776 ∧ bl (ztm b.num (a.den / Nat.gcd a.den b.den)).natAbs < 1099511627776 ∧ bl (Q0 (ztm a.num (b.den / Nat.gcd a.den b.den)) (ztm b.num (a.den / Nat.gcd a.den b.den))).natAbs ≤ BIG ∧
  bl (Nat.gcd (Q0 (ztm a.num (b.den / Nat.gcd a.den b.den)) (ztm b.num (a.den / Nat.gcd a.den b.den))).natAbs (Nat.gcd a.den b.den)) ≤ BIG ∧ Nat.gcd (Q0 (ztm a.num (b.den / Nat.gcd a.den b.den)) (ztm b.num (a.den / Nat.gcd a.den b.den))).natAbs (Nat.gcd a.den b.den) ≠ 0:=by
 have hB40:=J8
 have s1:=F1 a
 have s2:=F0 a
 have s3:=F1 b
 have s4:=F0 b
 have s5:=K7 b.den (Nat.gcd a.den b.den)
 have s6:=K7 a.den (Nat.gcd a.den b.den)
 have g0 : Nat.gcd a.den b.den ≠ 0:=fun e=>a.den_nz (Nat.eq_zero_of_gcd_eq_zero_left e)
 have g1:=B4X a.den b.den a.den_nz
 have up : bl (V6 a b).natAbs ≤ qs a + qs b + 1:=A81 a b
 have m1 : bl (ztm a.num (b.den / Nat.gcd a.den b.den)).natAbs ≤ bl a.num.natAbs + bl (b.den / Nat.gcd a.den b.den):=by unfold ztm;rw [Int.natAbs_mul];exact M0 _ _
 have m2 : bl (ztm b.num (a.den / Nat.gcd a.den b.den)).natAbs ≤ bl b.num.natAbs + bl (a.den / Nat.gcd a.den b.den):=by unfold ztm;rw [Int.natAbs_mul];exact M0 _ _
 refine ⟨by omega,g0,by omega,by omega,by omega,by omega,by omega,by omega,Nat.le_trans up h,Nat.le_trans (A3F _ _ g0) (by omega),fun e=>g0 (Nat.eq_zero_of_gcd_eq_zero_right e)⟩
end
end Go.Proofs.YtjmopgepnndckaaGreatDoor
