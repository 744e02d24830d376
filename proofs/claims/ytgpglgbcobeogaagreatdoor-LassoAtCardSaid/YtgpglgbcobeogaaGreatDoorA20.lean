/- Contracts and laws. -/
import Derived.Test.YtgpglgbcobeogaaGreatDoorA19
set_option linter.unusedSimpArgs false
set_option linter.unusedVariables false
set_option maxHeartbeats 2000000
set_option maxRecDepth 100000
namespace Go.Proofs.YtgpglgbcobeogaaGreatDoor
abbrev nqV (n : Int) (d : Nat) : Value:=.agg #[.bool (E4 n),.int .u64 (B7 n.natAbs),.string (B5 n.natAbs),.int .u64 (B7 (J6 d)),.string (B5 (J6 d))]
theorem B4j : J6 1 = 0:=rfl
theorem A5d {d : Nat} (h : d ≠ 1) : J6 d = d:=if_neg h
theorem A7b {n : Int} {d : Nat} {q : Rat} (h1 : q.num = n) (h2 : q.den = d) : nqV n d = qV q:=by subst h1;subst h2;rfl
theorem A4P (n : Int) (b : Nat) : sgn (E4 n) (n.natAbs / b) = n.tdiv b:=by
 unfold sgn E4
 by_cases h : n < 0
 ·rw [if_pos (decide_eq_true h)]
  obtain ⟨m,rfl⟩ : ∃ m : Nat,n = -(m : Int):=⟨n.natAbs,by omega⟩
  rw [Int.neg_tdiv,Int.natAbs_neg,Int.natAbs_natCast,Int.ofNat_tdiv]
 ·rw [if_neg (by simpa using h)]
  obtain ⟨m,rfl⟩ : ∃ m : Nat,n = (m : Int):=⟨n.natAbs,by omega⟩
  rw [Int.natAbs_natCast,Int.ofNat_tdiv]
theorem A6o (a b : Rat) : (a * b).num = a.num.tdiv (Nat.gcd a.num.natAbs b.den) * b.num.tdiv (Nat.gcd b.num.natAbs a.den):=by
 show (Rat.mul a b).num = _
 unfold Rat.mul
 simp only [Int.divExact_eq_tdiv]
theorem A6X (a b : Rat) : (a * b).den = a.den / Nat.gcd b.num.natAbs a.den * (b.den / Nat.gcd a.num.natAbs b.den):=by
 show (Rat.mul a b).den = _
 unfold Rat.mul
 simp only [Nat.divExact_eq_div]
def Z6 (a b : Rat) : Int:=a.num * ((b.den / Nat.gcd a.den b.den : Nat) : Int) + b.num * ((a.den / Nat.gcd a.den b.den : Nat) : Int)
def hOf (a b : Rat) : Nat:=Nat.gcd (Z6 a b).natAbs (Nat.gcd a.den b.den)
theorem A7n (a b : Rat) (h : a.den / Nat.gcd a.den b.den * b.den ≠ 0) : a + b = Rat.normalize (Z6 a b) (a.den / Nat.gcd a.den b.den * b.den) h:=by
 rw [Rat.add_def]
 have hg : Nat.gcd a.den b.den ≠ 0:=fun h0=>a.den_nz (Nat.eq_zero_of_gcd_eq_zero_left h0)
 obtain ⟨x,hx⟩:=Nat.gcd_dvd_left a.den b.den
 obtain ⟨y,hy⟩:=Nat.gcd_dvd_right a.den b.den
 have hxd : a.den / Nat.gcd a.den b.den = x:=Nat.div_eq_of_eq_mul_right (Nat.pos_of_ne_zero hg) hx
 have hyd : b.den / Nat.gcd a.den b.den = y:=Nat.div_eq_of_eq_mul_right (Nat.pos_of_ne_zero hg) hy
 rw [← Rat.normalize_mul_right (a:=Nat.gcd a.den b.den) h hg]
 congr 1
 ·unfold Z6
  rw [hxd,hyd]
  generalize Nat.gcd a.den b.den = g at *
  rw [hx,hy]
  push_cast
  grind
 ·rw [hxd]
  generalize Nat.gcd a.den b.den = g at *
  rw [hx]
  grind
theorem A7L (a b : Rat) : hOf a b = Nat.gcd (Z6 a b).natAbs (a.den / Nat.gcd a.den b.den * b.den):=Rat.add.aux a b rfl rfl rfl
theorem A72 (a b : Rat) : a.den / Nat.gcd a.den b.den * b.den ≠ 0:=by
 have h1:=Nat.div_gcd_pos_of_pos_left b.den a.den_pos
 have h2:=b.den_pos
 exact Nat.ne_of_gt (Nat.mul_pos h1 h2)
theorem A79 (a b : Rat) : (a + b).num = (Z6 a b).tdiv (hOf a b):=by
 rw [A7n a b (A72 a b),Rat.num_normalize,← A7L]
 refine (Int.tdiv_eq_ediv_of_dvd ?_).symm
 exact Int.ofNat_dvd_left.2 (Nat.gcd_dvd_left _ _)
theorem A7Q (a b : Rat) : (a + b).den = a.den / Nat.gcd a.den b.den * (b.den / hOf a b):=by
 rw [A7n a b (A72 a b),Rat.den_normalize,← A7L]
 exact Nat.mul_div_assoc _ (Nat.dvd_trans (Nat.gcd_dvd_right _ _) (Nat.gcd_dvd_right _ _))
theorem A5F (n : Int) (d : Nat) (h : d ≠ 0) : (mkRat n d).num = n.tdiv (Nat.gcd n.natAbs d):=by
 rw [← Rat.normalize_eq_mkRat h,Rat.num_normalize]
 exact (Int.tdiv_eq_ediv_of_dvd (Int.ofNat_dvd_left.2 (Nat.gcd_dvd_left _ _))).symm
theorem A5G (n : Int) (d : Nat) (h : d ≠ 0) : (mkRat n d).den = d / Nat.gcd n.natAbs d:=by
 rw [← Rat.normalize_eq_mkRat h,Rat.den_normalize]
def G6 (a b : Rat) : Int:=if a < b then -1 else if b < a then 1 else 0
theorem A2Q (a b : Rat) : G6 a b = N0 (a.num * b.den) (b.num * a.den):=by
 unfold G6 N0
 simp only [Rat.lt_iff]
theorem B0M {a b : Rat} (ha : a.den = 1) (hb : b.den = 1) : G6 a b = N0 a.num b.num:=by
 rw [A2Q,ha,hb];simp
theorem A7g {a b : Rat} (h : a.num.sign ≠ b.num.sign) : G6 a b = N0 a.num b.num:=by
 rw [A2Q]
 have h1:=a.den_pos
 have h2:=b.den_pos
 generalize a.num = x at *
 generalize b.num = y at *
 generalize a.den = p at *
 generalize b.den = q at *
 have hx : (x * (q : Int)).sign = x.sign:=by rw [Int.sign_mul,Int.sign_eq_one_of_pos (a:=(q : Int)) (by omega),Int.mul_one]
 have hy : (y * (p : Int)).sign = y.sign:=by rw [Int.sign_mul,Int.sign_eq_one_of_pos (a:=(p : Int)) (by omega),Int.mul_one]
 rw [← hx,← hy] at h
 have key : ∀ u v : Int,u.sign ≠ v.sign → N0 u v = N0 u.sign v.sign:=by
  intro u v huv
  unfold N0
  rcases Int.lt_trichotomy u 0 with hu | hu | hu <;> rcases Int.lt_trichotomy v 0 with hv | hv | hv <;>
   (first | (rw [Int.sign_eq_neg_one_of_neg hu] at huv ⊢) | (rw [hu,Int.sign_zero] at huv ⊢) | (rw [Int.sign_eq_one_of_pos hu] at huv ⊢)) <;>
   (first | (rw [Int.sign_eq_neg_one_of_neg hv] at huv ⊢) | (rw [hv,Int.sign_zero] at huv ⊢) | (rw [Int.sign_eq_one_of_pos hv] at huv ⊢)) <;>
   first | (exact absurd rfl huv) | (split <;> (try split) <;> simp <;> omega)
 rw [key _ _ h,hx,hy]
 rw [hx,hy] at h
 exact (key _ _ h).symm
def qs (q : Rat) : Nat:=max (bl q.num.natAbs) (bl q.den)
theorem F0 (q : Rat) : bl q.num.natAbs ≤ qs q:=Nat.le_max_left _ _
theorem F8 (q : Rat) : bl q.den ≤ qs q:=Nat.le_max_right _ _
theorem A17 (n : Int) (g : Nat) : (n.tdiv g).natAbs ≤ n.natAbs:=by
 rw [Int.natAbs_tdiv];exact Nat.div_le_self _ _
theorem Z7 (a b : Rat) : qs (a * b) ≤ qs a + qs b:=by
 refine Nat.max_le.2 ⟨?_,?_⟩
 ·rw [A6o,Int.natAbs_mul]
  refine Nat.le_trans (N4 _ _) ?_
  have h1:=O0 (A17 a.num (Nat.gcd a.num.natAbs b.den))
  have h2:=O0 (A17 b.num (Nat.gcd b.num.natAbs a.den))
  have := F0 a
  have := F0 b
  omega
 ·rw [A6X]
  refine Nat.le_trans (N4 _ _) ?_
  have h1:=M9 a.den (Nat.gcd b.num.natAbs a.den)
  have h2:=M9 b.den (Nat.gcd a.num.natAbs b.den)
  have := F8 a
  have := F8 b
  omega
theorem A7X (a b : Rat) : bl (Z6 a b).natAbs ≤ qs a + qs b + 1:=by
 unfold Z6
 have h1:=N4 a.num.natAbs (b.den / Nat.gcd a.den b.den)
 have h2:=N4 b.num.natAbs (a.den / Nat.gcd a.den b.den)
 have h3:=M9 b.den (Nat.gcd a.den b.den)
 have h4:=M9 a.den (Nat.gcd a.den b.den)
 have := F0 a
 have := F8 a
 have := F0 b
 have := F8 b
 refine Nat.le_trans (O0 (Int.natAbs_add_le _ _)) ?_
 rw [Int.natAbs_mul,Int.natAbs_mul,Int.natAbs_natCast,Int.natAbs_natCast]
 refine Nat.le_trans (A5C _ _) ?_
 omega
theorem A20 (a b : Rat) : qs (a + b) ≤ qs a + qs b + 1:=by
 refine Nat.max_le.2 ⟨?_,?_⟩
 ·rw [A79]
  exact Nat.le_trans (O0 (A17 _ _)) (A7X a b)
 ·rw [A7Q]
  refine Nat.le_trans (N4 _ _) ?_
  have h1:=M9 a.den (Nat.gcd a.den b.den)
  have h2:=M9 b.den (hOf a b)
  have := F8 a
  have := F8 b
  omega
theorem A4B (a : Rat) : qs (-a) = qs a:=by
 unfold qs;rw [Rat.neg_num,Rat.neg_den,Int.natAbs_neg]
theorem T4 (a b : Rat) : qs (a - b) ≤ qs a + qs b + 1:=by
 rw [Rat.sub_eq_add_neg]
 have := A20 a (-b)
 rw [A4B] at this
 exact this
theorem A7M (a : Rat) (h : a ≠ 0) : qs a⁻¹ = qs a:=by
 have h0 : a.num ≠ 0:=fun e=>h (Rat.num_eq_zero.1 e)
 unfold qs
 rw [Rat.num_inv,Rat.den_inv,if_neg h0,Int.natAbs_mul,Int.natAbs_natCast,Int.natAbs_sign_of_ne_zero h0,Nat.one_mul,Nat.max_comm]
theorem A2I (a b : Rat) : qs (a / b) ≤ qs a + qs b:=by
 by_cases h : b = 0
 ·subst h
  have : a / 0 = 0:=by rw [Rat.div_def,Rat.inv_zero,Rat.mul_zero]
  rw [this]
  have h0 : qs 0 = 1:=by show max (bl 0) (bl 1) = 1;rw [A0Y,A2d.2 rfl];rfl
  have : 0 < bl a.den:=Q8.2 a.den_nz
  have := F8 a
  omega
 ·rw [Rat.div_def,← A7M b h]
  exact Z7 _ _
theorem B2N (a : Rat) : 1 ≤ qs a:=by
 have : 0 < bl a.den:=Q8.2 a.den_nz
 have := F8 a
 omega
theorem A7y (n : Int) (k : Nat) (h : n.natAbs < 2 ^ k) (hk : 1 ≤ k) : qs (n : Rat) ≤ k:=by
 refine Nat.max_le.2 ⟨?_,?_⟩
 ·rw [Rat.num_intCast];exact O4.2 h
 ·rw [Rat.den_intCast];exact Nat.le_trans (by decide) hk
end Go.Proofs.YtgpglgbcobeogaaGreatDoor
namespace Go.Proofs.YtgpglgbcobeogaaGreatDoor
open Go.RowKit
theorem B3i {p q : Rat} (h : p = q) : Ending.returned (qV p) = .returned (qV q):=by rw [h]
theorem A05 {n : Int} {d : Nat} {q : Rat} (h1 : q.num = n) (h2 : q.den = d) : Ending.returned (nqV n d) = .returned (qV q):=by rw [A7b h1 h2]
theorem A47 {a b : Nat} (h : a = b) : Ending.returned (B4 a) = .returned (B4 b):=by rw [h]
theorem A9N {d : Nat} (h : bl d ≤ 1099511627776) : bl (J6 d) ≤ 1099511627776:=by
 unfold J6;split
 ·rw [A0Y];omega
 ·exact h
theorem A4C (q : Rat) (h : bl q.den ≤ 1099511627776) (w : World) : Calls Tryz.prog 81 #[qV q] w fun e w'=>e = .returned (.bool (decide (q.den = 1))) ∧ A4 w w':=by
 have hk:=A9N h
 have hd : decide (q.den = 1) = ((bl (J6 q.den) : Int) == 0):=by
  have h2:=q.den_pos
  by_cases h1 : q.den = 1
  ·rw [h1,B4j,A0Y];rfl
  ·rw [A5d h1,decide_eq_false h1]
   have : bl q.den ≠ 0:=fun e=>by have := Y0.1 e;omega
   symm
   simpa using this
 rw [hd]
 clear hd
 go_enter Tryz.func81,Tryz.ntmps81
 refine en1 ?_
 intro u hG b1 hB hF
 refine wp_seq (rsE A8 [0,0,1,0,0] hB hG fun L hL=>?_)
 refine gs ?_
 refine gmw (C:=fun v=>N9 _ (by assumption) _) ?_
 refine gs ?_
 refine geT hL ?_
 clear hB hG hL L
 rintro u ⟨-,hB,hG,-⟩
 refine rt Tryz.results81 ?_
 exact ⟨rfl,hG⟩
theorem B4B (w : World) : Calls Tryz.prog 143 #[.int .u64 1] w fun e w'=>e = .returned (B4 1) ∧ A4 w w':=A2C 1 (by unfold W64;omega) w
theorem R4 (q : Rat) (h : bl q.den ≤ 1099511627776) (w : World) : Calls Tryz.prog 84 #[qV q] w fun e w'=>e = .returned (B4 q.den) ∧ A4 w w':=by
 go_enter Tryz.func84,Tryz.ntmps84
 refine en2 ?_
 intro u hG b2 b1 hB hF
 refine wp_seq ?_
 refine wp_seq (rsE A8 [0,1] hB hG fun L hL=>?_)
 refine gs ?_
 refine gmw (C:=fun v=>A4C _ (by assumption) _) ?_
 refine geT hL ?_
 clear hB hG hL L
 rintro u ⟨-,hB,hG,-⟩
 refine wp_cond_split rfl ?_ ?_
 ·intro ht
  have ht4:=ht
  refine wp_seq (rsC A8 [1] hB hG fun K L hN hL=>?_)
  refine gmw (C:=fun v=>B4B _) ?_
  refine geC hL ?_
  clear hB hG hL L
  rintro u ⟨-,hB,hG,-⟩
  refine gtT ?_
  clear hN K
  refine st hB hF hG 1 0 [_,_] ?_
  clear hB hG
  intro u hB hG
  refine rt Tryz.results84 ?_
  have e : q.den = 1:=of_decide_eq_true ht
  exact ⟨A47 e.symm,hG⟩
 ·intro ht
  have ht4:=ht
  refine wp_skip ?_
  refine A6 ?_
  refine r0T ?_
  refine st hB hF hG 1 0 [_,_] ?_
  clear hB hG
  intro u hB hG
  refine rt Tryz.results84 ?_
  have e : q.den ≠ 1:=of_decide_eq_false ht
  exact ⟨A47 (A5d e),hG⟩
theorem A8a (q : Rat) (w : World) : Calls Tryz.prog 151 #[qV q] w fun e w'=>e = .returned (E9 q.num) ∧ A4 w w':=by
 go_enter Tryz.func151,Tryz.ntmps151
 refine en2 ?_
 intro u hG b2 b1 hB hF
 refine r0T ?_
 refine st hB hF hG 1 0 [_,_,_] ?_
 clear hB hG
 intro u hB hG
 refine rt Tryz.results151 ?_
 exact ⟨rfl,hG⟩
theorem N6 (q : Rat) (h : bl q.num.natAbs ≤ 1099511627776) (w : World) : Calls Tryz.prog 36 #[qV q] w fun e w'=>e = .returned (.int .i64 q.num.sign) ∧ A4 w w':=by
 go_enter Tryz.func36,Tryz.ntmps36
 refine en1 ?_
 intro u hG b1 hB hF
 refine wp_seq (rsE A8 [0,0,1,0] hB hG fun L hL=>?_)
 refine gs ?_
 refine gmw (C:=fun v=>A2c _ (by assumption) _) ?_
 refine gs ?_
 refine geT hL ?_
 clear hB hG hL L
 rintro u ⟨-,hB,hG,-⟩
 refine rt Tryz.results36 ?_
 exact ⟨rfl,hG⟩
theorem A3E (n : Int) (d : Nat) (h : bl d ≤ 1099511627776) (w : World) : Calls Tryz.prog 85 #[E9 n,B4 d] w fun e w'=>e = .returned (nqV n d) ∧ A4 w w':=by
 go_enter Tryz.func85,Tryz.ntmps85
 refine en3 ?_
 intro u hG b4 b3 b2 hB hF
 refine wp_seq ?_
 refine wp_seq (rsE A8 [0,1,0] hB hG fun L hL=>?_)
 refine gs ?_
 refine gmw (C:=fun v=>N9 _ (by assumption) _) ?_
 refine gs ?_
 refine geT hL ?_
 clear hB hG hL L
 rintro u ⟨-,hB,hG,-⟩
 refine wp_cond_split rfl ?_ ?_
 ·intro ht
  have ht7:=ht
  refine r0T ?_
  refine st hB hF hG 2 0 [_,_,_,_,_] ?_
  clear hB hG
  intro u hB hG
  refine rt Tryz.results85 ?_
  have e : d = 1:=A2d.1 (by simp at ht;omega)
  subst e
  exact ⟨rfl,hG⟩
 ·intro ht
  have ht7:=ht
  refine wp_skip ?_
  refine A6 ?_
  refine r0T ?_
  refine st hB hF hG 2 0 [_,_,_,_,_] ?_
  clear hB hG
  intro u hB hG
  refine rt Tryz.results85 ?_
  have e : d ≠ 1:=fun e=>by
   have h2:=A2d.2 e
   rw [h2] at ht
   simp at ht
  exact ⟨by rw [nqV,A5d e],hG⟩
theorem A1Z (a b : Nat) (ha : bl a ≤ BIG) (hb : bl b ≤ BIG) (h0 : b ≠ 0) (w : World) : Calls Tryz.prog 87 #[B4 a,B4 b] w fun e w'=>e = .returned (B4 (a / b)) ∧ A4 w w':=by
 have hb':=O6 hb
 go_enter Tryz.func87,Tryz.ntmps87
 refine en3 ?_
 intro u hG b4 b3 b2 hB hF
 refine wp_seq ?_
 refine wp_seq (rsE A8 [0,1,0] hB hG fun L hL=>?_)
 refine gs ?_
 refine gmw (C:=fun v=>N9 _ (by assumption) _) ?_
 refine gs ?_
 refine geT hL ?_
 clear hB hG hL L
 rintro u ⟨-,hB,hG,-⟩
 refine wp_cond_split rfl ?_ ?_
 ·intro ht
  have ht10:=ht
  refine r0T ?_
  refine st hB hF hG 2 0 [_,_] ?_
  clear hB hG
  intro u hB hG
  refine rt Tryz.results87 ?_
  have e : b = 1:=A2d.1 (by simp at ht;omega)
  exact ⟨A47 (by rw [e,Nat.div_one]),hG⟩
 ·intro ht
  have ht10:=ht
  refine wp_skip ?_
  refine A6 ?_
  refine wp_seq (rsC A8 [0,0,1,0,0,0,0,2,2] hB hG fun K L hN hL=>?_)
  refine gs ?_
  refine gmw (C:=fun v=>A2B _ _ (by assumption) (by assumption) (by assumption) _) ?_
  refine gs ?_
  refine gaa (J8 _ _ _ _ _) fun b5 hb5 hn5=>?_
  refine gaa (J8 _ _ _ _ _) fun b6 hb6 hn6=>?_
  replace hF:=hF.n1 [] hB hG hb5 hn5
  replace hF:=hF.n1 [b5] hB hG hb6 hn6
  refine geC hL ?_
  clear hB hG hL L
  rintro u ⟨⟨⟨-,hB,hG,-⟩,h5⟩,h6⟩
  replace hB:=hB.cons' h5
  replace hB:=hB.cons' h6
  clear h5 h6
  clear hb5 hn5 hb6 hn6
  have hD : b5 ≠ b6 ∧ b6 ≠ b5:=⟨hF.ne 1 0 rfl rfl (by decide),hF.ne 0 1 rfl rfl (by decide)⟩
  refine gtT ?_
  clear hN K
  clear hD
  refine st2 hB hF hG 1 0 [_,_] 0 0 [_,_] ?_
  clear hB hG
  intro u hB hG
  refine r0T ?_
  refine st hB hF hG 4 0 [_,_] ?_
  clear hB hG
  intro u hB hG
  refine rt Tryz.results87 ?_
  exact ⟨rfl,hG⟩
theorem A3V (n : Int) (b : Nat) (ha : bl n.natAbs ≤ BIG) (hb : bl b ≤ BIG) (h0 : b ≠ 0) (w : World) : Calls Tryz.prog 86 #[E9 n,B4 b] w fun e w'=>e = .returned (E9 (ztd n b)) ∧ A4 w w':=by
 have ha':=O6 ha
 have hd : bl (n.natAbs / b) ≤ 1099511627776:=Nat.le_trans (M9 _ _) ha'
 go_enter Tryz.func86,Tryz.ntmps86
 refine en3 ?_
 intro u hG b4 b3 b2 hB hF
 refine wp_seq (rdC A8 [] [(0,0),(0,3),(0,5),(1,1),(0,2),(1,4),(1,6),(1,7)] hB hG fun K L hN hL=>?_)
 refine gs ?_
 refine gmw (C:=fun v=>A2c _ (by assumption) _) ?_
 refine gs ?_
 refine gmw (C:=fun v=>A1z _ _) ?_
 refine gmw (C:=fun v=>A1Z _ _ (by assumption) (by assumption) (by assumption) _) ?_
 refine gmw (C:=fun v=>P4 _ _ (by assumption) _) ?_
 refine geC hL ?_
 clear hB hG hL L
 rintro u ⟨-,hB,hG,-⟩
 refine gtT ?_
 clear hN K
 refine st hB hF hG 2 0 [_,_,_] ?_
 clear hB hG
 intro u hB hG
 refine rt Tryz.results86 ?_
 exact ⟨A1E (A4P n b),hG⟩
theorem A14 (n : Int) (d : Nat) (h : bl n.natAbs + bl d ≤ 1099511627776) (w : World) : Calls Tryz.prog 90 #[E9 n,B4 d] w fun e w'=>e = .returned (E9 (ztm n d)) ∧ A4 w w':=by
 have hd : bl d ≤ 1099511627776:=by omega
 have h' : bl n.natAbs + bl (sgn false d).natAbs ≤ 1099511627776:=h
 go_enter Tryz.func90,Tryz.ntmps90
 refine en3 ?_
 intro u hG b4 b3 b2 hB hF
 refine wp_seq (rdC A8 [] [(0,0),(0,1),(1,2),(1,3)] hB hG fun K L hN hL=>?_)
 refine gs ?_
 refine gmw (C:=fun v=>P4 _ _ (by assumption) _) ?_
 refine gmw (C:=fun v=>A32 _ _ (by assumption) _) ?_
 refine geC hL ?_
 clear hB hG hL L
 rintro u ⟨-,hB,hG,-⟩
 refine gtT ?_
 clear hN K
 refine st hB hF hG 2 0 [_,_,_] ?_
 clear hB hG
 intro u hB hG
 refine rt Tryz.results90 ?_
 exact ⟨rfl,hG⟩
theorem A2k (n : Int) (d : Nat) (hn : bl n.natAbs ≤ BIG) (hd : bl d ≤ BIG) (w : World) (HT : Tab w) : Calls Tryz.prog 83 #[E9 n,E9 (sgn false d)] w fun e w'=>e = .returned (B4 (Nat.gcd n.natAbs d)) ∧ A4 w w':=by
 have := A9c n (sgn false d) hn (by rw [O2];exact hd) w HT
 rw [O2] at this
 exact this
theorem B3t (c d : Nat) (hc : bl c ≤ BIG) (hd : bl d ≤ BIG) (w : World) (HT : Tab w) : Calls Tryz.prog 83 #[E9 (sgn false c),E9 (sgn false d)] w fun e w'=>e = .returned (B4 (Nat.gcd c d)) ∧ A4 w w':=by
 have := A2k (sgn false c) d (by rw [O2];exact hc) hd w HT
 rw [O2] at this
 exact this
theorem A7T (n : Int) (d : Nat) (hn : bl n.natAbs ≤ BIG) (hd : bl d ≤ BIG) (h0 : d ≠ 0) (w : World) (HT : Tab w) : Calls Tryz.prog 130 #[E9 n,B4 d] w fun e w'=>e = .returned (qV (mkRat n d)) ∧ A4 w w':=by
 have hd':=O6 hd
 have hg : bl (Nat.gcd n.natAbs d) ≤ BIG:=Nat.le_trans (A3m _ _ h0) hd
 have hg0 : Nat.gcd n.natAbs d ≠ 0:=fun e=>h0 (Nat.eq_zero_of_gcd_eq_zero_right e)
 have hdd : bl (d / Nat.gcd n.natAbs d) ≤ 1099511627776:=Nat.le_trans (M9 _ _) hd'
 go_enter Tryz.func130,Tryz.ntmps130
 refine en3 ?_
 intro u hG b4 b3 b2 hB hF
 refine wp_seq (rdC A8 [] [(0,0),(0,1),(1,2),(1,3),(2,4)] hB hG fun K L hN hL=>?_)
 refine gs ?_
 refine gmw (C:=fun v=>P4 _ _ (by assumption) _) ?_
 refine gmd (C:=fun v ⟨hgu,hB,hG,_⟩=>A2k n d hn hd _ (HT.grow hG)) ?_
 refine gaa (J8 _ _ _ _ _) fun b5 hb5 hn5=>?_
 replace hF:=hF.n1 [] hB hG hb5 hn5
 refine geC hL ?_
 clear hB hG hL L
 rintro u ⟨⟨-,hB,hG,-⟩,h5⟩
 replace hB:=hB.cons' h5
 clear h5
 clear hb5 hn5
 refine gtT ?_
 clear hN K
 refine st hB hF hG 0 0 [_,_] ?_
 clear hB hG
 intro u hB hG
 refine wp_seq (rdC A8 [] [(0,0),(0,1),(0,3),(0,4),(1,2),(1,5),(1,6)] hB hG fun K L hN hL=>?_)
 refine gs ?_
 refine gmw (C:=fun v=>A3V n (Nat.gcd n.natAbs d) hn hg hg0 _) ?_
 refine gmw (C:=fun v=>A1Z d (Nat.gcd n.natAbs d) hd hg hg0 _) ?_
 refine gmw (C:=fun v=>A3E _ _ (by assumption) _) ?_
 refine geC hL ?_
 clear hB hG hL L
 rintro u ⟨-,hB,hG,-⟩
 refine gtT ?_
 clear hN K
 refine st hB hF hG 3 0 [_,_,_,_,_] ?_
 clear hB hG
 intro u hB hG
 refine rt Tryz.results130 ?_
 exact ⟨A05 (A5F n d h0) (A5G n d h0),hG⟩
def G9 (a b : Rat) : Rat:=a + b
def C4 (a b : Rat) : Rat:=a - b
def E7 (a b : Rat) : Rat:=a * b
def I0 (a b : Rat) : Rat:=a / b
def R5 (a : Rat) : Rat:=-a
def A03 (a : Rat) : Rat:=a.abs
def C5 (n : Int) : Rat:=(n : Rat)
def nz (d : Int) : Bool:=decide (d ≠ 0)
def nzq (q : Rat) : Bool:=decide (q ≠ 0)
def G5 (n d : Int) : Rat:=Rat.divInt n d
theorem A4e (n : Int) : (C5 n).num = n:=Rat.num_intCast n
theorem A37 (n : Int) : (C5 n).den = 1:=Rat.den_intCast n
theorem A0P (n : Int) (h0 : -9223372036854775808 ≤ n) (h1 : n ≤ 9223372036854775807) (w : World) : Calls Tryz.prog 48 #[.int .i64 n] w fun e w'=>e = .returned (qV (C5 n)) ∧ A4 w w':=by
 go_enter Tryz.func48,Tryz.ntmps48
 refine en1 ?_
 intro u hG b2 hB hF
 refine wp_seq (rsC A8 [0,1,0] hB hG fun K L hN hL=>?_)
 refine gs ?_
 refine gmw (C:=fun v=>B0G _ (by assumption) (by assumption) _) ?_
 refine gs ?_
 refine geC hL ?_
 clear hB hG hL L
 rintro u ⟨-,hB,hG,-⟩
 refine gtT ?_
 clear hN K
 refine st hB hF hG 0 0 [_,_,_,_,_] ?_
 clear hB hG
 intro u hB hG
 refine rt Tryz.results48 ?_
 exact ⟨A05 (d:=1) (A4e n) (A37 n),hG⟩
theorem A4o (n d : Int) (h : ¬ d < 0) : G5 n d = mkRat n d.natAbs:=by
 obtain ⟨m,rfl⟩ : ∃ m : Nat,d = (m : Int):=⟨d.natAbs,by omega⟩
 unfold G5
 rw [Rat.divInt_ofNat,Int.natAbs_natCast]
theorem A4n (n d : Int) (h : d < 0) : G5 n d = mkRat (P9 n) d.natAbs:=by
 obtain ⟨m,rfl⟩ : ∃ m : Nat,d = -(m : Int):=⟨d.natAbs,by omega⟩
 unfold G5 P9
 rw [Rat.divInt_neg',Rat.divInt_ofNat,Int.natAbs_neg,Int.natAbs_natCast]
theorem A64 (z : Int) : bl (P9 z).natAbs = bl z.natAbs:=by unfold P9;rw [Int.natAbs_neg]
theorem A26 {p q : Rat} {a b : Bool} (h : p = q) (h' : a = b) : Ending.returned (.tuple #[qV p,.bool a]) = .returned (.tuple #[qV q,.bool b]):=by rw [h,h']
theorem B4i (n d : Int) (hn : bl n.natAbs ≤ BIG) (hd : bl d.natAbs ≤ BIG) (w : World) (HT : Tab w) : Calls Tryz.prog 64 #[E9 n,E9 d] w fun e w'=>e = .returned (.tuple #[qV (G5 n d),.bool (nz d)]) ∧ A4 w w':=by
 have hn':=O6 hn
 have hd':=O6 hd
 have hz : bl (P9 n).natAbs ≤ BIG:=by rw [A64];exact hn
 go_enter Tryz.func64,Tryz.ntmps64
 refine en3 ?_
 intro u hG b4 b3 b2 hB hF
 refine wp_seq ?_
 refine wp_seq (rsE A8 [0,1,0] hB hG fun L hL=>?_)
 refine gs ?_
 refine gmw (C:=fun v=>A2c _ (by assumption) _) ?_
 refine gs ?_
 refine geT hL ?_
 clear hB hG hL L
 rintro u ⟨-,hB,hG,-⟩
 refine wp_cond_split rfl ?_ ?_
 ·intro ht
  have ht8:=ht
  refine r0T ?_
  refine st hB hF hG 2 0 [_,_,_,_,_] ?_
  clear hB hG
  intro u hB hG
  refine rt Tryz.results64 ?_
  have e : d = 0:=by simpa using ht
  subst e
  exact ⟨A26 (p:=0) (by unfold G5;rw [Rat.divInt_zero]) rfl,hG⟩
 ·intro ht
  have ht8:=ht
  have hd0 : d.natAbs ≠ 0:=fun e=>by
   have : d = 0:=by omega
   rw [this] at ht
   simp at ht
  refine wp_skip ?_
  refine A6 ?_
  refine wp_seq ?_
  refine wp_seq (rsE A8 [0,1,0] hB hG fun L hL=>?_)
  refine gs ?_
  refine gmw (C:=fun v=>A2c _ (by assumption) _) ?_
  refine gs ?_
  refine geT hL ?_
  clear hB hG hL L
  rintro u ⟨-,hB,hG,-⟩
  refine wp_cond_split rfl ?_ ?_
  ·intro ht
   have ht12:=ht
   refine rsC A8 [0,1] hB hG fun K L hN hL=>?_
   refine gs ?_
   refine gmw (C:=fun v=>A5r _ (by assumption) _) ?_
   refine geC hL ?_
   clear hB hG hL L
   rintro u ⟨-,hB,hG,-⟩
   refine gtT ?_
   clear hN K
   refine st hB hF hG 0 0 [_,_,_] ?_
   clear hB hG
   intro u hB hG
   refine wp_seq (rdC A8 [] [(0,0),(0,1),(1,2),(1,3)] hB hG fun K L hN hL=>?_)
   refine gs ?_
   refine gmw (C:=fun v=>A1z _ _) ?_
   refine gmd (C:=fun v ⟨hgu,hB,hG,_⟩=>A7T _ _ (by assumption) (by assumption) (by assumption) _ (HT.grow hG)) ?_
   refine geC hL ?_
   clear hB hG hL L
   rintro u ⟨-,hB,hG,-⟩
   refine gtT ?_
   clear hN K
   refine st hB hF hG 2 0 [_,_,_,_,_] ?_
   clear hB hG
   intro u hB hG
   refine rt Tryz.results64 ?_
   have e : d < 0:=by simpa using ht
   exact ⟨A26 (A4n n d e).symm (decide_eq_true (by omega)).symm,hG⟩
  ·intro ht
   have ht12:=ht
   refine wp_skip ?_
   refine A6 ?_
   refine wp_seq (rdC A8 [] [(0,0),(0,1),(1,2),(1,3)] hB hG fun K L hN hL=>?_)
   refine gs ?_
   refine gmw (C:=fun v=>A1z _ _) ?_
   refine gmd (C:=fun v ⟨hgu,hB,hG,_⟩=>A7T _ _ (by assumption) (by assumption) (by assumption) _ (HT.grow hG)) ?_
   refine geC hL ?_
   clear hB hG hL L
   rintro u ⟨-,hB,hG,-⟩
   refine gtT ?_
   clear hN K
   refine st hB hF hG 2 0 [_,_,_,_,_] ?_
   clear hB hG
   intro u hB hG
   refine rt Tryz.results64 ?_
   have e : ¬ d < 0:=by simpa using ht
   exact ⟨A26 (A4o n d e).symm (decide_eq_true (by omega)).symm,hG⟩
theorem A6b {n : Int} (h0 : -9223372036854775808 ≤ n) (h1 : n ≤ 9223372036854775807) : bl n.natAbs ≤ BIG:=by
 refine Nat.le_trans (O4.2 ?_) A4f
 have : (2 : Nat) ^ 64 = 18446744073709551616:=rfl
 omega
theorem A7S (q : Rat) (h : bl q.num.natAbs ≤ 1099511627776) (w : World) : Calls Tryz.prog 97 #[qV q] w fun e w'=>e = .returned (qV (R5 q)) ∧ A4 w w':=by
 go_enter Tryz.func97,Tryz.ntmps97
 refine en2 ?_
 intro u hG b2 b1 hB hF
 refine wp_seq (rdC A8 [] [(0,0),(0,1),(0,3),(0,4),(1,2),(0,5)] hB hG fun K L hN hL=>?_)
 refine gs ?_
 refine gmw (C:=fun v=>A5r _ (by assumption) _) ?_
 refine gs ?_
 refine geC hL ?_
 clear hB hG hL L
 rintro u ⟨-,hB,hG,-⟩
 refine gtT ?_
 clear hN K
 refine st hB hF hG 1 0 [_,_,_,_,_] ?_
 clear hB hG
 intro u hB hG
 refine rt Tryz.results97 ?_
 exact ⟨A05 (Rat.neg_num q) (Rat.neg_den q),hG⟩
theorem A5k (q : Rat) : q.abs.num = sgn false q.num.natAbs:=by
 rw [A0H]
 by_cases h : 0 ≤ q
 ·rw [Rat.abs_of_nonneg h]
  have := Rat.num_nonneg.2 h
  omega
 ·have h' : q ≤ 0:=by rcases Rat.le_total (a:=0) (b:=q) with h1 | h1;exact absurd h1 h;exact h1
  rw [Rat.abs_of_nonpos h',Rat.neg_num]
  have : ¬ 0 ≤ q.num:=fun h2=>h (Rat.num_nonneg.1 h2)
  omega
theorem A5n (q : Rat) : q.abs.den = q.den:=by
 by_cases h : 0 ≤ q
 ·rw [Rat.abs_of_nonneg h]
 ·have h' : q ≤ 0:=by rcases Rat.le_total (a:=0) (b:=q) with h1 | h1;exact absurd h1 h;exact h1
  rw [Rat.abs_of_nonpos h',Rat.neg_den]
theorem A8U (q : Rat) (h : bl q.num.natAbs ≤ 1099511627776) (w : World) : Calls Tryz.prog 54 #[qV q] w fun e w'=>e = .returned (qV (A03 q)) ∧ A4 w w':=by
 go_enter Tryz.func54,Tryz.ntmps54
 refine en2 ?_
 intro u hG b2 b1 hB hF
 refine wp_seq (rdC A8 [] [(0,0),(0,1),(0,4),(0,5),(1,2),(1,3),(0,6)] hB hG fun K L hN hL=>?_)
 refine gs ?_
 refine gmw (C:=fun v=>A1z _ _) ?_
 refine gmw (C:=fun v=>P4 _ _ (by assumption) _) ?_
 refine gs ?_
 refine geC hL ?_
 clear hB hG hL L
 rintro u ⟨-,hB,hG,-⟩
 refine gtT ?_
 clear hN K
 refine st hB hF hG 1 0 [_,_,_,_,_] ?_
 clear hB hG
 intro u hB hG
 refine rt Tryz.results54 ?_
 exact ⟨A05 (A5k q) (A5n q),hG⟩
theorem A0F (q : Rat) (h : bl q.den ≤ 1099511627776) (h1 : q.den = 1) (w : World) : Calls Tryz.prog 81 #[qV q] w fun e w'=>e = .returned (.bool true) ∧ A4 w w':=by
 have := A4C q h w
 rw [decide_eq_true h1] at this
 exact this
theorem Y8 (q : Rat) (h : bl q.den ≤ 1099511627776) (h1 : ¬ q.den = 1) (w : World) : Calls Tryz.prog 81 #[qV q] w fun e w'=>e = .returned (.bool false) ∧ A4 w w':=by
 have := A4C q h w
 rw [decide_eq_false h1] at this
 exact this
section
variable (a b : Rat) (w : World)
theorem B3d (h : qs a + qs b + 1 ≤ BIG) (ha1 : a.den = 1) (hb1 : b.den = 1) : Calls Tryz.prog 30 #[qV a,qV b] w fun e w'=>e = .returned (.int .i64 (G6 a b)) ∧ A4 w w':=by
 have hB40:=I1
 have h1 : bl a.num.natAbs ≤ 1099511627776:=by have := F0 a;omega
 have h2 : bl b.num.natAbs ≤ 1099511627776:=by have := F0 b;omega
 have h3 : bl a.den ≤ 1099511627776:=by have := F8 a;omega
 have h4 : bl b.den ≤ 1099511627776:=by have := F8 b;omega
 have Ha1:=Lib.hid ha1
 have Hb1:=Lib.hid hb1
 clear ha1 hb1
 go_enter Tryz.func30,Tryz.ntmps30
 refine en2 ?_
 intro u hG b3 b2 hB hF
 refine wp_seq ?_
 refine wp_seq (rdC A8 [] [(0,0),(1,1),(0,2),(0,3),(1,4),(0,5),(0,6),(0,7),(0,9),(1,8),(1,10),(0,11)] hB hG fun K L hN hL=>?_)
 refine gs ?_
 refine gmw (C:=fun v=>A0F a h3 Ha1.out _) ?_
 refine gs ?_
 first | refine gmw (C:=fun v=>A0F b h4 Hb1.out _) ?_ | refine H3 ?_
 refine gs ?_
 first | refine gmw (C:=fun v=>N6 _ (by assumption) _) ?_ | refine H3 ?_
 first | refine gmw (C:=fun v=>N6 _ (by assumption) _) ?_ | refine H3 ?_
 refine gs ?_
 refine geC hL ?_
 clear hB hG hL L
 rintro u ⟨-,hB,hG,-⟩
 refine gtT ?_
 clear hN K
 refine wp_cond_true (rfl) ?_
 refine wp_seq (rsE A8 [0,0,0,0,1,0] hB hG fun L hL=>?_)
 refine gs ?_
 refine gmw (C:=fun v=>A2g _ _ (by assumption) (by assumption) _) ?_
 refine gs ?_
 refine geT hL ?_
 clear hB hG hL L
 rintro u ⟨-,hB,hG,-⟩
 refine rt Tryz.results30 ?_
 exact ⟨J9 (B0M Ha1.out Hb1.out).symm,hG⟩
theorem A92 (h : qs a + qs b + 1 ≤ BIG) (ha1 : a.den = 1) (hb1 : ¬ b.den = 1) : Calls Tryz.prog 30 #[qV a,qV b] w fun e w'=>e = .returned (.int .i64 (G6 a b)) ∧ A4 w w':=by
 have hB40:=I1
 have h1 : bl a.num.natAbs ≤ 1099511627776:=by have := F0 a;omega
 have h2 : bl b.num.natAbs ≤ 1099511627776:=by have := F0 b;omega
 have h3 : bl a.den ≤ 1099511627776:=by have := F8 a;omega
 have h4 : bl b.den ≤ 1099511627776:=by have := F8 b;omega
 have h5 : bl a.num.natAbs + bl b.den ≤ 1099511627776:=by have := F0 a;have := F8 b;omega
 have h6 : bl b.num.natAbs + bl a.den ≤ 1099511627776:=by have := F0 b;have := F8 a;omega
 have h7 : bl (ztm a.num b.den).natAbs ≤ 1099511627776:=by unfold ztm;rw [Int.natAbs_mul];exact Nat.le_trans (N4 _ _) h5
 have h8 : bl (ztm b.num a.den).natAbs ≤ 1099511627776:=by unfold ztm;rw [Int.natAbs_mul];exact Nat.le_trans (N4 _ _) h6
 have Ha1:=Lib.hid ha1
 have Hb1:=Lib.hid hb1
 clear ha1 hb1
 go_enter Tryz.func30,Tryz.ntmps30
 refine en2 ?_
 intro u hG b3 b2 hB hF
 refine wp_seq ?_
 refine wp_seq (rdC A8 [] [(0,0),(1,1),(0,2),(0,3),(1,4),(0,5),(0,6),(0,7),(0,9),(1,8),(1,10),(0,11)] hB hG fun K L hN hL=>?_)
 refine gs ?_
 refine gmw (C:=fun v=>A0F a h3 Ha1.out _) ?_
 refine gs ?_
 first | refine gmw (C:=fun v=>Y8 b h4 Hb1.out _) ?_ | refine H3 ?_
 refine gs ?_
 first | refine gmw (C:=fun v=>N6 _ (by assumption) _) ?_ | refine H3 ?_
 first | refine gmw (C:=fun v=>N6 _ (by assumption) _) ?_ | refine H3 ?_
 refine gs ?_
 refine geC hL ?_
 clear hB hG hL L
 rintro u ⟨-,hB,hG,-⟩
 refine gtT ?_
 clear hN K
 refine wp_cond_split rfl ?_ ?_
 ·intro ht
  have ht17:=ht
  refine wp_seq (rsE A8 [0,0,0,0,1,0] hB hG fun L hL=>?_)
  refine gs ?_
  refine gmw (C:=fun v=>A2g _ _ (by assumption) (by assumption) _) ?_
  refine gs ?_
  refine geT hL ?_
  clear hB hG hL L
  rintro u ⟨-,hB,hG,-⟩
  refine rt Tryz.results30 ?_
  exact ⟨J9 (A7g (by simpa using ht)).symm,hG⟩
 ·intro ht
  have ht17:=ht
  refine wp_skip ?_
  refine A6 ?_
  refine wp_seq (rdC A8 [] [(0,0),(0,1),(0,2),(0,5),(0,6),(0,7),(1,3),(1,4),(1,8),(1,9),(1,10)] hB hG fun K L hN hL=>?_)
  refine gs ?_
  refine gmw (C:=fun v=>R4 _ (by assumption) _) ?_
  refine gmw (C:=fun v=>A14 _ _ (by assumption) _) ?_
  refine gmw (C:=fun v=>R4 _ (by assumption) _) ?_
  refine gmw (C:=fun v=>A14 _ _ (by assumption) _) ?_
  refine gmw (C:=fun v=>A2g _ _ (by assumption) (by assumption) _) ?_
  refine geC hL ?_
  clear hB hG hL L
  rintro u ⟨-,hB,hG,-⟩
  refine gtT ?_
  clear hN K
  refine rt Tryz.results30 ?_
  exact ⟨J9 (A2Q a b).symm,hG⟩
theorem B2Z (h : qs a + qs b + 1 ≤ BIG) (ha1 : ¬ a.den = 1) : Calls Tryz.prog 30 #[qV a,qV b] w fun e w'=>e = .returned (.int .i64 (G6 a b)) ∧ A4 w w':=by
 have hB40:=I1
 have h1 : bl a.num.natAbs ≤ 1099511627776:=by have := F0 a;omega
 have h2 : bl b.num.natAbs ≤ 1099511627776:=by have := F0 b;omega
 have h3 : bl a.den ≤ 1099511627776:=by have := F8 a;omega
 have h4 : bl b.den ≤ 1099511627776:=by have := F8 b;omega
 have h5 : bl a.num.natAbs + bl b.den ≤ 1099511627776:=by have := F0 a;have := F8 b;omega
 have h6 : bl b.num.natAbs + bl a.den ≤ 1099511627776:=by have := F0 b;have := F8 a;omega
 have h7 : bl (ztm a.num b.den).natAbs ≤ 1099511627776:=by unfold ztm;rw [Int.natAbs_mul];exact Nat.le_trans (N4 _ _) h5
 have h8 : bl (ztm b.num a.den).natAbs ≤ 1099511627776:=by unfold ztm;rw [Int.natAbs_mul];exact Nat.le_trans (N4 _ _) h6
 have Ha1:=Lib.hid ha1
 clear ha1
 go_enter Tryz.func30,Tryz.ntmps30
 refine en2 ?_
 intro u hG b3 b2 hB hF
 refine wp_seq ?_
 refine wp_seq (rdC A8 [] [(0,0),(1,1),(0,2),(0,3),(1,4),(0,5),(0,6),(0,7),(0,9),(1,8),(1,10),(0,11)] hB hG fun K L hN hL=>?_)
 refine gs ?_
 refine gmw (C:=fun v=>Y8 a h3 Ha1.out _) ?_
 refine gs ?_
 first | refine gmw (C:=fun v=>Y8 a h3 Ha1.out _) ?_ | refine H3 ?_
 refine gs ?_
 first | refine gmw (C:=fun v=>N6 _ (by assumption) _) ?_ | refine H3 ?_
 first | refine gmw (C:=fun v=>N6 _ (by assumption) _) ?_ | refine H3 ?_
 refine gs ?_
 refine geC hL ?_
 clear hB hG hL L
 rintro u ⟨-,hB,hG,-⟩
 refine gtT ?_
 clear hN K
 refine wp_cond_split rfl ?_ ?_
 ·intro ht
  have ht17:=ht
  refine wp_seq (rsE A8 [0,0,0,0,1,0] hB hG fun L hL=>?_)
  refine gs ?_
  refine gmw (C:=fun v=>A2g _ _ (by assumption) (by assumption) _) ?_
  refine gs ?_
  refine geT hL ?_
  clear hB hG hL L
  rintro u ⟨-,hB,hG,-⟩
  refine rt Tryz.results30 ?_
  exact ⟨J9 (A7g (by simpa using ht)).symm,hG⟩
 ·intro ht
  have ht17:=ht
  refine wp_skip ?_
  refine A6 ?_
  refine wp_seq (rdC A8 [] [(0,0),(0,1),(0,2),(0,5),(0,6),(0,7),(1,3),(1,4),(1,8),(1,9),(1,10)] hB hG fun K L hN hL=>?_)
  refine gs ?_
  refine gmw (C:=fun v=>R4 _ (by assumption) _) ?_
  refine gmw (C:=fun v=>A14 _ _ (by assumption) _) ?_
  refine gmw (C:=fun v=>R4 _ (by assumption) _) ?_
  refine gmw (C:=fun v=>A14 _ _ (by assumption) _) ?_
  refine gmw (C:=fun v=>A2g _ _ (by assumption) (by assumption) _) ?_
  refine geC hL ?_
  clear hB hG hL L
  rintro u ⟨-,hB,hG,-⟩
  refine gtT ?_
  clear hN K
  refine rt Tryz.results30 ?_
  exact ⟨J9 (A2Q a b).symm,hG⟩
theorem A2u (h : qs a + qs b + 1 ≤ BIG) : Calls Tryz.prog 30 #[qV a,qV b] w fun e w'=>e = .returned (.int .i64 (G6 a b)) ∧ A4 w w':=by
 by_cases ha1 : a.den = 1
 ·by_cases hb1 : b.den = 1
  ·exact B3d a b w h ha1 hb1
  ·exact A92 a b w h ha1 hb1
 ·exact B2Z a b w h ha1
theorem A3T (q : Rat) (h : q.den = 1) : q = (q.num : Rat):=Rat.ext (Rat.num_intCast _).symm (by rw [h];exact (Rat.den_intCast _).symm)
theorem B1V (h : qs a + qs b + 1 ≤ BIG) (ha1 : a.den = 1) (hb1 : b.den = 1) : Calls Tryz.prog 95 #[qV a,qV b] w fun e w'=>e = .returned (qV (G9 a b)) ∧ A4 w w':=by
 have hB40:=I1
 have h1 : bl a.num.natAbs < 1099511627776:=by have := F0 a;omega
 have h2 : bl b.num.natAbs < 1099511627776:=by have := F0 b;have := B2N a;omega
 have h3 : bl a.den ≤ 1099511627776:=by have := F8 a;omega
 have h4 : bl b.den ≤ 1099511627776:=by have := F8 b;omega
 have e : G9 a b = ((a.num + b.num : Int) : Rat):=by
  unfold G9
  rw [Rat.intCast_add,← A3T a ha1,← A3T b hb1]
 have e1 : (G9 a b).num = S9 a.num b.num:=by rw [e,Rat.num_intCast];rfl
 have e2 : (G9 a b).den = 1:=by rw [e,Rat.den_intCast]
 have He:=Lib.hid (And.intro e1 e2)
 clear e e1 e2
 have Ha1:=Lib.hid ha1
 have Hb1:=Lib.hid hb1
 clear ha1 hb1
 go_enter Tryz.func95,Tryz.ntmps95
 refine en3 ?_
 intro u hG b4 b3 b2 hB hF
 refine wp_seq ?_
 refine wp_seq (rsE A8 [0,1,0,0,1,0] hB hG fun L hL=>?_)
 refine gs ?_
 refine gmw (C:=fun v=>A0F a h3 Ha1.out _) ?_
 refine gs ?_
 first | refine gmw (C:=fun v=>A0F b h4 Hb1.out _) ?_ | refine H3 ?_
 refine gs ?_
 refine geT hL ?_
 clear hB hG hL L
 rintro u ⟨-,hB,hG,-⟩
 refine wp_cond_true (rfl) ?_
 refine wp_seq (rsC A8 [0,0,0,0,1,0] hB hG fun K L hN hL=>?_)
 refine gs ?_
 refine gmw (C:=fun v=>A6x _ _ (by assumption) (by assumption) _) ?_
 refine gs ?_
 refine geC hL ?_
 clear hB hG hL L
 rintro u ⟨-,hB,hG,-⟩
 refine gtT ?_
 clear hN K
 refine st hB hF hG 2 0 [_,_,_,_,_] ?_
 clear hB hG
 intro u hB hG
 refine rt Tryz.results95 ?_
 exact ⟨A05 He.out.1 He.out.2,hG⟩
theorem B3p (h : qs a + qs b + 1 ≤ BIG) : bl (Nat.gcd a.den b.den) ≤ BIG ∧ Nat.gcd a.den b.den ≠ 0 ∧ bl a.den ≤ BIG ∧ bl b.den ≤ BIG ∧ bl a.num.natAbs + bl (b.den / Nat.gcd a.den b.den) ≤ 1099511627776 ∧ bl b.num.natAbs + bl (a.den / Nat.gcd a.den b.den) ≤ 1099511627776 ∧
  bl (ztm a.num (b.den / Nat.gcd a.den b.den)).natAbs < 1099511627776 ∧ bl (ztm b.num (a.den / Nat.gcd a.den b.den)).natAbs < 1099511627776 ∧ bl (S9 (ztm a.num (b.den / Nat.gcd a.den b.den)) (ztm b.num (a.den / Nat.gcd a.den b.den))).natAbs ≤ BIG ∧
  bl (Nat.gcd (S9 (ztm a.num (b.den / Nat.gcd a.den b.den)) (ztm b.num (a.den / Nat.gcd a.den b.den))).natAbs (Nat.gcd a.den b.den)) ≤ BIG ∧ Nat.gcd (S9 (ztm a.num (b.den / Nat.gcd a.den b.den)) (ztm b.num (a.den / Nat.gcd a.den b.den))).natAbs (Nat.gcd a.den b.den) ≠ 0:=by
 have hB40:=I1
 have s1:=F0 a
 have s2:=F8 a
 have s3:=F0 b
 have s4:=F8 b
 have s5:=M9 b.den (Nat.gcd a.den b.den)
 have s6:=M9 a.den (Nat.gcd a.den b.den)
 have g0 : Nat.gcd a.den b.den ≠ 0:=fun e=>a.den_nz (Nat.eq_zero_of_gcd_eq_zero_left e)
 have g1:=B3h a.den b.den a.den_nz
 have up : bl (Z6 a b).natAbs ≤ qs a + qs b + 1:=A7X a b
 have m1 : bl (ztm a.num (b.den / Nat.gcd a.den b.den)).natAbs ≤ bl a.num.natAbs + bl (b.den / Nat.gcd a.den b.den):=by unfold ztm;rw [Int.natAbs_mul];exact N4 _ _
 have m2 : bl (ztm b.num (a.den / Nat.gcd a.den b.den)).natAbs ≤ bl b.num.natAbs + bl (a.den / Nat.gcd a.den b.den):=by unfold ztm;rw [Int.natAbs_mul];exact N4 _ _
 refine ⟨by omega,g0,by omega,by omega,by omega,by omega,by omega,by omega,Nat.le_trans up h,Nat.le_trans (A3m _ _ g0) (by omega),fun e=>g0 (Nat.eq_zero_of_gcd_eq_zero_right e)⟩
end
end Go.Proofs.YtgpglgbcobeogaaGreatDoor
