/- Contracts and laws. -/
import Derived.Test.YtgpglgbcobeogaaGreatDoorT18
set_option linter.unusedSimpArgs false
set_option linter.unusedVariables false
set_option maxHeartbeats 2000000
set_option maxRecDepth 100000
namespace Go.Proofs.YtgpglgbcobeogaaGreatDoor
abbrev nqV (n : Int) (d : Nat) : Value:=.agg #[.bool (E5 n),.int .u64 (C0 n.natAbs),.string (B6 n.natAbs),.int .u64 (C0 (O5 d)),.string (B6 (O5 d))]
theorem A8z : O5 1 = 0:=rfl
theorem A4q {d : Nat} (h : d ≠ 1) : O5 d = d:=if_neg h
theorem A8N {n : Int} {d : Nat} {q : Rat} (h1 : q.num = n) (h2 : q.den = d) : nqV n d = qV q:=by subst h1;subst h2;rfl
theorem A48 (n : Int) (b : Nat) : sgn (E5 n) (n.natAbs / b) = n.tdiv b:=by
 unfold sgn E5
 by_cases h : n < 0
 ·rw [if_pos (decide_eq_true h)]
  obtain ⟨m,rfl⟩ : ∃ m : Nat,n = -(m : Int):=⟨n.natAbs,by omega⟩
  rw [Int.neg_tdiv,Int.natAbs_neg,Int.natAbs_natCast,Int.ofNat_tdiv]
 ·rw [if_neg (by simpa using h)]
  obtain ⟨m,rfl⟩ : ∃ m : Nat,n = (m : Int):=⟨n.natAbs,by omega⟩
  rw [Int.natAbs_natCast,Int.ofNat_tdiv]
theorem A8j (a b : Rat) : (a * b).num = a.num.tdiv (Nat.gcd a.num.natAbs b.den) * b.num.tdiv (Nat.gcd b.num.natAbs a.den):=by
 show (Rat.mul a b).num = _
 unfold Rat.mul
 simp only [Int.divExact_eq_tdiv]
theorem A8F (a b : Rat) : (a * b).den = a.den / Nat.gcd b.num.natAbs a.den * (b.den / Nat.gcd a.num.natAbs b.den):=by
 show (Rat.mul a b).den = _
 unfold Rat.mul
 simp only [Nat.divExact_eq_div]
def Z5 (a b : Rat) : Int:=a.num * ((b.den / Nat.gcd a.den b.den : Nat) : Int) + b.num * ((a.den / Nat.gcd a.den b.den : Nat) : Int)
def hOf (a b : Rat) : Nat:=Nat.gcd (Z5 a b).natAbs (Nat.gcd a.den b.den)
theorem A7k (a b : Rat) (h : a.den / Nat.gcd a.den b.den * b.den ≠ 0) : a + b = Rat.normalize (Z5 a b) (a.den / Nat.gcd a.den b.den * b.den) h:=by
 rw [Rat.add_def]
 have hg : Nat.gcd a.den b.den ≠ 0:=fun h0=>a.den_nz (Nat.eq_zero_of_gcd_eq_zero_left h0)
 obtain ⟨x,hx⟩:=Nat.gcd_dvd_left a.den b.den
 obtain ⟨y,hy⟩:=Nat.gcd_dvd_right a.den b.den
 have hxd : a.den / Nat.gcd a.den b.den = x:=Nat.div_eq_of_eq_mul_right (Nat.pos_of_ne_zero hg) hx
 have hyd : b.den / Nat.gcd a.den b.den = y:=Nat.div_eq_of_eq_mul_right (Nat.pos_of_ne_zero hg) hy
 rw [← Rat.normalize_mul_right (a:=Nat.gcd a.den b.den) h hg]
 congr 1
 ·unfold Z5
  rw [hxd,hyd]
  generalize Nat.gcd a.den b.den = g at *
  rw [hx,hy]
  push_cast
  grind
 ·rw [hxd]
  generalize Nat.gcd a.den b.den = g at *
  rw [hx]
  grind
theorem A6R (a b : Rat) : hOf a b = Nat.gcd (Z5 a b).natAbs (a.den / Nat.gcd a.den b.den * b.den):=Rat.add.aux a b rfl rfl rfl
theorem A6y (a b : Rat) : a.den / Nat.gcd a.den b.den * b.den ≠ 0:=by
 have h1:=Nat.div_gcd_pos_of_pos_left b.den a.den_pos
 have h2:=b.den_pos
 exact Nat.ne_of_gt (Nat.mul_pos h1 h2)
theorem A6d (a b : Rat) : (a + b).num = (Z5 a b).tdiv (hOf a b):=by
 rw [A7k a b (A6y a b),Rat.num_normalize,← A6R]
 refine (Int.tdiv_eq_ediv_of_dvd ?_).symm
 exact Int.ofNat_dvd_left.2 (Nat.gcd_dvd_left _ _)
theorem A8q (a b : Rat) : (a + b).den = a.den / Nat.gcd a.den b.den * (b.den / hOf a b):=by
 rw [A7k a b (A6y a b),Rat.den_normalize,← A6R]
 exact Nat.mul_div_assoc _ (Nat.dvd_trans (Nat.gcd_dvd_right _ _) (Nat.gcd_dvd_right _ _))
theorem A4Q (n : Int) (d : Nat) (h : d ≠ 0) : (mkRat n d).num = n.tdiv (Nat.gcd n.natAbs d):=by
 rw [← Rat.normalize_eq_mkRat h,Rat.num_normalize]
 exact (Int.tdiv_eq_ediv_of_dvd (Int.ofNat_dvd_left.2 (Nat.gcd_dvd_left _ _))).symm
theorem A5q (n : Int) (d : Nat) (h : d ≠ 0) : (mkRat n d).den = d / Nat.gcd n.natAbs d:=by
 rw [← Rat.normalize_eq_mkRat h,Rat.den_normalize]
def G9 (a b : Rat) : Int:=if a < b then -1 else if b < a then 1 else 0
theorem A2x (a b : Rat) : G9 a b = L8 (a.num * b.den) (b.num * a.den):=by
 unfold G9 L8
 simp only [Rat.lt_iff]
theorem A81 {a b : Rat} (ha : a.den = 1) (hb : b.den = 1) : G9 a b = L8 a.num b.num:=by
 rw [A2x,ha,hb];simp
theorem A7p {a b : Rat} (h : a.num.sign ≠ b.num.sign) : G9 a b = L8 a.num b.num:=by
 rw [A2x]
 have h1:=a.den_pos
 have h2:=b.den_pos
 generalize a.num = x at *
 generalize b.num = y at *
 generalize a.den = p at *
 generalize b.den = q at *
 have hx : (x * (q : Int)).sign = x.sign:=by rw [Int.sign_mul,Int.sign_eq_one_of_pos (a:=(q : Int)) (by omega),Int.mul_one]
 have hy : (y * (p : Int)).sign = y.sign:=by rw [Int.sign_mul,Int.sign_eq_one_of_pos (a:=(p : Int)) (by omega),Int.mul_one]
 rw [← hx,← hy] at h
 have key : ∀ u v : Int,u.sign ≠ v.sign → L8 u v = L8 u.sign v.sign:=by
  intro u v huv
  unfold L8
  rcases Int.lt_trichotomy u 0 with hu | hu | hu <;> rcases Int.lt_trichotomy v 0 with hv | hv | hv <;>
   (first | (rw [Int.sign_eq_neg_one_of_neg hu] at huv ⊢) | (rw [hu,Int.sign_zero] at huv ⊢) | (rw [Int.sign_eq_one_of_pos hu] at huv ⊢)) <;>
   (first | (rw [Int.sign_eq_neg_one_of_neg hv] at huv ⊢) | (rw [hv,Int.sign_zero] at huv ⊢) | (rw [Int.sign_eq_one_of_pos hv] at huv ⊢)) <;>
   first | (exact absurd rfl huv) | (split <;> (try split) <;> simp <;> omega)
 rw [key _ _ h,hx,hy]
 rw [hx,hy] at h
 exact (key _ _ h).symm
def qs (q : Rat) : Nat:=max (bl q.num.natAbs) (bl q.den)
theorem E8 (q : Rat) : bl q.num.natAbs ≤ qs q:=Nat.le_max_left _ _
theorem F6 (q : Rat) : bl q.den ≤ qs q:=Nat.le_max_right _ _
theorem A2X (n : Int) (g : Nat) : (n.tdiv g).natAbs ≤ n.natAbs:=by
 rw [Int.natAbs_tdiv];exact Nat.div_le_self _ _
theorem S8 (a b : Rat) : qs (a * b) ≤ qs a + qs b:=by
 refine Nat.max_le.2 ⟨?_,?_⟩
 ·rw [A8j,Int.natAbs_mul]
  refine Nat.le_trans (N0 _ _) ?_
  have h1:=N9 (A2X a.num (Nat.gcd a.num.natAbs b.den))
  have h2:=N9 (A2X b.num (Nat.gcd b.num.natAbs a.den))
  have := E8 a
  have := E8 b
  omega
 ·rw [A8F]
  refine Nat.le_trans (N0 _ _) ?_
  have h1:=M4 a.den (Nat.gcd b.num.natAbs a.den)
  have h2:=M4 b.den (Nat.gcd a.num.natAbs b.den)
  have := F6 a
  have := F6 b
  omega
theorem A8H (a b : Rat) : bl (Z5 a b).natAbs ≤ qs a + qs b + 1:=by
 unfold Z5
 have h1:=N0 a.num.natAbs (b.den / Nat.gcd a.den b.den)
 have h2:=N0 b.num.natAbs (a.den / Nat.gcd a.den b.den)
 have h3:=M4 b.den (Nat.gcd a.den b.den)
 have h4:=M4 a.den (Nat.gcd a.den b.den)
 have := E8 a
 have := F6 a
 have := E8 b
 have := F6 b
 refine Nat.le_trans (N9 (Int.natAbs_add_le _ _)) ?_
 rw [Int.natAbs_mul,Int.natAbs_mul,Int.natAbs_natCast,Int.natAbs_natCast]
 refine Nat.le_trans (A4m _ _) ?_
 omega
theorem A2F (a b : Rat) : qs (a + b) ≤ qs a + qs b + 1:=by
 refine Nat.max_le.2 ⟨?_,?_⟩
 ·rw [A6d]
  exact Nat.le_trans (N9 (A2X _ _)) (A8H a b)
 ·rw [A8q]
  refine Nat.le_trans (N0 _ _) ?_
  have h1:=M4 a.den (Nat.gcd a.den b.den)
  have h2:=M4 b.den (hOf a b)
  have := F6 a
  have := F6 b
  omega
theorem A5B (a : Rat) : qs (-a) = qs a:=by
 unfold qs;rw [Rat.neg_num,Rat.neg_den,Int.natAbs_neg]
theorem A47 (a b : Rat) : qs (a - b) ≤ qs a + qs b + 1:=by
 rw [Rat.sub_eq_add_neg]
 have := A2F a (-b)
 rw [A5B] at this
 exact this
theorem A7r (a : Rat) (h : a ≠ 0) : qs a⁻¹ = qs a:=by
 have h0 : a.num ≠ 0:=fun e=>h (Rat.num_eq_zero.1 e)
 unfold qs
 rw [Rat.num_inv,Rat.den_inv,if_neg h0,Int.natAbs_mul,Int.natAbs_natCast,Int.natAbs_sign_of_ne_zero h0,Nat.one_mul,Nat.max_comm]
theorem A2u (a b : Rat) : qs (a / b) ≤ qs a + qs b:=by
 by_cases h : b = 0
 ·subst h
  have : a / 0 = 0:=by rw [Rat.div_def,Rat.inv_zero,Rat.mul_zero]
  rw [this]
  have h0 : qs 0 = 1:=by show max (bl 0) (bl 1) = 1;rw [A0N,A2o.2 rfl];rfl
  have : 0 < bl a.den:=Q4.2 a.den_nz
  have := F6 a
  omega
 ·rw [Rat.div_def,← A7r b h]
  exact S8 _ _
theorem B40 (a : Rat) : 1 ≤ qs a:=by
 have : 0 < bl a.den:=Q4.2 a.den_nz
 have := F6 a
 omega
theorem A7t (n : Int) (k : Nat) (h : n.natAbs < 2 ^ k) (hk : 1 ≤ k) : qs (n : Rat) ≤ k:=by
 refine Nat.max_le.2 ⟨?_,?_⟩
 ·rw [Rat.num_intCast];exact O4.2 h
 ·rw [Rat.den_intCast];exact Nat.le_trans (by decide) hk
end Go.Proofs.YtgpglgbcobeogaaGreatDoor
namespace Go.Proofs.YtgpglgbcobeogaaGreatDoor
open Go.RowKit
theorem B0D {p q : Rat} (h : p = q) : Ending.returned (qV p) = .returned (qV q):=by rw [h]
theorem A0q {n : Int} {d : Nat} {q : Rat} (h1 : q.num = n) (h2 : q.den = d) : Ending.returned (nqV n d) = .returned (qV q):=by rw [A8N h1 h2]
theorem A4O {a b : Nat} (h : a = b) : Ending.returned (B5 a) = .returned (B5 b):=by rw [h]
theorem B3P {d : Nat} (h : bl d ≤ 1099511627776) : bl (O5 d) ≤ 1099511627776:=by
 unfold O5;split
 ·rw [A0N];omega
 ·exact h
theorem A5X (q : Rat) (h : bl q.den ≤ 1099511627776) (w : World) : Calls Tryz.prog 81 #[qV q] w fun e w'=>e = .returned (.bool (decide (q.den = 1))) ∧ A4 w w':=by
 have hk:=B3P h
 have hd : decide (q.den = 1) = ((bl (O5 q.den) : Int) == 0):=by
  have h2:=q.den_pos
  by_cases h1 : q.den = 1
  ·rw [h1,A8z,A0N];rfl
  ·rw [A4q h1,decide_eq_false h1]
   have : bl q.den ≠ 0:=fun e=>by have := X4.1 e;omega
   symm
   simpa using this
 rw [hd]
 clear hd
 go_enter Tryz.func81,Tryz.ntmps81
 refine en1 ?_
 intro u hG b1 hB hF
 refine wp_seq (rsE A8 [0,0,1,0,0] hB hG fun L hL=>?_)
 refine gs ?_
 refine gmw (C:=fun v=>N2 _ (by assumption) _) ?_
 refine gs ?_
 refine geT hL ?_
 clear hB hG hL L
 rintro u ⟨-,hB,hG,-⟩
 refine rt Tryz.results81 ?_
 exact ⟨rfl,hG⟩
theorem A9c (w : World) : Calls Tryz.prog 143 #[.int .u64 1] w fun e w'=>e = .returned (B5 1) ∧ A4 w w':=A2v 1 (by unfold W64;omega) w
theorem R7 (q : Rat) (h : bl q.den ≤ 1099511627776) (w : World) : Calls Tryz.prog 84 #[qV q] w fun e w'=>e = .returned (B5 q.den) ∧ A4 w w':=by
 go_enter Tryz.func84,Tryz.ntmps84
 refine en2 ?_
 intro u hG b2 b1 hB hF
 refine wp_seq ?_
 refine wp_seq (rsE A8 [0,1] hB hG fun L hL=>?_)
 refine gs ?_
 refine gmw (C:=fun v=>A5X _ (by assumption) _) ?_
 refine geT hL ?_
 clear hB hG hL L
 rintro u ⟨-,hB,hG,-⟩
 refine wp_cond_split rfl ?_ ?_
 ·intro ht
  have ht4:=ht
  refine wp_seq (rsC A8 [1] hB hG fun K L hN hL=>?_)
  refine gmw (C:=fun v=>A9c _) ?_
  refine geC hL ?_
  clear hB hG hL L
  rintro u ⟨-,hB,hG,-⟩
  refine gtT ?_
  clear hN K
  refine st hB hF hG 1 0 [_,_] ?_
  clear hB hG
  intro u hB hG
  refine rt Tryz.results84 ?_
  have e : q.den = 1:=of_decide_eq_true ht
  exact ⟨A4O e.symm,hG⟩
 ·intro ht
  have ht4:=ht
  refine wp_skip ?_
  refine A6 ?_
  refine r0T ?_
  refine st hB hF hG 1 0 [_,_] ?_
  clear hB hG
  intro u hB hG
  refine rt Tryz.results84 ?_
  have e : q.den ≠ 1:=of_decide_eq_false ht
  exact ⟨A4O (A4q e),hG⟩
theorem B1i (q : Rat) (w : World) : Calls Tryz.prog 151 #[qV q] w fun e w'=>e = .returned (D9 q.num) ∧ A4 w w':=by
 go_enter Tryz.func151,Tryz.ntmps151
 refine en2 ?_
 intro u hG b2 b1 hB hF
 refine r0T ?_
 refine st hB hF hG 1 0 [_,_,_] ?_
 clear hB hG
 intro u hB hG
 refine rt Tryz.results151 ?_
 exact ⟨rfl,hG⟩
theorem M5 (q : Rat) (h : bl q.num.natAbs ≤ 1099511627776) (w : World) : Calls Tryz.prog 36 #[qV q] w fun e w'=>e = .returned (.int .i64 q.num.sign) ∧ A4 w w':=by
 go_enter Tryz.func36,Tryz.ntmps36
 refine en1 ?_
 intro u hG b1 hB hF
 refine wp_seq (rsE A8 [0,0,1,0] hB hG fun L hL=>?_)
 refine gs ?_
 refine gmw (C:=fun v=>A2k _ (by assumption) _) ?_
 refine gs ?_
 refine geT hL ?_
 clear hB hG hL L
 rintro u ⟨-,hB,hG,-⟩
 refine rt Tryz.results36 ?_
 exact ⟨rfl,hG⟩
theorem A3v (n : Int) (d : Nat) (h : bl d ≤ 1099511627776) (w : World) : Calls Tryz.prog 85 #[D9 n,B5 d] w fun e w'=>e = .returned (nqV n d) ∧ A4 w w':=by
 go_enter Tryz.func85,Tryz.ntmps85
 refine en3 ?_
 intro u hG b4 b3 b2 hB hF
 refine wp_seq ?_
 refine wp_seq (rsE A8 [0,1,0] hB hG fun L hL=>?_)
 refine gs ?_
 refine gmw (C:=fun v=>N2 _ (by assumption) _) ?_
 refine gs ?_
 refine geT hL ?_
 clear hB hG hL L
 rintro u ⟨-,hB,hG,-⟩
 refine wp_cond_split rfl ?_ ?_
 ·intro ht
  have ht7:=ht
  refine r0T ?_
  refine st hB hF hG 2 0 [_,_,_,_,_] ?_
  clear hB hG
  intro u hB hG
  refine rt Tryz.results85 ?_
  have e : d = 1:=A2o.1 (by simp at ht;omega)
  subst e
  exact ⟨rfl,hG⟩
 ·intro ht
  have ht7:=ht
  refine wp_skip ?_
  refine A6 ?_
  refine r0T ?_
  refine st hB hF hG 2 0 [_,_,_,_,_] ?_
  clear hB hG
  intro u hB hG
  refine rt Tryz.results85 ?_
  have e : d ≠ 1:=fun e=>by
   have h2:=A2o.2 e
   rw [h2] at ht
   simp at ht
  exact ⟨by rw [nqV,A4q e],hG⟩
theorem A08 (a b : Nat) (ha : bl a ≤ BIG) (hb : bl b ≤ BIG) (h0 : b ≠ 0) (w : World) : Calls Tryz.prog 87 #[B5 a,B5 b] w fun e w'=>e = .returned (B5 (a / b)) ∧ A4 w w':=by
 have hb':=N6 hb
 go_enter Tryz.func87,Tryz.ntmps87
 refine en3 ?_
 intro u hG b4 b3 b2 hB hF
 refine wp_seq ?_
 refine wp_seq (rsE A8 [0,1,0] hB hG fun L hL=>?_)
 refine gs ?_
 refine gmw (C:=fun v=>N2 _ (by assumption) _) ?_
 refine gs ?_
 refine geT hL ?_
 clear hB hG hL L
 rintro u ⟨-,hB,hG,-⟩
 refine wp_cond_split rfl ?_ ?_
 ·intro ht
  have ht10:=ht
  refine r0T ?_
  refine st hB hF hG 2 0 [_,_] ?_
  clear hB hG
  intro u hB hG
  refine rt Tryz.results87 ?_
  have e : b = 1:=A2o.1 (by simp at ht;omega)
  exact ⟨A4O (by rw [e,Nat.div_one]),hG⟩
 ·intro ht
  have ht10:=ht
  refine wp_skip ?_
  refine A6 ?_
  refine wp_seq (rsC A8 [0,0,1,0,0,0,0,2,2] hB hG fun K L hN hL=>?_)
  refine gs ?_
  refine gmw (C:=fun v=>A2t _ _ (by assumption) (by assumption) (by assumption) _) ?_
  refine gs ?_
  refine gaa (J4 _ _ _ _ _) fun b5 hb5 hn5=>?_
  refine gaa (J4 _ _ _ _ _) fun b6 hb6 hn6=>?_
  replace hF:=hF.n1 [] hB hG hb5 hn5
  replace hF:=hF.n1 [b5] hB hG hb6 hn6
  refine geC hL ?_
  clear hB hG hL L
  rintro u ⟨⟨⟨-,hB,hG,-⟩,h5⟩,h6⟩
  replace hB:=hB.cons' h5
  replace hB:=hB.cons' h6
  clear h5 h6
  clear hb5 hn5 hb6 hn6
  have hD : b5 ≠ b6 ∧ b6 ≠ b5:=⟨hF.ne 1 0 rfl rfl (by decide),hF.ne 0 1 rfl rfl (by decide)⟩
  refine gtT ?_
  clear hN K
  clear hD
  refine st2 hB hF hG 1 0 [_,_] 0 0 [_,_] ?_
  clear hB hG
  intro u hB hG
  refine r0T ?_
  refine st hB hF hG 4 0 [_,_] ?_
  clear hB hG
  intro u hB hG
  refine rt Tryz.results87 ?_
  exact ⟨rfl,hG⟩
theorem A3x (n : Int) (b : Nat) (ha : bl n.natAbs ≤ BIG) (hb : bl b ≤ BIG) (h0 : b ≠ 0) (w : World) : Calls Tryz.prog 86 #[D9 n,B5 b] w fun e w'=>e = .returned (D9 (ztd n b)) ∧ A4 w w':=by
 have ha':=N6 ha
 have hd : bl (n.natAbs / b) ≤ 1099511627776:=Nat.le_trans (M4 _ _) ha'
 go_enter Tryz.func86,Tryz.ntmps86
 refine en3 ?_
 intro u hG b4 b3 b2 hB hF
 refine wp_seq (rdC A8 [] [(0,0),(0,3),(0,5),(1,1),(0,2),(1,4),(1,6),(1,7)] hB hG fun K L hN hL=>?_)
 refine gs ?_
 refine gmw (C:=fun v=>A2k _ (by assumption) _) ?_
 refine gs ?_
 refine gmw (C:=fun v=>A1h _ _) ?_
 refine gmw (C:=fun v=>A08 _ _ (by assumption) (by assumption) (by assumption) _) ?_
 refine gmw (C:=fun v=>P8 _ _ (by assumption) _) ?_
 refine geC hL ?_
 clear hB hG hL L
 rintro u ⟨-,hB,hG,-⟩
 refine gtT ?_
 clear hN K
 refine st hB hF hG 2 0 [_,_,_] ?_
 clear hB hG
 intro u hB hG
 refine rt Tryz.results86 ?_
 exact ⟨A1O (A48 n b),hG⟩
theorem A15 (n : Int) (d : Nat) (h : bl n.natAbs + bl d ≤ 1099511627776) (w : World) : Calls Tryz.prog 90 #[D9 n,B5 d] w fun e w'=>e = .returned (D9 (ztm n d)) ∧ A4 w w':=by
 have hd : bl d ≤ 1099511627776:=by omega
 have h' : bl n.natAbs + bl (sgn false d).natAbs ≤ 1099511627776:=h
 go_enter Tryz.func90,Tryz.ntmps90
 refine en3 ?_
 intro u hG b4 b3 b2 hB hF
 refine wp_seq (rdC A8 [] [(0,0),(0,1),(1,2),(1,3)] hB hG fun K L hN hL=>?_)
 refine gs ?_
 refine gmw (C:=fun v=>P8 _ _ (by assumption) _) ?_
 refine gmw (C:=fun v=>A42 _ _ (by assumption) _) ?_
 refine geC hL ?_
 clear hB hG hL L
 rintro u ⟨-,hB,hG,-⟩
 refine gtT ?_
 clear hN K
 refine st hB hF hG 2 0 [_,_,_] ?_
 clear hB hG
 intro u hB hG
 refine rt Tryz.results90 ?_
 exact ⟨rfl,hG⟩
theorem A2n (n : Int) (d : Nat) (hn : bl n.natAbs ≤ BIG) (hd : bl d ≤ BIG) (w : World) (HT : Tab w) : Calls Tryz.prog 83 #[D9 n,D9 (sgn false d)] w fun e w'=>e = .returned (B5 (Nat.gcd n.natAbs d)) ∧ A4 w w':=by
 have := A9u n (sgn false d) hn (by rw [M6];exact hd) w HT
 rw [M6] at this
 exact this
theorem B1F (c d : Nat) (hc : bl c ≤ BIG) (hd : bl d ≤ BIG) (w : World) (HT : Tab w) : Calls Tryz.prog 83 #[D9 (sgn false c),D9 (sgn false d)] w fun e w'=>e = .returned (B5 (Nat.gcd c d)) ∧ A4 w w':=by
 have := A2n (sgn false c) d (by rw [M6];exact hc) hd w HT
 rw [M6] at this
 exact this
theorem A7i (n : Int) (d : Nat) (hn : bl n.natAbs ≤ BIG) (hd : bl d ≤ BIG) (h0 : d ≠ 0) (w : World) (HT : Tab w) : Calls Tryz.prog 130 #[D9 n,B5 d] w fun e w'=>e = .returned (qV (mkRat n d)) ∧ A4 w w':=by
 have hd':=N6 hd
 have hg : bl (Nat.gcd n.natAbs d) ≤ BIG:=Nat.le_trans (A3o _ _ h0) hd
 have hg0 : Nat.gcd n.natAbs d ≠ 0:=fun e=>h0 (Nat.eq_zero_of_gcd_eq_zero_right e)
 have hdd : bl (d / Nat.gcd n.natAbs d) ≤ 1099511627776:=Nat.le_trans (M4 _ _) hd'
 go_enter Tryz.func130,Tryz.ntmps130
 refine en3 ?_
 intro u hG b4 b3 b2 hB hF
 refine wp_seq (rdC A8 [] [(0,0),(0,1),(1,2),(1,3),(2,4)] hB hG fun K L hN hL=>?_)
 refine gs ?_
 refine gmw (C:=fun v=>P8 _ _ (by assumption) _) ?_
 refine gmd (C:=fun v ⟨hgu,hB,hG,_⟩=>A2n n d hn hd _ (HT.grow hG)) ?_
 refine gaa (J4 _ _ _ _ _) fun b5 hb5 hn5=>?_
 replace hF:=hF.n1 [] hB hG hb5 hn5
 refine geC hL ?_
 clear hB hG hL L
 rintro u ⟨⟨-,hB,hG,-⟩,h5⟩
 replace hB:=hB.cons' h5
 clear h5
 clear hb5 hn5
 refine gtT ?_
 clear hN K
 refine st hB hF hG 0 0 [_,_] ?_
 clear hB hG
 intro u hB hG
 refine wp_seq (rdC A8 [] [(0,0),(0,1),(0,3),(0,4),(1,2),(1,5),(1,6)] hB hG fun K L hN hL=>?_)
 refine gs ?_
 refine gmw (C:=fun v=>A3x n (Nat.gcd n.natAbs d) hn hg hg0 _) ?_
 refine gmw (C:=fun v=>A08 d (Nat.gcd n.natAbs d) hd hg hg0 _) ?_
 refine gmw (C:=fun v=>A3v _ _ (by assumption) _) ?_
 refine geC hL ?_
 clear hB hG hL L
 rintro u ⟨-,hB,hG,-⟩
 refine gtT ?_
 clear hN K
 refine st hB hF hG 3 0 [_,_,_,_,_] ?_
 clear hB hG
 intro u hB hG
 refine rt Tryz.results130 ?_
 exact ⟨A0q (A4Q n d h0) (A5q n d h0),hG⟩
def E6 (a b : Rat) : Rat:=a + b
def G5 (a b : Rat) : Rat:=a - b
def C2 (a b : Rat) : Rat:=a * b
def K3 (a b : Rat) : Rat:=a / b
def K9 (a : Rat) : Rat:=-a
def I7 (a : Rat) : Rat:=a.abs
def B9 (n : Int) : Rat:=(n : Rat)
def nz (d : Int) : Bool:=decide (d ≠ 0)
def nzq (q : Rat) : Bool:=decide (q ≠ 0)
def G0 (n d : Int) : Rat:=Rat.divInt n d
theorem A4Y (n : Int) : (B9 n).num = n:=Rat.num_intCast n
theorem A4x (n : Int) : (B9 n).den = 1:=Rat.den_intCast n
theorem Z0 (n : Int) (h0 : -9223372036854775808 ≤ n) (h1 : n ≤ 9223372036854775807) (w : World) : Calls Tryz.prog 48 #[.int .i64 n] w fun e w'=>e = .returned (qV (B9 n)) ∧ A4 w w':=by
 go_enter Tryz.func48,Tryz.ntmps48
 refine en1 ?_
 intro u hG b2 hB hF
 refine wp_seq (rsC A8 [0,1,0] hB hG fun K L hN hL=>?_)
 refine gs ?_
 refine gmw (C:=fun v=>B4j _ (by assumption) (by assumption) _) ?_
 refine gs ?_
 refine geC hL ?_
 clear hB hG hL L
 rintro u ⟨-,hB,hG,-⟩
 refine gtT ?_
 clear hN K
 refine st hB hF hG 0 0 [_,_,_,_,_] ?_
 clear hB hG
 intro u hB hG
 refine rt Tryz.results48 ?_
 exact ⟨A0q (d:=1) (A4Y n) (A4x n),hG⟩
theorem A5n (n d : Int) (h : ¬ d < 0) : G0 n d = mkRat n d.natAbs:=by
 obtain ⟨m,rfl⟩ : ∃ m : Nat,d = (m : Int):=⟨d.natAbs,by omega⟩
 unfold G0
 rw [Rat.divInt_ofNat,Int.natAbs_natCast]
theorem A4f (n d : Int) (h : d < 0) : G0 n d = mkRat (O9 n) d.natAbs:=by
 obtain ⟨m,rfl⟩ : ∃ m : Nat,d = -(m : Int):=⟨d.natAbs,by omega⟩
 unfold G0 O9
 rw [Rat.divInt_neg',Rat.divInt_ofNat,Int.natAbs_neg,Int.natAbs_natCast]
theorem A6D (z : Int) : bl (O9 z).natAbs = bl z.natAbs:=by unfold O9;rw [Int.natAbs_neg]
theorem A3y {p q : Rat} {a b : Bool} (h : p = q) (h' : a = b) : Ending.returned (.tuple #[qV p,.bool a]) = .returned (.tuple #[qV q,.bool b]):=by rw [h,h']
theorem B0q (n d : Int) (hn : bl n.natAbs ≤ BIG) (hd : bl d.natAbs ≤ BIG) (w : World) (HT : Tab w) : Calls Tryz.prog 64 #[D9 n,D9 d] w fun e w'=>e = .returned (.tuple #[qV (G0 n d),.bool (nz d)]) ∧ A4 w w':=by
 have hn':=N6 hn
 have hd':=N6 hd
 have hz : bl (O9 n).natAbs ≤ BIG:=by rw [A6D];exact hn
 go_enter Tryz.func64,Tryz.ntmps64
 refine en3 ?_
 intro u hG b4 b3 b2 hB hF
 refine wp_seq ?_
 refine wp_seq (rsE A8 [0,1,0] hB hG fun L hL=>?_)
 refine gs ?_
 refine gmw (C:=fun v=>A2k _ (by assumption) _) ?_
 refine gs ?_
 refine geT hL ?_
 clear hB hG hL L
 rintro u ⟨-,hB,hG,-⟩
 refine wp_cond_split rfl ?_ ?_
 ·intro ht
  have ht8:=ht
  refine r0T ?_
  refine st hB hF hG 2 0 [_,_,_,_,_] ?_
  clear hB hG
  intro u hB hG
  refine rt Tryz.results64 ?_
  have e : d = 0:=by simpa using ht
  subst e
  exact ⟨A3y (p:=0) (by unfold G0;rw [Rat.divInt_zero]) rfl,hG⟩
 ·intro ht
  have ht8:=ht
  have hd0 : d.natAbs ≠ 0:=fun e=>by
   have : d = 0:=by omega
   rw [this] at ht
   simp at ht
  refine wp_skip ?_
  refine A6 ?_
  refine wp_seq ?_
  refine wp_seq (rsE A8 [0,1,0] hB hG fun L hL=>?_)
  refine gs ?_
  refine gmw (C:=fun v=>A2k _ (by assumption) _) ?_
  refine gs ?_
  refine geT hL ?_
  clear hB hG hL L
  rintro u ⟨-,hB,hG,-⟩
  refine wp_cond_split rfl ?_ ?_
  ·intro ht
   have ht12:=ht
   refine rsC A8 [0,1] hB hG fun K L hN hL=>?_
   refine gs ?_
   refine gmw (C:=fun v=>A8r _ (by assumption) _) ?_
   refine geC hL ?_
   clear hB hG hL L
   rintro u ⟨-,hB,hG,-⟩
   refine gtT ?_
   clear hN K
   refine st hB hF hG 0 0 [_,_,_] ?_
   clear hB hG
   intro u hB hG
   refine wp_seq (rdC A8 [] [(0,0),(0,1),(1,2),(1,3)] hB hG fun K L hN hL=>?_)
   refine gs ?_
   refine gmw (C:=fun v=>A1h _ _) ?_
   refine gmd (C:=fun v ⟨hgu,hB,hG,_⟩=>A7i _ _ (by assumption) (by assumption) (by assumption) _ (HT.grow hG)) ?_
   refine geC hL ?_
   clear hB hG hL L
   rintro u ⟨-,hB,hG,-⟩
   refine gtT ?_
   clear hN K
   refine st hB hF hG 2 0 [_,_,_,_,_] ?_
   clear hB hG
   intro u hB hG
   refine rt Tryz.results64 ?_
   have e : d < 0:=by simpa using ht
   exact ⟨A3y (A4f n d e).symm (decide_eq_true (by omega)).symm,hG⟩
  ·intro ht
   have ht12:=ht
   refine wp_skip ?_
   refine A6 ?_
   refine wp_seq (rdC A8 [] [(0,0),(0,1),(1,2),(1,3)] hB hG fun K L hN hL=>?_)
   refine gs ?_
   refine gmw (C:=fun v=>A1h _ _) ?_
   refine gmd (C:=fun v ⟨hgu,hB,hG,_⟩=>A7i _ _ (by assumption) (by assumption) (by assumption) _ (HT.grow hG)) ?_
   refine geC hL ?_
   clear hB hG hL L
   rintro u ⟨-,hB,hG,-⟩
   refine gtT ?_
   clear hN K
   refine st hB hF hG 2 0 [_,_,_,_,_] ?_
   clear hB hG
   intro u hB hG
   refine rt Tryz.results64 ?_
   have e : ¬ d < 0:=by simpa using ht
   exact ⟨A3y (A5n n d e).symm (decide_eq_true (by omega)).symm,hG⟩
theorem A62 {n : Int} (h0 : -9223372036854775808 ≤ n) (h1 : n ≤ 9223372036854775807) : bl n.natAbs ≤ BIG:=by
 refine Nat.le_trans (O4.2 ?_) A4u
 have : (2 : Nat) ^ 64 = 18446744073709551616:=rfl
 omega
theorem A4t (q : Rat) (h : bl q.num.natAbs ≤ 1099511627776) (w : World) : Calls Tryz.prog 97 #[qV q] w fun e w'=>e = .returned (qV (K9 q)) ∧ A4 w w':=by
 go_enter Tryz.func97,Tryz.ntmps97
 refine en2 ?_
 intro u hG b2 b1 hB hF
 refine wp_seq (rdC A8 [] [(0,0),(0,1),(0,3),(0,4),(1,2),(0,5)] hB hG fun K L hN hL=>?_)
 refine gs ?_
 refine gmw (C:=fun v=>A8r _ (by assumption) _) ?_
 refine gs ?_
 refine geC hL ?_
 clear hB hG hL L
 rintro u ⟨-,hB,hG,-⟩
 refine gtT ?_
 clear hN K
 refine st hB hF hG 1 0 [_,_,_,_,_] ?_
 clear hB hG
 intro u hB hG
 refine rt Tryz.results97 ?_
 exact ⟨A0q (Rat.neg_num q) (Rat.neg_den q),hG⟩
theorem A5s (q : Rat) : q.abs.num = sgn false q.num.natAbs:=by
 rw [A0E]
 by_cases h : 0 ≤ q
 ·rw [Rat.abs_of_nonneg h]
  have := Rat.num_nonneg.2 h
  omega
 ·have h' : q ≤ 0:=by rcases Rat.le_total (a:=0) (b:=q) with h1 | h1;exact absurd h1 h;exact h1
  rw [Rat.abs_of_nonpos h',Rat.neg_num]
  have : ¬ 0 ≤ q.num:=fun h2=>h (Rat.num_nonneg.1 h2)
  omega
theorem A5a (q : Rat) : q.abs.den = q.den:=by
 by_cases h : 0 ≤ q
 ·rw [Rat.abs_of_nonneg h]
 ·have h' : q ≤ 0:=by rcases Rat.le_total (a:=0) (b:=q) with h1 | h1;exact absurd h1 h;exact h1
  rw [Rat.abs_of_nonpos h',Rat.neg_den]
theorem A4d (q : Rat) (h : bl q.num.natAbs ≤ 1099511627776) (w : World) : Calls Tryz.prog 54 #[qV q] w fun e w'=>e = .returned (qV (I7 q)) ∧ A4 w w':=by
 go_enter Tryz.func54,Tryz.ntmps54
 refine en2 ?_
 intro u hG b2 b1 hB hF
 refine wp_seq (rdC A8 [] [(0,0),(0,1),(0,4),(0,5),(1,2),(1,3),(0,6)] hB hG fun K L hN hL=>?_)
 refine gs ?_
 refine gmw (C:=fun v=>A1h _ _) ?_
 refine gmw (C:=fun v=>P8 _ _ (by assumption) _) ?_
 refine gs ?_
 refine geC hL ?_
 clear hB hG hL L
 rintro u ⟨-,hB,hG,-⟩
 refine gtT ?_
 clear hN K
 refine st hB hF hG 1 0 [_,_,_,_,_] ?_
 clear hB hG
 intro u hB hG
 refine rt Tryz.results54 ?_
 exact ⟨A0q (A5s q) (A5a q),hG⟩
theorem X8 (q : Rat) (h : bl q.den ≤ 1099511627776) (h1 : q.den = 1) (w : World) : Calls Tryz.prog 81 #[qV q] w fun e w'=>e = .returned (.bool true) ∧ A4 w w':=by
 have := A5X q h w
 rw [decide_eq_true h1] at this
 exact this
theorem Z7 (q : Rat) (h : bl q.den ≤ 1099511627776) (h1 : ¬ q.den = 1) (w : World) : Calls Tryz.prog 81 #[qV q] w fun e w'=>e = .returned (.bool false) ∧ A4 w w':=by
 have := A5X q h w
 rw [decide_eq_false h1] at this
 exact this
section
variable (a b : Rat) (w : World)
theorem B2h (h : qs a + qs b + 1 ≤ BIG) (ha1 : a.den = 1) (hb1 : b.den = 1) : Calls Tryz.prog 30 #[qV a,qV b] w fun e w'=>e = .returned (.int .i64 (G9 a b)) ∧ A4 w w':=by
 have hB40:=I3
 have h1 : bl a.num.natAbs ≤ 1099511627776:=by have := E8 a;omega
 have h2 : bl b.num.natAbs ≤ 1099511627776:=by have := E8 b;omega
 have h3 : bl a.den ≤ 1099511627776:=by have := F6 a;omega
 have h4 : bl b.den ≤ 1099511627776:=by have := F6 b;omega
 have Ha1:=Lib.hid ha1
 have Hb1:=Lib.hid hb1
 clear ha1 hb1
 go_enter Tryz.func30,Tryz.ntmps30
 refine en2 ?_
 intro u hG b3 b2 hB hF
 refine wp_seq ?_
 refine wp_seq (rdC A8 [] [(0,0),(1,1),(0,2),(0,3),(1,4),(0,5),(0,6),(0,7),(0,9),(1,8),(1,10),(0,11)] hB hG fun K L hN hL=>?_)
 refine gs ?_
 refine gmw (C:=fun v=>X8 a h3 Ha1.out _) ?_
 refine gs ?_
 first | refine gmw (C:=fun v=>X8 b h4 Hb1.out _) ?_ | refine H4 ?_
 refine gs ?_
 first | refine gmw (C:=fun v=>M5 _ (by assumption) _) ?_ | refine H4 ?_
 first | refine gmw (C:=fun v=>M5 _ (by assumption) _) ?_ | refine H4 ?_
 refine gs ?_
 refine geC hL ?_
 clear hB hG hL L
 rintro u ⟨-,hB,hG,-⟩
 refine gtT ?_
 clear hN K
 refine wp_cond_true (rfl) ?_
 refine wp_seq (rsE A8 [0,0,0,0,1,0] hB hG fun L hL=>?_)
 refine gs ?_
 refine gmw (C:=fun v=>A2L _ _ (by assumption) (by assumption) _) ?_
 refine gs ?_
 refine geT hL ?_
 clear hB hG hL L
 rintro u ⟨-,hB,hG,-⟩
 refine rt Tryz.results30 ?_
 exact ⟨J5 (A81 Ha1.out Hb1.out).symm,hG⟩
theorem B0Z (h : qs a + qs b + 1 ≤ BIG) (ha1 : a.den = 1) (hb1 : ¬ b.den = 1) : Calls Tryz.prog 30 #[qV a,qV b] w fun e w'=>e = .returned (.int .i64 (G9 a b)) ∧ A4 w w':=by
 have hB40:=I3
 have h1 : bl a.num.natAbs ≤ 1099511627776:=by have := E8 a;omega
 have h2 : bl b.num.natAbs ≤ 1099511627776:=by have := E8 b;omega
 have h3 : bl a.den ≤ 1099511627776:=by have := F6 a;omega
 have h4 : bl b.den ≤ 1099511627776:=by have := F6 b;omega
 have h5 : bl a.num.natAbs + bl b.den ≤ 1099511627776:=by have := E8 a;have := F6 b;omega
 have h6 : bl b.num.natAbs + bl a.den ≤ 1099511627776:=by have := E8 b;have := F6 a;omega
 have h7 : bl (ztm a.num b.den).natAbs ≤ 1099511627776:=by unfold ztm;rw [Int.natAbs_mul];exact Nat.le_trans (N0 _ _) h5
 have h8 : bl (ztm b.num a.den).natAbs ≤ 1099511627776:=by unfold ztm;rw [Int.natAbs_mul];exact Nat.le_trans (N0 _ _) h6
 have Ha1:=Lib.hid ha1
 have Hb1:=Lib.hid hb1
 clear ha1 hb1
 go_enter Tryz.func30,Tryz.ntmps30
 refine en2 ?_
 intro u hG b3 b2 hB hF
 refine wp_seq ?_
 refine wp_seq (rdC A8 [] [(0,0),(1,1),(0,2),(0,3),(1,4),(0,5),(0,6),(0,7),(0,9),(1,8),(1,10),(0,11)] hB hG fun K L hN hL=>?_)
 refine gs ?_
 refine gmw (C:=fun v=>X8 a h3 Ha1.out _) ?_
 refine gs ?_
 first | refine gmw (C:=fun v=>Z7 b h4 Hb1.out _) ?_ | refine H4 ?_
 refine gs ?_
 first | refine gmw (C:=fun v=>M5 _ (by assumption) _) ?_ | refine H4 ?_
 first | refine gmw (C:=fun v=>M5 _ (by assumption) _) ?_ | refine H4 ?_
 refine gs ?_
 refine geC hL ?_
 clear hB hG hL L
 rintro u ⟨-,hB,hG,-⟩
 refine gtT ?_
 clear hN K
 refine wp_cond_split rfl ?_ ?_
 ·intro ht
  have ht17:=ht
  refine wp_seq (rsE A8 [0,0,0,0,1,0] hB hG fun L hL=>?_)
  refine gs ?_
  refine gmw (C:=fun v=>A2L _ _ (by assumption) (by assumption) _) ?_
  refine gs ?_
  refine geT hL ?_
  clear hB hG hL L
  rintro u ⟨-,hB,hG,-⟩
  refine rt Tryz.results30 ?_
  exact ⟨J5 (A7p (by simpa using ht)).symm,hG⟩
 ·intro ht
  have ht17:=ht
  refine wp_skip ?_
  refine A6 ?_
  refine wp_seq (rdC A8 [] [(0,0),(0,1),(0,2),(0,5),(0,6),(0,7),(1,3),(1,4),(1,8),(1,9),(1,10)] hB hG fun K L hN hL=>?_)
  refine gs ?_
  refine gmw (C:=fun v=>R7 _ (by assumption) _) ?_
  refine gmw (C:=fun v=>A15 _ _ (by assumption) _) ?_
  refine gmw (C:=fun v=>R7 _ (by assumption) _) ?_
  refine gmw (C:=fun v=>A15 _ _ (by assumption) _) ?_
  refine gmw (C:=fun v=>A2L _ _ (by assumption) (by assumption) _) ?_
  refine geC hL ?_
  clear hB hG hL L
  rintro u ⟨-,hB,hG,-⟩
  refine gtT ?_
  clear hN K
  refine rt Tryz.results30 ?_
  exact ⟨J5 (A2x a b).symm,hG⟩
theorem B1b (h : qs a + qs b + 1 ≤ BIG) (ha1 : ¬ a.den = 1) : Calls Tryz.prog 30 #[qV a,qV b] w fun e w'=>e = .returned (.int .i64 (G9 a b)) ∧ A4 w w':=by
 have hB40:=I3
 have h1 : bl a.num.natAbs ≤ 1099511627776:=by have := E8 a;omega
 have h2 : bl b.num.natAbs ≤ 1099511627776:=by have := E8 b;omega
 have h3 : bl a.den ≤ 1099511627776:=by have := F6 a;omega
 have h4 : bl b.den ≤ 1099511627776:=by have := F6 b;omega
 have h5 : bl a.num.natAbs + bl b.den ≤ 1099511627776:=by have := E8 a;have := F6 b;omega
 have h6 : bl b.num.natAbs + bl a.den ≤ 1099511627776:=by have := E8 b;have := F6 a;omega
 have h7 : bl (ztm a.num b.den).natAbs ≤ 1099511627776:=by unfold ztm;rw [Int.natAbs_mul];exact Nat.le_trans (N0 _ _) h5
 have h8 : bl (ztm b.num a.den).natAbs ≤ 1099511627776:=by unfold ztm;rw [Int.natAbs_mul];exact Nat.le_trans (N0 _ _) h6
 have Ha1:=Lib.hid ha1
 clear ha1
 go_enter Tryz.func30,Tryz.ntmps30
 refine en2 ?_
 intro u hG b3 b2 hB hF
 refine wp_seq ?_
 refine wp_seq (rdC A8 [] [(0,0),(1,1),(0,2),(0,3),(1,4),(0,5),(0,6),(0,7),(0,9),(1,8),(1,10),(0,11)] hB hG fun K L hN hL=>?_)
 refine gs ?_
 refine gmw (C:=fun v=>Z7 a h3 Ha1.out _) ?_
 refine gs ?_
 first | refine gmw (C:=fun v=>Z7 a h3 Ha1.out _) ?_ | refine H4 ?_
 refine gs ?_
 first | refine gmw (C:=fun v=>M5 _ (by assumption) _) ?_ | refine H4 ?_
 first | refine gmw (C:=fun v=>M5 _ (by assumption) _) ?_ | refine H4 ?_
 refine gs ?_
 refine geC hL ?_
 clear hB hG hL L
 rintro u ⟨-,hB,hG,-⟩
 refine gtT ?_
 clear hN K
 refine wp_cond_split rfl ?_ ?_
 ·intro ht
  have ht17:=ht
  refine wp_seq (rsE A8 [0,0,0,0,1,0] hB hG fun L hL=>?_)
  refine gs ?_
  refine gmw (C:=fun v=>A2L _ _ (by assumption) (by assumption) _) ?_
  refine gs ?_
  refine geT hL ?_
  clear hB hG hL L
  rintro u ⟨-,hB,hG,-⟩
  refine rt Tryz.results30 ?_
  exact ⟨J5 (A7p (by simpa using ht)).symm,hG⟩
 ·intro ht
  have ht17:=ht
  refine wp_skip ?_
  refine A6 ?_
  refine wp_seq (rdC A8 [] [(0,0),(0,1),(0,2),(0,5),(0,6),(0,7),(1,3),(1,4),(1,8),(1,9),(1,10)] hB hG fun K L hN hL=>?_)
  refine gs ?_
  refine gmw (C:=fun v=>R7 _ (by assumption) _) ?_
  refine gmw (C:=fun v=>A15 _ _ (by assumption) _) ?_
  refine gmw (C:=fun v=>R7 _ (by assumption) _) ?_
  refine gmw (C:=fun v=>A15 _ _ (by assumption) _) ?_
  refine gmw (C:=fun v=>A2L _ _ (by assumption) (by assumption) _) ?_
  refine geC hL ?_
  clear hB hG hL L
  rintro u ⟨-,hB,hG,-⟩
  refine gtT ?_
  clear hN K
  refine rt Tryz.results30 ?_
  exact ⟨J5 (A2x a b).symm,hG⟩
theorem A3w (h : qs a + qs b + 1 ≤ BIG) : Calls Tryz.prog 30 #[qV a,qV b] w fun e w'=>e = .returned (.int .i64 (G9 a b)) ∧ A4 w w':=by
 by_cases ha1 : a.den = 1
 ·by_cases hb1 : b.den = 1
  ·exact B2h a b w h ha1 hb1
  ·exact B0Z a b w h ha1 hb1
 ·exact B1b a b w h ha1
theorem A3f (q : Rat) (h : q.den = 1) : q = (q.num : Rat):=Rat.ext (Rat.num_intCast _).symm (by rw [h];exact (Rat.den_intCast _).symm)
theorem A82 (h : qs a + qs b + 1 ≤ BIG) (ha1 : a.den = 1) (hb1 : b.den = 1) : Calls Tryz.prog 95 #[qV a,qV b] w fun e w'=>e = .returned (qV (E6 a b)) ∧ A4 w w':=by
 have hB40:=I3
 have h1 : bl a.num.natAbs < 1099511627776:=by have := E8 a;omega
 have h2 : bl b.num.natAbs < 1099511627776:=by have := E8 b;have := B40 a;omega
 have h3 : bl a.den ≤ 1099511627776:=by have := F6 a;omega
 have h4 : bl b.den ≤ 1099511627776:=by have := F6 b;omega
 have e : E6 a b = ((a.num + b.num : Int) : Rat):=by
  unfold E6
  rw [Rat.intCast_add,← A3f a ha1,← A3f b hb1]
 have e1 : (E6 a b).num = S6 a.num b.num:=by rw [e,Rat.num_intCast];rfl
 have e2 : (E6 a b).den = 1:=by rw [e,Rat.den_intCast]
 have He:=Lib.hid (And.intro e1 e2)
 clear e e1 e2
 have Ha1:=Lib.hid ha1
 have Hb1:=Lib.hid hb1
 clear ha1 hb1
 go_enter Tryz.func95,Tryz.ntmps95
 refine en3 ?_
 intro u hG b4 b3 b2 hB hF
 refine wp_seq ?_
 refine wp_seq (rsE A8 [0,1,0,0,1,0] hB hG fun L hL=>?_)
 refine gs ?_
 refine gmw (C:=fun v=>X8 a h3 Ha1.out _) ?_
 refine gs ?_
 first | refine gmw (C:=fun v=>X8 b h4 Hb1.out _) ?_ | refine H4 ?_
 refine gs ?_
 refine geT hL ?_
 clear hB hG hL L
 rintro u ⟨-,hB,hG,-⟩
 refine wp_cond_true (rfl) ?_
 refine wp_seq (rsC A8 [0,0,0,0,1,0] hB hG fun K L hN hL=>?_)
 refine gs ?_
 refine gmw (C:=fun v=>A7B _ _ (by assumption) (by assumption) _) ?_
 refine gs ?_
 refine geC hL ?_
 clear hB hG hL L
 rintro u ⟨-,hB,hG,-⟩
 refine gtT ?_
 clear hN K
 refine st hB hF hG 2 0 [_,_,_,_,_] ?_
 clear hB hG
 intro u hB hG
 refine rt Tryz.results95 ?_
 exact ⟨A0q He.out.1 He.out.2,hG⟩
theorem B0N (h : qs a + qs b + 1 ≤ BIG) : bl (Nat.gcd a.den b.den) ≤ BIG ∧ Nat.gcd a.den b.den ≠ 0 ∧ bl a.den ≤ BIG ∧ bl b.den ≤ BIG ∧ bl a.num.natAbs + bl (b.den / Nat.gcd a.den b.den) ≤ 1099511627776 ∧ bl b.num.natAbs + bl (a.den / Nat.gcd a.den b.den) ≤ 1099511627776 ∧
  bl (ztm a.num (b.den / Nat.gcd a.den b.den)).natAbs < 1099511627776 ∧ bl (ztm b.num (a.den / Nat.gcd a.den b.den)).natAbs < 1099511627776 ∧ bl (S6 (ztm a.num (b.den / Nat.gcd a.den b.den)) (ztm b.num (a.den / Nat.gcd a.den b.den))).natAbs ≤ BIG ∧
  bl (Nat.gcd (S6 (ztm a.num (b.den / Nat.gcd a.den b.den)) (ztm b.num (a.den / Nat.gcd a.den b.den))).natAbs (Nat.gcd a.den b.den)) ≤ BIG ∧ Nat.gcd (S6 (ztm a.num (b.den / Nat.gcd a.den b.den)) (ztm b.num (a.den / Nat.gcd a.den b.den))).natAbs (Nat.gcd a.den b.den) ≠ 0:=by
 have hB40:=I3
 have s1:=E8 a
 have s2:=F6 a
 have s3:=E8 b
 have s4:=F6 b
 have s5:=M4 b.den (Nat.gcd a.den b.den)
 have s6:=M4 a.den (Nat.gcd a.den b.den)
 have g0 : Nat.gcd a.den b.den ≠ 0:=fun e=>a.den_nz (Nat.eq_zero_of_gcd_eq_zero_left e)
 have g1:=A92 a.den b.den a.den_nz
 have up : bl (Z5 a b).natAbs ≤ qs a + qs b + 1:=A8H a b
 have m1 : bl (ztm a.num (b.den / Nat.gcd a.den b.den)).natAbs ≤ bl a.num.natAbs + bl (b.den / Nat.gcd a.den b.den):=by unfold ztm;rw [Int.natAbs_mul];exact N0 _ _
 have m2 : bl (ztm b.num (a.den / Nat.gcd a.den b.den)).natAbs ≤ bl b.num.natAbs + bl (a.den / Nat.gcd a.den b.den):=by unfold ztm;rw [Int.natAbs_mul];exact N0 _ _
 refine ⟨by omega,g0,by omega,by omega,by omega,by omega,by omega,by omega,Nat.le_trans up h,Nat.le_trans (A3o _ _ g0) (by omega),fun e=>g0 (Nat.eq_zero_of_gcd_eq_zero_right e)⟩
end
end Go.Proofs.YtgpglgbcobeogaaGreatDoor
