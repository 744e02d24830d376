/- Contracts and laws. -/
import Derived.Test.YtlkniebmjdoopaaGreatDoorK19
set_option linter.unusedSimpArgs false
set_option linter.unusedVariables false
set_option maxHeartbeats 1000000
set_option maxRecDepth 100000
namespace Go.Proofs.YtlkniebmjdoopaaGreatDoor
abbrev nqV (n : Int) (d : Nat) : Value:=.agg #[.bool (D1 n),.int .u64 (B3 n.natAbs),.string (B1 n.natAbs),.int .u64 (B3 (G3 d)),.string (B1 (G3 d))]
theorem B6Q : G3 1 = 0:=rfl
theorem A6X {d : Nat} (h : d ≠ 1) : G3 d = d:=if_neg h
theorem A9T {n : Int} {d : Nat} {q : Rat} (h1 : q.num = n) (h2 : q.den = d) : nqV n d = qV q:=by subst h1;subst h2;rfl
theorem A5B (n : Int) (b : Nat) : sgn (D1 n) (n.natAbs / b) = n.tdiv b:=by
 unfold sgn D1
 by_cases h : n < 0
 ·rw [if_pos (decide_eq_true h)]
  obtain ⟨m,rfl⟩ : ∃ m : Nat,n = -(m : Int):=⟨n.natAbs,by omega⟩
  rw [Int.neg_tdiv,Int.natAbs_neg,Int.natAbs_natCast,Int.ofNat_tdiv]
 ·rw [if_neg (by simpa using h)]
  obtain ⟨m,rfl⟩ : ∃ m : Nat,n = (m : Int):=⟨n.natAbs,by omega⟩
  rw [Int.natAbs_natCast,Int.ofNat_tdiv]
theorem A8G (a b : Rat) : (a * b).num = a.num.tdiv (Nat.gcd a.num.natAbs b.den) * b.num.tdiv (Nat.gcd b.num.natAbs a.den):=by
 show (Rat.mul a b).num = _
 unfold Rat.mul
 simp only [Int.divExact_eq_tdiv]
theorem A7k (a b : Rat) : (a * b).den = a.den / Nat.gcd b.num.natAbs a.den * (b.den / Nat.gcd a.num.natAbs b.den):=by
 show (Rat.mul a b).den = _
 unfold Rat.mul
 simp only [Nat.divExact_eq_div]
def U4 (a b : Rat) : Int:=a.num * ((b.den / Nat.gcd a.den b.den : Nat) : Int) + b.num * ((a.den / Nat.gcd a.den b.den : Nat) : Int)
def hOf (a b : Rat) : Nat:=Nat.gcd (U4 a b).natAbs (Nat.gcd a.den b.den)
theorem A8d (a b : Rat) (h : a.den / Nat.gcd a.den b.den * b.den ≠ 0) : a + b = Rat.normalize (U4 a b) (a.den / Nat.gcd a.den b.den * b.den) h:=by
 rw [Rat.add_def]
 have hg : Nat.gcd a.den b.den ≠ 0:=fun h0=>a.den_nz (Nat.eq_zero_of_gcd_eq_zero_left h0)
 obtain ⟨x,hx⟩:=Nat.gcd_dvd_left a.den b.den
 obtain ⟨y,hy⟩:=Nat.gcd_dvd_right a.den b.den
 have hxd : a.den / Nat.gcd a.den b.den = x:=Nat.div_eq_of_eq_mul_right (Nat.pos_of_ne_zero hg) hx
 have hyd : b.den / Nat.gcd a.den b.den = y:=Nat.div_eq_of_eq_mul_right (Nat.pos_of_ne_zero hg) hy
 rw [← Rat.normalize_mul_right (a:=Nat.gcd a.den b.den) h hg]
 congr 1
 ·unfold U4
  rw [hxd,hyd]
  generalize Nat.gcd a.den b.den = g at *
  rw [hx,hy]
  push_cast
  grind
 ·rw [hxd]
  generalize Nat.gcd a.den b.den = g at *
  rw [hx]
  grind
theorem A8O (a b : Rat) : hOf a b = Nat.gcd (U4 a b).natAbs (a.den / Nat.gcd a.den b.den * b.den):=Rat.add.aux a b rfl rfl rfl
theorem A8C (a b : Rat) : a.den / Nat.gcd a.den b.den * b.den ≠ 0:=by
 have h1:=Nat.div_gcd_pos_of_pos_left b.den a.den_pos
 have h2:=b.den_pos
 exact Nat.ne_of_gt (Nat.mul_pos h1 h2)
theorem A9Y (a b : Rat) : (a + b).num = (U4 a b).tdiv (hOf a b):=by
 rw [A8d a b (A8C a b),Rat.num_normalize,← A8O]
 refine (Int.tdiv_eq_ediv_of_dvd ?_).symm
 exact Int.ofNat_dvd_left.2 (Nat.gcd_dvd_left _ _)
theorem A7m (a b : Rat) : (a + b).den = a.den / Nat.gcd a.den b.den * (b.den / hOf a b):=by
 rw [A8d a b (A8C a b),Rat.den_normalize,← A8O]
 exact Nat.mul_div_assoc _ (Nat.dvd_trans (Nat.gcd_dvd_right _ _) (Nat.gcd_dvd_right _ _))
theorem A5v (n : Int) (d : Nat) (h : d ≠ 0) : (mkRat n d).num = n.tdiv (Nat.gcd n.natAbs d):=by
 rw [← Rat.normalize_eq_mkRat h,Rat.num_normalize]
 exact (Int.tdiv_eq_ediv_of_dvd (Int.ofNat_dvd_left.2 (Nat.gcd_dvd_left _ _))).symm
theorem A6Z (n : Int) (d : Nat) (h : d ≠ 0) : (mkRat n d).den = d / Nat.gcd n.natAbs d:=by
 rw [← Rat.normalize_eq_mkRat h,Rat.den_normalize]
def K6 (a b : Rat) : Int:=if a < b then -1 else if b < a then 1 else 0
theorem A4G (a b : Rat) : K6 a b = P7 (a.num * b.den) (b.num * a.den):=by
 unfold K6 P7
 simp only [Rat.lt_iff]
theorem B4H {a b : Rat} (ha : a.den = 1) (hb : b.den = 1) : K6 a b = P7 a.num b.num:=by
 rw [A4G,ha,hb];simp
theorem A64 {a b : Rat} (h : a.num.sign ≠ b.num.sign) : K6 a b = P7 a.num b.num:=by
 rw [A4G]
 have h1:=a.den_pos
 have h2:=b.den_pos
 generalize a.num = x at *
 generalize b.num = y at *
 generalize a.den = p at *
 generalize b.den = q at *
 have hx : (x * (q : Int)).sign = x.sign:=by rw [Int.sign_mul,Int.sign_eq_one_of_pos (a:=(q : Int)) (by omega),Int.mul_one]
 have hy : (y * (p : Int)).sign = y.sign:=by rw [Int.sign_mul,Int.sign_eq_one_of_pos (a:=(p : Int)) (by omega),Int.mul_one]
 rw [← hx,← hy] at h
 have key : ∀ u v : Int,u.sign ≠ v.sign → P7 u v = P7 u.sign v.sign:=by
  intro u v huv
  unfold P7
  rcases Int.lt_trichotomy u 0 with hu | hu | hu <;> rcases Int.lt_trichotomy v 0 with hv | hv | hv <;>
   (first | (rw [Int.sign_eq_neg_one_of_neg hu] at huv ⊢) | (rw [hu,Int.sign_zero] at huv ⊢) | (rw [Int.sign_eq_one_of_pos hu] at huv ⊢)) <;>
   (first | (rw [Int.sign_eq_neg_one_of_neg hv] at huv ⊢) | (rw [hv,Int.sign_zero] at huv ⊢) | (rw [Int.sign_eq_one_of_pos hv] at huv ⊢)) <;>
   first | (exact absurd rfl huv) | (split <;> (try split) <;> simp <;> omega)
 rw [key _ _ h,hx,hy]
 rw [hx,hy] at h
 exact (key _ _ h).symm
def qs (q : Rat) : Nat:=max (bl q.num.natAbs) (bl q.den)
theorem F8 (q : Rat) : bl q.num.natAbs ≤ qs q:=Nat.le_max_left _ _
theorem F6 (q : Rat) : bl q.den ≤ qs q:=Nat.le_max_right _ _
theorem A2M (n : Int) (g : Nat) : (n.tdiv g).natAbs ≤ n.natAbs:=by
 rw [Int.natAbs_tdiv];exact Nat.div_le_self _ _
theorem A2s (a b : Rat) : qs (a * b) ≤ qs a + qs b:=by
 refine Nat.max_le.2 ⟨?_,?_⟩
 ·rw [A8G,Int.natAbs_mul]
  refine Nat.le_trans (P5 _ _) ?_
  have h1:=N8 (A2M a.num (Nat.gcd a.num.natAbs b.den))
  have h2:=N8 (A2M b.num (Nat.gcd b.num.natAbs a.den))
  have := F8 a
  have := F8 b
  omega
 ·rw [A7k]
  refine Nat.le_trans (P5 _ _) ?_
  have h1:=M6 a.den (Nat.gcd b.num.natAbs a.den)
  have h2:=M6 b.den (Nat.gcd a.num.natAbs b.den)
  have := F6 a
  have := F6 b
  omega
theorem A9L (a b : Rat) : bl (U4 a b).natAbs ≤ qs a + qs b + 1:=by
 unfold U4
 have h1:=P5 a.num.natAbs (b.den / Nat.gcd a.den b.den)
 have h2:=P5 b.num.natAbs (a.den / Nat.gcd a.den b.den)
 have h3:=M6 b.den (Nat.gcd a.den b.den)
 have h4:=M6 a.den (Nat.gcd a.den b.den)
 have := F8 a
 have := F6 a
 have := F8 b
 have := F6 b
 refine Nat.le_trans (N8 (Int.natAbs_add_le _ _)) ?_
 rw [Int.natAbs_mul,Int.natAbs_mul,Int.natAbs_natCast,Int.natAbs_natCast]
 refine Nat.le_trans (A67 _ _) ?_
 omega
theorem A9f (a b : Rat) : qs (a + b) ≤ qs a + qs b + 1:=by
 refine Nat.max_le.2 ⟨?_,?_⟩
 ·rw [A9Y]
  exact Nat.le_trans (N8 (A2M _ _)) (A9L a b)
 ·rw [A7m]
  refine Nat.le_trans (P5 _ _) ?_
  have h1:=M6 a.den (Nat.gcd a.den b.den)
  have h2:=M6 b.den (hOf a b)
  have := F6 a
  have := F6 b
  omega
theorem A5L (a : Rat) : qs (-a) = qs a:=by
 unfold qs;rw [Rat.neg_num,Rat.neg_den,Int.natAbs_neg]
theorem B6x (a b : Rat) : qs (a - b) ≤ qs a + qs b + 1:=by
 rw [Rat.sub_eq_add_neg]
 have := A9f a (-b)
 rw [A5L] at this
 exact this
theorem A9G (a : Rat) (h : a ≠ 0) : qs a⁻¹ = qs a:=by
 have h0 : a.num ≠ 0:=fun e=>h (Rat.num_eq_zero.1 e)
 unfold qs
 rw [Rat.num_inv,Rat.den_inv,if_neg h0,Int.natAbs_mul,Int.natAbs_natCast,Int.natAbs_sign_of_ne_zero h0,Nat.one_mul,Nat.max_comm]
theorem A4T (a b : Rat) : qs (a / b) ≤ qs a + qs b:=by
 by_cases h : b = 0
 ·subst h
  have : a / 0 = 0:=by rw [Rat.div_def,Rat.inv_zero,Rat.mul_zero]
  rw [this]
  have h0 : qs 0 = 1:=by show max (bl 0) (bl 1) = 1;rw [Y9,A26.2 rfl];rfl
  have : 0 < bl a.den:=P6.2 a.den_nz
  have := F6 a
  omega
 ·rw [Rat.div_def,← A9G b h]
  exact A2s _ _
theorem B4m (a : Rat) : 1 ≤ qs a:=by
 have : 0 < bl a.den:=P6.2 a.den_nz
 have := F6 a
 omega
theorem B3P (n : Int) (k : Nat) (h : n.natAbs < 2 ^ k) (hk : 1 ≤ k) : qs (n : Rat) ≤ k:=by
 refine Nat.max_le.2 ⟨?_,?_⟩
 ·rw [Rat.num_intCast];exact J9.2 h
 ·rw [Rat.den_intCast];exact Nat.le_trans (by decide) hk
end Go.Proofs.YtlkniebmjdoopaaGreatDoor
namespace Go.Proofs.YtlkniebmjdoopaaGreatDoor
open Go.RowKit
theorem B38 {p q : Rat} (h : p = q) : Ending.returned (qV p) = .returned (qV q):=by rw [h]
theorem A0W {n : Int} {d : Nat} {q : Rat} (h1 : q.num = n) (h2 : q.den = d) : Ending.returned (nqV n d) = .returned (qV q):=by rw [A9T h1 h2]
theorem A49 {a b : Nat} (h : a = b) : Ending.returned (A6 a) = .returned (A6 b):=by rw [h]
theorem B3F {d : Nat} (h : bl d ≤ 1099511627776) : bl (G3 d) ≤ 1099511627776:=by
 unfold G3;split
 ·rw [Y9];omega
 ·exact h
theorem A5p (q : Rat) (h : bl q.den ≤ 1099511627776) (w : World) : Calls Tryz.prog 57 #[qV q] w fun e w'=>e = .returned (.bool (decide (q.den = 1))) ∧ A3 w w':=by
 have hk:=B3F h
 have hd : decide (q.den = 1) = ((bl (G3 q.den) : Int) == 0):=by
  have h2:=q.den_pos
  by_cases h1 : q.den = 1
  ·rw [h1,B6Q,Y9];rfl
  ·rw [A6X h1,decide_eq_false h1]
   have : bl q.den ≠ 0:=fun e=>by have := T0.1 e;omega
   symm
   simpa using this
 rw [hd]
 clear hd
 go_enter Tryz.func57,Tryz.ntmps57
 refine en1 ?_
 intro u hG b1 hB hF
 refine wp_seq (rsE A5 [0,0,1,0,0] hB hG fun L hL=>?_)
 refine gs ?_
 refine gmw (C:=fun v=>M1 _ (by assumption) _) ?_
 refine gs ?_
 refine geT hL ?_
 clear hB hG hL L
 rintro u ⟨-,hB,hG,-⟩
 refine rt Tryz.results57 ?_
 exact ⟨rfl,hG⟩
theorem B6D (w : World) : Calls Tryz.prog 121 #[.int .u64 1] w fun e w'=>e = .returned (A6 1) ∧ A3 w w':=A2Z 1 (by unfold W64;omega) w
theorem Q4 (q : Rat) (h : bl q.den ≤ 1099511627776) (w : World) : Calls Tryz.prog 61 #[qV q] w fun e w'=>e = .returned (A6 q.den) ∧ A3 w w':=by
 go_enter Tryz.func61,Tryz.ntmps61
 refine en2 ?_
 intro u hG b2 b1 hB hF
 refine wp_seq ?_
 refine wp_seq (rsE A5 [0,1] hB hG fun L hL=>?_)
 refine gs ?_
 refine gmw (C:=fun v=>A5p _ (by assumption) _) ?_
 refine geT hL ?_
 clear hB hG hL L
 rintro u ⟨-,hB,hG,-⟩
 refine wp_cond_split rfl ?_ ?_
 ·intro ht
  have ht4:=ht
  refine wp_seq (rsC A5 [1] hB hG fun K L hN hL=>?_)
  refine gmw (C:=fun v=>B6D _) ?_
  refine geC hL ?_
  clear hB hG hL L
  rintro u ⟨-,hB,hG,-⟩
  refine gtT ?_
  clear hN K
  refine st hB hF hG 1 0 [_,_] ?_
  clear hB hG
  intro u hB hG
  refine rt Tryz.results61 ?_
  have e : q.den = 1:=of_decide_eq_true ht
  exact ⟨A49 e.symm,hG⟩
 ·intro ht
  have ht4:=ht
  refine wp_skip ?_
  refine A4 ?_
  refine r0T ?_
  refine st hB hF hG 1 0 [_,_] ?_
  clear hB hG
  intro u hB hG
  refine rt Tryz.results61 ?_
  have e : q.den ≠ 1:=of_decide_eq_false ht
  exact ⟨A49 (A6X e),hG⟩
theorem B3y (q : Rat) (w : World) : Calls Tryz.prog 138 #[qV q] w fun e w'=>e = .returned (D4 q.num) ∧ A3 w w':=by
 go_enter Tryz.func138,Tryz.ntmps138
 refine en2 ?_
 intro u hG b2 b1 hB hF
 refine r0T ?_
 refine st hB hF hG 1 0 [_,_,_] ?_
 clear hB hG
 intro u hB hG
 refine rt Tryz.results138 ?_
 exact ⟨rfl,hG⟩
theorem Q7 (q : Rat) (h : bl q.num.natAbs ≤ 1099511627776) (w : World) : Calls Tryz.prog 21 #[qV q] w fun e w'=>e = .returned (.int .i64 q.num.sign) ∧ A3 w w':=by
 go_enter Tryz.func21,Tryz.ntmps21
 refine en1 ?_
 intro u hG b1 hB hF
 refine wp_seq (rsE A5 [0,0,1,0] hB hG fun L hL=>?_)
 refine gs ?_
 refine gmw (C:=fun v=>A16 _ (by assumption) _) ?_
 refine gs ?_
 refine geT hL ?_
 clear hB hG hL L
 rintro u ⟨-,hB,hG,-⟩
 refine rt Tryz.results21 ?_
 exact ⟨rfl,hG⟩
theorem A4d (n : Int) (d : Nat) (h : bl d ≤ 1099511627776) (w : World) : Calls Tryz.prog 62 #[D4 n,A6 d] w fun e w'=>e = .returned (nqV n d) ∧ A3 w w':=by
 go_enter Tryz.func62,Tryz.ntmps62
 refine en3 ?_
 intro u hG b4 b3 b2 hB hF
 refine wp_seq ?_
 refine wp_seq (rsE A5 [0,1,0] hB hG fun L hL=>?_)
 refine gs ?_
 refine gmw (C:=fun v=>M1 _ (by assumption) _) ?_
 refine gs ?_
 refine geT hL ?_
 clear hB hG hL L
 rintro u ⟨-,hB,hG,-⟩
 refine wp_cond_split rfl ?_ ?_
 ·intro ht
  have ht7:=ht
  refine r0T ?_
  refine st hB hF hG 2 0 [_,_,_,_,_] ?_
  clear hB hG
  intro u hB hG
  refine rt Tryz.results62 ?_
  have e : d = 1:=A26.1 (by simp at ht;omega)
  subst e
  exact ⟨rfl,hG⟩
 ·intro ht
  have ht7:=ht
  refine wp_skip ?_
  refine A4 ?_
  refine r0T ?_
  refine st hB hF hG 2 0 [_,_,_,_,_] ?_
  clear hB hG
  intro u hB hG
  refine rt Tryz.results62 ?_
  have e : d ≠ 1:=fun e=>by
   have h2:=A26.2 e
   rw [h2] at ht
   simp at ht
  exact ⟨by rw [nqV,A6X e],hG⟩
theorem A02 (a b : Nat) (ha : bl a ≤ BIG) (hb : bl b ≤ BIG) (h0 : b ≠ 0) (w : World) : Calls Tryz.prog 64 #[A6 a,A6 b] w fun e w'=>e = .returned (A6 (a / b)) ∧ A3 w w':=by
 have hb':=M7 hb
 go_enter Tryz.func64,Tryz.ntmps64
 refine en3 ?_
 intro u hG b4 b3 b2 hB hF
 refine wp_seq ?_
 refine wp_seq (rsE A5 [0,1,0] hB hG fun L hL=>?_)
 refine gs ?_
 refine gmw (C:=fun v=>M1 _ (by assumption) _) ?_
 refine gs ?_
 refine geT hL ?_
 clear hB hG hL L
 rintro u ⟨-,hB,hG,-⟩
 refine wp_cond_split rfl ?_ ?_
 ·intro ht
  have ht10:=ht
  refine r0T ?_
  refine st hB hF hG 2 0 [_,_] ?_
  clear hB hG
  intro u hB hG
  refine rt Tryz.results64 ?_
  have e : b = 1:=A26.1 (by simp at ht;omega)
  exact ⟨A49 (by rw [e,Nat.div_one]),hG⟩
 ·intro ht
  have ht10:=ht
  refine wp_skip ?_
  refine A4 ?_
  refine wp_seq (rsC A5 [0,0,1,0,0,0,0,2,2] hB hG fun K L hN hL=>?_)
  refine gs ?_
  refine gmw (C:=fun v=>A11 _ _ (by assumption) (by assumption) (by assumption) _) ?_
  refine gs ?_
  refine gaa (I8 _ _ _ _ _) fun b5 hb5 hn5=>?_
  refine gaa (I8 _ _ _ _ _) fun b6 hb6 hn6=>?_
  replace hF:=hF.n1 [] hB hG hb5 hn5
  replace hF:=hF.n1 [b5] hB hG hb6 hn6
  refine geC hL ?_
  clear hB hG hL L
  rintro u ⟨⟨⟨-,hB,hG,-⟩,h5⟩,h6⟩
  replace hB:=hB.cons' h5
  replace hB:=hB.cons' h6
  clear h5 h6
  clear hb5 hn5 hb6 hn6
  have hD : b5 ≠ b6 ∧ b6 ≠ b5:=⟨hF.ne 1 0 rfl rfl (by decide),hF.ne 0 1 rfl rfl (by decide)⟩
  refine gtT ?_
  clear hN K
  clear hD
  refine st2 hB hF hG 1 0 [_,_] 0 0 [_,_] ?_
  clear hB hG
  intro u hB hG
  refine r0T ?_
  refine st hB hF hG 4 0 [_,_] ?_
  clear hB hG
  intro u hB hG
  refine rt Tryz.results64 ?_
  exact ⟨rfl,hG⟩
theorem A3k (n : Int) (b : Nat) (ha : bl n.natAbs ≤ BIG) (hb : bl b ≤ BIG) (h0 : b ≠ 0) (w : World) : Calls Tryz.prog 63 #[D4 n,A6 b] w fun e w'=>e = .returned (D4 (ztd n b)) ∧ A3 w w':=by
 have ha':=M7 ha
 have hd : bl (n.natAbs / b) ≤ 1099511627776:=Nat.le_trans (M6 _ _) ha'
 go_enter Tryz.func63,Tryz.ntmps63
 refine en3 ?_
 intro u hG b4 b3 b2 hB hF
 refine wp_seq (rdC A5 [] [(0,0),(0,3),(0,5),(1,1),(0,2),(1,4),(1,6),(1,7)] hB hG fun K L hN hL=>?_)
 refine gs ?_
 refine gmw (C:=fun v=>A16 _ (by assumption) _) ?_
 refine gs ?_
 refine gmw (C:=fun v=>A1f _ _) ?_
 refine gmw (C:=fun v=>A02 _ _ (by assumption) (by assumption) (by assumption) _) ?_
 refine gmw (C:=fun v=>N9 _ _ (by assumption) _) ?_
 refine geC hL ?_
 clear hB hG hL L
 rintro u ⟨-,hB,hG,-⟩
 refine gtT ?_
 clear hN K
 refine st hB hF hG 2 0 [_,_,_] ?_
 clear hB hG
 intro u hB hG
 refine rt Tryz.results63 ?_
 exact ⟨A1G (A5B n b),hG⟩
theorem A1b (n : Int) (d : Nat) (h : bl n.natAbs + bl d ≤ 1099511627776) (w : World) : Calls Tryz.prog 68 #[D4 n,A6 d] w fun e w'=>e = .returned (D4 (ztm n d)) ∧ A3 w w':=by
 have hd : bl d ≤ 1099511627776:=by omega
 have h' : bl n.natAbs + bl (sgn false d).natAbs ≤ 1099511627776:=h
 go_enter Tryz.func68,Tryz.ntmps68
 refine en3 ?_
 intro u hG b4 b3 b2 hB hF
 refine wp_seq (rdC A5 [] [(0,0),(0,1),(1,2),(1,3)] hB hG fun K L hN hL=>?_)
 refine gs ?_
 refine gmw (C:=fun v=>N9 _ _ (by assumption) _) ?_
 refine gmw (C:=fun v=>A6U _ _ (by assumption) _) ?_
 refine geC hL ?_
 clear hB hG hL L
 rintro u ⟨-,hB,hG,-⟩
 refine gtT ?_
 clear hN K
 refine st hB hF hG 2 0 [_,_,_] ?_
 clear hB hG
 intro u hB hG
 refine rt Tryz.results68 ?_
 exact ⟨rfl,hG⟩
theorem A2X (n : Int) (d : Nat) (hn : bl n.natAbs ≤ BIG) (hd : bl d ≤ BIG) (w : World) (HT : Tab w) : Calls Tryz.prog 59 #[D4 n,D4 (sgn false d)] w fun e w'=>e = .returned (A6 (Nat.gcd n.natAbs d)) ∧ A3 w w':=by
 have := B2G n (sgn false d) hn (by rw [A0k];exact hd) w HT
 rw [A0k] at this
 exact this
theorem B1s (c d : Nat) (hc : bl c ≤ BIG) (hd : bl d ≤ BIG) (w : World) (HT : Tab w) : Calls Tryz.prog 59 #[D4 (sgn false c),D4 (sgn false d)] w fun e w'=>e = .returned (A6 (Nat.gcd c d)) ∧ A3 w w':=by
 have := A2X (sgn false c) d (by rw [A0k];exact hc) hd w HT
 rw [A0k] at this
 exact this
theorem A7l (n : Int) (d : Nat) (hn : bl n.natAbs ≤ BIG) (hd : bl d ≤ BIG) (h0 : d ≠ 0) (w : World) (HT : Tab w) : Calls Tryz.prog 144 #[D4 n,A6 d] w fun e w'=>e = .returned (qV (mkRat n d)) ∧ A3 w w':=by
 have hd':=M7 hd
 have hg : bl (Nat.gcd n.natAbs d) ≤ BIG:=Nat.le_trans (A3G _ _ h0) hd
 have hg0 : Nat.gcd n.natAbs d ≠ 0:=fun e=>h0 (Nat.eq_zero_of_gcd_eq_zero_right e)
 have hdd : bl (d / Nat.gcd n.natAbs d) ≤ 1099511627776:=Nat.le_trans (M6 _ _) hd'
 go_enter Tryz.func144,Tryz.ntmps144
 refine en3 ?_
 intro u hG b4 b3 b2 hB hF
 refine wp_seq (rdC A5 [] [(0,0),(0,1),(1,2),(1,3),(2,4)] hB hG fun K L hN hL=>?_)
 refine gs ?_
 refine gmw (C:=fun v=>N9 _ _ (by assumption) _) ?_
 refine gmd (C:=fun v ⟨hgu,hB,hG,_⟩=>A2X n d hn hd _ (HT.grow hG)) ?_
 refine gaa (I8 _ _ _ _ _) fun b5 hb5 hn5=>?_
 replace hF:=hF.n1 [] hB hG hb5 hn5
 refine geC hL ?_
 clear hB hG hL L
 rintro u ⟨⟨-,hB,hG,-⟩,h5⟩
 replace hB:=hB.cons' h5
 clear h5
 clear hb5 hn5
 refine gtT ?_
 clear hN K
 refine st hB hF hG 0 0 [_,_] ?_
 clear hB hG
 intro u hB hG
 refine wp_seq (rdC A5 [] [(0,0),(0,1),(0,3),(0,4),(1,2),(1,5),(1,6)] hB hG fun K L hN hL=>?_)
 refine gs ?_
 refine gmw (C:=fun v=>A3k n (Nat.gcd n.natAbs d) hn hg hg0 _) ?_
 refine gmw (C:=fun v=>A02 d (Nat.gcd n.natAbs d) hd hg hg0 _) ?_
 refine gmw (C:=fun v=>A4d _ _ (by assumption) _) ?_
 refine geC hL ?_
 clear hB hG hL L
 rintro u ⟨-,hB,hG,-⟩
 refine gtT ?_
 clear hN K
 refine st hB hF hG 3 0 [_,_,_,_,_] ?_
 clear hB hG
 intro u hB hG
 refine rt Tryz.results144 ?_
 exact ⟨A0W (A5v n d h0) (A6Z n d h0),hG⟩
end Go.Proofs.YtlkniebmjdoopaaGreatDoor
