/- Contracts and laws. -/
import Derived.Test.YtlkniebmjdoopaaGreatDoorR18
set_option linter.unusedSimpArgs false
set_option linter.unusedVariables false
set_option maxHeartbeats 2000000
set_option maxRecDepth 100000
namespace Go.Proofs.YtlkniebmjdoopaaGreatDoor
abbrev nqV (n : Int) (d : Nat) : Value:=.agg #[.bool (D2 n),.int .u64 (B3 n.natAbs),.string (A8 n.natAbs),.int .u64 (B3 (H9 d)),.string (A8 (H9 d))]
theorem B5r : H9 1 = 0:=rfl
theorem A5r {d : Nat} (h : d ≠ 1) : H9 d = d:=if_neg h
theorem B0v {n : Int} {d : Nat} {q : Rat} (h1 : q.num = n) (h2 : q.den = d) : nqV n d = qV q:=by subst h1;subst h2;rfl
theorem A5A (n : Int) (b : Nat) : sgn (D2 n) (n.natAbs / b) = n.tdiv b:=by
 unfold sgn D2
 by_cases h : n < 0
 ·rw [if_pos (decide_eq_true h)]
  obtain ⟨m,rfl⟩ : ∃ m : Nat,n = -(m : Int):=⟨n.natAbs,by omega⟩
  rw [Int.neg_tdiv,Int.natAbs_neg,Int.natAbs_natCast,Int.ofNat_tdiv]
 ·rw [if_neg (by simpa using h)]
  obtain ⟨m,rfl⟩ : ∃ m : Nat,n = (m : Int):=⟨n.natAbs,by omega⟩
  rw [Int.natAbs_natCast,Int.ofNat_tdiv]
theorem B09 (a b : Rat) : (a * b).num = a.num.tdiv (Nat.gcd a.num.natAbs b.den) * b.num.tdiv (Nat.gcd b.num.natAbs a.den):=by
 show (Rat.mul a b).num = _
 unfold Rat.mul
 simp only [Int.divExact_eq_tdiv]
theorem A9u (a b : Rat) : (a * b).den = a.den / Nat.gcd b.num.natAbs a.den * (b.den / Nat.gcd a.num.natAbs b.den):=by
 show (Rat.mul a b).den = _
 unfold Rat.mul
 simp only [Nat.divExact_eq_div]
def X4 (a b : Rat) : Int:=a.num * ((b.den / Nat.gcd a.den b.den : Nat) : Int) + b.num * ((a.den / Nat.gcd a.den b.den : Nat) : Int)
def hOf (a b : Rat) : Nat:=Nat.gcd (X4 a b).natAbs (Nat.gcd a.den b.den)
theorem B0N (a b : Rat) (h : a.den / Nat.gcd a.den b.den * b.den ≠ 0) : a + b = Rat.normalize (X4 a b) (a.den / Nat.gcd a.den b.den * b.den) h:=by
 rw [Rat.add_def]
 have hg : Nat.gcd a.den b.den ≠ 0:=fun h0=>a.den_nz (Nat.eq_zero_of_gcd_eq_zero_left h0)
 obtain ⟨x,hx⟩:=Nat.gcd_dvd_left a.den b.den
 obtain ⟨y,hy⟩:=Nat.gcd_dvd_right a.den b.den
 have hxd : a.den / Nat.gcd a.den b.den = x:=Nat.div_eq_of_eq_mul_right (Nat.pos_of_ne_zero hg) hx
 have hyd : b.den / Nat.gcd a.den b.den = y:=Nat.div_eq_of_eq_mul_right (Nat.pos_of_ne_zero hg) hy
 rw [← Rat.normalize_mul_right (a:=Nat.gcd a.den b.den) h hg]
 congr 1
 ·unfold X4
  rw [hxd,hyd]
  generalize Nat.gcd a.den b.den = g at *
  rw [hx,hy]
  push_cast
  grind
 ·rw [hxd]
  generalize Nat.gcd a.den b.den = g at *
  rw [hx]
  grind
theorem A8F (a b : Rat) : hOf a b = Nat.gcd (X4 a b).natAbs (a.den / Nat.gcd a.den b.den * b.den):=Rat.add.aux a b rfl rfl rfl
theorem A7R (a b : Rat) : a.den / Nat.gcd a.den b.den * b.den ≠ 0:=by
 have h1:=Nat.div_gcd_pos_of_pos_left b.den a.den_pos
 have h2:=b.den_pos
 exact Nat.ne_of_gt (Nat.mul_pos h1 h2)
theorem A7k (a b : Rat) : (a + b).num = (X4 a b).tdiv (hOf a b):=by
 rw [B0N a b (A7R a b),Rat.num_normalize,← A8F]
 refine (Int.tdiv_eq_ediv_of_dvd ?_).symm
 exact Int.ofNat_dvd_left.2 (Nat.gcd_dvd_left _ _)
theorem B0n (a b : Rat) : (a + b).den = a.den / Nat.gcd a.den b.den * (b.den / hOf a b):=by
 rw [B0N a b (A7R a b),Rat.den_normalize,← A8F]
 exact Nat.mul_div_assoc _ (Nat.dvd_trans (Nat.gcd_dvd_right _ _) (Nat.gcd_dvd_right _ _))
theorem A6C (n : Int) (d : Nat) (h : d ≠ 0) : (mkRat n d).num = n.tdiv (Nat.gcd n.natAbs d):=by
 rw [← Rat.normalize_eq_mkRat h,Rat.num_normalize]
 exact (Int.tdiv_eq_ediv_of_dvd (Int.ofNat_dvd_left.2 (Nat.gcd_dvd_left _ _))).symm
theorem A5e (n : Int) (d : Nat) (h : d ≠ 0) : (mkRat n d).den = d / Nat.gcd n.natAbs d:=by
 rw [← Rat.normalize_eq_mkRat h,Rat.den_normalize]
def H4 (a b : Rat) : Int:=if a < b then -1 else if b < a then 1 else 0
theorem A3U (a b : Rat) : H4 a b = P7 (a.num * b.den) (b.num * a.den):=by
 unfold H4 P7
 simp only [Rat.lt_iff]
theorem B22 {a b : Rat} (ha : a.den = 1) (hb : b.den = 1) : H4 a b = P7 a.num b.num:=by
 rw [A3U,ha,hb];simp
theorem B0o {a b : Rat} (h : a.num.sign ≠ b.num.sign) : H4 a b = P7 a.num b.num:=by
 rw [A3U]
 have h1:=a.den_pos
 have h2:=b.den_pos
 generalize a.num = x at *
 generalize b.num = y at *
 generalize a.den = p at *
 generalize b.den = q at *
 have hx : (x * (q : Int)).sign = x.sign:=by rw [Int.sign_mul,Int.sign_eq_one_of_pos (a:=(q : Int)) (by omega),Int.mul_one]
 have hy : (y * (p : Int)).sign = y.sign:=by rw [Int.sign_mul,Int.sign_eq_one_of_pos (a:=(p : Int)) (by omega),Int.mul_one]
 rw [← hx,← hy] at h
 have key : ∀ u v : Int,u.sign ≠ v.sign → P7 u v = P7 u.sign v.sign:=by
  intro u v huv
  unfold P7
  rcases Int.lt_trichotomy u 0 with hu | hu | hu <;> rcases Int.lt_trichotomy v 0 with hv | hv | hv <;>
   (first | (rw [Int.sign_eq_neg_one_of_neg hu] at huv ⊢) | (rw [hu,Int.sign_zero] at huv ⊢) | (rw [Int.sign_eq_one_of_pos hu] at huv ⊢)) <;>
   (first | (rw [Int.sign_eq_neg_one_of_neg hv] at huv ⊢) | (rw [hv,Int.sign_zero] at huv ⊢) | (rw [Int.sign_eq_one_of_pos hv] at huv ⊢)) <;>
   first | (exact absurd rfl huv) | (split <;> (try split) <;> simp <;> omega)
 rw [key _ _ h,hx,hy]
 rw [hx,hy] at h
 exact (key _ _ h).symm
def qs (q : Rat) : Nat:=max (bl q.num.natAbs) (bl q.den)
theorem F7 (q : Rat) : bl q.num.natAbs ≤ qs q:=Nat.le_max_left _ _
theorem F5 (q : Rat) : bl q.den ≤ qs q:=Nat.le_max_right _ _
theorem A2d (n : Int) (g : Nat) : (n.tdiv g).natAbs ≤ n.natAbs:=by
 rw [Int.natAbs_tdiv];exact Nat.div_le_self _ _
theorem A1M (a b : Rat) : qs (a * b) ≤ qs a + qs b:=by
 refine Nat.max_le.2 ⟨?_,?_⟩
 ·rw [B09,Int.natAbs_mul]
  refine Nat.le_trans (M9 _ _) ?_
  have h1:=N6 (A2d a.num (Nat.gcd a.num.natAbs b.den))
  have h2:=N6 (A2d b.num (Nat.gcd b.num.natAbs a.den))
  have := F7 a
  have := F7 b
  omega
 ·rw [A9u]
  refine Nat.le_trans (M9 _ _) ?_
  have h1:=M5 a.den (Nat.gcd b.num.natAbs a.den)
  have h2:=M5 b.den (Nat.gcd a.num.natAbs b.den)
  have := F5 a
  have := F5 b
  omega
theorem B05 (a b : Rat) : bl (X4 a b).natAbs ≤ qs a + qs b + 1:=by
 unfold X4
 have h1:=M9 a.num.natAbs (b.den / Nat.gcd a.den b.den)
 have h2:=M9 b.num.natAbs (a.den / Nat.gcd a.den b.den)
 have h3:=M5 b.den (Nat.gcd a.den b.den)
 have h4:=M5 a.den (Nat.gcd a.den b.den)
 have := F7 a
 have := F5 a
 have := F7 b
 have := F5 b
 refine Nat.le_trans (N6 (Int.natAbs_add_le _ _)) ?_
 rw [Int.natAbs_mul,Int.natAbs_mul,Int.natAbs_natCast,Int.natAbs_natCast]
 refine Nat.le_trans (A46 _ _) ?_
 omega
theorem B4j (a b : Rat) : qs (a + b) ≤ qs a + qs b + 1:=by
 refine Nat.max_le.2 ⟨?_,?_⟩
 ·rw [A7k]
  exact Nat.le_trans (N6 (A2d _ _)) (B05 a b)
 ·rw [B0n]
  refine Nat.le_trans (M9 _ _) ?_
  have h1:=M5 a.den (Nat.gcd a.den b.den)
  have h2:=M5 b.den (hOf a b)
  have := F5 a
  have := F5 b
  omega
theorem A8x (a : Rat) : qs (-a) = qs a:=by
 unfold qs;rw [Rat.neg_num,Rat.neg_den,Int.natAbs_neg]
theorem B0E (a : Rat) (h : a ≠ 0) : qs a⁻¹ = qs a:=by
 have h0 : a.num ≠ 0:=fun e=>h (Rat.num_eq_zero.1 e)
 unfold qs
 rw [Rat.num_inv,Rat.den_inv,if_neg h0,Int.natAbs_mul,Int.natAbs_natCast,Int.natAbs_sign_of_ne_zero h0,Nat.one_mul,Nat.max_comm]
theorem A4R (a b : Rat) : qs (a / b) ≤ qs a + qs b:=by
 by_cases h : b = 0
 ·subst h
  have : a / 0 = 0:=by rw [Rat.div_def,Rat.inv_zero,Rat.mul_zero]
  rw [this]
  have h0 : qs 0 = 1:=by show max (bl 0) (bl 1) = 1;rw [A0d,A2T.2 rfl];rfl
  have : 0 < bl a.den:=P0.2 a.den_nz
  have := F5 a
  omega
 ·rw [Rat.div_def,← B0E b h]
  exact A1M _ _
theorem B1O (a : Rat) : 1 ≤ qs a:=by
 have : 0 < bl a.den:=P0.2 a.den_nz
 have := F5 a
 omega
theorem A8h (n : Int) (k : Nat) (h : n.natAbs < 2 ^ k) (hk : 1 ≤ k) : qs (n : Rat) ≤ k:=by
 refine Nat.max_le.2 ⟨?_,?_⟩
 ·rw [Rat.num_intCast];exact K5.2 h
 ·rw [Rat.den_intCast];exact Nat.le_trans (by decide) hk
end Go.Proofs.YtlkniebmjdoopaaGreatDoor
namespace Go.Proofs.YtlkniebmjdoopaaGreatDoor
open Go.RowKit
theorem B5H {p q : Rat} (h : p = q) : Ending.returned (qV p) = .returned (qV q):=by rw [h]
theorem A0m {n : Int} {d : Nat} {q : Rat} (h1 : q.num = n) (h2 : q.den = d) : Ending.returned (nqV n d) = .returned (qV q):=by rw [B0v h1 h2]
theorem A5l {a b : Nat} (h : a = b) : Ending.returned (A7 a) = .returned (A7 b):=by rw [h]
theorem B7B {d : Nat} (h : bl d ≤ 1099511627776) : bl (H9 d) ≤ 1099511627776:=by
 unfold H9;split
 ·rw [A0d];omega
 ·exact h
theorem A5z (q : Rat) (h : bl q.den ≤ 1099511627776) (w : World) : Calls Tryz.prog 57 #[qV q] w fun e w'=>e = .returned (.bool (decide (q.den = 1))) ∧ A3 w w':=by
 have hk:=B7B h
 have hd : decide (q.den = 1) = ((bl (H9 q.den) : Int) == 0):=by
  have h2:=q.den_pos
  by_cases h1 : q.den = 1
  ·rw [h1,B5r,A0d];rfl
  ·rw [A5r h1,decide_eq_false h1]
   have : bl q.den ≠ 0:=fun e=>by have := U4.1 e;omega
   symm
   simpa using this
 rw [hd]
 clear hd
 go_enter Tryz.func57,Tryz.ntmps57
 refine en1 ?_
 intro u hG b1 hB hF
 refine wp_seq (rsE A5 [0,0,1,0,0] hB hG fun L hL=>?_)
 refine gs ?_
 refine gmw (C:=fun v=>M8 _ (by assumption) _) ?_
 refine gs ?_
 refine geT hL ?_
 clear hB hG hL L
 rintro u ⟨-,hB,hG,-⟩
 refine rt Tryz.results57 ?_
 exact ⟨rfl,hG⟩
theorem B5m (w : World) : Calls Tryz.prog 121 #[.int .u64 1] w fun e w'=>e = .returned (A7 1) ∧ A3 w w':=A24 1 (by unfold W64;omega) w
theorem Q6 (q : Rat) (h : bl q.den ≤ 1099511627776) (w : World) : Calls Tryz.prog 61 #[qV q] w fun e w'=>e = .returned (A7 q.den) ∧ A3 w w':=by
 go_enter Tryz.func61,Tryz.ntmps61
 refine en2 ?_
 intro u hG b2 b1 hB hF
 refine wp_seq ?_
 refine wp_seq (rsE A5 [0,1] hB hG fun L hL=>?_)
 refine gs ?_
 refine gmw (C:=fun v=>A5z _ (by assumption) _) ?_
 refine geT hL ?_
 clear hB hG hL L
 rintro u ⟨-,hB,hG,-⟩
 refine wp_cond_split rfl ?_ ?_
 ·intro ht
  have ht4:=ht
  refine wp_seq (rsC A5 [1] hB hG fun K L hN hL=>?_)
  refine gmw (C:=fun v=>B5m _) ?_
  refine geC hL ?_
  clear hB hG hL L
  rintro u ⟨-,hB,hG,-⟩
  refine gtT ?_
  clear hN K
  refine st hB hF hG 1 0 [_,_] ?_
  clear hB hG
  intro u hB hG
  refine rt Tryz.results61 ?_
  have e : q.den = 1:=of_decide_eq_true ht
  exact ⟨A5l e.symm,hG⟩
 ·intro ht
  have ht4:=ht
  refine wp_skip ?_
  refine A4 ?_
  refine r0T ?_
  refine st hB hF hG 1 0 [_,_] ?_
  clear hB hG
  intro u hB hG
  refine rt Tryz.results61 ?_
  have e : q.den ≠ 1:=of_decide_eq_false ht
  exact ⟨A5l (A5r e),hG⟩
theorem B47 (q : Rat) (w : World) : Calls Tryz.prog 138 #[qV q] w fun e w'=>e = .returned (D3 q.num) ∧ A3 w w':=by
 go_enter Tryz.func138,Tryz.ntmps138
 refine en2 ?_
 intro u hG b2 b1 hB hF
 refine r0T ?_
 refine st hB hF hG 1 0 [_,_,_] ?_
 clear hB hG
 intro u hB hG
 refine rt Tryz.results138 ?_
 exact ⟨rfl,hG⟩
theorem T9 (q : Rat) (h : bl q.num.natAbs ≤ 1099511627776) (w : World) : Calls Tryz.prog 21 #[qV q] w fun e w'=>e = .returned (.int .i64 q.num.sign) ∧ A3 w w':=by
 go_enter Tryz.func21,Tryz.ntmps21
 refine en1 ?_
 intro u hG b1 hB hF
 refine wp_seq (rsE A5 [0,0,1,0] hB hG fun L hL=>?_)
 refine gs ?_
 refine gmw (C:=fun v=>A2u _ (by assumption) _) ?_
 refine gs ?_
 refine geT hL ?_
 clear hB hG hL L
 rintro u ⟨-,hB,hG,-⟩
 refine rt Tryz.results21 ?_
 exact ⟨rfl,hG⟩
theorem A3f (n : Int) (d : Nat) (h : bl d ≤ 1099511627776) (w : World) : Calls Tryz.prog 62 #[D3 n,A7 d] w fun e w'=>e = .returned (nqV n d) ∧ A3 w w':=by
 go_enter Tryz.func62,Tryz.ntmps62
 refine en3 ?_
 intro u hG b4 b3 b2 hB hF
 refine wp_seq ?_
 refine wp_seq (rsE A5 [0,1,0] hB hG fun L hL=>?_)
 refine gs ?_
 refine gmw (C:=fun v=>M8 _ (by assumption) _) ?_
 refine gs ?_
 refine geT hL ?_
 clear hB hG hL L
 rintro u ⟨-,hB,hG,-⟩
 refine wp_cond_split rfl ?_ ?_
 ·intro ht
  have ht7:=ht
  refine r0T ?_
  refine st hB hF hG 2 0 [_,_,_,_,_] ?_
  clear hB hG
  intro u hB hG
  refine rt Tryz.results62 ?_
  have e : d = 1:=A2T.1 (by simp at ht;omega)
  subst e
  exact ⟨rfl,hG⟩
 ·intro ht
  have ht7:=ht
  refine wp_skip ?_
  refine A4 ?_
  refine r0T ?_
  refine st hB hF hG 2 0 [_,_,_,_,_] ?_
  clear hB hG
  intro u hB hG
  refine rt Tryz.results62 ?_
  have e : d ≠ 1:=fun e=>by
   have h2:=A2T.2 e
   rw [h2] at ht
   simp at ht
  exact ⟨by rw [nqV,A5r e],hG⟩
theorem A1T (a b : Nat) (ha : bl a ≤ BIG) (hb : bl b ≤ BIG) (h0 : b ≠ 0) (w : World) : Calls Tryz.prog 64 #[A7 a,A7 b] w fun e w'=>e = .returned (A7 (a / b)) ∧ A3 w w':=by
 have hb':=N7 hb
 go_enter Tryz.func64,Tryz.ntmps64
 refine en3 ?_
 intro u hG b4 b3 b2 hB hF
 refine wp_seq ?_
 refine wp_seq (rsE A5 [0,1,0] hB hG fun L hL=>?_)
 refine gs ?_
 refine gmw (C:=fun v=>M8 _ (by assumption) _) ?_
 refine gs ?_
 refine geT hL ?_
 clear hB hG hL L
 rintro u ⟨-,hB,hG,-⟩
 refine wp_cond_split rfl ?_ ?_
 ·intro ht
  have ht10:=ht
  refine r0T ?_
  refine st hB hF hG 2 0 [_,_] ?_
  clear hB hG
  intro u hB hG
  refine rt Tryz.results64 ?_
  have e : b = 1:=A2T.1 (by simp at ht;omega)
  exact ⟨A5l (by rw [e,Nat.div_one]),hG⟩
 ·intro ht
  have ht10:=ht
  refine wp_skip ?_
  refine A4 ?_
  refine wp_seq (rsC A5 [0,0,1,0,0,0,0,2,2] hB hG fun K L hN hL=>?_)
  refine gs ?_
  refine gmw (C:=fun v=>A2e _ _ (by assumption) (by assumption) (by assumption) _) ?_
  refine gs ?_
  refine gaa (K4 _ _ _ _ _) fun b5 hb5 hn5=>?_
  refine gaa (K4 _ _ _ _ _) fun b6 hb6 hn6=>?_
  replace hF:=hF.n1 [] hB hG hb5 hn5
  replace hF:=hF.n1 [b5] hB hG hb6 hn6
  refine geC hL ?_
  clear hB hG hL L
  rintro u ⟨⟨⟨-,hB,hG,-⟩,h5⟩,h6⟩
  replace hB:=hB.cons' h5
  replace hB:=hB.cons' h6
  clear h5 h6
  clear hb5 hn5 hb6 hn6
  have hD : b5 ≠ b6 ∧ b6 ≠ b5:=⟨hF.ne 1 0 rfl rfl (by decide),hF.ne 0 1 rfl rfl (by decide)⟩
  refine gtT ?_
  clear hN K
  clear hD
  refine st2 hB hF hG 1 0 [_,_] 0 0 [_,_] ?_
  clear hB hG
  intro u hB hG
  refine r0T ?_
  refine st hB hF hG 4 0 [_,_] ?_
  clear hB hG
  intro u hB hG
  refine rt Tryz.results64 ?_
  exact ⟨rfl,hG⟩
theorem A4N (n : Int) (b : Nat) (ha : bl n.natAbs ≤ BIG) (hb : bl b ≤ BIG) (h0 : b ≠ 0) (w : World) : Calls Tryz.prog 63 #[D3 n,A7 b] w fun e w'=>e = .returned (D3 (ztd n b)) ∧ A3 w w':=by
 have ha':=N7 ha
 have hd : bl (n.natAbs / b) ≤ 1099511627776:=Nat.le_trans (M5 _ _) ha'
 go_enter Tryz.func63,Tryz.ntmps63
 refine en3 ?_
 intro u hG b4 b3 b2 hB hF
 refine wp_seq (rdC A5 [] [(0,0),(0,3),(0,5),(1,1),(0,2),(1,4),(1,6),(1,7)] hB hG fun K L hN hL=>?_)
 refine gs ?_
 refine gmw (C:=fun v=>A2u _ (by assumption) _) ?_
 refine gs ?_
 refine gmw (C:=fun v=>A2I _ _) ?_
 refine gmw (C:=fun v=>A1T _ _ (by assumption) (by assumption) (by assumption) _) ?_
 refine gmw (C:=fun v=>O2 _ _ (by assumption) _) ?_
 refine geC hL ?_
 clear hB hG hL L
 rintro u ⟨-,hB,hG,-⟩
 refine gtT ?_
 clear hN K
 refine st hB hF hG 2 0 [_,_,_] ?_
 clear hB hG
 intro u hB hG
 refine rt Tryz.results63 ?_
 exact ⟨A1Y (A5A n b),hG⟩
theorem A1d (n : Int) (d : Nat) (h : bl n.natAbs + bl d ≤ 1099511627776) (w : World) : Calls Tryz.prog 68 #[D3 n,A7 d] w fun e w'=>e = .returned (D3 (ztm n d)) ∧ A3 w w':=by
 have hd : bl d ≤ 1099511627776:=by omega
 have h' : bl n.natAbs + bl (sgn false d).natAbs ≤ 1099511627776:=h
 go_enter Tryz.func68,Tryz.ntmps68
 refine en3 ?_
 intro u hG b4 b3 b2 hB hF
 refine wp_seq (rdC A5 [] [(0,0),(0,1),(1,2),(1,3)] hB hG fun K L hN hL=>?_)
 refine gs ?_
 refine gmw (C:=fun v=>O2 _ _ (by assumption) _) ?_
 refine gmw (C:=fun v=>A6a _ _ (by assumption) _) ?_
 refine geC hL ?_
 clear hB hG hL L
 rintro u ⟨-,hB,hG,-⟩
 refine gtT ?_
 clear hN K
 refine st hB hF hG 2 0 [_,_,_] ?_
 clear hB hG
 intro u hB hG
 refine rt Tryz.results68 ?_
 exact ⟨rfl,hG⟩
theorem A3I (n : Int) (d : Nat) (hn : bl n.natAbs ≤ BIG) (hd : bl d ≤ BIG) (w : World) (HT : Tab w) : Calls Tryz.prog 59 #[D3 n,D3 (sgn false d)] w fun e w'=>e = .returned (A7 (Nat.gcd n.natAbs d)) ∧ A3 w w':=by
 have := B21 n (sgn false d) hn (by rw [R0];exact hd) w HT
 rw [R0] at this
 exact this
theorem B55 (c d : Nat) (hc : bl c ≤ BIG) (hd : bl d ≤ BIG) (w : World) (HT : Tab w) : Calls Tryz.prog 59 #[D3 (sgn false c),D3 (sgn false d)] w fun e w'=>e = .returned (A7 (Nat.gcd c d)) ∧ A3 w w':=by
 have := A3I (sgn false c) d (by rw [R0];exact hc) hd w HT
 rw [R0] at this
 exact this
theorem A7u (n : Int) (d : Nat) (hn : bl n.natAbs ≤ BIG) (hd : bl d ≤ BIG) (h0 : d ≠ 0) (w : World) (HT : Tab w) : Calls Tryz.prog 144 #[D3 n,A7 d] w fun e w'=>e = .returned (qV (mkRat n d)) ∧ A3 w w':=by
 have hd':=N7 hd
 have hg : bl (Nat.gcd n.natAbs d) ≤ BIG:=Nat.le_trans (A3e _ _ h0) hd
 have hg0 : Nat.gcd n.natAbs d ≠ 0:=fun e=>h0 (Nat.eq_zero_of_gcd_eq_zero_right e)
 have hdd : bl (d / Nat.gcd n.natAbs d) ≤ 1099511627776:=Nat.le_trans (M5 _ _) hd'
 go_enter Tryz.func144,Tryz.ntmps144
 refine en3 ?_
 intro u hG b4 b3 b2 hB hF
 refine wp_seq (rdC A5 [] [(0,0),(0,1),(1,2),(1,3),(2,4)] hB hG fun K L hN hL=>?_)
 refine gs ?_
 refine gmw (C:=fun v=>O2 _ _ (by assumption) _) ?_
 refine gmd (C:=fun v ⟨hgu,hB,hG,_⟩=>A3I n d hn hd _ (HT.grow hG)) ?_
 refine gaa (K4 _ _ _ _ _) fun b5 hb5 hn5=>?_
 replace hF:=hF.n1 [] hB hG hb5 hn5
 refine geC hL ?_
 clear hB hG hL L
 rintro u ⟨⟨-,hB,hG,-⟩,h5⟩
 replace hB:=hB.cons' h5
 clear h5
 clear hb5 hn5
 refine gtT ?_
 clear hN K
 refine st hB hF hG 0 0 [_,_] ?_
 clear hB hG
 intro u hB hG
 refine wp_seq (rdC A5 [] [(0,0),(0,1),(0,3),(0,4),(1,2),(1,5),(1,6)] hB hG fun K L hN hL=>?_)
 refine gs ?_
 refine gmw (C:=fun v=>A4N n (Nat.gcd n.natAbs d) hn hg hg0 _) ?_
 refine gmw (C:=fun v=>A1T d (Nat.gcd n.natAbs d) hd hg hg0 _) ?_
 refine gmw (C:=fun v=>A3f _ _ (by assumption) _) ?_
 refine geC hL ?_
 clear hB hG hL L
 rintro u ⟨-,hB,hG,-⟩
 refine gtT ?_
 clear hN K
 refine st hB hF hG 3 0 [_,_,_,_,_] ?_
 clear hB hG
 intro u hB hG
 refine rt Tryz.results144 ?_
 exact ⟨A0m (A6C n d h0) (A5e n d h0),hG⟩
def I7 (a b : Rat) : Rat:=a + b
def A3B (a b : Rat) : Rat:=a - b
def E2 (a b : Rat) : Rat:=a * b
def M0 (a b : Rat) : Rat:=a / b
def G7 (a : Rat) : Rat:=-a
def I0 (a : Rat) : Rat:=a.abs
def B1 (n : Int) : Rat:=(n : Rat)
def nz (d : Int) : Bool:=decide (d ≠ 0)
def nzq (q : Rat) : Bool:=decide (q ≠ 0)
def D8 (n d : Int) : Rat:=Rat.divInt n d
theorem A5P (n : Int) : (B1 n).num = n:=Rat.num_intCast n
theorem A5B (n : Int) : (B1 n).den = 1:=Rat.den_intCast n
theorem Y8 (n : Int) (h0 : -9223372036854775808 ≤ n) (h1 : n ≤ 9223372036854775807) (w : World) : Calls Tryz.prog 17 #[.int .i64 n] w fun e w'=>e = .returned (qV (B1 n)) ∧ A3 w w':=by
 go_enter Tryz.func17,Tryz.ntmps17
 refine en1 ?_
 intro u hG b2 hB hF
 refine wp_seq (rsC A5 [0,1,0] hB hG fun K L hN hL=>?_)
 refine gs ?_
 refine gmw (C:=fun v=>B6g _ (by assumption) (by assumption) _) ?_
 refine gs ?_
 refine geC hL ?_
 clear hB hG hL L
 rintro u ⟨-,hB,hG,-⟩
 refine gtT ?_
 clear hN K
 refine st hB hF hG 0 0 [_,_,_,_,_] ?_
 clear hB hG
 intro u hB hG
 refine rt Tryz.results17 ?_
 exact ⟨A0m (d:=1) (A5P n) (A5B n),hG⟩
theorem A7G (n d : Int) (h : ¬ d < 0) : D8 n d = mkRat n d.natAbs:=by
 obtain ⟨m,rfl⟩ : ∃ m : Nat,d = (m : Int):=⟨d.natAbs,by omega⟩
 unfold D8
 rw [Rat.divInt_ofNat,Int.natAbs_natCast]
theorem A52 (n d : Int) (h : d < 0) : D8 n d = mkRat (X6 n) d.natAbs:=by
 obtain ⟨m,rfl⟩ : ∃ m : Nat,d = -(m : Int):=⟨d.natAbs,by omega⟩
 unfold D8 X6
 rw [Rat.divInt_neg',Rat.divInt_ofNat,Int.natAbs_neg,Int.natAbs_natCast]
theorem B2i (z : Int) : bl (X6 z).natAbs = bl z.natAbs:=by unfold X6;rw [Int.natAbs_neg]
theorem A4L {p q : Rat} {a b : Bool} (h : p = q) (h' : a = b) : Ending.returned (.tuple #[qV p,.bool a]) = .returned (.tuple #[qV q,.bool b]):=by rw [h,h']
theorem B2M (n d : Int) (hn : bl n.natAbs ≤ BIG) (hd : bl d.natAbs ≤ BIG) (w : World) (HT : Tab w) : Calls Tryz.prog 99 #[D3 n,D3 d] w fun e w'=>e = .returned (.tuple #[qV (D8 n d),.bool (nz d)]) ∧ A3 w w':=by
 have hn':=N7 hn
 have hd':=N7 hd
 have hz : bl (X6 n).natAbs ≤ BIG:=by rw [B2i];exact hn
 go_enter Tryz.func99,Tryz.ntmps99
 refine en3 ?_
 intro u hG b4 b3 b2 hB hF
 refine wp_seq ?_
 refine wp_seq (rsE A5 [0,1,0] hB hG fun L hL=>?_)
 refine gs ?_
 refine gmw (C:=fun v=>A2u _ (by assumption) _) ?_
 refine gs ?_
 refine geT hL ?_
 clear hB hG hL L
 rintro u ⟨-,hB,hG,-⟩
 refine wp_cond_split rfl ?_ ?_
 ·intro ht
  have ht8:=ht
  refine r0T ?_
  refine st hB hF hG 2 0 [_,_,_,_,_] ?_
  clear hB hG
  intro u hB hG
  refine rt Tryz.results99 ?_
  have e : d = 0:=by simpa using ht
  subst e
  exact ⟨A4L (p:=0) (by unfold D8;rw [Rat.divInt_zero]) rfl,hG⟩
 ·intro ht
  have ht8:=ht
  have hd0 : d.natAbs ≠ 0:=fun e=>by
   have : d = 0:=by omega
   rw [this] at ht
   simp at ht
  refine wp_skip ?_
  refine A4 ?_
  refine wp_seq ?_
  refine wp_seq (rsE A5 [0,1,0] hB hG fun L hL=>?_)
  refine gs ?_
  refine gmw (C:=fun v=>A2u _ (by assumption) _) ?_
  refine gs ?_
  refine geT hL ?_
  clear hB hG hL L
  rintro u ⟨-,hB,hG,-⟩
  refine wp_cond_split rfl ?_ ?_
  ·intro ht
   have ht12:=ht
   refine rsC A5 [0,1] hB hG fun K L hN hL=>?_
   refine gs ?_
   refine gmw (C:=fun v=>A9r _ (by assumption) _) ?_
   refine geC hL ?_
   clear hB hG hL L
   rintro u ⟨-,hB,hG,-⟩
   refine gtT ?_
   clear hN K
   refine st hB hF hG 0 0 [_,_,_] ?_
   clear hB hG
   intro u hB hG
   refine wp_seq (rdC A5 [] [(0,0),(0,1),(1,2),(1,3)] hB hG fun K L hN hL=>?_)
   refine gs ?_
   refine gmw (C:=fun v=>A2I _ _) ?_
   refine gmd (C:=fun v ⟨hgu,hB,hG,_⟩=>A7u _ _ (by assumption) (by assumption) (by assumption) _ (HT.grow hG)) ?_
   refine geC hL ?_
   clear hB hG hL L
   rintro u ⟨-,hB,hG,-⟩
   refine gtT ?_
   clear hN K
   refine st hB hF hG 2 0 [_,_,_,_,_] ?_
   clear hB hG
   intro u hB hG
   refine rt Tryz.results99 ?_
   have e : d < 0:=by simpa using ht
   exact ⟨A4L (A52 n d e).symm (decide_eq_true (by omega)).symm,hG⟩
  ·intro ht
   have ht12:=ht
   refine wp_skip ?_
   refine A4 ?_
   refine wp_seq (rdC A5 [] [(0,0),(0,1),(1,2),(1,3)] hB hG fun K L hN hL=>?_)
   refine gs ?_
   refine gmw (C:=fun v=>A2I _ _) ?_
   refine gmd (C:=fun v ⟨hgu,hB,hG,_⟩=>A7u _ _ (by assumption) (by assumption) (by assumption) _ (HT.grow hG)) ?_
   refine geC hL ?_
   clear hB hG hL L
   rintro u ⟨-,hB,hG,-⟩
   refine gtT ?_
   clear hN K
   refine st hB hF hG 2 0 [_,_,_,_,_] ?_
   clear hB hG
   intro u hB hG
   refine rt Tryz.results99 ?_
   have e : ¬ d < 0:=by simpa using ht
   exact ⟨A4L (A7G n d e).symm (decide_eq_true (by omega)).symm,hG⟩
theorem B0j {n : Int} (h0 : -9223372036854775808 ≤ n) (h1 : n ≤ 9223372036854775807) : bl n.natAbs ≤ BIG:=by
 refine Nat.le_trans (K5.2 ?_) A42
 have : (2 : Nat) ^ 64 = 18446744073709551616:=rfl
 omega
theorem A6n (q : Rat) (h : bl q.num.natAbs ≤ 1099511627776) (w : World) : Calls Tryz.prog 15 #[qV q] w fun e w'=>e = .returned (qV (G7 q)) ∧ A3 w w':=by
 go_enter Tryz.func15,Tryz.ntmps15
 refine en2 ?_
 intro u hG b2 b1 hB hF
 refine wp_seq (rdC A5 [] [(0,0),(0,1),(0,3),(0,4),(1,2),(0,5)] hB hG fun K L hN hL=>?_)
 refine gs ?_
 refine gmw (C:=fun v=>A9r _ (by assumption) _) ?_
 refine gs ?_
 refine geC hL ?_
 clear hB hG hL L
 rintro u ⟨-,hB,hG,-⟩
 refine gtT ?_
 clear hN K
 refine st hB hF hG 1 0 [_,_,_,_,_] ?_
 clear hB hG
 intro u hB hG
 refine rt Tryz.results15 ?_
 exact ⟨A0m (Rat.neg_num q) (Rat.neg_den q),hG⟩
theorem A9e (q : Rat) : q.abs.num = sgn false q.num.natAbs:=by
 rw [A1J]
 by_cases h : 0 ≤ q
 ·rw [Rat.abs_of_nonneg h]
  have := Rat.num_nonneg.2 h
  omega
 ·have h' : q ≤ 0:=by rcases Rat.le_total (a:=0) (b:=q) with h1 | h1;exact absurd h1 h;exact h1
  rw [Rat.abs_of_nonpos h',Rat.neg_num]
  have : ¬ 0 ≤ q.num:=fun h2=>h (Rat.num_nonneg.1 h2)
  omega
theorem A7W (q : Rat) : q.abs.den = q.den:=by
 by_cases h : 0 ≤ q
 ·rw [Rat.abs_of_nonneg h]
 ·have h' : q ≤ 0:=by rcases Rat.le_total (a:=0) (b:=q) with h1 | h1;exact absurd h1 h;exact h1
  rw [Rat.abs_of_nonpos h',Rat.neg_den]
theorem B02 (q : Rat) (h : bl q.num.natAbs ≤ 1099511627776) (w : World) : Calls Tryz.prog 53 #[qV q] w fun e w'=>e = .returned (qV (I0 q)) ∧ A3 w w':=by
 go_enter Tryz.func53,Tryz.ntmps53
 refine en2 ?_
 intro u hG b2 b1 hB hF
 refine wp_seq (rdC A5 [] [(0,0),(0,1),(0,4),(0,5),(1,2),(1,3),(0,6)] hB hG fun K L hN hL=>?_)
 refine gs ?_
 refine gmw (C:=fun v=>A2I _ _) ?_
 refine gmw (C:=fun v=>O2 _ _ (by assumption) _) ?_
 refine gs ?_
 refine geC hL ?_
 clear hB hG hL L
 rintro u ⟨-,hB,hG,-⟩
 refine gtT ?_
 clear hN K
 refine st hB hF hG 1 0 [_,_,_,_,_] ?_
 clear hB hG
 intro u hB hG
 refine rt Tryz.results53 ?_
 exact ⟨A0m (A9e q) (A7W q),hG⟩
theorem X0 (q : Rat) (h : bl q.den ≤ 1099511627776) (h1 : q.den = 1) (w : World) : Calls Tryz.prog 57 #[qV q] w fun e w'=>e = .returned (.bool true) ∧ A3 w w':=by
 have := A5z q h w
 rw [decide_eq_true h1] at this
 exact this
theorem W6 (q : Rat) (h : bl q.den ≤ 1099511627776) (h1 : ¬ q.den = 1) (w : World) : Calls Tryz.prog 57 #[qV q] w fun e w'=>e = .returned (.bool false) ∧ A3 w w':=by
 have := A5z q h w
 rw [decide_eq_false h1] at this
 exact this
section
variable (a b : Rat) (w : World)
theorem B6r (h : qs a + qs b + 1 ≤ BIG) (ha1 : a.den = 1) (hb1 : b.den = 1) : Calls Tryz.prog 18 #[qV a,qV b] w fun e w'=>e = .returned (.int .i64 (H4 a b)) ∧ A3 w w':=by
 have hB40:=K8
 have h1 : bl a.num.natAbs ≤ 1099511627776:=by have := F7 a;omega
 have h2 : bl b.num.natAbs ≤ 1099511627776:=by have := F7 b;omega
 have h3 : bl a.den ≤ 1099511627776:=by have := F5 a;omega
 have h4 : bl b.den ≤ 1099511627776:=by have := F5 b;omega
 have Ha1:=Lib.hid ha1
 have Hb1:=Lib.hid hb1
 clear ha1 hb1
 go_enter Tryz.func18,Tryz.ntmps18
 refine en2 ?_
 intro u hG b3 b2 hB hF
 refine wp_seq ?_
 refine wp_seq (rdC A5 [] [(0,0),(1,1),(0,2),(0,3),(1,4),(0,5),(0,6),(0,7),(0,9),(1,8),(1,10),(0,11)] hB hG fun K L hN hL=>?_)
 refine gs ?_
 refine gmw (C:=fun v=>X0 a h3 Ha1.out _) ?_
 refine gs ?_
 first | refine gmw (C:=fun v=>X0 b h4 Hb1.out _) ?_ | refine H6 ?_
 refine gs ?_
 first | refine gmw (C:=fun v=>T9 _ (by assumption) _) ?_ | refine H6 ?_
 first | refine gmw (C:=fun v=>T9 _ (by assumption) _) ?_ | refine H6 ?_
 refine gs ?_
 refine geC hL ?_
 clear hB hG hL L
 rintro u ⟨-,hB,hG,-⟩
 refine gtT ?_
 clear hN K
 refine wp_cond_true (rfl) ?_
 refine wp_seq (rsE A5 [0,0,0,0,1,0] hB hG fun L hL=>?_)
 refine gs ?_
 refine gmw (C:=fun v=>A2f _ _ (by assumption) (by assumption) _) ?_
 refine gs ?_
 refine geT hL ?_
 clear hB hG hL L
 rintro u ⟨-,hB,hG,-⟩
 refine rt Tryz.results18 ?_
 exact ⟨J6 (B22 Ha1.out Hb1.out).symm,hG⟩
theorem B6o (h : qs a + qs b + 1 ≤ BIG) (ha1 : a.den = 1) (hb1 : ¬ b.den = 1) : Calls Tryz.prog 18 #[qV a,qV b] w fun e w'=>e = .returned (.int .i64 (H4 a b)) ∧ A3 w w':=by
 have hB40:=K8
 have h1 : bl a.num.natAbs ≤ 1099511627776:=by have := F7 a;omega
 have h2 : bl b.num.natAbs ≤ 1099511627776:=by have := F7 b;omega
 have h3 : bl a.den ≤ 1099511627776:=by have := F5 a;omega
 have h4 : bl b.den ≤ 1099511627776:=by have := F5 b;omega
 have h5 : bl a.num.natAbs + bl b.den ≤ 1099511627776:=by have := F7 a;have := F5 b;omega
 have h6 : bl b.num.natAbs + bl a.den ≤ 1099511627776:=by have := F7 b;have := F5 a;omega
 have h7 : bl (ztm a.num b.den).natAbs ≤ 1099511627776:=by unfold ztm;rw [Int.natAbs_mul];exact Nat.le_trans (M9 _ _) h5
 have h8 : bl (ztm b.num a.den).natAbs ≤ 1099511627776:=by unfold ztm;rw [Int.natAbs_mul];exact Nat.le_trans (M9 _ _) h6
 have Ha1:=Lib.hid ha1
 have Hb1:=Lib.hid hb1
 clear ha1 hb1
 go_enter Tryz.func18,Tryz.ntmps18
 refine en2 ?_
 intro u hG b3 b2 hB hF
 refine wp_seq ?_
 refine wp_seq (rdC A5 [] [(0,0),(1,1),(0,2),(0,3),(1,4),(0,5),(0,6),(0,7),(0,9),(1,8),(1,10),(0,11)] hB hG fun K L hN hL=>?_)
 refine gs ?_
 refine gmw (C:=fun v=>X0 a h3 Ha1.out _) ?_
 refine gs ?_
 first | refine gmw (C:=fun v=>W6 b h4 Hb1.out _) ?_ | refine H6 ?_
 refine gs ?_
 first | refine gmw (C:=fun v=>T9 _ (by assumption) _) ?_ | refine H6 ?_
 first | refine gmw (C:=fun v=>T9 _ (by assumption) _) ?_ | refine H6 ?_
 refine gs ?_
 refine geC hL ?_
 clear hB hG hL L
 rintro u ⟨-,hB,hG,-⟩
 refine gtT ?_
 clear hN K
 refine wp_cond_split rfl ?_ ?_
 ·intro ht
  have ht17:=ht
  refine wp_seq (rsE A5 [0,0,0,0,1,0] hB hG fun L hL=>?_)
  refine gs ?_
  refine gmw (C:=fun v=>A2f _ _ (by assumption) (by assumption) _) ?_
  refine gs ?_
  refine geT hL ?_
  clear hB hG hL L
  rintro u ⟨-,hB,hG,-⟩
  refine rt Tryz.results18 ?_
  exact ⟨J6 (B0o (by simpa using ht)).symm,hG⟩
 ·intro ht
  have ht17:=ht
  refine wp_skip ?_
  refine A4 ?_
  refine wp_seq (rdC A5 [] [(0,0),(0,1),(0,2),(0,5),(0,6),(0,7),(1,3),(1,4),(1,8),(1,9),(1,10)] hB hG fun K L hN hL=>?_)
  refine gs ?_
  refine gmw (C:=fun v=>Q6 _ (by assumption) _) ?_
  refine gmw (C:=fun v=>A1d _ _ (by assumption) _) ?_
  refine gmw (C:=fun v=>Q6 _ (by assumption) _) ?_
  refine gmw (C:=fun v=>A1d _ _ (by assumption) _) ?_
  refine gmw (C:=fun v=>A2f _ _ (by assumption) (by assumption) _) ?_
  refine geC hL ?_
  clear hB hG hL L
  rintro u ⟨-,hB,hG,-⟩
  refine gtT ?_
  clear hN K
  refine rt Tryz.results18 ?_
  exact ⟨J6 (A3U a b).symm,hG⟩
theorem B1X (h : qs a + qs b + 1 ≤ BIG) (ha1 : ¬ a.den = 1) : Calls Tryz.prog 18 #[qV a,qV b] w fun e w'=>e = .returned (.int .i64 (H4 a b)) ∧ A3 w w':=by
 have hB40:=K8
 have h1 : bl a.num.natAbs ≤ 1099511627776:=by have := F7 a;omega
 have h2 : bl b.num.natAbs ≤ 1099511627776:=by have := F7 b;omega
 have h3 : bl a.den ≤ 1099511627776:=by have := F5 a;omega
 have h4 : bl b.den ≤ 1099511627776:=by have := F5 b;omega
 have h5 : bl a.num.natAbs + bl b.den ≤ 1099511627776:=by have := F7 a;have := F5 b;omega
 have h6 : bl b.num.natAbs + bl a.den ≤ 1099511627776:=by have := F7 b;have := F5 a;omega
 have h7 : bl (ztm a.num b.den).natAbs ≤ 1099511627776:=by unfold ztm;rw [Int.natAbs_mul];exact Nat.le_trans (M9 _ _) h5
 have h8 : bl (ztm b.num a.den).natAbs ≤ 1099511627776:=by unfold ztm;rw [Int.natAbs_mul];exact Nat.le_trans (M9 _ _) h6
 have Ha1:=Lib.hid ha1
 clear ha1
 go_enter Tryz.func18,Tryz.ntmps18
 refine en2 ?_
 intro u hG b3 b2 hB hF
 refine wp_seq ?_
 refine wp_seq (rdC A5 [] [(0,0),(1,1),(0,2),(0,3),(1,4),(0,5),(0,6),(0,7),(0,9),(1,8),(1,10),(0,11)] hB hG fun K L hN hL=>?_)
 refine gs ?_
 refine gmw (C:=fun v=>W6 a h3 Ha1.out _) ?_
 refine gs ?_
 first | refine gmw (C:=fun v=>W6 a h3 Ha1.out _) ?_ | refine H6 ?_
 refine gs ?_
 first | refine gmw (C:=fun v=>T9 _ (by assumption) _) ?_ | refine H6 ?_
 first | refine gmw (C:=fun v=>T9 _ (by assumption) _) ?_ | refine H6 ?_
 refine gs ?_
 refine geC hL ?_
 clear hB hG hL L
 rintro u ⟨-,hB,hG,-⟩
 refine gtT ?_
 clear hN K
 refine wp_cond_split rfl ?_ ?_
 ·intro ht
  have ht17:=ht
  refine wp_seq (rsE A5 [0,0,0,0,1,0] hB hG fun L hL=>?_)
  refine gs ?_
  refine gmw (C:=fun v=>A2f _ _ (by assumption) (by assumption) _) ?_
  refine gs ?_
  refine geT hL ?_
  clear hB hG hL L
  rintro u ⟨-,hB,hG,-⟩
  refine rt Tryz.results18 ?_
  exact ⟨J6 (B0o (by simpa using ht)).symm,hG⟩
 ·intro ht
  have ht17:=ht
  refine wp_skip ?_
  refine A4 ?_
  refine wp_seq (rdC A5 [] [(0,0),(0,1),(0,2),(0,5),(0,6),(0,7),(1,3),(1,4),(1,8),(1,9),(1,10)] hB hG fun K L hN hL=>?_)
  refine gs ?_
  refine gmw (C:=fun v=>Q6 _ (by assumption) _) ?_
  refine gmw (C:=fun v=>A1d _ _ (by assumption) _) ?_
  refine gmw (C:=fun v=>Q6 _ (by assumption) _) ?_
  refine gmw (C:=fun v=>A1d _ _ (by assumption) _) ?_
  refine gmw (C:=fun v=>A2f _ _ (by assumption) (by assumption) _) ?_
  refine geC hL ?_
  clear hB hG hL L
  rintro u ⟨-,hB,hG,-⟩
  refine gtT ?_
  clear hN K
  refine rt Tryz.results18 ?_
  exact ⟨J6 (A3U a b).symm,hG⟩
theorem A01 (h : qs a + qs b + 1 ≤ BIG) : Calls Tryz.prog 18 #[qV a,qV b] w fun e w'=>e = .returned (.int .i64 (H4 a b)) ∧ A3 w w':=by
 by_cases ha1 : a.den = 1
 ·by_cases hb1 : b.den = 1
  ·exact B6r a b w h ha1 hb1
  ·exact B6o a b w h ha1 hb1
 ·exact B1X a b w h ha1
theorem A4I (q : Rat) (h : q.den = 1) : q = (q.num : Rat):=Rat.ext (Rat.num_intCast _).symm (by rw [h];exact (Rat.den_intCast _).symm)
theorem B6c (h : qs a + qs b + 1 ≤ BIG) (ha1 : a.den = 1) (hb1 : b.den = 1) : Calls Tryz.prog 54 #[qV a,qV b] w fun e w'=>e = .returned (qV (I7 a b)) ∧ A3 w w':=by
 have hB40:=K8
 have h1 : bl a.num.natAbs < 1099511627776:=by have := F7 a;omega
 have h2 : bl b.num.natAbs < 1099511627776:=by have := F7 b;have := B1O a;omega
 have h3 : bl a.den ≤ 1099511627776:=by have := F5 a;omega
 have h4 : bl b.den ≤ 1099511627776:=by have := F5 b;omega
 have e : I7 a b = ((a.num + b.num : Int) : Rat):=by
  unfold I7
  rw [Rat.intCast_add,← A4I a ha1,← A4I b hb1]
 have e1 : (I7 a b).num = T4 a.num b.num:=by rw [e,Rat.num_intCast];rfl
 have e2 : (I7 a b).den = 1:=by rw [e,Rat.den_intCast]
 have He:=Lib.hid (And.intro e1 e2)
 clear e e1 e2
 have Ha1:=Lib.hid ha1
 have Hb1:=Lib.hid hb1
 clear ha1 hb1
 go_enter Tryz.func54,Tryz.ntmps54
 refine en3 ?_
 intro u hG b4 b3 b2 hB hF
 refine wp_seq ?_
 refine wp_seq (rsE A5 [0,1,0,0,1,0] hB hG fun L hL=>?_)
 refine gs ?_
 refine gmw (C:=fun v=>X0 a h3 Ha1.out _) ?_
 refine gs ?_
 first | refine gmw (C:=fun v=>X0 b h4 Hb1.out _) ?_ | refine H6 ?_
 refine gs ?_
 refine geT hL ?_
 clear hB hG hL L
 rintro u ⟨-,hB,hG,-⟩
 refine wp_cond_true (rfl) ?_
 refine wp_seq (rsC A5 [0,0,0,0,1,0] hB hG fun K L hN hL=>?_)
 refine gs ?_
 refine gmw (C:=fun v=>A8t _ _ (by assumption) (by assumption) _) ?_
 refine gs ?_
 refine geC hL ?_
 clear hB hG hL L
 rintro u ⟨-,hB,hG,-⟩
 refine gtT ?_
 clear hN K
 refine st hB hF hG 2 0 [_,_,_,_,_] ?_
 clear hB hG
 intro u hB hG
 refine rt Tryz.results54 ?_
 exact ⟨A0m He.out.1 He.out.2,hG⟩
theorem B4G (h : qs a + qs b + 1 ≤ BIG) : bl (Nat.gcd a.den b.den) ≤ BIG ∧ Nat.gcd a.den b.den ≠ 0 ∧ bl a.den ≤ BIG ∧ bl b.den ≤ BIG ∧ bl a.num.natAbs + bl (b.den / Nat.gcd a.den b.den) ≤ 1099511627776 ∧ bl b.num.natAbs + bl (a.den / Nat.gcd a.den b.den) ≤ 1099511627776 ∧
  bl (ztm a.num (b.den / Nat.gcd a.den b.den)).natAbs < 1099511627776 ∧ bl (ztm b.num (a.den / Nat.gcd a.den b.den)).natAbs < 1099511627776 ∧ bl (T4 (ztm a.num (b.den / Nat.gcd a.den b.den)) (ztm b.num (a.den / Nat.gcd a.den b.den))).natAbs ≤ BIG ∧
  bl (Nat.gcd (T4 (ztm a.num (b.den / Nat.gcd a.den b.den)) (ztm b.num (a.den / Nat.gcd a.den b.den))).natAbs (Nat.gcd a.den b.den)) ≤ BIG ∧ Nat.gcd (T4 (ztm a.num (b.den / Nat.gcd a.den b.den)) (ztm b.num (a.den / Nat.gcd a.den b.den))).natAbs (Nat.gcd a.den b.den) ≠ 0:=by
 have hB40:=K8
 have s1:=F7 a
 have s2:=F5 a
 have s3:=F7 b
 have s4:=F5 b
 have s5:=M5 b.den (Nat.gcd a.den b.den)
 have s6:=M5 a.den (Nat.gcd a.den b.den)
 have g0 : Nat.gcd a.den b.den ≠ 0:=fun e=>a.den_nz (Nat.eq_zero_of_gcd_eq_zero_left e)
 have g1:=B6H a.den b.den a.den_nz
 have up : bl (X4 a b).natAbs ≤ qs a + qs b + 1:=B05 a b
 have m1 : bl (ztm a.num (b.den / Nat.gcd a.den b.den)).natAbs ≤ bl a.num.natAbs + bl (b.den / Nat.gcd a.den b.den):=by unfold ztm;rw [Int.natAbs_mul];exact M9 _ _
 have m2 : bl (ztm b.num (a.den / Nat.gcd a.den b.den)).natAbs ≤ bl b.num.natAbs + bl (a.den / Nat.gcd a.den b.den):=by unfold ztm;rw [Int.natAbs_mul];exact M9 _ _
 refine ⟨by omega,g0,by omega,by omega,by omega,by omega,by omega,by omega,Nat.le_trans up h,Nat.le_trans (A3e _ _ g0) (by omega),fun e=>g0 (Nat.eq_zero_of_gcd_eq_zero_right e)⟩
end
end Go.Proofs.YtlkniebmjdoopaaGreatDoor
