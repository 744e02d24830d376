import Derived.Test.YtgpglgbcobeogaaGreatDoorW16
set_option linter.unusedSimpArgs false
set_option linter.unusedVariables false
set_option maxHeartbeats 2000000
set_option maxRecDepth 100000
namespace Go.Proofs.YtgpglgbcobeogaaGreatDoor
abbrev nqV(n:Int)(d:Nat):Value:=.agg #[.bool (D6 n),.int .u64 (B8 n.natAbs),.string (B6 n.natAbs),.int .u64 (B8 (G9 d)),.string (B6 (G9 d))]
theorem B3S:G9 1=0:=rfl
theorem A5b{d:Nat}(h:d≠1):G9 d=d:=if_neg h
theorem A7u{n:Int}{d:Nat}{q:Rat}(h1:q.num=n)(h2:q.den=d):nqV n d=qV q:=by subst h1;subst h2;rfl
theorem A54(n:Int)(b:Nat):sgn (D6 n) (n.natAbs/b)=n.tdiv b:=by
 unfold sgn D6;by_cases h:n<0
 ·rw[if_pos (C0L h)];obtain⟨m,rfl⟩:∃m:Nat,n = -(m:Int):=⟨n.natAbs,by omega⟩
  rw[Int.neg_tdiv,C0h,C0i,Int.ofNat_tdiv]
 ·rw[if_neg (by simpa using h)];obtain⟨m,rfl⟩:∃m:Nat,n=(m:Int):=⟨n.natAbs,by omega⟩
  rw[C0i,Int.ofNat_tdiv]
theorem A9A(a b:Rat):(a*b).num=a.num.tdiv (Nat.gcd a.num.natAbs b.den)*b.num.tdiv (Nat.gcd b.num.natAbs a.den):=by
 show(Rat.mul a b).num=_;unfold Rat.mul;simp only[Int.divExact_eq_tdiv]
theorem A7q(a b:Rat):(a*b).den=a.den/Nat.gcd b.num.natAbs a.den*(b.den/Nat.gcd a.num.natAbs b.den):=by
 show(Rat.mul a b).den=_;unfold Rat.mul;simp only[Nat.divExact_eq_div]
def A0e(a b:Rat):Int:=a.num*((b.den/Nat.gcd a.den b.den:Nat):Int)+b.num*((a.den/Nat.gcd a.den b.den:Nat):Int)
def hOf(a b:Rat):Nat:=Nat.gcd (A0e a b).natAbs (Nat.gcd a.den b.den)
theorem A9F(a b:Rat)(h:a.den/Nat.gcd a.den b.den*b.den≠0):a+b=Rat.normalize (A0e a b) (a.den/Nat.gcd a.den b.den*b.den) h:=by
 rw[Rat.add_def];have hg:Nat.gcd a.den b.den≠0:=fun h0=>a.den_nz (C0a h0);obtain⟨x,hx⟩:=Nat.gcd_dvd_left a.den b.den;obtain⟨y,hy⟩:=Nat.gcd_dvd_right a.den b.den;have hxd:a.den/Nat.gcd a.den b.den=x:=Nat.div_eq_of_eq_mul_right (C0F hg) hx;have hyd:b.den/Nat.gcd a.den b.den=y:=Nat.div_eq_of_eq_mul_right (C0F hg) hy;rw[←Rat.normalize_mul_right (a:=Nat.gcd a.den b.den) h hg];congr 1
 ·unfold A0e;rw[hxd,hyd];generalize Nat.gcd a.den b.den=g at *;rw[hx,hy]
  push_cast
  grind
 ·rw[hxd];generalize Nat.gcd a.den b.den=g at *;rw[hx];grind
theorem A9Q(a b:Rat):hOf a b=Nat.gcd (A0e a b).natAbs (a.den/Nat.gcd a.den b.den*b.den):=Rat.add.aux a b rfl rfl rfl
theorem B0T(a b:Rat):a.den/Nat.gcd a.den b.den*b.den≠0:=by
 have h1:=Nat.div_gcd_pos_of_pos_left b.den a.den_pos;have h2:=b.den_pos;exact C0j (B91 h1 h2)
theorem A9M(a b:Rat):(a+b).num=(A0e a b).tdiv (hOf a b):=by
 rw[A9F a b (B0T a b),Rat.num_normalize,←A9Q];refine(Int.tdiv_eq_ediv_of_dvd ?_).symm;exact Int.ofNat_dvd_left.2 (Nat.gcd_dvd_left _ _)
theorem A88(a b:Rat):(a+b).den=a.den/Nat.gcd a.den b.den*(b.den/hOf a b):=by
 rw[A9F a b (B0T a b),Rat.den_normalize,←A9Q];exact Nat.mul_div_assoc _ (Nat.dvd_trans (Nat.gcd_dvd_right _ _) (Nat.gcd_dvd_right _ _))
theorem A5x(n:Int)(d:Nat)(h:d≠0):(mkRat n d).num=n.tdiv (Nat.gcd n.natAbs d):=by
 rw[←Rat.normalize_eq_mkRat h,Rat.num_normalize];exact(Int.tdiv_eq_ediv_of_dvd (Int.ofNat_dvd_left.2 (Nat.gcd_dvd_left _ _))).symm
theorem A6D(n:Int)(d:Nat)(h:d≠0):(mkRat n d).den=d/Nat.gcd n.natAbs d:=by
 rw[←Rat.normalize_eq_mkRat h,Rat.den_normalize]
def I3(a b:Rat):Int:=if a<b then -1 else if b<a then 1 else 0
theorem A5F(a b:Rat):I3 a b=T8 (a.num*b.den) (b.num*a.den):=by
 unfold I3 T8;simp only[Rat.lt_iff]
theorem B6A{a b:Rat}(ha:a.den=1)(hb:b.den=1):I3 a b=T8 a.num b.num:=by
 rw[A5F,ha,hb];simp
theorem A90{a b:Rat}(h:a.num.sign≠b.num.sign):I3 a b=T8 a.num b.num:=by
 rw[A5F];have h1:=a.den_pos;have h2:=b.den_pos;generalize a.num=x at *;generalize b.num=y at *;generalize a.den=p at *;generalize b.den=q at *;have hx:(x*(q:Int)).sign=x.sign:=by rw[Int.sign_mul,C0P (a:=(q:Int)) (by omega),Int.mul_one]
 have hy:(y*(p:Int)).sign=y.sign:=by rw[Int.sign_mul,C0P (a:=(p:Int)) (by omega),Int.mul_one]
 rw[←hx,←hy]at h;have key:∀u v:Int,u.sign≠v.sign→T8 u v=T8 u.sign v.sign:=by
  intro u v huv;unfold T8
  rcases C0k u 0 with hu|hu|hu<;>rcases C0k v 0 with hv|hv|hv <;>
   (first|(rw[C0N hu]at huv⊢)|(rw[hu,Int.sign_zero]at huv⊢)|(rw[C0P hu]at huv⊢)) <;>
   (first|(rw[C0N hv]at huv⊢)|(rw[hv,Int.sign_zero]at huv⊢)|(rw[C0P hv]at huv⊢)) <;>
   first|(exact absurd rfl huv)|(split<;>(try split)<;>simp<;>omega)
 rw[key _ _ h,hx,hy];rw[hx,hy]at h;exact(key _ _ h).symm
def qs(q:Rat):Nat:=max (bl q.num.natAbs) (bl q.den)
theorem G8(q:Rat):bl q.num.natAbs≤qs q:=Nat.le_max_left _ _
theorem H9(q:Rat):bl q.den≤qs q:=Nat.le_max_right _ _
theorem A3p(n:Int)(g:Nat):(n.tdiv g).natAbs≤n.natAbs:=by
 rw[Int.natAbs_tdiv];exact B9d _ _
theorem A0d(a b:Rat):qs (a*b)≤qs a+qs b:=by
 refine Nat.max_le.2 ⟨?_,?_⟩
 ·rw[A9A,C0l];refine B9Y (T9 _ _) ?_;have h1:=S5 (A3p a.num (Nat.gcd a.num.natAbs b.den));have h2:=S5 (A3p b.num (Nat.gcd b.num.natAbs a.den));have:=G8 a;have:=G8 b;omega
 ·rw[A7q];refine B9Y (T9 _ _) ?_;have h1:=O5 a.den (Nat.gcd b.num.natAbs a.den);have h2:=O5 b.den (Nat.gcd a.num.natAbs b.den);have:=H9 a;have:=H9 b;omega
theorem A9O(a b:Rat):bl (A0e a b).natAbs≤qs a+qs b+1:=by
 unfold A0e;have h1:=T9 a.num.natAbs (b.den/Nat.gcd a.den b.den);have h2:=T9 b.num.natAbs (a.den/Nat.gcd a.den b.den);have h3:=O5 b.den (Nat.gcd a.den b.den);have h4:=O5 a.den (Nat.gcd a.den b.den);have:=G8 a;have:=H9 a;have:=G8 b;have:=H9 b;refine B9Y (S5 (Int.natAbs_add_le _ _)) ?_;rw[C0l,C0l,C0i,C0i];refine B9Y (A71 _ _) ?_;omega
theorem A3U(a b:Rat):qs (a+b)≤qs a+qs b+1:=by
 refine Nat.max_le.2 ⟨?_,?_⟩
 ·rw[A9M];exact B9Y (S5 (A3p _ _)) (A9O a b)
 ·rw[A88];refine B9Y (T9 _ _) ?_;have h1:=O5 a.den (Nat.gcd a.den b.den);have h2:=O5 b.den (hOf a b);have:=H9 a;have:=H9 b;omega
theorem A2d(a:Rat):qs (-a)=qs a:=by
 unfold qs;rw[Rat.neg_num,Rat.neg_den,C0h]
theorem A01(a b:Rat):qs (a-b)≤qs a+qs b+1:=by
 rw[Rat.sub_eq_add_neg];have:=A3U a (-b);rw[A2d]at this;exact this
theorem A8p(a:Rat)(h:a≠0):qs a⁻¹=qs a:=by
 have h0:a.num≠0:=fun e=>h (Rat.num_eq_zero.1 e);unfold qs;rw[Rat.num_inv,Rat.den_inv,if_neg h0,C0l,C0i,Int.natAbs_sign_of_ne_zero h0,C0m,Nat.max_comm]
theorem A3i(a b:Rat):qs (a/b)≤qs a+qs b:=by
 by_cases h:b=0
 ·subst h;have:a/0=0:=by rw[Rat.div_def,Rat.inv_zero,Rat.mul_zero]
  rw[this];have h0:qs 0=1:=by show max (bl 0) (bl 1)=1;rw[A0m,A2V.2 rfl];rfl
  have:0<bl a.den:=U6.2 a.den_nz;have:=H9 a;omega
 ·rw[Rat.div_def,←A8p b h];exact A0d _ _
theorem B1X(a:Rat):1≤qs a:=by
 have:0<bl a.den:=U6.2 a.den_nz;have:=H9 a;omega
theorem B8v(n:Int)(k:Nat)(h:n.natAbs<2^k)(hk:1≤k):qs (n:Rat)≤k:=by
 refine Nat.max_le.2 ⟨?_,?_⟩
 ·rw[Rat.num_intCast];exact Q9.2 h
 ·rw[Rat.den_intCast];exact B9Y (by decide) hk
end Go.Proofs.YtgpglgbcobeogaaGreatDoor
namespace Go.Proofs.YtgpglgbcobeogaaGreatDoor
open Go.RowKit
theorem B5R{p q:Rat}(h:p=q):Ending.returned (qV p) = .returned (qV q):=by rw[h]
theorem A1o{n:Int}{d:Nat}{q:Rat}(h1:q.num=n)(h2:q.den=d):Ending.returned (nqV n d) = .returned (qV q):=by rw[A7u h1 h2]
theorem A5r{a b:Nat}(h:a=b):Ending.returned (B4 a) = .returned (B4 b):=by rw[h]
theorem B23{d:Nat}(h:bl d≤1099511627776):bl (G9 d)≤1099511627776:=by
 unfold G9;split
 ·rw[A0m];omega
 ·exact h
theorem A7A(q:Rat)(h:bl q.den≤1099511627776)(w:World):Calls Tryz.prog 81 #[qV q] w fun e w'=>e = .returned (.bool (decide (q.den=1)))∧A4 w w':=by
 have hk:=B23 h;have hd:decide (q.den=1)=((bl (G9 q.den):Int) == 0):=by
  have h2:=q.den_pos;by_cases h1:q.den=1
  ·rw[h1,B3S,A0m];rfl
  ·rw[A5b h1,C0Q h1];have:bl q.den≠0:=fun e=>by have:=Z8.1 e;omega
   symm
   simpa using this
 rw[hd];clear hd;go_enter Tryz.func81,Tryz.ntmps81;refine en1 ?_;intro u hG b1 hB hF;refine B9b (rsE A8 [0,0,1,0,0] hB hG fun L hL=>?_);refine gs ?_;refine gmw (C:=fun v=>P5 _ (by assumption) _) ?_;refine gs ?_;refine geT hL ?_;clear hB hG hL L;rintro u ⟨-,hB,hG,-⟩;refine rt Tryz.results81 ?_;exact⟨rfl,hG⟩
theorem B6y(w:World):Calls Tryz.prog 143 #[.int .u64 1] w fun e w'=>e = .returned (B4 1)∧A4 w w':=A26 1 (by unfold W64;omega) w
theorem V3(q:Rat)(h:bl q.den≤1099511627776)(w:World):Calls Tryz.prog 84 #[qV q] w fun e w'=>e = .returned (B4 q.den)∧A4 w w':=by
 go_enter Tryz.func84,Tryz.ntmps84;refine en2 ?_;intro u hG b2 b1 hB hF;refine B9b ?_;refine B9b (rsE A8 [0,1] hB hG fun L hL=>?_);refine gs ?_;refine gmw (C:=fun v=>A7A _ (by assumption) _) ?_;refine geT hL ?_;clear hB hG hL L;rintro u ⟨-,hB,hG,-⟩;refine C0M rfl ?_ ?_
 ·intro ht;have ht4:=ht;refine B9b (rsC A8 [1] hB hG fun K L hN hL=>?_);refine gmw (C:=fun v=>B6y _) ?_;refine geC hL ?_;clear hB hG hL L;rintro u ⟨-,hB,hG,-⟩;refine gtT ?_;clear hN K;refine st hB hF hG 1 0 [_,_] ?_;clear hB hG;intro u hB hG;refine rt Tryz.results84 ?_;have e:q.den=1:=C0K ht;exact⟨A5r e.symm,hG⟩
 ·intro ht;have ht4:=ht;refine B9i ?_;refine A6 ?_;refine r0T ?_;refine st hB hF hG 1 0 [_,_] ?_;clear hB hG;intro u hB hG;refine rt Tryz.results84 ?_;have e:q.den≠1:=C0O ht;exact⟨A5r (A5b e),hG⟩
theorem B21(q:Rat)(w:World):Calls Tryz.prog 151 #[qV q] w fun e w'=>e = .returned (E0 q.num)∧A4 w w':=by
 go_enter Tryz.func151,Tryz.ntmps151;refine en2 ?_;intro u hG b2 b1 hB hF;refine r0T ?_;refine st hB hF hG 1 0 [_,_,_] ?_;clear hB hG;intro u hB hG;refine rt Tryz.results151 ?_;exact⟨rfl,hG⟩
theorem R3(q:Rat)(h:bl q.num.natAbs≤1099511627776)(w:World):Calls Tryz.prog 36 #[qV q] w fun e w'=>e = .returned (.int .i64 q.num.sign)∧A4 w w':=by
 go_enter Tryz.func36,Tryz.ntmps36;refine en1 ?_;intro u hG b1 hB hF;refine B9b (rsE A8 [0,0,1,0] hB hG fun L hL=>?_);refine gs ?_;refine gmw (C:=fun v=>A3f _ (by assumption) _) ?_;refine gs ?_;refine geT hL ?_;clear hB hG hL L;rintro u ⟨-,hB,hG,-⟩;refine rt Tryz.results36 ?_;exact⟨rfl,hG⟩
theorem A4t(n:Int)(d:Nat)(h:bl d≤1099511627776)(w:World):Calls Tryz.prog 85 #[E0 n,B4 d] w fun e w'=>e = .returned (nqV n d)∧A4 w w':=by
 go_enter Tryz.func85,Tryz.ntmps85;refine en3 ?_;intro u hG b4 b3 b2 hB hF;refine B9b ?_;refine B9b (rsE A8 [0,1,0] hB hG fun L hL=>?_);refine gs ?_;refine gmw (C:=fun v=>P5 _ (by assumption) _) ?_;refine gs ?_;refine geT hL ?_;clear hB hG hL L;rintro u ⟨-,hB,hG,-⟩;refine C0M rfl ?_ ?_
 ·intro ht;have ht7:=ht;refine r0T ?_;refine st hB hF hG 2 0 [_,_,_,_,_] ?_;clear hB hG;intro u hB hG;refine rt Tryz.results85 ?_;have e:d=1:=A2V.1 (by simp at ht;omega);subst e;exact⟨rfl,hG⟩
 ·intro ht;have ht7:=ht;refine B9i ?_;refine A6 ?_;refine r0T ?_;refine st hB hF hG 2 0 [_,_,_,_,_] ?_;clear hB hG;intro u hB hG;refine rt Tryz.results85 ?_;have e:d≠1:=fun e=>by
   have h2:=A2V.2 e;rw[h2]at ht;simp at ht
  exact⟨by rw[nqV,A5b e],hG⟩
theorem A2H(a b:Nat)(ha:bl a≤BIG)(hb:bl b≤BIG)(h0:b≠0)(w:World):Calls Tryz.prog 87 #[B4 a,B4 b] w fun e w'=>e = .returned (B4 (a/b))∧A4 w w':=by
 have hb':=Q7 hb;go_enter Tryz.func87,Tryz.ntmps87;refine en3 ?_;intro u hG b4 b3 b2 hB hF;refine B9b ?_;refine B9b (rsE A8 [0,1,0] hB hG fun L hL=>?_);refine gs ?_;refine gmw (C:=fun v=>P5 _ (by assumption) _) ?_;refine gs ?_;refine geT hL ?_;clear hB hG hL L;rintro u ⟨-,hB,hG,-⟩;refine C0M rfl ?_ ?_
 ·intro ht;have ht10:=ht;refine r0T ?_;refine st hB hF hG 2 0 [_,_] ?_;clear hB hG;intro u hB hG;refine rt Tryz.results87 ?_;have e:b=1:=A2V.1 (by simp at ht;omega);exact⟨A5r (by rw[e,Nat.div_one]),hG⟩
 ·intro ht;have ht10:=ht;refine B9i ?_;refine A6 ?_;refine B9b (rsC A8 [0,0,1,0,0,0,0,2,2] hB hG fun K L hN hL=>?_);refine gs ?_;refine gmw (C:=fun v=>A3a _ _ (by assumption) (by assumption) (by assumption) _) ?_;refine gs ?_;refine gaa (M3 _ _ _ _ _) fun b5 hb5 hn5=>?_;refine gaa (M3 _ _ _ _ _) fun b6 hb6 hn6=>?_;replace hF:=hF.n1 [] hB hG hb5 hn5;replace hF:=hF.n1 [b5] hB hG hb6 hn6;refine geC hL ?_;clear hB hG hL L;rintro u ⟨⟨⟨-,hB,hG,-⟩,h5⟩,h6⟩;replace hB:=hB.cons' h5;replace hB:=hB.cons' h6;clear h5 h6;clear hb5 hn5 hb6 hn6;have hD:b5≠b6∧b6≠b5:=⟨hF.ne 1 0 rfl rfl (by decide),hF.ne 0 1 rfl rfl (by decide)⟩
  refine gtT ?_;clear hN K;clear hD;refine st2 hB hF hG 1 0 [_,_] 0 0 [_,_] ?_;clear hB hG;intro u hB hG;refine r0T ?_;refine st hB hF hG 4 0 [_,_] ?_;clear hB hG;intro u hB hG;refine rt Tryz.results87 ?_;exact⟨rfl,hG⟩
theorem A3z(n:Int)(b:Nat)(ha:bl n.natAbs≤BIG)(hb:bl b≤BIG)(h0:b≠0)(w:World):Calls Tryz.prog 86 #[E0 n,B4 b] w fun e w'=>e = .returned (E0 (ztd n b))∧A4 w w':=by
 have ha':=Q7 ha;have hd:bl (n.natAbs/b)≤1099511627776:=B9Y (O5 _ _) ha';go_enter Tryz.func86,Tryz.ntmps86;refine en3 ?_;intro u hG b4 b3 b2 hB hF;refine B9b (rdC A8 [] [(0,0),(0,3),(0,5),(1,1),(0,2),(1,4),(1,6),(1,7)] hB hG fun K L hN hL=>?_);refine gs ?_;refine gmw (C:=fun v=>A3f _ (by assumption) _) ?_;refine gs ?_;refine gmw (C:=fun v=>A2O _ _) ?_;refine gmw (C:=fun v=>A2H _ _ (by assumption) (by assumption) (by assumption) _) ?_;refine gmw (C:=fun v=>T4 _ _ (by assumption) _) ?_;refine geC hL ?_;clear hB hG hL L;rintro u ⟨-,hB,hG,-⟩;refine gtT ?_;clear hN K;refine st hB hF hG 2 0 [_,_,_] ?_;clear hB hG;intro u hB hG;refine rt Tryz.results86 ?_;exact⟨A11 (A54 n b),hG⟩
theorem A2v(n:Int)(d:Nat)(h:bl n.natAbs+bl d≤1099511627776)(w:World):Calls Tryz.prog 90 #[E0 n,B4 d] w fun e w'=>e = .returned (E0 (ztm n d))∧A4 w w':=by
 have hd:bl d≤1099511627776:=by omega
 have h':bl n.natAbs+bl (sgn false d).natAbs≤1099511627776:=h;go_enter Tryz.func90,Tryz.ntmps90;refine en3 ?_;intro u hG b4 b3 b2 hB hF;refine B9b (rdC A8 [] [(0,0),(0,1),(1,2),(1,3)] hB hG fun K L hN hL=>?_);refine gs ?_;refine gmw (C:=fun v=>T4 _ _ (by assumption) _) ?_;refine gmw (C:=fun v=>A6q _ _ (by assumption) _) ?_;refine geC hL ?_;clear hB hG hL L;rintro u ⟨-,hB,hG,-⟩;refine gtT ?_;clear hN K;refine st hB hF hG 2 0 [_,_,_] ?_;clear hB hG;intro u hB hG;refine rt Tryz.results90 ?_;exact⟨rfl,hG⟩
theorem A3V(n:Int)(d:Nat)(hn:bl n.natAbs≤BIG)(hd:bl d≤BIG)(w:World)(HT:Tab w):Calls Tryz.prog 83 #[E0 n,E0 (sgn false d)] w fun e w'=>e = .returned (B4 (Nat.gcd n.natAbs d))∧A4 w w':=by
 have:=B2P n (sgn false d) hn (by rw[A1F];exact hd) w HT;rw[A1F]at this;exact this
theorem B5m(c d:Nat)(hc:bl c≤BIG)(hd:bl d≤BIG)(w:World)(HT:Tab w):Calls Tryz.prog 83 #[E0 (sgn false c),E0 (sgn false d)] w fun e w'=>e = .returned (B4 (Nat.gcd c d))∧A4 w w':=by
 have:=A3V (sgn false c) d (by rw[A1F];exact hc) hd w HT;rw[A1F]at this;exact this
theorem A7v(n:Int)(d:Nat)(hn:bl n.natAbs≤BIG)(hd:bl d≤BIG)(h0:d≠0)(w:World)(HT:Tab w):Calls Tryz.prog 130 #[E0 n,B4 d] w fun e w'=>e = .returned (qV (mkRat n d))∧A4 w w':=by
 have hd':=Q7 hd;have hg:bl (Nat.gcd n.natAbs d)≤BIG:=B9Y (A4o _ _ h0) hd;have hg0:Nat.gcd n.natAbs d≠0:=fun e=>h0 (C0n e);have hdd:bl (d/Nat.gcd n.natAbs d)≤1099511627776:=B9Y (O5 _ _) hd';go_enter Tryz.func130,Tryz.ntmps130;refine en3 ?_;intro u hG b4 b3 b2 hB hF;refine B9b (rdC A8 [] [(0,0),(0,1),(1,2),(1,3),(2,4)] hB hG fun K L hN hL=>?_);refine gs ?_;refine gmw (C:=fun v=>T4 _ _ (by assumption) _) ?_;refine gmd (C:=fun v ⟨hgu,hB,hG,_⟩=>A3V n d hn hd _ (HT.grow hG)) ?_;refine gaa (M3 _ _ _ _ _) fun b5 hb5 hn5=>?_;replace hF:=hF.n1 [] hB hG hb5 hn5;refine geC hL ?_;clear hB hG hL L;rintro u ⟨⟨-,hB,hG,-⟩,h5⟩;replace hB:=hB.cons' h5;clear h5;clear hb5 hn5;refine gtT ?_;clear hN K;refine st hB hF hG 0 0 [_,_] ?_;clear hB hG;intro u hB hG;refine B9b (rdC A8 [] [(0,0),(0,1),(0,3),(0,4),(1,2),(1,5),(1,6)] hB hG fun K L hN hL=>?_);refine gs ?_;refine gmw (C:=fun v=>A3z n (Nat.gcd n.natAbs d) hn hg hg0 _) ?_;refine gmw (C:=fun v=>A2H d (Nat.gcd n.natAbs d) hd hg hg0 _) ?_;refine gmw (C:=fun v=>A4t _ _ (by assumption) _) ?_;refine geC hL ?_;clear hB hG hL L;rintro u ⟨-,hB,hG,-⟩;refine gtT ?_;clear hN K;refine st hB hF hG 3 0 [_,_,_,_,_] ?_;clear hB hG;intro u hB hG;refine rt Tryz.results130 ?_;exact⟨A1o (A5x n d h0) (A6D n d h0),hG⟩
def H5(a b:Rat):Rat:=a+b
def F8(a b:Rat):Rat:=a-b
def D8(a b:Rat):Rat:=a*b
def I8(a b:Rat):Rat:=a/b
def I7(a:Rat):Rat:=-a
def Y8(a:Rat):Rat:=a.abs
def C1(n:Int):Rat:=(n:Rat)
def nz(d:Int):Bool:=decide (d≠0)
def nzq(q:Rat):Bool:=decide (q≠0)
def I6(n d:Int):Rat:=Rat.divInt n d
theorem A59(n:Int):(C1 n).num=n:=Rat.num_intCast n
theorem A6C(n:Int):(C1 n).den=1:=Rat.den_intCast n
theorem A0N(n:Int)(h0 : -9223372036854775808≤n)(h1:n≤9223372036854775807)(w:World):Calls Tryz.prog 48 #[.int .i64 n] w fun e w'=>e = .returned (qV (C1 n))∧A4 w w':=by
 go_enter Tryz.func48,Tryz.ntmps48;refine en1 ?_;intro u hG b2 hB hF;refine B9b (rsC A8 [0,1,0] hB hG fun K L hN hL=>?_);refine gs ?_;refine gmw (C:=fun v=>B7U _ (by assumption) (by assumption) _) ?_;refine gs ?_;refine geC hL ?_;clear hB hG hL L;rintro u ⟨-,hB,hG,-⟩;refine gtT ?_;clear hN K;refine st hB hF hG 0 0 [_,_,_,_,_] ?_;clear hB hG;intro u hB hG;refine rt Tryz.results48 ?_;exact⟨A1o (d:=1) (A59 n) (A6C n),hG⟩
theorem A5T(n d:Int)(h:¬d<0):I6 n d=mkRat n d.natAbs:=by
 obtain⟨m,rfl⟩:∃m:Nat,d=(m:Int):=⟨d.natAbs,by omega⟩
 unfold I6;rw[Rat.divInt_ofNat,C0i]
theorem A5N(n d:Int)(h:d<0):I6 n d=mkRat (A0k n) d.natAbs:=by
 obtain⟨m,rfl⟩:∃m:Nat,d = -(m:Int):=⟨d.natAbs,by omega⟩
 unfold I6 A0k;rw[Rat.divInt_neg',Rat.divInt_ofNat,C0h,C0i]
theorem B4o(z:Int):bl (A0k z).natAbs=bl z.natAbs:=by unfold A0k;rw[C0h]
theorem A4W{p q:Rat}{a b:Bool}(h:p=q)(h':a=b):Ending.returned (.tuple #[qV p,.bool a]) = .returned (.tuple #[qV q,.bool b]):=by rw[h,h']
theorem B6J(n d:Int)(hn:bl n.natAbs≤BIG)(hd:bl d.natAbs≤BIG)(w:World)(HT:Tab w):Calls Tryz.prog 64 #[E0 n,E0 d] w fun e w'=>e = .returned (.tuple #[qV (I6 n d),.bool (nz d)])∧A4 w w':=by
 have hn':=Q7 hn;have hd':=Q7 hd;have hz:bl (A0k n).natAbs≤BIG:=by rw[B4o];exact hn
 go_enter Tryz.func64,Tryz.ntmps64;refine en3 ?_;intro u hG b4 b3 b2 hB hF;refine B9b ?_;refine B9b (rsE A8 [0,1,0] hB hG fun L hL=>?_);refine gs ?_;refine gmw (C:=fun v=>A3f _ (by assumption) _) ?_;refine gs ?_;refine geT hL ?_;clear hB hG hL L;rintro u ⟨-,hB,hG,-⟩;refine C0M rfl ?_ ?_
 ·intro ht;have ht8:=ht;refine r0T ?_;refine st hB hF hG 2 0 [_,_,_,_,_] ?_;clear hB hG;intro u hB hG;refine rt Tryz.results64 ?_;have e:d=0:=by simpa using ht
  subst e;exact⟨A4W (p:=0) (by unfold I6;rw[Rat.divInt_zero]) rfl,hG⟩
 ·intro ht;have ht8:=ht;have hd0:d.natAbs≠0:=fun e=>by
   have:d=0:=by omega
   rw[this]at ht;simp at ht
  refine B9i ?_;refine A6 ?_;refine B9b ?_;refine B9b (rsE A8 [0,1,0] hB hG fun L hL=>?_);refine gs ?_;refine gmw (C:=fun v=>A3f _ (by assumption) _) ?_;refine gs ?_;refine geT hL ?_;clear hB hG hL L;rintro u ⟨-,hB,hG,-⟩;refine C0M rfl ?_ ?_
  ·intro ht;have ht12:=ht;refine rsC A8 [0,1] hB hG fun K L hN hL=>?_;refine gs ?_;refine gmw (C:=fun v=>B0Z _ (by assumption) _) ?_;refine geC hL ?_;clear hB hG hL L;rintro u ⟨-,hB,hG,-⟩;refine gtT ?_;clear hN K;refine st hB hF hG 0 0 [_,_,_] ?_;clear hB hG;intro u hB hG;refine B9b (rdC A8 [] [(0,0),(0,1),(1,2),(1,3)] hB hG fun K L hN hL=>?_);refine gs ?_;refine gmw (C:=fun v=>A2O _ _) ?_;refine gmd (C:=fun v ⟨hgu,hB,hG,_⟩=>A7v _ _ (by assumption) (by assumption) (by assumption) _ (HT.grow hG)) ?_;refine geC hL ?_;clear hB hG hL L;rintro u ⟨-,hB,hG,-⟩;refine gtT ?_;clear hN K;refine st hB hF hG 2 0 [_,_,_,_,_] ?_;clear hB hG;intro u hB hG;refine rt Tryz.results64 ?_;have e:d<0:=by simpa using ht
   exact⟨A4W (A5N n d e).symm (C0L (by omega)).symm,hG⟩
  ·intro ht;have ht12:=ht;refine B9i ?_;refine A6 ?_;refine B9b (rdC A8 [] [(0,0),(0,1),(1,2),(1,3)] hB hG fun K L hN hL=>?_);refine gs ?_;refine gmw (C:=fun v=>A2O _ _) ?_;refine gmd (C:=fun v ⟨hgu,hB,hG,_⟩=>A7v _ _ (by assumption) (by assumption) (by assumption) _ (HT.grow hG)) ?_;refine geC hL ?_;clear hB hG hL L;rintro u ⟨-,hB,hG,-⟩;refine gtT ?_;clear hN K;refine st hB hF hG 2 0 [_,_,_,_,_] ?_;clear hB hG;intro u hB hG;refine rt Tryz.results64 ?_;have e:¬d<0:=by simpa using ht
   exact⟨A4W (A5T n d e).symm (C0L (by omega)).symm,hG⟩
theorem B0e{n:Int}(h0 : -9223372036854775808≤n)(h1:n≤9223372036854775807):bl n.natAbs≤BIG:=by
 refine B9Y (Q9.2 ?_) A5R;have:(2:Nat)^64=18446744073709551616:=rfl;omega
theorem A6e(q:Rat)(h:bl q.num.natAbs≤1099511627776)(w:World):Calls Tryz.prog 97 #[qV q] w fun e w'=>e = .returned (qV (I7 q))∧A4 w w':=by
 go_enter Tryz.func97,Tryz.ntmps97;refine en2 ?_;intro u hG b2 b1 hB hF;refine B9b (rdC A8 [] [(0,0),(0,1),(0,3),(0,4),(1,2),(0,5)] hB hG fun K L hN hL=>?_);refine gs ?_;refine gmw (C:=fun v=>B0Z _ (by assumption) _) ?_;refine gs ?_;refine geC hL ?_;clear hB hG hL L;rintro u ⟨-,hB,hG,-⟩;refine gtT ?_;clear hN K;refine st hB hF hG 1 0 [_,_,_,_,_] ?_;clear hB hG;intro u hB hG;refine rt Tryz.results97 ?_;exact⟨A1o (Rat.neg_num q) (Rat.neg_den q),hG⟩
theorem A9I(q:Rat):q.abs.num=sgn false q.num.natAbs:=by
 rw[B0B];by_cases h:0≤q
 ·rw[Rat.abs_of_nonneg h];have:=Rat.num_nonneg.2 h;omega
 ·have h':q≤0:=by rcases C0o (a:=0) (b:=q)with h1|h1;exact absurd h1 h;exact h1
  rw[Rat.abs_of_nonpos h',Rat.neg_num];have:¬0≤q.num:=fun h2=>h (Rat.num_nonneg.1 h2);omega
theorem A9t(q:Rat):q.abs.den=q.den:=by
 by_cases h:0≤q
 ·rw[Rat.abs_of_nonneg h]
 ·have h':q≤0:=by rcases C0o (a:=0) (b:=q)with h1|h1;exact absurd h1 h;exact h1
  rw[Rat.abs_of_nonpos h',Rat.neg_den]
theorem B7h(q:Rat)(h:bl q.num.natAbs≤1099511627776)(w:World):Calls Tryz.prog 54 #[qV q] w fun e w'=>e = .returned (qV (Y8 q))∧A4 w w':=by
 go_enter Tryz.func54,Tryz.ntmps54;refine en2 ?_;intro u hG b2 b1 hB hF;refine B9b (rdC A8 [] [(0,0),(0,1),(0,4),(0,5),(1,2),(1,3),(0,6)] hB hG fun K L hN hL=>?_);refine gs ?_;refine gmw (C:=fun v=>A2O _ _) ?_;refine gmw (C:=fun v=>T4 _ _ (by assumption) _) ?_;refine gs ?_;refine geC hL ?_;clear hB hG hL L;rintro u ⟨-,hB,hG,-⟩;refine gtT ?_;clear hN K;refine st hB hF hG 1 0 [_,_,_,_,_] ?_;clear hB hG;intro u hB hG;refine rt Tryz.results54 ?_;exact⟨A1o (A9I q) (A9t q),hG⟩
theorem A0S(q:Rat)(h:bl q.den≤1099511627776)(h1:q.den=1)(w:World):Calls Tryz.prog 81 #[qV q] w fun e w'=>e = .returned (.bool true)∧A4 w w':=by
 have:=A7A q h w;rw[C0L h1]at this;exact this
theorem A0i(q:Rat)(h:bl q.den≤1099511627776)(h1:¬q.den=1)(w:World):Calls Tryz.prog 81 #[qV q] w fun e w'=>e = .returned (.bool false)∧A4 w w':=by
 have:=A7A q h w;rw[C0Q h1]at this;exact this
section
variable (a b:Rat) (w:World)
theorem B7k(h:qs a+qs b+1≤BIG)(ha1:a.den=1)(hb1:b.den=1):Calls Tryz.prog 30 #[qV a,qV b] w fun e w'=>e = .returned (.int .i64 (I3 a b))∧A4 w w':=by
 have hB40:=K5;have h1:bl a.num.natAbs≤1099511627776:=by have:=G8 a;omega
 have h2:bl b.num.natAbs≤1099511627776:=by have:=G8 b;omega
 have h3:bl a.den≤1099511627776:=by have:=H9 a;omega
 have h4:bl b.den≤1099511627776:=by have:=H9 b;omega
 have Ha1:=B9g ha1;have Hb1:=B9g hb1;clear ha1 hb1;go_enter Tryz.func30,Tryz.ntmps30;refine en2 ?_;intro u hG b3 b2 hB hF;refine B9b ?_;refine B9b (rdC A8 [] [(0,0),(1,1),(0,2),(0,3),(1,4),(0,5),(0,6),(0,7),(0,9),(1,8),(1,10),(0,11)] hB hG fun K L hN hL=>?_);refine gs ?_;refine gmw (C:=fun v=>A0S a h3 Ha1.out _) ?_;refine gs ?_
 first|refine gmw (C:=fun v=>A0S b h4 Hb1.out _) ?_|refine M9 ?_
 refine gs ?_
 first|refine gmw (C:=fun v=>R3 _ (by assumption) _) ?_|refine M9 ?_
 first|refine gmw (C:=fun v=>R3 _ (by assumption) _) ?_|refine M9 ?_
 refine gs ?_;refine geC hL ?_;clear hB hG hL L;rintro u ⟨-,hB,hG,-⟩;refine gtT ?_;clear hN K;refine B9j (rfl) ?_;refine B9b (rsE A8 [0,0,0,0,1,0] hB hG fun L hL=>?_);refine gs ?_;refine gmw (C:=fun v=>A3O _ _ (by assumption) (by assumption) _) ?_;refine gs ?_;refine geT hL ?_;clear hB hG hL L;rintro u ⟨-,hB,hG,-⟩;refine rt Tryz.results30 ?_;exact⟨M7 (B6A Ha1.out Hb1.out).symm,hG⟩
theorem B1G(h:qs a+qs b+1≤BIG)(ha1:a.den=1)(hb1:¬b.den=1):Calls Tryz.prog 30 #[qV a,qV b] w fun e w'=>e = .returned (.int .i64 (I3 a b))∧A4 w w':=by
 have hB40:=K5;have h1:bl a.num.natAbs≤1099511627776:=by have:=G8 a;omega
 have h2:bl b.num.natAbs≤1099511627776:=by have:=G8 b;omega
 have h3:bl a.den≤1099511627776:=by have:=H9 a;omega
 have h4:bl b.den≤1099511627776:=by have:=H9 b;omega
 have h5:bl a.num.natAbs+bl b.den≤1099511627776:=by have:=G8 a;have:=H9 b;omega
 have h6:bl b.num.natAbs+bl a.den≤1099511627776:=by have:=G8 b;have:=H9 a;omega
 have h7:bl (ztm a.num b.den).natAbs≤1099511627776:=by unfold ztm;rw[C0l];exact B9Y (T9 _ _) h5
 have h8:bl (ztm b.num a.den).natAbs≤1099511627776:=by unfold ztm;rw[C0l];exact B9Y (T9 _ _) h6
 have Ha1:=B9g ha1;have Hb1:=B9g hb1;clear ha1 hb1;go_enter Tryz.func30,Tryz.ntmps30;refine en2 ?_;intro u hG b3 b2 hB hF;refine B9b ?_;refine B9b (rdC A8 [] [(0,0),(1,1),(0,2),(0,3),(1,4),(0,5),(0,6),(0,7),(0,9),(1,8),(1,10),(0,11)] hB hG fun K L hN hL=>?_);refine gs ?_;refine gmw (C:=fun v=>A0S a h3 Ha1.out _) ?_;refine gs ?_
 first|refine gmw (C:=fun v=>A0i b h4 Hb1.out _) ?_|refine M9 ?_
 refine gs ?_
 first|refine gmw (C:=fun v=>R3 _ (by assumption) _) ?_|refine M9 ?_
 first|refine gmw (C:=fun v=>R3 _ (by assumption) _) ?_|refine M9 ?_
 refine gs ?_;refine geC hL ?_;clear hB hG hL L;rintro u ⟨-,hB,hG,-⟩;refine gtT ?_;clear hN K;refine C0M rfl ?_ ?_
 ·intro ht;have ht17:=ht;refine B9b (rsE A8 [0,0,0,0,1,0] hB hG fun L hL=>?_);refine gs ?_;refine gmw (C:=fun v=>A3O _ _ (by assumption) (by assumption) _) ?_;refine gs ?_;refine geT hL ?_;clear hB hG hL L;rintro u ⟨-,hB,hG,-⟩;refine rt Tryz.results30 ?_;exact⟨M7 (A90 (by simpa using ht)).symm,hG⟩
 ·intro ht;have ht17:=ht;refine B9i ?_;refine A6 ?_;refine B9b (rdC A8 [] [(0,0),(0,1),(0,2),(0,5),(0,6),(0,7),(1,3),(1,4),(1,8),(1,9),(1,10)] hB hG fun K L hN hL=>?_);refine gs ?_;refine gmw (C:=fun v=>V3 _ (by assumption) _) ?_;refine gmw (C:=fun v=>A2v _ _ (by assumption) _) ?_;refine gmw (C:=fun v=>V3 _ (by assumption) _) ?_;refine gmw (C:=fun v=>A2v _ _ (by assumption) _) ?_;refine gmw (C:=fun v=>A3O _ _ (by assumption) (by assumption) _) ?_;refine geC hL ?_;clear hB hG hL L;rintro u ⟨-,hB,hG,-⟩;refine gtT ?_;clear hN K;refine rt Tryz.results30 ?_;exact⟨M7 (A5F a b).symm,hG⟩
theorem B7D(h:qs a+qs b+1≤BIG)(ha1:¬a.den=1):Calls Tryz.prog 30 #[qV a,qV b] w fun e w'=>e = .returned (.int .i64 (I3 a b))∧A4 w w':=by
 have hB40:=K5;have h1:bl a.num.natAbs≤1099511627776:=by have:=G8 a;omega
 have h2:bl b.num.natAbs≤1099511627776:=by have:=G8 b;omega
 have h3:bl a.den≤1099511627776:=by have:=H9 a;omega
 have h4:bl b.den≤1099511627776:=by have:=H9 b;omega
 have h5:bl a.num.natAbs+bl b.den≤1099511627776:=by have:=G8 a;have:=H9 b;omega
 have h6:bl b.num.natAbs+bl a.den≤1099511627776:=by have:=G8 b;have:=H9 a;omega
 have h7:bl (ztm a.num b.den).natAbs≤1099511627776:=by unfold ztm;rw[C0l];exact B9Y (T9 _ _) h5
 have h8:bl (ztm b.num a.den).natAbs≤1099511627776:=by unfold ztm;rw[C0l];exact B9Y (T9 _ _) h6
 have Ha1:=B9g ha1;clear ha1;go_enter Tryz.func30,Tryz.ntmps30;refine en2 ?_;intro u hG b3 b2 hB hF;refine B9b ?_;refine B9b (rdC A8 [] [(0,0),(1,1),(0,2),(0,3),(1,4),(0,5),(0,6),(0,7),(0,9),(1,8),(1,10),(0,11)] hB hG fun K L hN hL=>?_);refine gs ?_;refine gmw (C:=fun v=>A0i a h3 Ha1.out _) ?_;refine gs ?_
 first|refine gmw (C:=fun v=>A0i a h3 Ha1.out _) ?_|refine M9 ?_
 refine gs ?_
 first|refine gmw (C:=fun v=>R3 _ (by assumption) _) ?_|refine M9 ?_
 first|refine gmw (C:=fun v=>R3 _ (by assumption) _) ?_|refine M9 ?_
 refine gs ?_;refine geC hL ?_;clear hB hG hL L;rintro u ⟨-,hB,hG,-⟩;refine gtT ?_;clear hN K;refine C0M rfl ?_ ?_
 ·intro ht;have ht17:=ht;refine B9b (rsE A8 [0,0,0,0,1,0] hB hG fun L hL=>?_);refine gs ?_;refine gmw (C:=fun v=>A3O _ _ (by assumption) (by assumption) _) ?_;refine gs ?_;refine geT hL ?_;clear hB hG hL L;rintro u ⟨-,hB,hG,-⟩;refine rt Tryz.results30 ?_;exact⟨M7 (A90 (by simpa using ht)).symm,hG⟩
 ·intro ht;have ht17:=ht;refine B9i ?_;refine A6 ?_;refine B9b (rdC A8 [] [(0,0),(0,1),(0,2),(0,5),(0,6),(0,7),(1,3),(1,4),(1,8),(1,9),(1,10)] hB hG fun K L hN hL=>?_);refine gs ?_;refine gmw (C:=fun v=>V3 _ (by assumption) _) ?_;refine gmw (C:=fun v=>A2v _ _ (by assumption) _) ?_;refine gmw (C:=fun v=>V3 _ (by assumption) _) ?_;refine gmw (C:=fun v=>A2v _ _ (by assumption) _) ?_;refine gmw (C:=fun v=>A3O _ _ (by assumption) (by assumption) _) ?_;refine geC hL ?_;clear hB hG hL L;rintro u ⟨-,hB,hG,-⟩;refine gtT ?_;clear hN K;refine rt Tryz.results30 ?_;exact⟨M7 (A5F a b).symm,hG⟩
theorem A1m(h:qs a+qs b+1≤BIG):Calls Tryz.prog 30 #[qV a,qV b] w fun e w'=>e = .returned (.int .i64 (I3 a b))∧A4 w w':=by
 by_cases ha1:a.den=1
 ·by_cases hb1:b.den=1
  ·exact B7k a b w h ha1 hb1
  ·exact B1G a b w h ha1 hb1
 ·exact B7D a b w h ha1
theorem A4m(q:Rat)(h:q.den=1):q=(q.num:Rat):=Rat.ext (Rat.num_intCast _).symm (by rw[h];exact(Rat.den_intCast _).symm)
theorem B4q(h:qs a+qs b+1≤BIG)(ha1:a.den=1)(hb1:b.den=1):Calls Tryz.prog 95 #[qV a,qV b] w fun e w'=>e = .returned (qV (H5 a b))∧A4 w w':=by
 have hB40:=K5;have h1:bl a.num.natAbs<1099511627776:=by have:=G8 a;omega
 have h2:bl b.num.natAbs<1099511627776:=by have:=G8 b;have:=B1X a;omega
 have h3:bl a.den≤1099511627776:=by have:=H9 a;omega
 have h4:bl b.den≤1099511627776:=by have:=H9 b;omega
 have e:H5 a b=((a.num+b.num:Int):Rat):=by
  unfold H5;rw[Rat.intCast_add,←A4m a ha1,←A4m b hb1]
 have e1:(H5 a b).num=A21 a.num b.num:=by rw[e,Rat.num_intCast];rfl
 have e2:(H5 a b).den=1:=by rw[e,Rat.den_intCast]
 have He:=B9g (And.intro e1 e2);clear e e1 e2;have Ha1:=B9g ha1;have Hb1:=B9g hb1;clear ha1 hb1;go_enter Tryz.func95,Tryz.ntmps95;refine en3 ?_;intro u hG b4 b3 b2 hB hF;refine B9b ?_;refine B9b (rsE A8 [0,1,0,0,1,0] hB hG fun L hL=>?_);refine gs ?_;refine gmw (C:=fun v=>A0S a h3 Ha1.out _) ?_;refine gs ?_
 first|refine gmw (C:=fun v=>A0S b h4 Hb1.out _) ?_|refine M9 ?_
 refine gs ?_;refine geT hL ?_;clear hB hG hL L;rintro u ⟨-,hB,hG,-⟩;refine B9j (rfl) ?_;refine B9b (rsC A8 [0,0,0,0,1,0] hB hG fun K L hN hL=>?_);refine gs ?_;refine gmw (C:=fun v=>A7M _ _ (by assumption) (by assumption) _) ?_;refine gs ?_;refine geC hL ?_;clear hB hG hL L;rintro u ⟨-,hB,hG,-⟩;refine gtT ?_;clear hN K;refine st hB hF hG 2 0 [_,_,_,_,_] ?_;clear hB hG;intro u hB hG;refine rt Tryz.results95 ?_;exact⟨A1o He.out.1 He.out.2,hG⟩
theorem B2p(h:qs a+qs b+1≤BIG):bl (Nat.gcd a.den b.den)≤BIG∧Nat.gcd a.den b.den≠0∧bl a.den≤BIG∧bl b.den≤BIG∧bl a.num.natAbs+bl (b.den/Nat.gcd a.den b.den)≤1099511627776∧bl b.num.natAbs+bl (a.den/Nat.gcd a.den b.den)≤1099511627776 ∧
  bl (ztm a.num (b.den/Nat.gcd a.den b.den)).natAbs<1099511627776∧bl (ztm b.num (a.den/Nat.gcd a.den b.den)).natAbs<1099511627776∧bl (A21 (ztm a.num (b.den/Nat.gcd a.den b.den)) (ztm b.num (a.den/Nat.gcd a.den b.den))).natAbs≤BIG ∧
  bl (Nat.gcd (A21 (ztm a.num (b.den/Nat.gcd a.den b.den)) (ztm b.num (a.den/Nat.gcd a.den b.den))).natAbs (Nat.gcd a.den b.den))≤BIG∧Nat.gcd (A21 (ztm a.num (b.den/Nat.gcd a.den b.den)) (ztm b.num (a.den/Nat.gcd a.den b.den))).natAbs (Nat.gcd a.den b.den)≠0:=by
 have hB40:=K5;have s1:=G8 a;have s2:=H9 a;have s3:=G8 b;have s4:=H9 b;have s5:=O5 b.den (Nat.gcd a.den b.den);have s6:=O5 a.den (Nat.gcd a.den b.den);have g0:Nat.gcd a.den b.den≠0:=fun e=>a.den_nz (C0a e);have g1:=B7H a.den b.den a.den_nz;have up:bl (A0e a b).natAbs≤qs a+qs b+1:=A9O a b;have m1:bl (ztm a.num (b.den/Nat.gcd a.den b.den)).natAbs≤bl a.num.natAbs+bl (b.den/Nat.gcd a.den b.den):=by unfold ztm;rw[C0l];exact T9 _ _
 have m2:bl (ztm b.num (a.den/Nat.gcd a.den b.den)).natAbs≤bl b.num.natAbs+bl (a.den/Nat.gcd a.den b.den):=by unfold ztm;rw[C0l];exact T9 _ _
 refine⟨by omega,g0,by omega,by omega,by omega,by omega,by omega,by omega,B9Y up h,B9Y (A4o _ _ g0) (by omega),fun e=>g0 (C0n e)⟩
end
end Go.Proofs.YtgpglgbcobeogaaGreatDoor
