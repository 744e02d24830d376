import Derived.Test.YtgpglgbcobeogaaGreatDoorF16
set_option linter.unusedSimpArgs false
set_option linter.unusedVariables false
set_option maxHeartbeats 2000000
set_option maxRecDepth 100000
namespace Go.Proofs.YtgpglgbcobeogaaGreatDoor
abbrev nqV(n:Int)(d:Nat):Value:=.agg #[.bool (E5 n),.int .u64 (B9 n.natAbs),.string (B6 n.natAbs),.int .u64 (B9 (I3 d)),.string (B6 (I3 d))]
theorem B3M:I3 1=0:=rfl
theorem A6s{d:Nat}(h:d≠1):I3 d=d:=if_neg h
theorem A79{n:Int}{d:Nat}{q:Rat}(h1:q.num=n)(h2:q.den=d):nqV n d=qV q:=by subst h1;subst h2;rfl
theorem A54(n:Int)(b:Nat):sgn (E5 n) (n.natAbs/b)=n.tdiv b:=by
 unfold sgn E5;by_cases h:n<0
 ·rw[if_pos (C04 h)];obtain⟨m,rfl⟩:∃m:Nat,n = -(m:Int):=⟨n.natAbs,by omega⟩
  rw[Int.neg_tdiv,C1Q,C1R,Int.ofNat_tdiv]
 ·rw[if_neg (by simpa using h)];obtain⟨m,rfl⟩:∃m:Nat,n=(m:Int):=⟨n.natAbs,by omega⟩
  rw[C1R,Int.ofNat_tdiv]
theorem A98(a b:Rat):(a*b).num=a.num.tdiv (Nat.gcd a.num.natAbs b.den)*b.num.tdiv (Nat.gcd b.num.natAbs a.den):=by
 show(Rat.mul a b).num=_;unfold Rat.mul;simp only[Int.divExact_eq_tdiv]
theorem A9t(a b:Rat):(a*b).den=a.den/Nat.gcd b.num.natAbs a.den*(b.den/Nat.gcd a.num.natAbs b.den):=by
 show(Rat.mul a b).den=_;unfold Rat.mul;simp only[Nat.divExact_eq_div]
def A0t(a b:Rat):Int:=a.num*((b.den/Nat.gcd a.den b.den:Nat):Int)+b.num*((a.den/Nat.gcd a.den b.den:Nat):Int)
def hOf(a b:Rat):Nat:=Nat.gcd (A0t a b).natAbs (Nat.gcd a.den b.den)
theorem B07(a b:Rat)(h:a.den/Nat.gcd a.den b.den*b.den≠0):a+b=Rat.normalize (A0t a b) (a.den/Nat.gcd a.den b.den*b.den) h:=by
 rw[Rat.add_def];have hg:Nat.gcd a.den b.den≠0:=fun h0=>a.den_nz (C1J h0);obtain⟨x,hx⟩:=Nat.gcd_dvd_left a.den b.den;obtain⟨y,hy⟩:=Nat.gcd_dvd_right a.den b.den;have hxd:a.den/Nat.gcd a.den b.den=x:=Nat.div_eq_of_eq_mul_right (C0y hg) hx;have hyd:b.den/Nat.gcd a.den b.den=y:=Nat.div_eq_of_eq_mul_right (C0y hg) hy;rw[←Rat.normalize_mul_right (a:=Nat.gcd a.den b.den) h hg];congr 1
 ·unfold A0t;rw[hxd,hyd];generalize Nat.gcd a.den b.den=g at *;rw[hx,hy]
  push_cast
  grind
 ·rw[hxd];generalize Nat.gcd a.den b.den=g at *;rw[hx];grind
theorem B08(a b:Rat):hOf a b=Nat.gcd (A0t a b).natAbs (a.den/Nat.gcd a.den b.den*b.den):=Rat.add.aux a b rfl rfl rfl
theorem A78(a b:Rat):a.den/Nat.gcd a.den b.den*b.den≠0:=by
 have h1:=Nat.div_gcd_pos_of_pos_left b.den a.den_pos;have h2:=b.den_pos;exact C1S (C0k h1 h2)
theorem B0R(a b:Rat):(a+b).num=(A0t a b).tdiv (hOf a b):=by
 rw[B07 a b (A78 a b),Rat.num_normalize,←B08];refine(Int.tdiv_eq_ediv_of_dvd ?_).symm;exact Int.ofNat_dvd_left.2 (Nat.gcd_dvd_left _ _)
theorem B0X(a b:Rat):(a+b).den=a.den/Nat.gcd a.den b.den*(b.den/hOf a b):=by
 rw[B07 a b (A78 a b),Rat.den_normalize,←B08];exact Nat.mul_div_assoc _ (Nat.dvd_trans (Nat.gcd_dvd_right _ _) (Nat.gcd_dvd_right _ _))
theorem A6A(n:Int)(d:Nat)(h:d≠0):(mkRat n d).num=n.tdiv (Nat.gcd n.natAbs d):=by
 rw[←Rat.normalize_eq_mkRat h,Rat.num_normalize];exact(Int.tdiv_eq_ediv_of_dvd (Int.ofNat_dvd_left.2 (Nat.gcd_dvd_left _ _))).symm
theorem A65(n:Int)(d:Nat)(h:d≠0):(mkRat n d).den=d/Nat.gcd n.natAbs d:=by
 rw[←Rat.normalize_eq_mkRat h,Rat.den_normalize]
def E9(a b:Rat):Int:=if a<b then -1 else if b<a then 1 else 0
theorem A5g(a b:Rat):E9 a b=W6 (a.num*b.den) (b.num*a.den):=by
 unfold E9 W6;simp only[Rat.lt_iff]
theorem B3o{a b:Rat}(ha:a.den=1)(hb:b.den=1):E9 a b=W6 a.num b.num:=by
 rw[A5g,ha,hb];simp
theorem B1B{a b:Rat}(h:a.num.sign≠b.num.sign):E9 a b=W6 a.num b.num:=by
 rw[A5g];have h1:=a.den_pos;have h2:=b.den_pos;generalize a.num=x at *;generalize b.num=y at *;generalize a.den=p at *;generalize b.den=q at *;have hx:(x*(q:Int)).sign=x.sign:=by rw[Int.sign_mul,C08 (a:=(q:Int)) (by omega),Int.mul_one]
 have hy:(y*(p:Int)).sign=y.sign:=by rw[Int.sign_mul,C08 (a:=(p:Int)) (by omega),Int.mul_one]
 rw[←hx,←hy]at h;have key:∀u v:Int,u.sign≠v.sign→W6 u v=W6 u.sign v.sign:=by
  intro u v huv;unfold W6
  rcases C1T u 0 with hu|hu|hu<;>rcases C1T v 0 with hv|hv|hv <;>
   (first|(rw[C06 hu]at huv⊢)|(rw[hu,Int.sign_zero]at huv⊢)|(rw[C08 hu]at huv⊢)) <;>
   (first|(rw[C06 hv]at huv⊢)|(rw[hv,Int.sign_zero]at huv⊢)|(rw[C08 hv]at huv⊢)) <;>
   first|(exact absurd rfl huv)|(split<;>(try split)<;>simp<;>omega)
 rw[key _ _ h,hx,hy];rw[hx,hy]at h;exact(key _ _ h).symm
def qs(q:Rat):Nat:=max (bl q.num.natAbs) (bl q.den)
theorem G4(q:Rat):bl q.num.natAbs≤qs q:=Nat.le_max_left _ _
theorem I7(q:Rat):bl q.den≤qs q:=Nat.le_max_right _ _
theorem A3j(n:Int)(g:Nat):(n.tdiv g).natAbs≤n.natAbs:=by
 rw[Int.natAbs_tdiv];exact C0M _ _
theorem Z5(a b:Rat):qs (a*b)≤qs a+qs b:=by
 refine Nat.max_le.2 ⟨?_,?_⟩
 ·rw[A98,C1U];refine C0H (W8 _ _) ?_;have h1:=V3 (A3j a.num (Nat.gcd a.num.natAbs b.den));have h2:=V3 (A3j b.num (Nat.gcd b.num.natAbs a.den));have:=G4 a;have:=G4 b;omega
 ·rw[A9t];refine C0H (W8 _ _) ?_;have h1:=R5 a.den (Nat.gcd b.num.natAbs a.den);have h2:=R5 b.den (Nat.gcd a.num.natAbs b.den);have:=I7 a;have:=I7 b;omega
theorem A8D(a b:Rat):bl (A0t a b).natAbs≤qs a+qs b+1:=by
 unfold A0t;have h1:=W8 a.num.natAbs (b.den/Nat.gcd a.den b.den);have h2:=W8 b.num.natAbs (a.den/Nat.gcd a.den b.den);have h3:=R5 b.den (Nat.gcd a.den b.den);have h4:=R5 a.den (Nat.gcd a.den b.den);have:=G4 a;have:=I7 a;have:=G4 b;have:=I7 b;refine C0H (V3 (Int.natAbs_add_le _ _)) ?_;rw[C1U,C1U,C1R,C1R];refine C0H (A87 _ _) ?_;omega
theorem A2C(a b:Rat):qs (a+b)≤qs a+qs b+1:=by
 refine Nat.max_le.2 ⟨?_,?_⟩
 ·rw[B0R];exact C0H (V3 (A3j _ _)) (A8D a b)
 ·rw[B0X];refine C0H (W8 _ _) ?_;have h1:=R5 a.den (Nat.gcd a.den b.den);have h2:=R5 b.den (hOf a b);have:=I7 a;have:=I7 b;omega
theorem A2q(a:Rat):qs (-a)=qs a:=by
 unfold qs;rw[Rat.neg_num,Rat.neg_den,C1Q]
theorem A0X(a b:Rat):qs (a-b)≤qs a+qs b+1:=by
 rw[Rat.sub_eq_add_neg];have:=A2C a (-b);rw[A2q]at this;exact this
theorem B1b(a:Rat)(h:a≠0):qs a⁻¹=qs a:=by
 have h0:a.num≠0:=fun e=>h (Rat.num_eq_zero.1 e);unfold qs;rw[Rat.num_inv,Rat.den_inv,if_neg h0,C1U,C1R,Int.natAbs_sign_of_ne_zero h0,C1V,Nat.max_comm]
theorem A1u(a b:Rat):qs (a/b)≤qs a+qs b:=by
 by_cases h:b=0
 ·subst h;have:a/0=0:=by rw[Rat.div_def,Rat.inv_zero,Rat.mul_zero]
  rw[this];have h0:qs 0=1:=by show max (bl 0) (bl 1)=1;rw[A1C,A3Y.2 rfl];rfl
  have:0<bl a.den:=W7.2 a.den_nz;have:=I7 a;omega
 ·rw[Rat.div_def,←B1b b h];exact Z5 _ _
theorem B5s(a:Rat):1≤qs a:=by
 have:0<bl a.den:=W7.2 a.den_nz;have:=I7 a;omega
theorem A8z(n:Int)(k:Nat)(h:n.natAbs<2^k)(hk:1≤k):qs (n:Rat)≤k:=by
 refine Nat.max_le.2 ⟨?_,?_⟩
 ·rw[Rat.num_intCast];exact S9.2 h
 ·rw[Rat.den_intCast];exact C0H (by decide) hk
end Go.Proofs.YtgpglgbcobeogaaGreatDoor
namespace Go.Proofs.YtgpglgbcobeogaaGreatDoor
open Go.RowKit
theorem B2Y{p q:Rat}(h:p=q):Ending.returned (qV p) = .returned (qV q):=by rw[h]
theorem A1n{n:Int}{d:Nat}{q:Rat}(h1:q.num=n)(h2:q.den=d):Ending.returned (nqV n d) = .returned (qV q):=by rw[A79 h1 h2]
theorem A7j{a b:Nat}(h:a=b):Ending.returned (B4 a) = .returned (B4 b):=by rw[h]
theorem B5K{d:Nat}(h:bl d≤1099511627776):bl (I3 d)≤1099511627776:=by
 unfold I3;split
 ·rw[A1C];omega
 ·exact h
theorem A6S(q:Rat)(h:bl q.den≤1099511627776)(w:World):Calls Tryz.prog 81 #[qV q] w fun e w'=>e = .returned (.bool (decide (q.den=1)))∧A4 w w':=by
 have hk:=B5K h;have hd:decide (q.den=1)=((bl (I3 q.den):Int) == 0):=by
  have h2:=q.den_pos;by_cases h1:q.den=1
  ·rw[h1,B3M,A1C];rfl
  ·rw[A6s h1,C09 h1];have:bl q.den≠0:=fun e=>by have:=A0a.1 e;omega
   symm
   simpa using this
 rw[hd];clear hd;go_enter Tryz.func81,Tryz.ntmps81;refine en1 ?_;intro u hG b1 hB hF;refine C0K (rsE A8 [0,0,1,0,0] hB hG fun L hL=>?_);refine gs ?_;refine gmw (C:=fun v=>R8 _ (by assumption) _) ?_;refine gs ?_;refine geT hL ?_;clear hB hG hL L;rintro u ⟨-,hB,hG,-⟩;refine rt Tryz.results81 ?_;exact⟨rfl,hG⟩
theorem B3v(w:World):Calls Tryz.prog 143 #[.int .u64 1] w fun e w'=>e = .returned (B4 1)∧A4 w w':=A4C 1 (by unfold W64;omega) w
theorem Z7(q:Rat)(h:bl q.den≤1099511627776)(w:World):Calls Tryz.prog 84 #[qV q] w fun e w'=>e = .returned (B4 q.den)∧A4 w w':=by
 go_enter Tryz.func84,Tryz.ntmps84;refine en2 ?_;intro u hG b2 b1 hB hF;refine C0K ?_;refine C0K (rsE A8 [0,1] hB hG fun L hL=>?_);refine gs ?_;refine gmw (C:=fun v=>A6S _ (by assumption) _) ?_;refine geT hL ?_;clear hB hG hL L;rintro u ⟨-,hB,hG,-⟩;refine C05 rfl ?_ ?_
 ·intro ht;have ht4:=ht;refine C0K (rsC A8 [1] hB hG fun K L hN hL=>?_);refine gmw (C:=fun v=>B3v _) ?_;refine geC hL ?_;clear hB hG hL L;rintro u ⟨-,hB,hG,-⟩;refine gtT ?_;clear hN K;refine st hB hF hG 1 0 [_,_] ?_;clear hB hG;intro u hB hG;refine rt Tryz.results84 ?_;have e:q.den=1:=C03 ht;exact⟨A7j e.symm,hG⟩
 ·intro ht;have ht4:=ht;refine C0R ?_;refine A6 ?_;refine r0T ?_;refine st hB hF hG 1 0 [_,_] ?_;clear hB hG;intro u hB hG;refine rt Tryz.results84 ?_;have e:q.den≠1:=C07 ht;exact⟨A7j (A6s e),hG⟩
theorem B31(q:Rat)(w:World):Calls Tryz.prog 151 #[qV q] w fun e w'=>e = .returned (E7 q.num)∧A4 w w':=by
 go_enter Tryz.func151,Tryz.ntmps151;refine en2 ?_;intro u hG b2 b1 hB hF;refine r0T ?_;refine st hB hF hG 1 0 [_,_,_] ?_;clear hB hG;intro u hB hG;refine rt Tryz.results151 ?_;exact⟨rfl,hG⟩
theorem O8(q:Rat)(h:bl q.num.natAbs≤1099511627776)(w:World):Calls Tryz.prog 36 #[qV q] w fun e w'=>e = .returned (.int .i64 q.num.sign)∧A4 w w':=by
 go_enter Tryz.func36,Tryz.ntmps36;refine en1 ?_;intro u hG b1 hB hF;refine C0K (rsE A8 [0,0,1,0] hB hG fun L hL=>?_);refine gs ?_;refine gmw (C:=fun v=>A3s _ (by assumption) _) ?_;refine gs ?_;refine geT hL ?_;clear hB hG hL L;rintro u ⟨-,hB,hG,-⟩;refine rt Tryz.results36 ?_;exact⟨rfl,hG⟩
theorem A5l(n:Int)(d:Nat)(h:bl d≤1099511627776)(w:World):Calls Tryz.prog 85 #[E7 n,B4 d] w fun e w'=>e = .returned (nqV n d)∧A4 w w':=by
 go_enter Tryz.func85,Tryz.ntmps85;refine en3 ?_;intro u hG b4 b3 b2 hB hF;refine C0K ?_;refine C0K (rsE A8 [0,1,0] hB hG fun L hL=>?_);refine gs ?_;refine gmw (C:=fun v=>R8 _ (by assumption) _) ?_;refine gs ?_;refine geT hL ?_;clear hB hG hL L;rintro u ⟨-,hB,hG,-⟩;refine C05 rfl ?_ ?_
 ·intro ht;have ht7:=ht;refine r0T ?_;refine st hB hF hG 2 0 [_,_,_,_,_] ?_;clear hB hG;intro u hB hG;refine rt Tryz.results85 ?_;have e:d=1:=A3Y.1 (by simp at ht;omega);subst e;exact⟨rfl,hG⟩
 ·intro ht;have ht7:=ht;refine C0R ?_;refine A6 ?_;refine r0T ?_;refine st hB hF hG 2 0 [_,_,_,_,_] ?_;clear hB hG;intro u hB hG;refine rt Tryz.results85 ?_;have e:d≠1:=fun e=>by
   have h2:=A3Y.2 e;rw[h2]at ht;simp at ht
  exact⟨by rw[nqV,A6s e],hG⟩
theorem A2E(a b:Nat)(ha:bl a≤BIG)(hb:bl b≤BIG)(h0:b≠0)(w:World):Calls Tryz.prog 87 #[B4 a,B4 b] w fun e w'=>e = .returned (B4 (a/b))∧A4 w w':=by
 have hb':=T8 hb;go_enter Tryz.func87,Tryz.ntmps87;refine en3 ?_;intro u hG b4 b3 b2 hB hF;refine C0K ?_;refine C0K (rsE A8 [0,1,0] hB hG fun L hL=>?_);refine gs ?_;refine gmw (C:=fun v=>R8 _ (by assumption) _) ?_;refine gs ?_;refine geT hL ?_;clear hB hG hL L;rintro u ⟨-,hB,hG,-⟩;refine C05 rfl ?_ ?_
 ·intro ht;have ht10:=ht;refine r0T ?_;refine st hB hF hG 2 0 [_,_] ?_;clear hB hG;intro u hB hG;refine rt Tryz.results87 ?_;have e:b=1:=A3Y.1 (by simp at ht;omega);exact⟨A7j (by rw[e,Nat.div_one]),hG⟩
 ·intro ht;have ht10:=ht;refine C0R ?_;refine A6 ?_;refine C0K (rsC A8 [0,0,1,0,0,0,0,2,2] hB hG fun K L hN hL=>?_);refine gs ?_;refine gmw (C:=fun v=>A3c _ _ (by assumption) (by assumption) (by assumption) _) ?_;refine gs ?_;refine gaa (M9 _ _ _ _ _) fun b5 hb5 hn5=>?_;refine gaa (M9 _ _ _ _ _) fun b6 hb6 hn6=>?_;replace hF:=hF.n1 [] hB hG hb5 hn5;replace hF:=hF.n1 [b5] hB hG hb6 hn6;refine geC hL ?_;clear hB hG hL L;rintro u ⟨⟨⟨-,hB,hG,-⟩,h5⟩,h6⟩;replace hB:=hB.cons' h5;replace hB:=hB.cons' h6;clear h5 h6;clear hb5 hn5 hb6 hn6;have hD:b5≠b6∧b6≠b5:=⟨hF.ne 1 0 rfl rfl (by decide),hF.ne 0 1 rfl rfl (by decide)⟩
  refine gtT ?_;clear hN K;clear hD;refine st2 hB hF hG 1 0 [_,_] 0 0 [_,_] ?_;clear hB hG;intro u hB hG;refine r0T ?_;refine st hB hF hG 4 0 [_,_] ?_;clear hB hG;intro u hB hG;refine rt Tryz.results87 ?_;exact⟨rfl,hG⟩
theorem A4e(n:Int)(b:Nat)(ha:bl n.natAbs≤BIG)(hb:bl b≤BIG)(h0:b≠0)(w:World):Calls Tryz.prog 86 #[E7 n,B4 b] w fun e w'=>e = .returned (E7 (ztd n b))∧A4 w w':=by
 have ha':=T8 ha;have hd:bl (n.natAbs/b)≤1099511627776:=C0H (R5 _ _) ha';go_enter Tryz.func86,Tryz.ntmps86;refine en3 ?_;intro u hG b4 b3 b2 hB hF;refine C0K (rdC A8 [] [(0,0),(0,3),(0,5),(1,1),(0,2),(1,4),(1,6),(1,7)] hB hG fun K L hN hL=>?_);refine gs ?_;refine gmw (C:=fun v=>A3s _ (by assumption) _) ?_;refine gs ?_;refine gmw (C:=fun v=>A3J _ _) ?_;refine gmw (C:=fun v=>A2E _ _ (by assumption) (by assumption) (by assumption) _) ?_;refine gmw (C:=fun v=>U8 _ _ (by assumption) _) ?_;refine geC hL ?_;clear hB hG hL L;rintro u ⟨-,hB,hG,-⟩;refine gtT ?_;clear hN K;refine st hB hF hG 2 0 [_,_,_] ?_;clear hB hG;intro u hB hG;refine rt Tryz.results86 ?_;exact⟨A2j (A54 n b),hG⟩
theorem A2m(n:Int)(d:Nat)(h:bl n.natAbs+bl d≤1099511627776)(w:World):Calls Tryz.prog 90 #[E7 n,B4 d] w fun e w'=>e = .returned (E7 (ztm n d))∧A4 w w':=by
 have hd:bl d≤1099511627776:=by omega
 have h':bl n.natAbs+bl (sgn false d).natAbs≤1099511627776:=h;go_enter Tryz.func90,Tryz.ntmps90;refine en3 ?_;intro u hG b4 b3 b2 hB hF;refine C0K (rdC A8 [] [(0,0),(0,1),(1,2),(1,3)] hB hG fun K L hN hL=>?_);refine gs ?_;refine gmw (C:=fun v=>U8 _ _ (by assumption) _) ?_;refine gmw (C:=fun v=>A6K _ _ (by assumption) _) ?_;refine geC hL ?_;clear hB hG hL L;rintro u ⟨-,hB,hG,-⟩;refine gtT ?_;clear hN K;refine st hB hF hG 2 0 [_,_,_] ?_;clear hB hG;intro u hB hG;refine rt Tryz.results90 ?_;exact⟨rfl,hG⟩
theorem A3y(n:Int)(d:Nat)(hn:bl n.natAbs≤BIG)(hd:bl d≤BIG)(w:World)(HT:Tab w):Calls Tryz.prog 83 #[E7 n,E7 (sgn false d)] w fun e w'=>e = .returned (B4 (Nat.gcd n.natAbs d))∧A4 w w':=by
 have:=B2w n (sgn false d) hn (by rw[A1J];exact hd) w HT;rw[A1J]at this;exact this
theorem B74(c d:Nat)(hc:bl c≤BIG)(hd:bl d≤BIG)(w:World)(HT:Tab w):Calls Tryz.prog 83 #[E7 (sgn false c),E7 (sgn false d)] w fun e w'=>e = .returned (B4 (Nat.gcd c d))∧A4 w w':=by
 have:=A3y (sgn false c) d (by rw[A1J];exact hc) hd w HT;rw[A1J]at this;exact this
theorem B0x(n:Int)(d:Nat)(hn:bl n.natAbs≤BIG)(hd:bl d≤BIG)(h0:d≠0)(w:World)(HT:Tab w):Calls Tryz.prog 130 #[E7 n,B4 d] w fun e w'=>e = .returned (qV (mkRat n d))∧A4 w w':=by
 have hd':=T8 hd;have hg:bl (Nat.gcd n.natAbs d)≤BIG:=C0H (A5B _ _ h0) hd;have hg0:Nat.gcd n.natAbs d≠0:=fun e=>h0 (C1W e);have hdd:bl (d/Nat.gcd n.natAbs d)≤1099511627776:=C0H (R5 _ _) hd';go_enter Tryz.func130,Tryz.ntmps130;refine en3 ?_;intro u hG b4 b3 b2 hB hF;refine C0K (rdC A8 [] [(0,0),(0,1),(1,2),(1,3),(2,4)] hB hG fun K L hN hL=>?_);refine gs ?_;refine gmw (C:=fun v=>U8 _ _ (by assumption) _) ?_;refine gmd (C:=fun v ⟨hgu,hB,hG,_⟩=>A3y n d hn hd _ (HT.grow hG)) ?_;refine gaa (M9 _ _ _ _ _) fun b5 hb5 hn5=>?_;replace hF:=hF.n1 [] hB hG hb5 hn5;refine geC hL ?_;clear hB hG hL L;rintro u ⟨⟨-,hB,hG,-⟩,h5⟩;replace hB:=hB.cons' h5;clear h5;clear hb5 hn5;refine gtT ?_;clear hN K;refine st hB hF hG 0 0 [_,_] ?_;clear hB hG;intro u hB hG;refine C0K (rdC A8 [] [(0,0),(0,1),(0,3),(0,4),(1,2),(1,5),(1,6)] hB hG fun K L hN hL=>?_);refine gs ?_;refine gmw (C:=fun v=>A4e n (Nat.gcd n.natAbs d) hn hg hg0 _) ?_;refine gmw (C:=fun v=>A2E d (Nat.gcd n.natAbs d) hd hg hg0 _) ?_;refine gmw (C:=fun v=>A5l _ _ (by assumption) _) ?_;refine geC hL ?_;clear hB hG hL L;rintro u ⟨-,hB,hG,-⟩;refine gtT ?_;clear hN K;refine st hB hF hG 3 0 [_,_,_,_,_] ?_;clear hB hG;intro u hB hG;refine rt Tryz.results130 ?_;exact⟨A1n (A6A n d h0) (A65 n d h0),hG⟩
def G6(a b:Rat):Rat:=a+b
def D3(a b:Rat):Rat:=a-b
def C9(a b:Rat):Rat:=a*b
def G9(a b:Rat):Rat:=a/b
def J7(a:Rat):Rat:=-a
def Q0(a:Rat):Rat:=a.abs
def C1(n:Int):Rat:=(n:Rat)
def nz(d:Int):Bool:=decide (d≠0)
def nzq(q:Rat):Bool:=decide (q≠0)
def J8(n d:Int):Rat:=Rat.divInt n d
theorem A7O(n:Int):(C1 n).num=n:=Rat.num_intCast n
theorem A5w(n:Int):(C1 n).den=1:=Rat.den_intCast n
theorem A0u(n:Int)(h0 : -9223372036854775808≤n)(h1:n≤9223372036854775807)(w:World):Calls Tryz.prog 48 #[.int .i64 n] w fun e w'=>e = .returned (qV (C1 n))∧A4 w w':=by
 go_enter Tryz.func48,Tryz.ntmps48;refine en1 ?_;intro u hG b2 hB hF;refine C0K (rsC A8 [0,1,0] hB hG fun K L hN hL=>?_);refine gs ?_;refine gmw (C:=fun v=>B27 _ (by assumption) (by assumption) _) ?_;refine gs ?_;refine geC hL ?_;clear hB hG hL L;rintro u ⟨-,hB,hG,-⟩;refine gtT ?_;clear hN K;refine st hB hF hG 0 0 [_,_,_,_,_] ?_;clear hB hG;intro u hB hG;refine rt Tryz.results48 ?_;exact⟨A1n (d:=1) (A7O n) (A5w n),hG⟩
theorem A6k(n d:Int)(h:¬d<0):J8 n d=mkRat n d.natAbs:=by
 obtain⟨m,rfl⟩:∃m:Nat,d=(m:Int):=⟨d.natAbs,by omega⟩
 unfold J8;rw[Rat.divInt_ofNat,C1R]
theorem A6i(n d:Int)(h:d<0):J8 n d=mkRat (A04 n) d.natAbs:=by
 obtain⟨m,rfl⟩:∃m:Nat,d = -(m:Int):=⟨d.natAbs,by omega⟩
 unfold J8 A04;rw[Rat.divInt_neg',Rat.divInt_ofNat,C1Q,C1R]
theorem B8F(z:Int):bl (A04 z).natAbs=bl z.natAbs:=by unfold A04;rw[C1Q]
theorem A5t{p q:Rat}{a b:Bool}(h:p=q)(h':a=b):Ending.returned (.tuple #[qV p,.bool a]) = .returned (.tuple #[qV q,.bool b]):=by rw[h,h']
theorem B7T(n d:Int)(hn:bl n.natAbs≤BIG)(hd:bl d.natAbs≤BIG)(w:World)(HT:Tab w):Calls Tryz.prog 64 #[E7 n,E7 d] w fun e w'=>e = .returned (.tuple #[qV (J8 n d),.bool (nz d)])∧A4 w w':=by
 have hn':=T8 hn;have hd':=T8 hd;have hz:bl (A04 n).natAbs≤BIG:=by rw[B8F];exact hn
 go_enter Tryz.func64,Tryz.ntmps64;refine en3 ?_;intro u hG b4 b3 b2 hB hF;refine C0K ?_;refine C0K (rsE A8 [0,1,0] hB hG fun L hL=>?_);refine gs ?_;refine gmw (C:=fun v=>A3s _ (by assumption) _) ?_;refine gs ?_;refine geT hL ?_;clear hB hG hL L;rintro u ⟨-,hB,hG,-⟩;refine C05 rfl ?_ ?_
 ·intro ht;have ht8:=ht;refine r0T ?_;refine st hB hF hG 2 0 [_,_,_,_,_] ?_;clear hB hG;intro u hB hG;refine rt Tryz.results64 ?_;have e:d=0:=by simpa using ht
  subst e;exact⟨A5t (p:=0) (by unfold J8;rw[Rat.divInt_zero]) rfl,hG⟩
 ·intro ht;have ht8:=ht;have hd0:d.natAbs≠0:=fun e=>by
   have:d=0:=by omega
   rw[this]at ht;simp at ht
  refine C0R ?_;refine A6 ?_;refine C0K ?_;refine C0K (rsE A8 [0,1,0] hB hG fun L hL=>?_);refine gs ?_;refine gmw (C:=fun v=>A3s _ (by assumption) _) ?_;refine gs ?_;refine geT hL ?_;clear hB hG hL L;rintro u ⟨-,hB,hG,-⟩;refine C05 rfl ?_ ?_
  ·intro ht;have ht12:=ht;refine rsC A8 [0,1] hB hG fun K L hN hL=>?_;refine gs ?_;refine gmw (C:=fun v=>B0O _ (by assumption) _) ?_;refine geC hL ?_;clear hB hG hL L;rintro u ⟨-,hB,hG,-⟩;refine gtT ?_;clear hN K;refine st hB hF hG 0 0 [_,_,_] ?_;clear hB hG;intro u hB hG;refine C0K (rdC A8 [] [(0,0),(0,1),(1,2),(1,3)] hB hG fun K L hN hL=>?_);refine gs ?_;refine gmw (C:=fun v=>A3J _ _) ?_;refine gmd (C:=fun v ⟨hgu,hB,hG,_⟩=>B0x _ _ (by assumption) (by assumption) (by assumption) _ (HT.grow hG)) ?_;refine geC hL ?_;clear hB hG hL L;rintro u ⟨-,hB,hG,-⟩;refine gtT ?_;clear hN K;refine st hB hF hG 2 0 [_,_,_,_,_] ?_;clear hB hG;intro u hB hG;refine rt Tryz.results64 ?_;have e:d<0:=by simpa using ht
   exact⟨A5t (A6i n d e).symm (C04 (by omega)).symm,hG⟩
  ·intro ht;have ht12:=ht;refine C0R ?_;refine A6 ?_;refine C0K (rdC A8 [] [(0,0),(0,1),(1,2),(1,3)] hB hG fun K L hN hL=>?_);refine gs ?_;refine gmw (C:=fun v=>A3J _ _) ?_;refine gmd (C:=fun v ⟨hgu,hB,hG,_⟩=>B0x _ _ (by assumption) (by assumption) (by assumption) _ (HT.grow hG)) ?_;refine geC hL ?_;clear hB hG hL L;rintro u ⟨-,hB,hG,-⟩;refine gtT ?_;clear hN K;refine st hB hF hG 2 0 [_,_,_,_,_] ?_;clear hB hG;intro u hB hG;refine rt Tryz.results64 ?_;have e:¬d<0:=by simpa using ht
   exact⟨A5t (A6k n d e).symm (C04 (by omega)).symm,hG⟩
theorem A9Q{n:Int}(h0 : -9223372036854775808≤n)(h1:n≤9223372036854775807):bl n.natAbs≤BIG:=by
 refine C0H (S9.2 ?_) A6v;have:(2:Nat)^64=18446744073709551616:=rfl;omega
theorem A4d(q:Rat)(h:bl q.num.natAbs≤1099511627776)(w:World):Calls Tryz.prog 97 #[qV q] w fun e w'=>e = .returned (qV (J7 q))∧A4 w w':=by
 go_enter Tryz.func97,Tryz.ntmps97;refine en2 ?_;intro u hG b2 b1 hB hF;refine C0K (rdC A8 [] [(0,0),(0,1),(0,3),(0,4),(1,2),(0,5)] hB hG fun K L hN hL=>?_);refine gs ?_;refine gmw (C:=fun v=>B0O _ (by assumption) _) ?_;refine gs ?_;refine geC hL ?_;clear hB hG hL L;rintro u ⟨-,hB,hG,-⟩;refine gtT ?_;clear hN K;refine st hB hF hG 1 0 [_,_,_,_,_] ?_;clear hB hG;intro u hB hG;refine rt Tryz.results97 ?_;exact⟨A1n (Rat.neg_num q) (Rat.neg_den q),hG⟩
theorem A86(q:Rat):q.abs.num=sgn false q.num.natAbs:=by
 rw[B1o];by_cases h:0≤q
 ·rw[Rat.abs_of_nonneg h];have:=Rat.num_nonneg.2 h;omega
 ·have h':q≤0:=by rcases C1X (a:=0) (b:=q)with h1|h1;exact absurd h1 h;exact h1
  rw[Rat.abs_of_nonpos h',Rat.neg_num];have:¬0≤q.num:=fun h2=>h (Rat.num_nonneg.1 h2);omega
theorem A9P(q:Rat):q.abs.den=q.den:=by
 by_cases h:0≤q
 ·rw[Rat.abs_of_nonneg h]
 ·have h':q≤0:=by rcases C1X (a:=0) (b:=q)with h1|h1;exact absurd h1 h;exact h1
  rw[Rat.abs_of_nonpos h',Rat.neg_den]
theorem A41(q:Rat)(h:bl q.num.natAbs≤1099511627776)(w:World):Calls Tryz.prog 54 #[qV q] w fun e w'=>e = .returned (qV (Q0 q))∧A4 w w':=by
 go_enter Tryz.func54,Tryz.ntmps54;refine en2 ?_;intro u hG b2 b1 hB hF;refine C0K (rdC A8 [] [(0,0),(0,1),(0,4),(0,5),(1,2),(1,3),(0,6)] hB hG fun K L hN hL=>?_);refine gs ?_;refine gmw (C:=fun v=>A3J _ _) ?_;refine gmw (C:=fun v=>U8 _ _ (by assumption) _) ?_;refine gs ?_;refine geC hL ?_;clear hB hG hL L;rintro u ⟨-,hB,hG,-⟩;refine gtT ?_;clear hN K;refine st hB hF hG 1 0 [_,_,_,_,_] ?_;clear hB hG;intro u hB hG;refine rt Tryz.results54 ?_;exact⟨A1n (A86 q) (A9P q),hG⟩
theorem A0j(q:Rat)(h:bl q.den≤1099511627776)(h1:q.den=1)(w:World):Calls Tryz.prog 81 #[qV q] w fun e w'=>e = .returned (.bool true)∧A4 w w':=by
 have:=A6S q h w;rw[C04 h1]at this;exact this
theorem A0q(q:Rat)(h:bl q.den≤1099511627776)(h1:¬q.den=1)(w:World):Calls Tryz.prog 81 #[qV q] w fun e w'=>e = .returned (.bool false)∧A4 w w':=by
 have:=A6S q h w;rw[C09 h1]at this;exact this
section
variable (a b:Rat) (w:World)
theorem B9A(h:qs a+qs b+1≤BIG)(ha1:a.den=1)(hb1:b.den=1):Calls Tryz.prog 30 #[qV a,qV b] w fun e w'=>e = .returned (.int .i64 (E9 a b))∧A4 w w':=by
 have hB40:=K4;have h1:bl a.num.natAbs≤1099511627776:=by have:=G4 a;omega
 have h2:bl b.num.natAbs≤1099511627776:=by have:=G4 b;omega
 have h3:bl a.den≤1099511627776:=by have:=I7 a;omega
 have h4:bl b.den≤1099511627776:=by have:=I7 b;omega
 have Ha1:=C0P ha1;have Hb1:=C0P hb1;clear ha1 hb1;go_enter Tryz.func30,Tryz.ntmps30;refine en2 ?_;intro u hG b3 b2 hB hF;refine C0K ?_;refine C0K (rdC A8 [] [(0,0),(1,1),(0,2),(0,3),(1,4),(0,5),(0,6),(0,7),(0,9),(1,8),(1,10),(0,11)] hB hG fun K L hN hL=>?_);refine gs ?_;refine gmw (C:=fun v=>A0j a h3 Ha1.out _) ?_;refine gs ?_
 first|refine gmw (C:=fun v=>A0j b h4 Hb1.out _) ?_|refine L0 ?_
 refine gs ?_
 first|refine gmw (C:=fun v=>O8 _ (by assumption) _) ?_|refine L0 ?_
 first|refine gmw (C:=fun v=>O8 _ (by assumption) _) ?_|refine L0 ?_
 refine gs ?_;refine geC hL ?_;clear hB hG hL L;rintro u ⟨-,hB,hG,-⟩;refine gtT ?_;clear hN K;refine C0S (rfl) ?_;refine C0K (rsE A8 [0,0,0,0,1,0] hB hG fun L hL=>?_);refine gs ?_;refine gmw (C:=fun v=>A3v _ _ (by assumption) (by assumption) _) ?_;refine gs ?_;refine geT hL ?_;clear hB hG hL L;rintro u ⟨-,hB,hG,-⟩;refine rt Tryz.results30 ?_;exact⟨N7 (B3o Ha1.out Hb1.out).symm,hG⟩
theorem B2l(h:qs a+qs b+1≤BIG)(ha1:a.den=1)(hb1:¬b.den=1):Calls Tryz.prog 30 #[qV a,qV b] w fun e w'=>e = .returned (.int .i64 (E9 a b))∧A4 w w':=by
 have hB40:=K4;have h1:bl a.num.natAbs≤1099511627776:=by have:=G4 a;omega
 have h2:bl b.num.natAbs≤1099511627776:=by have:=G4 b;omega
 have h3:bl a.den≤1099511627776:=by have:=I7 a;omega
 have h4:bl b.den≤1099511627776:=by have:=I7 b;omega
 have h5:bl a.num.natAbs+bl b.den≤1099511627776:=by have:=G4 a;have:=I7 b;omega
 have h6:bl b.num.natAbs+bl a.den≤1099511627776:=by have:=G4 b;have:=I7 a;omega
 have h7:bl (ztm a.num b.den).natAbs≤1099511627776:=by unfold ztm;rw[C1U];exact C0H (W8 _ _) h5
 have h8:bl (ztm b.num a.den).natAbs≤1099511627776:=by unfold ztm;rw[C1U];exact C0H (W8 _ _) h6
 have Ha1:=C0P ha1;have Hb1:=C0P hb1;clear ha1 hb1;go_enter Tryz.func30,Tryz.ntmps30;refine en2 ?_;intro u hG b3 b2 hB hF;refine C0K ?_;refine C0K (rdC A8 [] [(0,0),(1,1),(0,2),(0,3),(1,4),(0,5),(0,6),(0,7),(0,9),(1,8),(1,10),(0,11)] hB hG fun K L hN hL=>?_);refine gs ?_;refine gmw (C:=fun v=>A0j a h3 Ha1.out _) ?_;refine gs ?_
 first|refine gmw (C:=fun v=>A0q b h4 Hb1.out _) ?_|refine L0 ?_
 refine gs ?_
 first|refine gmw (C:=fun v=>O8 _ (by assumption) _) ?_|refine L0 ?_
 first|refine gmw (C:=fun v=>O8 _ (by assumption) _) ?_|refine L0 ?_
 refine gs ?_;refine geC hL ?_;clear hB hG hL L;rintro u ⟨-,hB,hG,-⟩;refine gtT ?_;clear hN K;refine C05 rfl ?_ ?_
 ·intro ht;have ht17:=ht;refine C0K (rsE A8 [0,0,0,0,1,0] hB hG fun L hL=>?_);refine gs ?_;refine gmw (C:=fun v=>A3v _ _ (by assumption) (by assumption) _) ?_;refine gs ?_;refine geT hL ?_;clear hB hG hL L;rintro u ⟨-,hB,hG,-⟩;refine rt Tryz.results30 ?_;exact⟨N7 (B1B (by simpa using ht)).symm,hG⟩
 ·intro ht;have ht17:=ht;refine C0R ?_;refine A6 ?_;refine C0K (rdC A8 [] [(0,0),(0,1),(0,2),(0,5),(0,6),(0,7),(1,3),(1,4),(1,8),(1,9),(1,10)] hB hG fun K L hN hL=>?_);refine gs ?_;refine gmw (C:=fun v=>Z7 _ (by assumption) _) ?_;refine gmw (C:=fun v=>A2m _ _ (by assumption) _) ?_;refine gmw (C:=fun v=>Z7 _ (by assumption) _) ?_;refine gmw (C:=fun v=>A2m _ _ (by assumption) _) ?_;refine gmw (C:=fun v=>A3v _ _ (by assumption) (by assumption) _) ?_;refine geC hL ?_;clear hB hG hL L;rintro u ⟨-,hB,hG,-⟩;refine gtT ?_;clear hN K;refine rt Tryz.results30 ?_;exact⟨N7 (A5g a b).symm,hG⟩
theorem B3A(h:qs a+qs b+1≤BIG)(ha1:¬a.den=1):Calls Tryz.prog 30 #[qV a,qV b] w fun e w'=>e = .returned (.int .i64 (E9 a b))∧A4 w w':=by
 have hB40:=K4;have h1:bl a.num.natAbs≤1099511627776:=by have:=G4 a;omega
 have h2:bl b.num.natAbs≤1099511627776:=by have:=G4 b;omega
 have h3:bl a.den≤1099511627776:=by have:=I7 a;omega
 have h4:bl b.den≤1099511627776:=by have:=I7 b;omega
 have h5:bl a.num.natAbs+bl b.den≤1099511627776:=by have:=G4 a;have:=I7 b;omega
 have h6:bl b.num.natAbs+bl a.den≤1099511627776:=by have:=G4 b;have:=I7 a;omega
 have h7:bl (ztm a.num b.den).natAbs≤1099511627776:=by unfold ztm;rw[C1U];exact C0H (W8 _ _) h5
 have h8:bl (ztm b.num a.den).natAbs≤1099511627776:=by unfold ztm;rw[C1U];exact C0H (W8 _ _) h6
 have Ha1:=C0P ha1;clear ha1;go_enter Tryz.func30,Tryz.ntmps30;refine en2 ?_;intro u hG b3 b2 hB hF;refine C0K ?_;refine C0K (rdC A8 [] [(0,0),(1,1),(0,2),(0,3),(1,4),(0,5),(0,6),(0,7),(0,9),(1,8),(1,10),(0,11)] hB hG fun K L hN hL=>?_);refine gs ?_;refine gmw (C:=fun v=>A0q a h3 Ha1.out _) ?_;refine gs ?_
 first|refine gmw (C:=fun v=>A0q a h3 Ha1.out _) ?_|refine L0 ?_
 refine gs ?_
 first|refine gmw (C:=fun v=>O8 _ (by assumption) _) ?_|refine L0 ?_
 first|refine gmw (C:=fun v=>O8 _ (by assumption) _) ?_|refine L0 ?_
 refine gs ?_;refine geC hL ?_;clear hB hG hL L;rintro u ⟨-,hB,hG,-⟩;refine gtT ?_;clear hN K;refine C05 rfl ?_ ?_
 ·intro ht;have ht17:=ht;refine C0K (rsE A8 [0,0,0,0,1,0] hB hG fun L hL=>?_);refine gs ?_;refine gmw (C:=fun v=>A3v _ _ (by assumption) (by assumption) _) ?_;refine gs ?_;refine geT hL ?_;clear hB hG hL L;rintro u ⟨-,hB,hG,-⟩;refine rt Tryz.results30 ?_;exact⟨N7 (B1B (by simpa using ht)).symm,hG⟩
 ·intro ht;have ht17:=ht;refine C0R ?_;refine A6 ?_;refine C0K (rdC A8 [] [(0,0),(0,1),(0,2),(0,5),(0,6),(0,7),(1,3),(1,4),(1,8),(1,9),(1,10)] hB hG fun K L hN hL=>?_);refine gs ?_;refine gmw (C:=fun v=>Z7 _ (by assumption) _) ?_;refine gmw (C:=fun v=>A2m _ _ (by assumption) _) ?_;refine gmw (C:=fun v=>Z7 _ (by assumption) _) ?_;refine gmw (C:=fun v=>A2m _ _ (by assumption) _) ?_;refine gmw (C:=fun v=>A3v _ _ (by assumption) (by assumption) _) ?_;refine geC hL ?_;clear hB hG hL L;rintro u ⟨-,hB,hG,-⟩;refine gtT ?_;clear hN K;refine rt Tryz.results30 ?_;exact⟨N7 (A5g a b).symm,hG⟩
theorem Y5(h:qs a+qs b+1≤BIG):Calls Tryz.prog 30 #[qV a,qV b] w fun e w'=>e = .returned (.int .i64 (E9 a b))∧A4 w w':=by
 by_cases ha1:a.den=1
 ·by_cases hb1:b.den=1
  ·exact B9A a b w h ha1 hb1
  ·exact B2l a b w h ha1 hb1
 ·exact B3A a b w h ha1
theorem A44(q:Rat)(h:q.den=1):q=(q.num:Rat):=Rat.ext (Rat.num_intCast _).symm (by rw[h];exact(Rat.den_intCast _).symm)
theorem B7s(h:qs a+qs b+1≤BIG)(ha1:a.den=1)(hb1:b.den=1):Calls Tryz.prog 95 #[qV a,qV b] w fun e w'=>e = .returned (qV (G6 a b))∧A4 w w':=by
 have hB40:=K4;have h1:bl a.num.natAbs<1099511627776:=by have:=G4 a;omega
 have h2:bl b.num.natAbs<1099511627776:=by have:=G4 b;have:=B5s a;omega
 have h3:bl a.den≤1099511627776:=by have:=I7 a;omega
 have h4:bl b.den≤1099511627776:=by have:=I7 b;omega
 have e:G6 a b=((a.num+b.num:Int):Rat):=by
  unfold G6;rw[Rat.intCast_add,←A44 a ha1,←A44 b hb1]
 have e1:(G6 a b).num=A3N a.num b.num:=by rw[e,Rat.num_intCast];rfl
 have e2:(G6 a b).den=1:=by rw[e,Rat.den_intCast]
 have He:=C0P (And.intro e1 e2);clear e e1 e2;have Ha1:=C0P ha1;have Hb1:=C0P hb1;clear ha1 hb1;go_enter Tryz.func95,Tryz.ntmps95;refine en3 ?_;intro u hG b4 b3 b2 hB hF;refine C0K ?_;refine C0K (rsE A8 [0,1,0,0,1,0] hB hG fun L hL=>?_);refine gs ?_;refine gmw (C:=fun v=>A0j a h3 Ha1.out _) ?_;refine gs ?_
 first|refine gmw (C:=fun v=>A0j b h4 Hb1.out _) ?_|refine L0 ?_
 refine gs ?_;refine geT hL ?_;clear hB hG hL L;rintro u ⟨-,hB,hG,-⟩;refine C0S (rfl) ?_;refine C0K (rsC A8 [0,0,0,0,1,0] hB hG fun K L hN hL=>?_);refine gs ?_;refine gmw (C:=fun v=>B06 _ _ (by assumption) (by assumption) _) ?_;refine gs ?_;refine geC hL ?_;clear hB hG hL L;rintro u ⟨-,hB,hG,-⟩;refine gtT ?_;clear hN K;refine st hB hF hG 2 0 [_,_,_,_,_] ?_;clear hB hG;intro u hB hG;refine rt Tryz.results95 ?_;exact⟨A1n He.out.1 He.out.2,hG⟩
theorem B5y(h:qs a+qs b+1≤BIG):bl (Nat.gcd a.den b.den)≤BIG∧Nat.gcd a.den b.den≠0∧bl a.den≤BIG∧bl b.den≤BIG∧bl a.num.natAbs+bl (b.den/Nat.gcd a.den b.den)≤1099511627776∧bl b.num.natAbs+bl (a.den/Nat.gcd a.den b.den)≤1099511627776 ∧
  bl (ztm a.num (b.den/Nat.gcd a.den b.den)).natAbs<1099511627776∧bl (ztm b.num (a.den/Nat.gcd a.den b.den)).natAbs<1099511627776∧bl (A3N (ztm a.num (b.den/Nat.gcd a.den b.den)) (ztm b.num (a.den/Nat.gcd a.den b.den))).natAbs≤BIG ∧
  bl (Nat.gcd (A3N (ztm a.num (b.den/Nat.gcd a.den b.den)) (ztm b.num (a.den/Nat.gcd a.den b.den))).natAbs (Nat.gcd a.den b.den))≤BIG∧Nat.gcd (A3N (ztm a.num (b.den/Nat.gcd a.den b.den)) (ztm b.num (a.den/Nat.gcd a.den b.den))).natAbs (Nat.gcd a.den b.den)≠0:=by
 have hB40:=K4;have s1:=G4 a;have s2:=I7 a;have s3:=G4 b;have s4:=I7 b;have s5:=R5 b.den (Nat.gcd a.den b.den);have s6:=R5 a.den (Nat.gcd a.den b.den);have g0:Nat.gcd a.den b.den≠0:=fun e=>a.den_nz (C1J e);have g1:=B2q a.den b.den a.den_nz;have up:bl (A0t a b).natAbs≤qs a+qs b+1:=A8D a b;have m1:bl (ztm a.num (b.den/Nat.gcd a.den b.den)).natAbs≤bl a.num.natAbs+bl (b.den/Nat.gcd a.den b.den):=by unfold ztm;rw[C1U];exact W8 _ _
 have m2:bl (ztm b.num (a.den/Nat.gcd a.den b.den)).natAbs≤bl b.num.natAbs+bl (a.den/Nat.gcd a.den b.den):=by unfold ztm;rw[C1U];exact W8 _ _
 refine⟨by omega,g0,by omega,by omega,by omega,by omega,by omega,by omega,C0H up h,C0H (A5B _ _ g0) (by omega),fun e=>g0 (C1W e)⟩
end
end Go.Proofs.YtgpglgbcobeogaaGreatDoor
