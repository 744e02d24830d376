import Derived.Test.YtgpglgbcobeogaaGreatDoorN16
set_option linter.unusedSimpArgs false
set_option linter.unusedVariables false
set_option maxHeartbeats 2000000
set_option maxRecDepth 100000
namespace Go.Proofs.YtgpglgbcobeogaaGreatDoor
abbrev nqV(n:Int)(d:Nat):Value:=.agg #[.bool (E0 n),.int .u64 (B8 n.natAbs),.string (B6 n.natAbs),.int .u64 (B8 (H6 d)),.string (B6 (H6 d))]
theorem B6L:H6 1=0:=rfl
theorem A6Y{d:Nat}(h:d≠1):H6 d=d:=if_neg h
theorem A63{n:Int}{d:Nat}{q:Rat}(h1:q.num=n)(h2:q.den=d):nqV n d=qV q:=by subst h1;subst h2;rfl
theorem A5f(n:Int)(b:Nat):sgn (E0 n) (n.natAbs/b)=n.tdiv b:=by
 unfold sgn E0;by_cases h:n<0
 ·rw[if_pos (B9x h)];obtain⟨m,rfl⟩:∃m:Nat,n = -(m:Int):=⟨n.natAbs,by omega⟩
  rw[Int.neg_tdiv,C0J,C0K,Int.ofNat_tdiv]
 ·rw[if_neg (by simpa using h)];obtain⟨m,rfl⟩:∃m:Nat,n=(m:Int):=⟨n.natAbs,by omega⟩
  rw[C0K,Int.ofNat_tdiv]
theorem A9D(a b:Rat):(a*b).num=a.num.tdiv (Nat.gcd a.num.natAbs b.den)*b.num.tdiv (Nat.gcd b.num.natAbs a.den):=by
 show(Rat.mul a b).num=_;unfold Rat.mul;simp only[Int.divExact_eq_tdiv]
theorem A87(a b:Rat):(a*b).den=a.den/Nat.gcd b.num.natAbs a.den*(b.den/Nat.gcd a.num.natAbs b.den):=by
 show(Rat.mul a b).den=_;unfold Rat.mul;simp only[Nat.divExact_eq_div]
def A0U(a b:Rat):Int:=a.num*((b.den/Nat.gcd a.den b.den:Nat):Int)+b.num*((a.den/Nat.gcd a.den b.den:Nat):Int)
def hOf(a b:Rat):Nat:=Nat.gcd (A0U a b).natAbs (Nat.gcd a.den b.den)
theorem A8A(a b:Rat)(h:a.den/Nat.gcd a.den b.den*b.den≠0):a+b=Rat.normalize (A0U a b) (a.den/Nat.gcd a.den b.den*b.den) h:=by
 rw[Rat.add_def];have hg:Nat.gcd a.den b.den≠0:=λh0=>a.den_nz (C0C h0);obtain⟨x,hx⟩:=Nat.gcd_dvd_left a.den b.den;obtain⟨y,hy⟩:=Nat.gcd_dvd_right a.den b.den;have hxd:a.den/Nat.gcd a.den b.den=x:=Nat.div_eq_of_eq_mul_right (B9r hg) hx;have hyd:b.den/Nat.gcd a.den b.den=y:=Nat.div_eq_of_eq_mul_right (B9r hg) hy;rw[<-Rat.normalize_mul_right (a:=Nat.gcd a.den b.den) h hg];congr 1
 ·unfold A0U;rw[hxd,hyd];generalize Nat.gcd a.den b.den=g at *;rw[hx,hy]
  push_cast
  grind
 ·rw[hxd];generalize Nat.gcd a.den b.den=g at *;rw[hx];grind
theorem A99(a b:Rat):hOf a b=Nat.gcd (A0U a b).natAbs (a.den/Nat.gcd a.den b.den*b.den):=Rat.add.aux a b rfl rfl rfl
theorem B0e(a b:Rat):a.den/Nat.gcd a.den b.den*b.den≠0:=by
 have h1:=Nat.div_gcd_pos_of_pos_left b.den a.den_pos;have h2:=b.den_pos;exact C0L (B9d h1 h2)
theorem A8n(a b:Rat):(a+b).num=(A0U a b).tdiv (hOf a b):=by
 rw[A8A a b (B0e a b),Rat.num_normalize,<-A99];refine(Int.tdiv_eq_ediv_of_dvd ?_).symm;exact Int.ofNat_dvd_left.2 (Nat.gcd_dvd_left _ _)
theorem A9a(a b:Rat):(a+b).den=a.den/Nat.gcd a.den b.den*(b.den/hOf a b):=by
 rw[A8A a b (B0e a b),Rat.den_normalize,<-A99];exact Nat.mul_div_assoc _ (Nat.dvd_trans (Nat.gcd_dvd_right _ _) (Nat.gcd_dvd_right _ _))
theorem A6X(n:Int)(d:Nat)(h:d≠0):(mkRat n d).num=n.tdiv (Nat.gcd n.natAbs d):=by
 rw[<-Rat.normalize_eq_mkRat h,Rat.num_normalize];exact(Int.tdiv_eq_ediv_of_dvd (Int.ofNat_dvd_left.2 (Nat.gcd_dvd_left _ _))).symm
theorem A6s(n:Int)(d:Nat)(h:d≠0):(mkRat n d).den=d/Nat.gcd n.natAbs d:=by
 rw[<-Rat.normalize_eq_mkRat h,Rat.den_normalize]
def E9(a b:Rat):Int:=if a<b then -1 else if b<a then 1 else 0
theorem A4Y(a b:Rat):E9 a b=T6 (a.num*b.den) (b.num*a.den):=by
 unfold E9 T6;simp only[Rat.lt_iff]
theorem B8K{a b:Rat}(ha:a.den=1)(hb:b.den=1):E9 a b=T6 a.num b.num:=by
 rw[A4Y,ha,hb];simp
theorem B0g{a b:Rat}(h:a.num.sign≠b.num.sign):E9 a b=T6 a.num b.num:=by
 rw[A4Y];have h1:=a.den_pos;have h2:=b.den_pos;generalize a.num=x at *;generalize b.num=y at *;generalize a.den=p at *;generalize b.den=q at *;have hx:(x*(q:Int)).sign=x.sign:=by rw[Int.sign_mul,B91 (a:=(q:Int)) (by omega),Int.mul_one]
 have hy:(y*(p:Int)).sign=y.sign:=by rw[Int.sign_mul,B91 (a:=(p:Int)) (by omega),Int.mul_one]
 rw[<-hx,<-hy]at h;have key:∀u v:Int,u.sign≠v.sign->T6 u v=T6 u.sign v.sign:=by
  intro u v huv;unfold T6
  rcases C0M u 0 with hu|hu|hu<;>rcases C0M v 0 with hv|hv|hv <;>
   (first|(rw[B9z hu]at huv⊢)|(rw[hu,Int.sign_zero]at huv⊢)|(rw[B91 hu]at huv⊢)) <;>
   (first|(rw[B9z hv]at huv⊢)|(rw[hv,Int.sign_zero]at huv⊢)|(rw[B91 hv]at huv⊢)) <;>
   first|(exact absurd rfl huv)|(split<;>(try split)<;>simp<;>omega)
 rw[key _ _ h,hx,hy];rw[hx,hy]at h;exact(key _ _ h).symm
def qs(q:Rat):Nat:=max (bl q.num.natAbs) (bl q.den)
theorem G3(q:Rat):bl q.num.natAbs<=qs q:=Nat.le_max_left _ _
theorem I2(q:Rat):bl q.den<=qs q:=Nat.le_max_right _ _
theorem A3o(n:Int)(g:Nat):(n.tdiv g).natAbs<=n.natAbs:=by
 rw[Int.natAbs_tdiv];exact B9F _ _
theorem Z8(a b:Rat):qs (a*b)<=qs a+qs b:=by
 refine Nat.max_le.2 ⟨?_,?_⟩
 ·rw[A9D,C0N];refine B9A (T0 _ _) ?_;have h1:=S3 (A3o a.num (Nat.gcd a.num.natAbs b.den));have h2:=S3 (A3o b.num (Nat.gcd b.num.natAbs a.den));have:=G3 a;have:=G3 b;omega
 ·rw[A87];refine B9A (T0 _ _) ?_;have h1:=R0 a.den (Nat.gcd b.num.natAbs a.den);have h2:=R0 b.den (Nat.gcd a.num.natAbs b.den);have:=I2 a;have:=I2 b;omega
theorem A9C(a b:Rat):bl (A0U a b).natAbs<=qs a+qs b+1:=by
 unfold A0U;have h1:=T0 a.num.natAbs (b.den/Nat.gcd a.den b.den);have h2:=T0 b.num.natAbs (a.den/Nat.gcd a.den b.den);have h3:=R0 b.den (Nat.gcd a.den b.den);have h4:=R0 a.den (Nat.gcd a.den b.den);have:=G3 a;have:=I2 a;have:=G3 b;have:=I2 b;refine B9A (S3 (Int.natAbs_add_le _ _)) ?_;rw[C0N,C0N,C0K,C0K];refine B9A (A8b _ _) ?_;omega
theorem A3i(a b:Rat):qs (a+b)<=qs a+qs b+1:=by
 refine Nat.max_le.2 ⟨?_,?_⟩
 ·rw[A8n];exact B9A (S3 (A3o _ _)) (A9C a b)
 ·rw[A9a];refine B9A (T0 _ _) ?_;have h1:=R0 a.den (Nat.gcd a.den b.den);have h2:=R0 b.den (hOf a b);have:=I2 a;have:=I2 b;omega
theorem A2X(a:Rat):qs (-a)=qs a:=by
 unfold qs;rw[Rat.neg_num,Rat.neg_den,C0J]
theorem A0G(a b:Rat):qs (a-b)<=qs a+qs b+1:=by
 rw[Rat.sub_eq_add_neg];have:=A3i a (-b);rw[A2X]at this;exact this
theorem A8u(a:Rat)(h:a≠0):qs a⁻¹=qs a:=by
 have h0:a.num≠0:=λe=>h (Rat.num_eq_zero.1 e);unfold qs;rw[Rat.num_inv,Rat.den_inv,if_neg h0,C0N,C0K,Int.natAbs_sign_of_ne_zero h0,C0O,Nat.max_comm]
theorem A2D(a b:Rat):qs (a/b)<=qs a+qs b:=by
 by_cases h:b=0
 ·subst h;have:a/0=0:=by rw[Rat.div_def,Rat.inv_zero,Rat.mul_zero]
  rw[this];have h0:qs 0=1:=by show max (bl 0) (bl 1)=1;rw[A0w,A2p.2 rfl];rfl
  have:0<bl a.den:=T2.2 a.den_nz;have:=I2 a;omega
 ·rw[Rat.div_def,<-A8u b h];exact Z8 _ _
theorem B7j(a:Rat):1<=qs a:=by
 have:0<bl a.den:=T2.2 a.den_nz;have:=I2 a;omega
theorem B2w(n:Int)(k:Nat)(h:n.natAbs<2^k)(hk:1<=k):qs (n:Rat)<=k:=by
 refine Nat.max_le.2 ⟨?_,?_⟩
 ·rw[Rat.num_intCast];exact T9.2 h
 ·rw[Rat.den_intCast];exact B9A (by decide) hk
end Go.Proofs.YtgpglgbcobeogaaGreatDoor
namespace Go.Proofs.YtgpglgbcobeogaaGreatDoor
open Go.RowKit
theorem B1q{p q:Rat}(h:p=q):Ending.returned (qV p) = .returned (qV q):=by rw[h]
theorem A1Z{n:Int}{d:Nat}{q:Rat}(h1:q.num=n)(h2:q.den=d):Ending.returned (nqV n d) = .returned (qV q):=by rw[A63 h1 h2]
theorem A6p{a b:Nat}(h:a=b):Ending.returned (B2 a) = .returned (B2 b):=by rw[h]
theorem B4z{d:Nat}(h:bl d<=1099511627776):bl (H6 d)<=1099511627776:=by
 unfold H6;split
 ·rw[A0w];omega
 ·exact h
theorem A6z(q:Rat)(h:bl q.den<=1099511627776)(w:World):Calls Tryz.prog 81 #[qV q] w λe w'=>e = .returned (.bool (decide (q.den=1)))/\A4 w w':=by
 have hk:=B4z h;have hd:decide (q.den=1)=((bl (H6 q.den):Int) == 0):=by
  have h2:=q.den_pos;by_cases h1:q.den=1
  ·rw[h1,B6L,A0w];rfl
  ·rw[A6Y h1,B92 h1];have:bl q.den≠0:=λe=>by have:=A0P.1 e;omega
   symm
   simpa using this
 rw[hd];clear hd;go_enter Tryz.func81,Tryz.ntmps81;refine en1 ?_;intro u hG b1 hB hF;refine B9D (rsE A8 [0,0,1,0,0] hB hG λL hL=>?_);refine gs ?_;refine gmw (C:=λv=>P4 _ (by assumption) _) ?_;refine gs ?_;refine geT hL ?_;clear hB hG hL L;rintro u ⟨-,hB,hG,-⟩;refine rt Tryz.results81 ?_;exact⟨rfl,hG⟩
theorem B2F(w:World):Calls Tryz.prog 143 #[.int .u64 1] w λe w'=>e = .returned (B2 1)/\A4 w w':=A3j 1 (by unfold W64;omega) w
theorem U8(q:Rat)(h:bl q.den<=1099511627776)(w:World):Calls Tryz.prog 84 #[qV q] w λe w'=>e = .returned (B2 q.den)/\A4 w w':=by
 go_enter Tryz.func84,Tryz.ntmps84;refine en2 ?_;intro u hG b2 b1 hB hF;refine B9D ?_;refine B9D (rsE A8 [0,1] hB hG λL hL=>?_);refine gs ?_;refine gmw (C:=λv=>A6z _ (by assumption) _) ?_;refine geT hL ?_;clear hB hG hL L;rintro u ⟨-,hB,hG,-⟩;refine B9y rfl ?_ ?_
 ·intro ht;have ht4:=ht;refine B9D (rsC A8 [1] hB hG λK L hN hL=>?_);refine gmw (C:=λv=>B2F _) ?_;refine geC hL ?_;clear hB hG hL L;rintro u ⟨-,hB,hG,-⟩;refine gtT ?_;clear hN K;refine st hB hF hG 1 0 [_,_] ?_;clear hB hG;intro u hB hG;refine rt Tryz.results84 ?_;have e:q.den=1:=B9w ht;exact⟨A6p e.symm,hG⟩
 ·intro ht;have ht4:=ht;refine B9K ?_;refine A6 ?_;refine r0T ?_;refine st hB hF hG 1 0 [_,_] ?_;clear hB hG;intro u hB hG;refine rt Tryz.results84 ?_;have e:q.den≠1:=B90 ht;exact⟨A6p (A6Y e),hG⟩
theorem B29(q:Rat)(w:World):Calls Tryz.prog 151 #[qV q] w λe w'=>e = .returned (E5 q.num)/\A4 w w':=by
 go_enter Tryz.func151,Tryz.ntmps151;refine en2 ?_;intro u hG b2 b1 hB hF;refine r0T ?_;refine st hB hF hG 1 0 [_,_,_] ?_;clear hB hG;intro u hB hG;refine rt Tryz.results151 ?_;exact⟨rfl,hG⟩
theorem M8(q:Rat)(h:bl q.num.natAbs<=1099511627776)(w:World):Calls Tryz.prog 36 #[qV q] w λe w'=>e = .returned (.int .i64 q.num.sign)/\A4 w w':=by
 go_enter Tryz.func36,Tryz.ntmps36;refine en1 ?_;intro u hG b1 hB hF;refine B9D (rsE A8 [0,0,1,0] hB hG λL hL=>?_);refine gs ?_;refine gmw (C:=λv=>A3I _ (by assumption) _) ?_;refine gs ?_;refine geT hL ?_;clear hB hG hL L;rintro u ⟨-,hB,hG,-⟩;refine rt Tryz.results36 ?_;exact⟨rfl,hG⟩
theorem A38(n:Int)(d:Nat)(h:bl d<=1099511627776)(w:World):Calls Tryz.prog 85 #[E5 n,B2 d] w λe w'=>e = .returned (nqV n d)/\A4 w w':=by
 go_enter Tryz.func85,Tryz.ntmps85;refine en3 ?_;intro u hG b4 b3 b2 hB hF;refine B9D ?_;refine B9D (rsE A8 [0,1,0] hB hG λL hL=>?_);refine gs ?_;refine gmw (C:=λv=>P4 _ (by assumption) _) ?_;refine gs ?_;refine geT hL ?_;clear hB hG hL L;rintro u ⟨-,hB,hG,-⟩;refine B9y rfl ?_ ?_
 ·intro ht;have ht7:=ht;refine r0T ?_;refine st hB hF hG 2 0 [_,_,_,_,_] ?_;clear hB hG;intro u hB hG;refine rt Tryz.results85 ?_;have e:d=1:=A2p.1 (by simp at ht;omega);subst e;exact⟨rfl,hG⟩
 ·intro ht;have ht7:=ht;refine B9K ?_;refine A6 ?_;refine r0T ?_;refine st hB hF hG 2 0 [_,_,_,_,_] ?_;clear hB hG;intro u hB hG;refine rt Tryz.results85 ?_;have e:d≠1:=λe=>by
   have h2:=A2p.2 e;rw[h2]at ht;simp at ht
  exact⟨by rw[nqV,A6Y e],hG⟩
theorem A1o(a b:Nat)(ha:bl a<=BIG)(hb:bl b<=BIG)(h0:b≠0)(w:World):Calls Tryz.prog 87 #[B2 a,B2 b] w λe w'=>e = .returned (B2 (a/b))/\A4 w w':=by
 have hb':=Q9 hb;go_enter Tryz.func87,Tryz.ntmps87;refine en3 ?_;intro u hG b4 b3 b2 hB hF;refine B9D ?_;refine B9D (rsE A8 [0,1,0] hB hG λL hL=>?_);refine gs ?_;refine gmw (C:=λv=>P4 _ (by assumption) _) ?_;refine gs ?_;refine geT hL ?_;clear hB hG hL L;rintro u ⟨-,hB,hG,-⟩;refine B9y rfl ?_ ?_
 ·intro ht;have ht10:=ht;refine r0T ?_;refine st hB hF hG 2 0 [_,_] ?_;clear hB hG;intro u hB hG;refine rt Tryz.results87 ?_;have e:b=1:=A2p.1 (by simp at ht;omega);exact⟨A6p (by rw[e,Nat.div_one]),hG⟩
 ·intro ht;have ht10:=ht;refine B9K ?_;refine A6 ?_;refine B9D (rsC A8 [0,0,1,0,0,0,0,2,2] hB hG λK L hN hL=>?_);refine gs ?_;refine gmw (C:=λv=>A3V _ _ (by assumption) (by assumption) (by assumption) _) ?_;refine gs ?_;refine gaa (L8 _ _ _ _ _) λb5 hb5 hn5=>?_;refine gaa (L8 _ _ _ _ _) λb6 hb6 hn6=>?_;replace hF:=hF.n1 [] hB hG hb5 hn5;replace hF:=hF.n1 [b5] hB hG hb6 hn6;refine geC hL ?_;clear hB hG hL L;rintro u ⟨⟨⟨-,hB,hG,-⟩,h5⟩,h6⟩;replace hB:=hB.cons' h5;replace hB:=hB.cons' h6;clear h5 h6;clear hb5 hn5 hb6 hn6;have hD:b5≠b6/\b6≠b5:=⟨hF.ne 1 0 rfl rfl (by decide),hF.ne 0 1 rfl rfl (by decide)⟩
  refine gtT ?_;clear hN K;clear hD;refine st2 hB hF hG 1 0 [_,_] 0 0 [_,_] ?_;clear hB hG;intro u hB hG;refine r0T ?_;refine st hB hF hG 4 0 [_,_] ?_;clear hB hG;intro u hB hG;refine rt Tryz.results87 ?_;exact⟨rfl,hG⟩
theorem A4K(n:Int)(b:Nat)(ha:bl n.natAbs<=BIG)(hb:bl b<=BIG)(h0:b≠0)(w:World):Calls Tryz.prog 86 #[E5 n,B2 b] w λe w'=>e = .returned (E5 (ztd n b))/\A4 w w':=by
 have ha':=Q9 ha;have hd:bl (n.natAbs/b)<=1099511627776:=B9A (R0 _ _) ha';go_enter Tryz.func86,Tryz.ntmps86;refine en3 ?_;intro u hG b4 b3 b2 hB hF;refine B9D (rdC A8 [] [(0,0),(0,3),(0,5),(1,1),(0,2),(1,4),(1,6),(1,7)] hB hG λK L hN hL=>?_);refine gs ?_;refine gmw (C:=λv=>A3I _ (by assumption) _) ?_;refine gs ?_;refine gmw (C:=λv=>A2Q _ _) ?_;refine gmw (C:=λv=>A1o _ _ (by assumption) (by assumption) (by assumption) _) ?_;refine gmw (C:=λv=>V5 _ _ (by assumption) _) ?_;refine geC hL ?_;clear hB hG hL L;rintro u ⟨-,hB,hG,-⟩;refine gtT ?_;clear hN K;refine st hB hF hG 2 0 [_,_,_] ?_;clear hB hG;intro u hB hG;refine rt Tryz.results86 ?_;exact⟨A2z (A5f n b),hG⟩
theorem A2w(n:Int)(d:Nat)(h:bl n.natAbs+bl d<=1099511627776)(w:World):Calls Tryz.prog 90 #[E5 n,B2 d] w λe w'=>e = .returned (E5 (ztm n d))/\A4 w w':=by
 have hd:bl d<=1099511627776:=by omega
 have h':bl n.natAbs+bl (sgn false d).natAbs<=1099511627776:=h;go_enter Tryz.func90,Tryz.ntmps90;refine en3 ?_;intro u hG b4 b3 b2 hB hF;refine B9D (rdC A8 [] [(0,0),(0,1),(1,2),(1,3)] hB hG λK L hN hL=>?_);refine gs ?_;refine gmw (C:=λv=>V5 _ _ (by assumption) _) ?_;refine gmw (C:=λv=>A6h _ _ (by assumption) _) ?_;refine geC hL ?_;clear hB hG hL L;rintro u ⟨-,hB,hG,-⟩;refine gtT ?_;clear hN K;refine st hB hF hG 2 0 [_,_,_] ?_;clear hB hG;intro u hB hG;refine rt Tryz.results90 ?_;exact⟨rfl,hG⟩
theorem A24(n:Int)(d:Nat)(hn:bl n.natAbs<=BIG)(hd:bl d<=BIG)(w:World)(HT:Tab w):Calls Tryz.prog 83 #[E5 n,E5 (sgn false d)] w λe w'=>e = .returned (B2 (Nat.gcd n.natAbs d))/\A4 w w':=by
 have:=B03 n (sgn false d) hn (by rw[A1k];exact hd) w HT;rw[A1k]at this;exact this
theorem B3o(c d:Nat)(hc:bl c<=BIG)(hd:bl d<=BIG)(w:World)(HT:Tab w):Calls Tryz.prog 83 #[E5 (sgn false c),E5 (sgn false d)] w λe w'=>e = .returned (B2 (Nat.gcd c d))/\A4 w w':=by
 have:=A24 (sgn false c) d (by rw[A1k];exact hc) hd w HT;rw[A1k]at this;exact this
theorem A8w(n:Int)(d:Nat)(hn:bl n.natAbs<=BIG)(hd:bl d<=BIG)(h0:d≠0)(w:World)(HT:Tab w):Calls Tryz.prog 130 #[E5 n,B2 d] w λe w'=>e = .returned (qV (mkRat n d))/\A4 w w':=by
 have hd':=Q9 hd;have hg:bl (Nat.gcd n.natAbs d)<=BIG:=B9A (A35 _ _ h0) hd;have hg0:Nat.gcd n.natAbs d≠0:=λe=>h0 (C0P e);have hdd:bl (d/Nat.gcd n.natAbs d)<=1099511627776:=B9A (R0 _ _) hd';go_enter Tryz.func130,Tryz.ntmps130;refine en3 ?_;intro u hG b4 b3 b2 hB hF;refine B9D (rdC A8 [] [(0,0),(0,1),(1,2),(1,3),(2,4)] hB hG λK L hN hL=>?_);refine gs ?_;refine gmw (C:=λv=>V5 _ _ (by assumption) _) ?_;refine gmd (C:=λv ⟨hgu,hB,hG,_⟩=>A24 n d hn hd _ (HT.grow hG)) ?_;refine gaa (L8 _ _ _ _ _) λb5 hb5 hn5=>?_;replace hF:=hF.n1 [] hB hG hb5 hn5;refine geC hL ?_;clear hB hG hL L;rintro u ⟨⟨-,hB,hG,-⟩,h5⟩;replace hB:=hB.cons' h5;clear h5;clear hb5 hn5;refine gtT ?_;clear hN K;refine st hB hF hG 0 0 [_,_] ?_;clear hB hG;intro u hB hG;refine B9D (rdC A8 [] [(0,0),(0,1),(0,3),(0,4),(1,2),(1,5),(1,6)] hB hG λK L hN hL=>?_);refine gs ?_;refine gmw (C:=λv=>A4K n (Nat.gcd n.natAbs d) hn hg hg0 _) ?_;refine gmw (C:=λv=>A1o d (Nat.gcd n.natAbs d) hd hg hg0 _) ?_;refine gmw (C:=λv=>A38 _ _ (by assumption) _) ?_;refine geC hL ?_;clear hB hG hL L;rintro u ⟨-,hB,hG,-⟩;refine gtT ?_;clear hN K;refine st hB hF hG 3 0 [_,_,_,_,_] ?_;clear hB hG;intro u hB hG;refine rt Tryz.results130 ?_;exact⟨A1Z (A6X n d h0) (A6s n d h0),hG⟩
def G5(a b:Rat):Rat:=a+b
def D9(a b:Rat):Rat:=a-b
def D5(a b:Rat):Rat:=a*b
def H9(a b:Rat):Rat:=a/b
def I4(a:Rat):Rat:=-a
def Q5(a:Rat):Rat:=a.abs
def B4(n:Int):Rat:=(n:Rat)
def nz(d:Int):Bool:=decide (d≠0)
def nzq(q:Rat):Bool:=decide (q≠0)
def D0(n d:Int):Rat:=Rat.divInt n d
theorem B6h(n:Int):(B4 n).num=n:=Rat.num_intCast n
theorem B3w(n:Int):(B4 n).den=1:=Rat.den_intCast n
theorem I5(n:Int)(h0 : -9223372036854775808<=n)(h1:n<=9223372036854775807)(w:World):Calls Tryz.prog 48 #[.int .i64 n] w λe w'=>e = .returned (qV (B4 n))/\A4 w w':=by
 go_enter Tryz.func48,Tryz.ntmps48;refine en1 ?_;intro u hG b2 hB hF;refine B9D (rsC A8 [0,1,0] hB hG λK L hN hL=>?_);refine gs ?_;refine gmw (C:=λv=>B3n _ (by assumption) (by assumption) _) ?_;refine gs ?_;refine geC hL ?_;clear hB hG hL L;rintro u ⟨-,hB,hG,-⟩;refine gtT ?_;clear hN K;refine st hB hF hG 0 0 [_,_,_,_,_] ?_;clear hB hG;intro u hB hG;refine rt Tryz.results48 ?_;exact⟨A1Z (d:=1) (B6h n) (B3w n),hG⟩
theorem A5I(n d:Int)(h:¬d<0):D0 n d=mkRat n d.natAbs:=by
 obtain⟨m,rfl⟩:∃m:Nat,d=(m:Int):=⟨d.natAbs,by omega⟩
 unfold D0;rw[Rat.divInt_ofNat,C0K]
theorem A6i(n d:Int)(h:d<0):D0 n d=mkRat (A0c n) d.natAbs:=by
 obtain⟨m,rfl⟩:∃m:Nat,d = -(m:Int):=⟨d.natAbs,by omega⟩
 unfold D0 A0c;rw[Rat.divInt_neg',Rat.divInt_ofNat,C0J,C0K]
theorem B3i(z:Int):bl (A0c z).natAbs=bl z.natAbs:=by unfold A0c;rw[C0J]
theorem A4M{p q:Rat}{a b:Bool}(h:p=q)(h':a=b):Ending.returned (.tuple #[qV p,.bool a]) = .returned (.tuple #[qV q,.bool b]):=by rw[h,h']
theorem B8p(n d:Int)(hn:bl n.natAbs<=BIG)(hd:bl d.natAbs<=BIG)(w:World)(HT:Tab w):Calls Tryz.prog 64 #[E5 n,E5 d] w λe w'=>e = .returned (.tuple #[qV (D0 n d),.bool (nz d)])/\A4 w w':=by
 have hn':=Q9 hn;have hd':=Q9 hd;have hz:bl (A0c n).natAbs<=BIG:=by rw[B3i];exact hn
 go_enter Tryz.func64,Tryz.ntmps64;refine en3 ?_;intro u hG b4 b3 b2 hB hF;refine B9D ?_;refine B9D (rsE A8 [0,1,0] hB hG λL hL=>?_);refine gs ?_;refine gmw (C:=λv=>A3I _ (by assumption) _) ?_;refine gs ?_;refine geT hL ?_;clear hB hG hL L;rintro u ⟨-,hB,hG,-⟩;refine B9y rfl ?_ ?_
 ·intro ht;have ht8:=ht;refine r0T ?_;refine st hB hF hG 2 0 [_,_,_,_,_] ?_;clear hB hG;intro u hB hG;refine rt Tryz.results64 ?_;have e:d=0:=by simpa using ht
  subst e;exact⟨A4M (p:=0) (by unfold D0;rw[Rat.divInt_zero]) rfl,hG⟩
 ·intro ht;have ht8:=ht;have hd0:d.natAbs≠0:=λe=>by
   have:d=0:=by omega
   rw[this]at ht;simp at ht
  refine B9K ?_;refine A6 ?_;refine B9D ?_;refine B9D (rsE A8 [0,1,0] hB hG λL hL=>?_);refine gs ?_;refine gmw (C:=λv=>A3I _ (by assumption) _) ?_;refine gs ?_;refine geT hL ?_;clear hB hG hL L;rintro u ⟨-,hB,hG,-⟩;refine B9y rfl ?_ ?_
  ·intro ht;have ht12:=ht;refine rsC A8 [0,1] hB hG λK L hN hL=>?_;refine gs ?_;refine gmw (C:=λv=>A9U _ (by assumption) _) ?_;refine geC hL ?_;clear hB hG hL L;rintro u ⟨-,hB,hG,-⟩;refine gtT ?_;clear hN K;refine st hB hF hG 0 0 [_,_,_] ?_;clear hB hG;intro u hB hG;refine B9D (rdC A8 [] [(0,0),(0,1),(1,2),(1,3)] hB hG λK L hN hL=>?_);refine gs ?_;refine gmw (C:=λv=>A2Q _ _) ?_;refine gmd (C:=λv ⟨hgu,hB,hG,_⟩=>A8w _ _ (by assumption) (by assumption) (by assumption) _ (HT.grow hG)) ?_;refine geC hL ?_;clear hB hG hL L;rintro u ⟨-,hB,hG,-⟩;refine gtT ?_;clear hN K;refine st hB hF hG 2 0 [_,_,_,_,_] ?_;clear hB hG;intro u hB hG;refine rt Tryz.results64 ?_;have e:d<0:=by simpa using ht
   exact⟨A4M (A6i n d e).symm (B9x (by omega)).symm,hG⟩
  ·intro ht;have ht12:=ht;refine B9K ?_;refine A6 ?_;refine B9D (rdC A8 [] [(0,0),(0,1),(1,2),(1,3)] hB hG λK L hN hL=>?_);refine gs ?_;refine gmw (C:=λv=>A2Q _ _) ?_;refine gmd (C:=λv ⟨hgu,hB,hG,_⟩=>A8w _ _ (by assumption) (by assumption) (by assumption) _ (HT.grow hG)) ?_;refine geC hL ?_;clear hB hG hL L;rintro u ⟨-,hB,hG,-⟩;refine gtT ?_;clear hN K;refine st hB hF hG 2 0 [_,_,_,_,_] ?_;clear hB hG;intro u hB hG;refine rt Tryz.results64 ?_;have e:¬d<0:=by simpa using ht
   exact⟨A4M (A5I n d e).symm (B9x (by omega)).symm,hG⟩
theorem A7V{n:Int}(h0 : -9223372036854775808<=n)(h1:n<=9223372036854775807):bl n.natAbs<=BIG:=by
 refine B9A (T9.2 ?_) A6o;have:(2:Nat)^64=18446744073709551616:=rfl;omega
theorem A3w(q:Rat)(h:bl q.num.natAbs<=1099511627776)(w:World):Calls Tryz.prog 97 #[qV q] w λe w'=>e = .returned (qV (I4 q))/\A4 w w':=by
 go_enter Tryz.func97,Tryz.ntmps97;refine en2 ?_;intro u hG b2 b1 hB hF;refine B9D (rdC A8 [] [(0,0),(0,1),(0,3),(0,4),(1,2),(0,5)] hB hG λK L hN hL=>?_);refine gs ?_;refine gmw (C:=λv=>A9U _ (by assumption) _) ?_;refine gs ?_;refine geC hL ?_;clear hB hG hL L;rintro u ⟨-,hB,hG,-⟩;refine gtT ?_;clear hN K;refine st hB hF hG 1 0 [_,_,_,_,_] ?_;clear hB hG;intro u hB hG;refine rt Tryz.results97 ?_;exact⟨A1Z (Rat.neg_num q) (Rat.neg_den q),hG⟩
theorem A9v(q:Rat):q.abs.num=sgn false q.num.natAbs:=by
 rw[A7H];by_cases h:0<=q
 ·rw[Rat.abs_of_nonneg h];have:=Rat.num_nonneg.2 h;omega
 ·have h':q<=0:=by rcases C0Q (a:=0) (b:=q)with h1|h1;exact absurd h1 h;exact h1
  rw[Rat.abs_of_nonpos h',Rat.neg_num];have:¬0<=q.num:=λh2=>h (Rat.num_nonneg.1 h2);omega
theorem B0h(q:Rat):q.abs.den=q.den:=by
 by_cases h:0<=q
 ·rw[Rat.abs_of_nonneg h]
 ·have h':q<=0:=by rcases C0Q (a:=0) (b:=q)with h1|h1;exact absurd h1 h;exact h1
  rw[Rat.abs_of_nonpos h',Rat.neg_den]
theorem A62(q:Rat)(h:bl q.num.natAbs<=1099511627776)(w:World):Calls Tryz.prog 54 #[qV q] w λe w'=>e = .returned (qV (Q5 q))/\A4 w w':=by
 go_enter Tryz.func54,Tryz.ntmps54;refine en2 ?_;intro u hG b2 b1 hB hF;refine B9D (rdC A8 [] [(0,0),(0,1),(0,4),(0,5),(1,2),(1,3),(0,6)] hB hG λK L hN hL=>?_);refine gs ?_;refine gmw (C:=λv=>A2Q _ _) ?_;refine gmw (C:=λv=>V5 _ _ (by assumption) _) ?_;refine gs ?_;refine geC hL ?_;clear hB hG hL L;rintro u ⟨-,hB,hG,-⟩;refine gtT ?_;clear hN K;refine st hB hF hG 1 0 [_,_,_,_,_] ?_;clear hB hG;intro u hB hG;refine rt Tryz.results54 ?_;exact⟨A1Z (A9v q) (B0h q),hG⟩
theorem A0h(q:Rat)(h:bl q.den<=1099511627776)(h1:q.den=1)(w:World):Calls Tryz.prog 81 #[qV q] w λe w'=>e = .returned (.bool true)/\A4 w w':=by
 have:=A6z q h w;rw[B9x h1]at this;exact this
theorem A0Z(q:Rat)(h:bl q.den<=1099511627776)(h1:¬q.den=1)(w:World):Calls Tryz.prog 81 #[qV q] w λe w'=>e = .returned (.bool false)/\A4 w w':=by
 have:=A6z q h w;rw[B92 h1]at this;exact this
section
variable (a b:Rat) (w:World)
theorem B5v(h:qs a+qs b+1<=BIG)(ha1:a.den=1)(hb1:b.den=1):Calls Tryz.prog 30 #[qV a,qV b] w λe w'=>e = .returned (.int .i64 (E9 a b))/\A4 w w':=by
 have hB40:=J7;have h1:bl a.num.natAbs<=1099511627776:=by have:=G3 a;omega
 have h2:bl b.num.natAbs<=1099511627776:=by have:=G3 b;omega
 have h3:bl a.den<=1099511627776:=by have:=I2 a;omega
 have h4:bl b.den<=1099511627776:=by have:=I2 b;omega
 have Ha1:=B9I ha1;have Hb1:=B9I hb1;clear ha1 hb1;go_enter Tryz.func30,Tryz.ntmps30;refine en2 ?_;intro u hG b3 b2 hB hF;refine B9D ?_;refine B9D (rdC A8 [] [(0,0),(1,1),(0,2),(0,3),(1,4),(0,5),(0,6),(0,7),(0,9),(1,8),(1,10),(0,11)] hB hG λK L hN hL=>?_);refine gs ?_;refine gmw (C:=λv=>A0h a h3 Ha1.out _) ?_;refine gs ?_
 first|refine gmw (C:=λv=>A0h b h4 Hb1.out _) ?_|refine I0 ?_
 refine gs ?_
 first|refine gmw (C:=λv=>M8 _ (by assumption) _) ?_|refine I0 ?_
 first|refine gmw (C:=λv=>M8 _ (by assumption) _) ?_|refine I0 ?_
 refine gs ?_;refine geC hL ?_;clear hB hG hL L;rintro u ⟨-,hB,hG,-⟩;refine gtT ?_;clear hN K;refine B9L (rfl) ?_;refine B9D (rsE A8 [0,0,0,0,1,0] hB hG λL hL=>?_);refine gs ?_;refine gmw (C:=λv=>A3B _ _ (by assumption) (by assumption) _) ?_;refine gs ?_;refine geT hL ?_;clear hB hG hL L;rintro u ⟨-,hB,hG,-⟩;refine rt Tryz.results30 ?_;exact⟨N0 (B8K Ha1.out Hb1.out).symm,hG⟩
theorem B5x(h:qs a+qs b+1<=BIG)(ha1:a.den=1)(hb1:¬b.den=1):Calls Tryz.prog 30 #[qV a,qV b] w λe w'=>e = .returned (.int .i64 (E9 a b))/\A4 w w':=by
 have hB40:=J7;have h1:bl a.num.natAbs<=1099511627776:=by have:=G3 a;omega
 have h2:bl b.num.natAbs<=1099511627776:=by have:=G3 b;omega
 have h3:bl a.den<=1099511627776:=by have:=I2 a;omega
 have h4:bl b.den<=1099511627776:=by have:=I2 b;omega
 have h5:bl a.num.natAbs+bl b.den<=1099511627776:=by have:=G3 a;have:=I2 b;omega
 have h6:bl b.num.natAbs+bl a.den<=1099511627776:=by have:=G3 b;have:=I2 a;omega
 have h7:bl (ztm a.num b.den).natAbs<=1099511627776:=by unfold ztm;rw[C0N];exact B9A (T0 _ _) h5
 have h8:bl (ztm b.num a.den).natAbs<=1099511627776:=by unfold ztm;rw[C0N];exact B9A (T0 _ _) h6
 have Ha1:=B9I ha1;have Hb1:=B9I hb1;clear ha1 hb1;go_enter Tryz.func30,Tryz.ntmps30;refine en2 ?_;intro u hG b3 b2 hB hF;refine B9D ?_;refine B9D (rdC A8 [] [(0,0),(1,1),(0,2),(0,3),(1,4),(0,5),(0,6),(0,7),(0,9),(1,8),(1,10),(0,11)] hB hG λK L hN hL=>?_);refine gs ?_;refine gmw (C:=λv=>A0h a h3 Ha1.out _) ?_;refine gs ?_
 first|refine gmw (C:=λv=>A0Z b h4 Hb1.out _) ?_|refine I0 ?_
 refine gs ?_
 first|refine gmw (C:=λv=>M8 _ (by assumption) _) ?_|refine I0 ?_
 first|refine gmw (C:=λv=>M8 _ (by assumption) _) ?_|refine I0 ?_
 refine gs ?_;refine geC hL ?_;clear hB hG hL L;rintro u ⟨-,hB,hG,-⟩;refine gtT ?_;clear hN K;refine B9y rfl ?_ ?_
 ·intro ht;have ht17:=ht;refine B9D (rsE A8 [0,0,0,0,1,0] hB hG λL hL=>?_);refine gs ?_;refine gmw (C:=λv=>A3B _ _ (by assumption) (by assumption) _) ?_;refine gs ?_;refine geT hL ?_;clear hB hG hL L;rintro u ⟨-,hB,hG,-⟩;refine rt Tryz.results30 ?_;exact⟨N0 (B0g (by simpa using ht)).symm,hG⟩
 ·intro ht;have ht17:=ht;refine B9K ?_;refine A6 ?_;refine B9D (rdC A8 [] [(0,0),(0,1),(0,2),(0,5),(0,6),(0,7),(1,3),(1,4),(1,8),(1,9),(1,10)] hB hG λK L hN hL=>?_);refine gs ?_;refine gmw (C:=λv=>U8 _ (by assumption) _) ?_;refine gmw (C:=λv=>A2w _ _ (by assumption) _) ?_;refine gmw (C:=λv=>U8 _ (by assumption) _) ?_;refine gmw (C:=λv=>A2w _ _ (by assumption) _) ?_;refine gmw (C:=λv=>A3B _ _ (by assumption) (by assumption) _) ?_;refine geC hL ?_;clear hB hG hL L;rintro u ⟨-,hB,hG,-⟩;refine gtT ?_;clear hN K;refine rt Tryz.results30 ?_;exact⟨N0 (A4Y a b).symm,hG⟩
theorem B5c(h:qs a+qs b+1<=BIG)(ha1:¬a.den=1):Calls Tryz.prog 30 #[qV a,qV b] w λe w'=>e = .returned (.int .i64 (E9 a b))/\A4 w w':=by
 have hB40:=J7;have h1:bl a.num.natAbs<=1099511627776:=by have:=G3 a;omega
 have h2:bl b.num.natAbs<=1099511627776:=by have:=G3 b;omega
 have h3:bl a.den<=1099511627776:=by have:=I2 a;omega
 have h4:bl b.den<=1099511627776:=by have:=I2 b;omega
 have h5:bl a.num.natAbs+bl b.den<=1099511627776:=by have:=G3 a;have:=I2 b;omega
 have h6:bl b.num.natAbs+bl a.den<=1099511627776:=by have:=G3 b;have:=I2 a;omega
 have h7:bl (ztm a.num b.den).natAbs<=1099511627776:=by unfold ztm;rw[C0N];exact B9A (T0 _ _) h5
 have h8:bl (ztm b.num a.den).natAbs<=1099511627776:=by unfold ztm;rw[C0N];exact B9A (T0 _ _) h6
 have Ha1:=B9I ha1;clear ha1;go_enter Tryz.func30,Tryz.ntmps30;refine en2 ?_;intro u hG b3 b2 hB hF;refine B9D ?_;refine B9D (rdC A8 [] [(0,0),(1,1),(0,2),(0,3),(1,4),(0,5),(0,6),(0,7),(0,9),(1,8),(1,10),(0,11)] hB hG λK L hN hL=>?_);refine gs ?_;refine gmw (C:=λv=>A0Z a h3 Ha1.out _) ?_;refine gs ?_
 first|refine gmw (C:=λv=>A0Z a h3 Ha1.out _) ?_|refine I0 ?_
 refine gs ?_
 first|refine gmw (C:=λv=>M8 _ (by assumption) _) ?_|refine I0 ?_
 first|refine gmw (C:=λv=>M8 _ (by assumption) _) ?_|refine I0 ?_
 refine gs ?_;refine geC hL ?_;clear hB hG hL L;rintro u ⟨-,hB,hG,-⟩;refine gtT ?_;clear hN K;refine B9y rfl ?_ ?_
 ·intro ht;have ht17:=ht;refine B9D (rsE A8 [0,0,0,0,1,0] hB hG λL hL=>?_);refine gs ?_;refine gmw (C:=λv=>A3B _ _ (by assumption) (by assumption) _) ?_;refine gs ?_;refine geT hL ?_;clear hB hG hL L;rintro u ⟨-,hB,hG,-⟩;refine rt Tryz.results30 ?_;exact⟨N0 (B0g (by simpa using ht)).symm,hG⟩
 ·intro ht;have ht17:=ht;refine B9K ?_;refine A6 ?_;refine B9D (rdC A8 [] [(0,0),(0,1),(0,2),(0,5),(0,6),(0,7),(1,3),(1,4),(1,8),(1,9),(1,10)] hB hG λK L hN hL=>?_);refine gs ?_;refine gmw (C:=λv=>U8 _ (by assumption) _) ?_;refine gmw (C:=λv=>A2w _ _ (by assumption) _) ?_;refine gmw (C:=λv=>U8 _ (by assumption) _) ?_;refine gmw (C:=λv=>A2w _ _ (by assumption) _) ?_;refine gmw (C:=λv=>A3B _ _ (by assumption) (by assumption) _) ?_;refine geC hL ?_;clear hB hG hL L;rintro u ⟨-,hB,hG,-⟩;refine gtT ?_;clear hN K;refine rt Tryz.results30 ?_;exact⟨N0 (A4Y a b).symm,hG⟩
theorem W8(h:qs a+qs b+1<=BIG):Calls Tryz.prog 30 #[qV a,qV b] w λe w'=>e = .returned (.int .i64 (E9 a b))/\A4 w w':=by
 by_cases ha1:a.den=1
 ·by_cases hb1:b.den=1
  ·exact B5v a b w h ha1 hb1
  ·exact B5x a b w h ha1 hb1
 ·exact B5c a b w h ha1
theorem A4Q(q:Rat)(h:q.den=1):q=(q.num:Rat):=Rat.ext (Rat.num_intCast _).symm (by rw[h];exact(Rat.den_intCast _).symm)
theorem B2U(h:qs a+qs b+1<=BIG)(ha1:a.den=1)(hb1:b.den=1):Calls Tryz.prog 95 #[qV a,qV b] w λe w'=>e = .returned (qV (G5 a b))/\A4 w w':=by
 have hB40:=J7;have h1:bl a.num.natAbs<1099511627776:=by have:=G3 a;omega
 have h2:bl b.num.natAbs<1099511627776:=by have:=G3 b;have:=B7j a;omega
 have h3:bl a.den<=1099511627776:=by have:=I2 a;omega
 have h4:bl b.den<=1099511627776:=by have:=I2 b;omega
 have e:G5 a b=((a.num+b.num:Int):Rat):=by
  unfold G5;rw[Rat.intCast_add,<-A4Q a ha1,<-A4Q b hb1]
 have e1:(G5 a b).num=A2a a.num b.num:=by rw[e,Rat.num_intCast];rfl
 have e2:(G5 a b).den=1:=by rw[e,Rat.den_intCast]
 have He:=B9I (And.intro e1 e2);clear e e1 e2;have Ha1:=B9I ha1;have Hb1:=B9I hb1;clear ha1 hb1;go_enter Tryz.func95,Tryz.ntmps95;refine en3 ?_;intro u hG b4 b3 b2 hB hF;refine B9D ?_;refine B9D (rsE A8 [0,1,0,0,1,0] hB hG λL hL=>?_);refine gs ?_;refine gmw (C:=λv=>A0h a h3 Ha1.out _) ?_;refine gs ?_
 first|refine gmw (C:=λv=>A0h b h4 Hb1.out _) ?_|refine I0 ?_
 refine gs ?_;refine geT hL ?_;clear hB hG hL L;rintro u ⟨-,hB,hG,-⟩;refine B9L (rfl) ?_;refine B9D (rsC A8 [0,0,0,0,1,0] hB hG λK L hN hL=>?_);refine gs ?_;refine gmw (C:=λv=>B0p _ _ (by assumption) (by assumption) _) ?_;refine gs ?_;refine geC hL ?_;clear hB hG hL L;rintro u ⟨-,hB,hG,-⟩;refine gtT ?_;clear hN K;refine st hB hF hG 2 0 [_,_,_,_,_] ?_;clear hB hG;intro u hB hG;refine rt Tryz.results95 ?_;exact⟨A1Z He.out.1 He.out.2,hG⟩
theorem B3D(h:qs a+qs b+1<=BIG):bl (Nat.gcd a.den b.den)<=BIG/\Nat.gcd a.den b.den≠0/\bl a.den<=BIG/\bl b.den<=BIG/\bl a.num.natAbs+bl (b.den/Nat.gcd a.den b.den)<=1099511627776/\bl b.num.natAbs+bl (a.den/Nat.gcd a.den b.den)<=1099511627776 /\
  bl (ztm a.num (b.den/Nat.gcd a.den b.den)).natAbs<1099511627776/\bl (ztm b.num (a.den/Nat.gcd a.den b.den)).natAbs<1099511627776/\bl (A2a (ztm a.num (b.den/Nat.gcd a.den b.den)) (ztm b.num (a.den/Nat.gcd a.den b.den))).natAbs<=BIG /\
  bl (Nat.gcd (A2a (ztm a.num (b.den/Nat.gcd a.den b.den)) (ztm b.num (a.den/Nat.gcd a.den b.den))).natAbs (Nat.gcd a.den b.den))<=BIG/\Nat.gcd (A2a (ztm a.num (b.den/Nat.gcd a.den b.den)) (ztm b.num (a.den/Nat.gcd a.den b.den))).natAbs (Nat.gcd a.den b.den)≠0:=by
 have hB40:=J7;have s1:=G3 a;have s2:=I2 a;have s3:=G3 b;have s4:=I2 b;have s5:=R0 b.den (Nat.gcd a.den b.den);have s6:=R0 a.den (Nat.gcd a.den b.den);have g0:Nat.gcd a.den b.den≠0:=λe=>a.den_nz (C0C e);have g1:=B3f a.den b.den a.den_nz;have up:bl (A0U a b).natAbs<=qs a+qs b+1:=A9C a b;have m1:bl (ztm a.num (b.den/Nat.gcd a.den b.den)).natAbs<=bl a.num.natAbs+bl (b.den/Nat.gcd a.den b.den):=by unfold ztm;rw[C0N];exact T0 _ _
 have m2:bl (ztm b.num (a.den/Nat.gcd a.den b.den)).natAbs<=bl b.num.natAbs+bl (a.den/Nat.gcd a.den b.den):=by unfold ztm;rw[C0N];exact T0 _ _
 refine⟨by omega,g0,by omega,by omega,by omega,by omega,by omega,by omega,B9A up h,B9A (A35 _ _ g0) (by omega),λe=>g0 (C0P e)⟩
end
end Go.Proofs.YtgpglgbcobeogaaGreatDoor
