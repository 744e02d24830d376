import Derived.Test.YtgpglgbcobeogaaGreatDoorK16
set_option linter.unusedSimpArgs false
set_option linter.unusedVariables false
set_option maxHeartbeats 2000000
set_option maxRecDepth 100000
namespace Go.Proofs.YtgpglgbcobeogaaGreatDoor
abbrev nqV(n:Int)(d:Nat):Value:=.agg #[.bool (D9 n),.int .u64 (B8 n.natAbs),.string (B6 n.natAbs),.int .u64 (B8 (I4 d)),.string (B6 (I4 d))]
theorem B6n:I4 1=0:=rfl
theorem A5n{d:Nat}(h:d≠1):I4 d=d:=if_neg h
theorem A7V{n:Int}{d:Nat}{q:Rat}(h1:q.num=n)(h2:q.den=d):nqV n d=qV q:=by subst h1;subst h2;rfl
theorem A6U(n:Int)(b:Nat):sgn (D9 n) (n.natAbs/b)=n.tdiv b:=by
 unfold sgn D9;by_cases h:n<0
 ·rw[if_pos (C0Y h)];obtain⟨m,rfl⟩:∃m:Nat,n = -(m:Int):=⟨n.natAbs,by omega⟩
  rw[Int.neg_tdiv,C0u,C0v,Int.ofNat_tdiv]
 ·rw[if_neg (by simpa using h)];obtain⟨m,rfl⟩:∃m:Nat,n=(m:Int):=⟨n.natAbs,by omega⟩
  rw[C0v,Int.ofNat_tdiv]
theorem A9T(a b:Rat):(a*b).num=a.num.tdiv (Nat.gcd a.num.natAbs b.den)*b.num.tdiv (Nat.gcd b.num.natAbs a.den):=by
 show(Rat.mul a b).num=_;unfold Rat.mul;simp only[Int.divExact_eq_tdiv]
theorem B1Q(a b:Rat):(a*b).den=a.den/Nat.gcd b.num.natAbs a.den*(b.den/Nat.gcd a.num.natAbs b.den):=by
 show(Rat.mul a b).den=_;unfold Rat.mul;simp only[Nat.divExact_eq_div]
def A0p(a b:Rat):Int:=a.num*((b.den/Nat.gcd a.den b.den:Nat):Int)+b.num*((a.den/Nat.gcd a.den b.den:Nat):Int)
def hOf(a b:Rat):Nat:=Nat.gcd (A0p a b).natAbs (Nat.gcd a.den b.den)
theorem A8C(a b:Rat)(h:a.den/Nat.gcd a.den b.den*b.den≠0):a+b=Rat.normalize (A0p a b) (a.den/Nat.gcd a.den b.den*b.den) h:=by
 rw[Rat.add_def];have hg:Nat.gcd a.den b.den≠0:=λh0=>a.den_nz (C0n h0);obtain⟨x,hx⟩:=Nat.gcd_dvd_left a.den b.den;obtain⟨y,hy⟩:=Nat.gcd_dvd_right a.den b.den;have hxd:a.den/Nat.gcd a.den b.den=x:=Nat.div_eq_of_eq_mul_right (C0S hg) hx;have hyd:b.den/Nat.gcd a.den b.den=y:=Nat.div_eq_of_eq_mul_right (C0S hg) hy;rw[<-Rat.normalize_mul_right (a:=Nat.gcd a.den b.den) h hg];congr 1
 ·unfold A0p;rw[hxd,hyd];generalize Nat.gcd a.den b.den=g at *;rw[hx,hy]
  push_cast
  grind
 ·rw[hxd];generalize Nat.gcd a.den b.den=g at *;rw[hx];grind
theorem B1c(a b:Rat):hOf a b=Nat.gcd (A0p a b).natAbs (a.den/Nat.gcd a.den b.den*b.den):=Rat.add.aux a b rfl rfl rfl
theorem A7W(a b:Rat):a.den/Nat.gcd a.den b.den*b.den≠0:=by
 have h1:=Nat.div_gcd_pos_of_pos_left b.den a.den_pos;have h2:=b.den_pos;exact C0w (C0E h1 h2)
theorem A8l(a b:Rat):(a+b).num=(A0p a b).tdiv (hOf a b):=by
 rw[A8C a b (A7W a b),Rat.num_normalize,<-B1c];refine(Int.tdiv_eq_ediv_of_dvd ?_).symm;exact Int.ofNat_dvd_left.2 (Nat.gcd_dvd_left _ _)
theorem A8g(a b:Rat):(a+b).den=a.den/Nat.gcd a.den b.den*(b.den/hOf a b):=by
 rw[A8C a b (A7W a b),Rat.den_normalize,<-B1c];exact Nat.mul_div_assoc _ (Nat.dvd_trans (Nat.gcd_dvd_right _ _) (Nat.gcd_dvd_right _ _))
theorem A6N(n:Int)(d:Nat)(h:d≠0):(mkRat n d).num=n.tdiv (Nat.gcd n.natAbs d):=by
 rw[<-Rat.normalize_eq_mkRat h,Rat.num_normalize];exact(Int.tdiv_eq_ediv_of_dvd (Int.ofNat_dvd_left.2 (Nat.gcd_dvd_left _ _))).symm
theorem A5x(n:Int)(d:Nat)(h:d≠0):(mkRat n d).den=d/Nat.gcd n.natAbs d:=by
 rw[<-Rat.normalize_eq_mkRat h,Rat.den_normalize]
def H6(a b:Rat):Int:=if a<b then -1 else if b<a then 1 else 0
theorem A5V(a b:Rat):H6 a b=V8 (a.num*b.den) (b.num*a.den):=by
 unfold H6 V8;simp only[Rat.lt_iff]
theorem B35{a b:Rat}(ha:a.den=1)(hb:b.den=1):H6 a b=V8 a.num b.num:=by
 rw[A5V,ha,hb];simp
theorem A9K{a b:Rat}(h:a.num.sign≠b.num.sign):H6 a b=V8 a.num b.num:=by
 rw[A5V];have h1:=a.den_pos;have h2:=b.den_pos;generalize a.num=x at *;generalize b.num=y at *;generalize a.den=p at *;generalize b.den=q at *;have hx:(x*(q:Int)).sign=x.sign:=by rw[Int.sign_mul,C0c (a:=(q:Int)) (by omega),Int.mul_one]
 have hy:(y*(p:Int)).sign=y.sign:=by rw[Int.sign_mul,C0c (a:=(p:Int)) (by omega),Int.mul_one]
 rw[<-hx,<-hy]at h;have key:∀u v:Int,u.sign≠v.sign->V8 u v=V8 u.sign v.sign:=by
  intro u v huv;unfold V8
  rcases C0x u 0 with hu|hu|hu<;>rcases C0x v 0 with hv|hv|hv <;>
   (first|(rw[C0a hu]at huv⊢)|(rw[hu,Int.sign_zero]at huv⊢)|(rw[C0c hu]at huv⊢)) <;>
   (first|(rw[C0a hv]at huv⊢)|(rw[hv,Int.sign_zero]at huv⊢)|(rw[C0c hv]at huv⊢)) <;>
   first|(exact absurd rfl huv)|(split<;>(try split)<;>simp<;>omega)
 rw[key _ _ h,hx,hy];rw[hx,hy]at h;exact(key _ _ h).symm
def qs(q:Rat):Nat:=max (bl q.num.natAbs) (bl q.den)
theorem I0(q:Rat):bl q.num.natAbs<=qs q:=Nat.le_max_left _ _
theorem J4(q:Rat):bl q.den<=qs q:=Nat.le_max_right _ _
theorem A3x(n:Int)(g:Nat):(n.tdiv g).natAbs<=n.natAbs:=by
 rw[Int.natAbs_tdiv];exact B9q _ _
theorem Z4(a b:Rat):qs (a*b)<=qs a+qs b:=by
 refine Nat.max_le.2 ⟨?_,?_⟩
 ·rw[A9T,C0y];refine B9l (W6 _ _) ?_;have h1:=T4 (A3x a.num (Nat.gcd a.num.natAbs b.den));have h2:=T4 (A3x b.num (Nat.gcd b.num.natAbs a.den));have:=I0 a;have:=I0 b;omega
 ·rw[B1Q];refine B9l (W6 _ _) ?_;have h1:=P9 a.den (Nat.gcd b.num.natAbs a.den);have h2:=P9 b.den (Nat.gcd a.num.natAbs b.den);have:=J4 a;have:=J4 b;omega
theorem A7y(a b:Rat):bl (A0p a b).natAbs<=qs a+qs b+1:=by
 unfold A0p;have h1:=W6 a.num.natAbs (b.den/Nat.gcd a.den b.den);have h2:=W6 b.num.natAbs (a.den/Nat.gcd a.den b.den);have h3:=P9 b.den (Nat.gcd a.den b.den);have h4:=P9 a.den (Nat.gcd a.den b.den);have:=I0 a;have:=J4 a;have:=I0 b;have:=J4 b;refine B9l (T4 (Int.natAbs_add_le _ _)) ?_;rw[C0y,C0y,C0v,C0v];refine B9l (A8m _ _) ?_;omega
theorem A26(a b:Rat):qs (a+b)<=qs a+qs b+1:=by
 refine Nat.max_le.2 ⟨?_,?_⟩
 ·rw[A8l];exact B9l (T4 (A3x _ _)) (A7y a b)
 ·rw[A8g];refine B9l (W6 _ _) ?_;have h1:=P9 a.den (Nat.gcd a.den b.den);have h2:=P9 b.den (hOf a b);have:=J4 a;have:=J4 b;omega
theorem A3G(a:Rat):qs (-a)=qs a:=by
 unfold qs;rw[Rat.neg_num,Rat.neg_den,C0u]
theorem A0G(a b:Rat):qs (a-b)<=qs a+qs b+1:=by
 rw[Rat.sub_eq_add_neg];have:=A26 a (-b);rw[A3G]at this;exact this
theorem A9O(a:Rat)(h:a≠0):qs a⁻¹=qs a:=by
 have h0:a.num≠0:=λe=>h (Rat.num_eq_zero.1 e);unfold qs;rw[Rat.num_inv,Rat.den_inv,if_neg h0,C0y,C0v,Int.natAbs_sign_of_ne_zero h0,C0z,Nat.max_comm]
theorem A3S(a b:Rat):qs (a/b)<=qs a+qs b:=by
 by_cases h:b=0
 ·subst h;have:a/0=0:=by rw[Rat.div_def,Rat.inv_zero,Rat.mul_zero]
  rw[this];have h0:qs 0=1:=by show max (bl 0) (bl 1)=1;rw[A08,A2p.2 rfl];rfl
  have:0<bl a.den:=V9.2 a.den_nz;have:=J4 a;omega
 ·rw[Rat.div_def,<-A9O b h];exact Z4 _ _
theorem B6A(a:Rat):1<=qs a:=by
 have:0<bl a.den:=V9.2 a.den_nz;have:=J4 a;omega
theorem B58(n:Int)(k:Nat)(h:n.natAbs<2^k)(hk:1<=k):qs (n:Rat)<=k:=by
 refine Nat.max_le.2 ⟨?_,?_⟩
 ·rw[Rat.num_intCast];exact R0.2 h
 ·rw[Rat.den_intCast];exact B9l (by decide) hk
end Go.Proofs.YtgpglgbcobeogaaGreatDoor
namespace Go.Proofs.YtgpglgbcobeogaaGreatDoor
open Go.RowKit
theorem B8B{p q:Rat}(h:p=q):Ending.returned (qV p) = .returned (qV q):=by rw[h]
theorem A1x{n:Int}{d:Nat}{q:Rat}(h1:q.num=n)(h2:q.den=d):Ending.returned (nqV n d) = .returned (qV q):=by rw[A7V h1 h2]
theorem A7N{a b:Nat}(h:a=b):Ending.returned (B4 a) = .returned (B4 b):=by rw[h]
theorem B5K{d:Nat}(h:bl d<=1099511627776):bl (I4 d)<=1099511627776:=by
 unfold I4;split
 ·rw[A08];omega
 ·exact h
theorem A50(q:Rat)(h:bl q.den<=1099511627776)(w:World):Calls Tryz.prog 81 #[qV q] w λe w'=>e = .returned (.bool (decide (q.den=1)))/\A4 w w':=by
 have hk:=B5K h;have hd:decide (q.den=1)=((bl (I4 q.den):Int) == 0):=by
  have h2:=q.den_pos;by_cases h1:q.den=1
  ·rw[h1,B6n,A08];rfl
  ·rw[A5n h1,C0d h1];have:bl q.den≠0:=λe=>by have:=A0Z.1 e;omega
   symm
   simpa using this
 rw[hd];clear hd;go_enter Tryz.func81,Tryz.ntmps81;refine en1 ?_;intro u hG b1 hB hF;refine B9o (rsE A8 [0,0,1,0,0] hB hG λL hL=>?_);refine gs ?_;refine gmw (C:=λv=>Q6 _ (by assumption) _) ?_;refine gs ?_;refine geT hL ?_;clear hB hG hL L;rintro u ⟨-,hB,hG,-⟩;refine rt Tryz.results81 ?_;exact⟨rfl,hG⟩
theorem B8Q(w:World):Calls Tryz.prog 143 #[.int .u64 1] w λe w'=>e = .returned (B4 1)/\A4 w w':=A3i 1 (by unfold W64;omega) w
theorem X8(q:Rat)(h:bl q.den<=1099511627776)(w:World):Calls Tryz.prog 84 #[qV q] w λe w'=>e = .returned (B4 q.den)/\A4 w w':=by
 go_enter Tryz.func84,Tryz.ntmps84;refine en2 ?_;intro u hG b2 b1 hB hF;refine B9o ?_;refine B9o (rsE A8 [0,1] hB hG λL hL=>?_);refine gs ?_;refine gmw (C:=λv=>A50 _ (by assumption) _) ?_;refine geT hL ?_;clear hB hG hL L;rintro u ⟨-,hB,hG,-⟩;refine C0Z rfl ?_ ?_
 ·intro ht;have ht4:=ht;refine B9o (rsC A8 [1] hB hG λK L hN hL=>?_);refine gmw (C:=λv=>B8Q _) ?_;refine geC hL ?_;clear hB hG hL L;rintro u ⟨-,hB,hG,-⟩;refine gtT ?_;clear hN K;refine st hB hF hG 1 0 [_,_] ?_;clear hB hG;intro u hB hG;refine rt Tryz.results84 ?_;have e:q.den=1:=C0X ht;exact⟨A7N e.symm,hG⟩
 ·intro ht;have ht4:=ht;refine B9v ?_;refine A6 ?_;refine r0T ?_;refine st hB hF hG 1 0 [_,_] ?_;clear hB hG;intro u hB hG;refine rt Tryz.results84 ?_;have e:q.den≠1:=C0b ht;exact⟨A7N (A5n e),hG⟩
theorem B5N(q:Rat)(w:World):Calls Tryz.prog 151 #[qV q] w λe w'=>e = .returned (E5 q.num)/\A4 w w':=by
 go_enter Tryz.func151,Tryz.ntmps151;refine en2 ?_;intro u hG b2 b1 hB hF;refine r0T ?_;refine st hB hF hG 1 0 [_,_,_] ?_;clear hB hG;intro u hB hG;refine rt Tryz.results151 ?_;exact⟨rfl,hG⟩
theorem S8(q:Rat)(h:bl q.num.natAbs<=1099511627776)(w:World):Calls Tryz.prog 36 #[qV q] w λe w'=>e = .returned (.int .i64 q.num.sign)/\A4 w w':=by
 go_enter Tryz.func36,Tryz.ntmps36;refine en1 ?_;intro u hG b1 hB hF;refine B9o (rsE A8 [0,0,1,0] hB hG λL hL=>?_);refine gs ?_;refine gmw (C:=λv=>A3v _ (by assumption) _) ?_;refine gs ?_;refine geT hL ?_;clear hB hG hL L;rintro u ⟨-,hB,hG,-⟩;refine rt Tryz.results36 ?_;exact⟨rfl,hG⟩
theorem A4j(n:Int)(d:Nat)(h:bl d<=1099511627776)(w:World):Calls Tryz.prog 85 #[E5 n,B4 d] w λe w'=>e = .returned (nqV n d)/\A4 w w':=by
 go_enter Tryz.func85,Tryz.ntmps85;refine en3 ?_;intro u hG b4 b3 b2 hB hF;refine B9o ?_;refine B9o (rsE A8 [0,1,0] hB hG λL hL=>?_);refine gs ?_;refine gmw (C:=λv=>Q6 _ (by assumption) _) ?_;refine gs ?_;refine geT hL ?_;clear hB hG hL L;rintro u ⟨-,hB,hG,-⟩;refine C0Z rfl ?_ ?_
 ·intro ht;have ht7:=ht;refine r0T ?_;refine st hB hF hG 2 0 [_,_,_,_,_] ?_;clear hB hG;intro u hB hG;refine rt Tryz.results85 ?_;have e:d=1:=A2p.1 (by simp at ht;omega);subst e;exact⟨rfl,hG⟩
 ·intro ht;have ht7:=ht;refine B9v ?_;refine A6 ?_;refine r0T ?_;refine st hB hF hG 2 0 [_,_,_,_,_] ?_;clear hB hG;intro u hB hG;refine rt Tryz.results85 ?_;have e:d≠1:=λe=>by
   have h2:=A2p.2 e;rw[h2]at ht;simp at ht
  exact⟨by rw[nqV,A5n e],hG⟩
theorem A2R(a b:Nat)(ha:bl a<=BIG)(hb:bl b<=BIG)(h0:b≠0)(w:World):Calls Tryz.prog 87 #[B4 a,B4 b] w λe w'=>e = .returned (B4 (a/b))/\A4 w w':=by
 have hb':=S6 hb;go_enter Tryz.func87,Tryz.ntmps87;refine en3 ?_;intro u hG b4 b3 b2 hB hF;refine B9o ?_;refine B9o (rsE A8 [0,1,0] hB hG λL hL=>?_);refine gs ?_;refine gmw (C:=λv=>Q6 _ (by assumption) _) ?_;refine gs ?_;refine geT hL ?_;clear hB hG hL L;rintro u ⟨-,hB,hG,-⟩;refine C0Z rfl ?_ ?_
 ·intro ht;have ht10:=ht;refine r0T ?_;refine st hB hF hG 2 0 [_,_] ?_;clear hB hG;intro u hB hG;refine rt Tryz.results87 ?_;have e:b=1:=A2p.1 (by simp at ht;omega);exact⟨A7N (by rw[e,Nat.div_one]),hG⟩
 ·intro ht;have ht10:=ht;refine B9v ?_;refine A6 ?_;refine B9o (rsC A8 [0,0,1,0,0,0,0,2,2] hB hG λK L hN hL=>?_);refine gs ?_;refine gmw (C:=λv=>A3M _ _ (by assumption) (by assumption) (by assumption) _) ?_;refine gs ?_;refine gaa (N1 _ _ _ _ _) λb5 hb5 hn5=>?_;refine gaa (N1 _ _ _ _ _) λb6 hb6 hn6=>?_;replace hF:=hF.n1 [] hB hG hb5 hn5;replace hF:=hF.n1 [b5] hB hG hb6 hn6;refine geC hL ?_;clear hB hG hL L;rintro u ⟨⟨⟨-,hB,hG,-⟩,h5⟩,h6⟩;replace hB:=hB.cons' h5;replace hB:=hB.cons' h6;clear h5 h6;clear hb5 hn5 hb6 hn6;have hD:b5≠b6/\b6≠b5:=⟨hF.ne 1 0 rfl rfl (by decide),hF.ne 0 1 rfl rfl (by decide)⟩
  refine gtT ?_;clear hN K;clear hD;refine st2 hB hF hG 1 0 [_,_] 0 0 [_,_] ?_;clear hB hG;intro u hB hG;refine r0T ?_;refine st hB hF hG 4 0 [_,_] ?_;clear hB hG;intro u hB hG;refine rt Tryz.results87 ?_;exact⟨rfl,hG⟩
theorem A48(n:Int)(b:Nat)(ha:bl n.natAbs<=BIG)(hb:bl b<=BIG)(h0:b≠0)(w:World):Calls Tryz.prog 86 #[E5 n,B4 b] w λe w'=>e = .returned (E5 (ztd n b))/\A4 w w':=by
 have ha':=S6 ha;have hd:bl (n.natAbs/b)<=1099511627776:=B9l (P9 _ _) ha';go_enter Tryz.func86,Tryz.ntmps86;refine en3 ?_;intro u hG b4 b3 b2 hB hF;refine B9o (rdC A8 [] [(0,0),(0,3),(0,5),(1,1),(0,2),(1,4),(1,6),(1,7)] hB hG λK L hN hL=>?_);refine gs ?_;refine gmw (C:=λv=>A3v _ (by assumption) _) ?_;refine gs ?_;refine gmw (C:=λv=>A2g _ _) ?_;refine gmw (C:=λv=>A2R _ _ (by assumption) (by assumption) (by assumption) _) ?_;refine gmw (C:=λv=>T6 _ _ (by assumption) _) ?_;refine geC hL ?_;clear hB hG hL L;rintro u ⟨-,hB,hG,-⟩;refine gtT ?_;clear hN K;refine st hB hF hG 2 0 [_,_,_] ?_;clear hB hG;intro u hB hG;refine rt Tryz.results86 ?_;exact⟨A1y (A6U n b),hG⟩
theorem A2w(n:Int)(d:Nat)(h:bl n.natAbs+bl d<=1099511627776)(w:World):Calls Tryz.prog 90 #[E5 n,B4 d] w λe w'=>e = .returned (E5 (ztm n d))/\A4 w w':=by
 have hd:bl d<=1099511627776:=by omega
 have h':bl n.natAbs+bl (sgn false d).natAbs<=1099511627776:=h;go_enter Tryz.func90,Tryz.ntmps90;refine en3 ?_;intro u hG b4 b3 b2 hB hF;refine B9o (rdC A8 [] [(0,0),(0,1),(1,2),(1,3)] hB hG λK L hN hL=>?_);refine gs ?_;refine gmw (C:=λv=>T6 _ _ (by assumption) _) ?_;refine gmw (C:=λv=>A5g _ _ (by assumption) _) ?_;refine geC hL ?_;clear hB hG hL L;rintro u ⟨-,hB,hG,-⟩;refine gtT ?_;clear hN K;refine st hB hF hG 2 0 [_,_,_] ?_;clear hB hG;intro u hB hG;refine rt Tryz.results90 ?_;exact⟨rfl,hG⟩
theorem A34(n:Int)(d:Nat)(hn:bl n.natAbs<=BIG)(hd:bl d<=BIG)(w:World)(HT:Tab w):Calls Tryz.prog 83 #[E5 n,E5 (sgn false d)] w λe w'=>e = .returned (B4 (Nat.gcd n.natAbs d))/\A4 w w':=by
 have:=B8U n (sgn false d) hn (by rw[A1J];exact hd) w HT;rw[A1J]at this;exact this
theorem B9G(c d:Nat)(hc:bl c<=BIG)(hd:bl d<=BIG)(w:World)(HT:Tab w):Calls Tryz.prog 83 #[E5 (sgn false c),E5 (sgn false d)] w λe w'=>e = .returned (B4 (Nat.gcd c d))/\A4 w w':=by
 have:=A34 (sgn false c) d (by rw[A1J];exact hc) hd w HT;rw[A1J]at this;exact this
theorem A9E(n:Int)(d:Nat)(hn:bl n.natAbs<=BIG)(hd:bl d<=BIG)(h0:d≠0)(w:World)(HT:Tab w):Calls Tryz.prog 130 #[E5 n,B4 d] w λe w'=>e = .returned (qV (mkRat n d))/\A4 w w':=by
 have hd':=S6 hd;have hg:bl (Nat.gcd n.natAbs d)<=BIG:=B9l (A5P _ _ h0) hd;have hg0:Nat.gcd n.natAbs d≠0:=λe=>h0 (C00 e);have hdd:bl (d/Nat.gcd n.natAbs d)<=1099511627776:=B9l (P9 _ _) hd';go_enter Tryz.func130,Tryz.ntmps130;refine en3 ?_;intro u hG b4 b3 b2 hB hF;refine B9o (rdC A8 [] [(0,0),(0,1),(1,2),(1,3),(2,4)] hB hG λK L hN hL=>?_);refine gs ?_;refine gmw (C:=λv=>T6 _ _ (by assumption) _) ?_;refine gmd (C:=λv ⟨hgu,hB,hG,_⟩=>A34 n d hn hd _ (HT.grow hG)) ?_;refine gaa (N1 _ _ _ _ _) λb5 hb5 hn5=>?_;replace hF:=hF.n1 [] hB hG hb5 hn5;refine geC hL ?_;clear hB hG hL L;rintro u ⟨⟨-,hB,hG,-⟩,h5⟩;replace hB:=hB.cons' h5;clear h5;clear hb5 hn5;refine gtT ?_;clear hN K;refine st hB hF hG 0 0 [_,_] ?_;clear hB hG;intro u hB hG;refine B9o (rdC A8 [] [(0,0),(0,1),(0,3),(0,4),(1,2),(1,5),(1,6)] hB hG λK L hN hL=>?_);refine gs ?_;refine gmw (C:=λv=>A48 n (Nat.gcd n.natAbs d) hn hg hg0 _) ?_;refine gmw (C:=λv=>A2R d (Nat.gcd n.natAbs d) hd hg hg0 _) ?_;refine gmw (C:=λv=>A4j _ _ (by assumption) _) ?_;refine geC hL ?_;clear hB hG hL L;rintro u ⟨-,hB,hG,-⟩;refine gtT ?_;clear hN K;refine st hB hF hG 3 0 [_,_,_,_,_] ?_;clear hB hG;intro u hB hG;refine rt Tryz.results130 ?_;exact⟨A1x (A6N n d h0) (A5x n d h0),hG⟩
def H9(a b:Rat):Rat:=a+b
def C4(a b:Rat):Rat:=a-b
def D5(a b:Rat):Rat:=a*b
def I3(a b:Rat):Rat:=a/b
def K5(a:Rat):Rat:=-a
def Z7(a:Rat):Rat:=a.abs
def C2(n:Int):Rat:=(n:Rat)
def nz(d:Int):Bool:=decide (d≠0)
def nzq(q:Rat):Bool:=decide (q≠0)
def K3(n d:Int):Rat:=Rat.divInt n d
theorem A6J(n:Int):(C2 n).num=n:=Rat.num_intCast n
theorem A5j(n:Int):(C2 n).den=1:=Rat.den_intCast n
theorem A05(n:Int)(h0 : -9223372036854775808<=n)(h1:n<=9223372036854775807)(w:World):Calls Tryz.prog 48 #[.int .i64 n] w λe w'=>e = .returned (qV (C2 n))/\A4 w w':=by
 go_enter Tryz.func48,Tryz.ntmps48;refine en1 ?_;intro u hG b2 hB hF;refine B9o (rsC A8 [0,1,0] hB hG λK L hN hL=>?_);refine gs ?_;refine gmw (C:=λv=>B7m _ (by assumption) (by assumption) _) ?_;refine gs ?_;refine geC hL ?_;clear hB hG hL L;rintro u ⟨-,hB,hG,-⟩;refine gtT ?_;clear hN K;refine st hB hF hG 0 0 [_,_,_,_,_] ?_;clear hB hG;intro u hB hG;refine rt Tryz.results48 ?_;exact⟨A1x (d:=1) (A6J n) (A5j n),hG⟩
theorem A6A(n d:Int)(h:¬d<0):K3 n d=mkRat n d.natAbs:=by
 obtain⟨m,rfl⟩:∃m:Nat,d=(m:Int):=⟨d.natAbs,by omega⟩
 unfold K3;rw[Rat.divInt_ofNat,C0v]
theorem A53(n d:Int)(h:d<0):K3 n d=mkRat (A0k n) d.natAbs:=by
 obtain⟨m,rfl⟩:∃m:Nat,d = -(m:Int):=⟨d.natAbs,by omega⟩
 unfold K3 A0k;rw[Rat.divInt_neg',Rat.divInt_ofNat,C0u,C0v]
theorem B7V(z:Int):bl (A0k z).natAbs=bl z.natAbs:=by unfold A0k;rw[C0u]
theorem A5N{p q:Rat}{a b:Bool}(h:p=q)(h':a=b):Ending.returned (.tuple #[qV p,.bool a]) = .returned (.tuple #[qV q,.bool b]):=by rw[h,h']
theorem B8f(n d:Int)(hn:bl n.natAbs<=BIG)(hd:bl d.natAbs<=BIG)(w:World)(HT:Tab w):Calls Tryz.prog 64 #[E5 n,E5 d] w λe w'=>e = .returned (.tuple #[qV (K3 n d),.bool (nz d)])/\A4 w w':=by
 have hn':=S6 hn;have hd':=S6 hd;have hz:bl (A0k n).natAbs<=BIG:=by rw[B7V];exact hn
 go_enter Tryz.func64,Tryz.ntmps64;refine en3 ?_;intro u hG b4 b3 b2 hB hF;refine B9o ?_;refine B9o (rsE A8 [0,1,0] hB hG λL hL=>?_);refine gs ?_;refine gmw (C:=λv=>A3v _ (by assumption) _) ?_;refine gs ?_;refine geT hL ?_;clear hB hG hL L;rintro u ⟨-,hB,hG,-⟩;refine C0Z rfl ?_ ?_
 ·intro ht;have ht8:=ht;refine r0T ?_;refine st hB hF hG 2 0 [_,_,_,_,_] ?_;clear hB hG;intro u hB hG;refine rt Tryz.results64 ?_;have e:d=0:=by simpa using ht
  subst e;exact⟨A5N (p:=0) (by unfold K3;rw[Rat.divInt_zero]) rfl,hG⟩
 ·intro ht;have ht8:=ht;have hd0:d.natAbs≠0:=λe=>by
   have:d=0:=by omega
   rw[this]at ht;simp at ht
  refine B9v ?_;refine A6 ?_;refine B9o ?_;refine B9o (rsE A8 [0,1,0] hB hG λL hL=>?_);refine gs ?_;refine gmw (C:=λv=>A3v _ (by assumption) _) ?_;refine gs ?_;refine geT hL ?_;clear hB hG hL L;rintro u ⟨-,hB,hG,-⟩;refine C0Z rfl ?_ ?_
  ·intro ht;have ht12:=ht;refine rsC A8 [0,1] hB hG λK L hN hL=>?_;refine gs ?_;refine gmw (C:=λv=>A9H _ (by assumption) _) ?_;refine geC hL ?_;clear hB hG hL L;rintro u ⟨-,hB,hG,-⟩;refine gtT ?_;clear hN K;refine st hB hF hG 0 0 [_,_,_] ?_;clear hB hG;intro u hB hG;refine B9o (rdC A8 [] [(0,0),(0,1),(1,2),(1,3)] hB hG λK L hN hL=>?_);refine gs ?_;refine gmw (C:=λv=>A2g _ _) ?_;refine gmd (C:=λv ⟨hgu,hB,hG,_⟩=>A9E _ _ (by assumption) (by assumption) (by assumption) _ (HT.grow hG)) ?_;refine geC hL ?_;clear hB hG hL L;rintro u ⟨-,hB,hG,-⟩;refine gtT ?_;clear hN K;refine st hB hF hG 2 0 [_,_,_,_,_] ?_;clear hB hG;intro u hB hG;refine rt Tryz.results64 ?_;have e:d<0:=by simpa using ht
   exact⟨A5N (A53 n d e).symm (C0Y (by omega)).symm,hG⟩
  ·intro ht;have ht12:=ht;refine B9v ?_;refine A6 ?_;refine B9o (rdC A8 [] [(0,0),(0,1),(1,2),(1,3)] hB hG λK L hN hL=>?_);refine gs ?_;refine gmw (C:=λv=>A2g _ _) ?_;refine gmd (C:=λv ⟨hgu,hB,hG,_⟩=>A9E _ _ (by assumption) (by assumption) (by assumption) _ (HT.grow hG)) ?_;refine geC hL ?_;clear hB hG hL L;rintro u ⟨-,hB,hG,-⟩;refine gtT ?_;clear hN K;refine st hB hF hG 2 0 [_,_,_,_,_] ?_;clear hB hG;intro u hB hG;refine rt Tryz.results64 ?_;have e:¬d<0:=by simpa using ht
   exact⟨A5N (A6A n d e).symm (C0Y (by omega)).symm,hG⟩
theorem A9M{n:Int}(h0 : -9223372036854775808<=n)(h1:n<=9223372036854775807):bl n.natAbs<=BIG:=by
 refine B9l (R0.2 ?_) A6s;have:(2:Nat)^64=18446744073709551616:=rfl;omega
theorem A6c(q:Rat)(h:bl q.num.natAbs<=1099511627776)(w:World):Calls Tryz.prog 97 #[qV q] w λe w'=>e = .returned (qV (K5 q))/\A4 w w':=by
 go_enter Tryz.func97,Tryz.ntmps97;refine en2 ?_;intro u hG b2 b1 hB hF;refine B9o (rdC A8 [] [(0,0),(0,1),(0,3),(0,4),(1,2),(0,5)] hB hG λK L hN hL=>?_);refine gs ?_;refine gmw (C:=λv=>A9H _ (by assumption) _) ?_;refine gs ?_;refine geC hL ?_;clear hB hG hL L;rintro u ⟨-,hB,hG,-⟩;refine gtT ?_;clear hN K;refine st hB hF hG 1 0 [_,_,_,_,_] ?_;clear hB hG;intro u hB hG;refine rt Tryz.results97 ?_;exact⟨A1x (Rat.neg_num q) (Rat.neg_den q),hG⟩
theorem A9b(q:Rat):q.abs.num=sgn false q.num.natAbs:=by
 rw[A9n];by_cases h:0<=q
 ·rw[Rat.abs_of_nonneg h];have:=Rat.num_nonneg.2 h;omega
 ·have h':q<=0:=by rcases C01 (a:=0) (b:=q)with h1|h1;exact absurd h1 h;exact h1
  rw[Rat.abs_of_nonpos h',Rat.neg_num];have:¬0<=q.num:=λh2=>h (Rat.num_nonneg.1 h2);omega
theorem A7Z(q:Rat):q.abs.den=q.den:=by
 by_cases h:0<=q
 ·rw[Rat.abs_of_nonneg h]
 ·have h':q<=0:=by rcases C01 (a:=0) (b:=q)with h1|h1;exact absurd h1 h;exact h1
  rw[Rat.abs_of_nonpos h',Rat.neg_den]
theorem B7A(q:Rat)(h:bl q.num.natAbs<=1099511627776)(w:World):Calls Tryz.prog 54 #[qV q] w λe w'=>e = .returned (qV (Z7 q))/\A4 w w':=by
 go_enter Tryz.func54,Tryz.ntmps54;refine en2 ?_;intro u hG b2 b1 hB hF;refine B9o (rdC A8 [] [(0,0),(0,1),(0,4),(0,5),(1,2),(1,3),(0,6)] hB hG λK L hN hL=>?_);refine gs ?_;refine gmw (C:=λv=>A2g _ _) ?_;refine gmw (C:=λv=>T6 _ _ (by assumption) _) ?_;refine gs ?_;refine geC hL ?_;clear hB hG hL L;rintro u ⟨-,hB,hG,-⟩;refine gtT ?_;clear hN K;refine st hB hF hG 1 0 [_,_,_,_,_] ?_;clear hB hG;intro u hB hG;refine rt Tryz.results54 ?_;exact⟨A1x (A9b q) (A7Z q),hG⟩
theorem A0v(q:Rat)(h:bl q.den<=1099511627776)(h1:q.den=1)(w:World):Calls Tryz.prog 81 #[qV q] w λe w'=>e = .returned (.bool true)/\A4 w w':=by
 have:=A50 q h w;rw[C0Y h1]at this;exact this
theorem A0x(q:Rat)(h:bl q.den<=1099511627776)(h1:¬q.den=1)(w:World):Calls Tryz.prog 81 #[qV q] w λe w'=>e = .returned (.bool false)/\A4 w w':=by
 have:=A50 q h w;rw[C0d h1]at this;exact this
section
variable (a b:Rat) (w:World)
theorem B61(h:qs a+qs b+1<=BIG)(ha1:a.den=1)(hb1:b.den=1):Calls Tryz.prog 30 #[qV a,qV b] w λe w'=>e = .returned (.int .i64 (H6 a b))/\A4 w w':=by
 have hB40:=M6;have h1:bl a.num.natAbs<=1099511627776:=by have:=I0 a;omega
 have h2:bl b.num.natAbs<=1099511627776:=by have:=I0 b;omega
 have h3:bl a.den<=1099511627776:=by have:=J4 a;omega
 have h4:bl b.den<=1099511627776:=by have:=J4 b;omega
 have Ha1:=B9t ha1;have Hb1:=B9t hb1;clear ha1 hb1;go_enter Tryz.func30,Tryz.ntmps30;refine en2 ?_;intro u hG b3 b2 hB hF;refine B9o ?_;refine B9o (rdC A8 [] [(0,0),(1,1),(0,2),(0,3),(1,4),(0,5),(0,6),(0,7),(0,9),(1,8),(1,10),(0,11)] hB hG λK L hN hL=>?_);refine gs ?_;refine gmw (C:=λv=>A0v a h3 Ha1.out _) ?_;refine gs ?_
 first|refine gmw (C:=λv=>A0v b h4 Hb1.out _) ?_|refine N0 ?_
 refine gs ?_
 first|refine gmw (C:=λv=>S8 _ (by assumption) _) ?_|refine N0 ?_
 first|refine gmw (C:=λv=>S8 _ (by assumption) _) ?_|refine N0 ?_
 refine gs ?_;refine geC hL ?_;clear hB hG hL L;rintro u ⟨-,hB,hG,-⟩;refine gtT ?_;clear hN K;refine B9w (rfl) ?_;refine B9o (rsE A8 [0,0,0,0,1,0] hB hG λL hL=>?_);refine gs ?_;refine gmw (C:=λv=>A3T _ _ (by assumption) (by assumption) _) ?_;refine gs ?_;refine geT hL ?_;clear hB hG hL L;rintro u ⟨-,hB,hG,-⟩;refine rt Tryz.results30 ?_;exact⟨N8 (B35 Ha1.out Hb1.out).symm,hG⟩
theorem B42(h:qs a+qs b+1<=BIG)(ha1:a.den=1)(hb1:¬b.den=1):Calls Tryz.prog 30 #[qV a,qV b] w λe w'=>e = .returned (.int .i64 (H6 a b))/\A4 w w':=by
 have hB40:=M6;have h1:bl a.num.natAbs<=1099511627776:=by have:=I0 a;omega
 have h2:bl b.num.natAbs<=1099511627776:=by have:=I0 b;omega
 have h3:bl a.den<=1099511627776:=by have:=J4 a;omega
 have h4:bl b.den<=1099511627776:=by have:=J4 b;omega
 have h5:bl a.num.natAbs+bl b.den<=1099511627776:=by have:=I0 a;have:=J4 b;omega
 have h6:bl b.num.natAbs+bl a.den<=1099511627776:=by have:=I0 b;have:=J4 a;omega
 have h7:bl (ztm a.num b.den).natAbs<=1099511627776:=by unfold ztm;rw[C0y];exact B9l (W6 _ _) h5
 have h8:bl (ztm b.num a.den).natAbs<=1099511627776:=by unfold ztm;rw[C0y];exact B9l (W6 _ _) h6
 have Ha1:=B9t ha1;have Hb1:=B9t hb1;clear ha1 hb1;go_enter Tryz.func30,Tryz.ntmps30;refine en2 ?_;intro u hG b3 b2 hB hF;refine B9o ?_;refine B9o (rdC A8 [] [(0,0),(1,1),(0,2),(0,3),(1,4),(0,5),(0,6),(0,7),(0,9),(1,8),(1,10),(0,11)] hB hG λK L hN hL=>?_);refine gs ?_;refine gmw (C:=λv=>A0v a h3 Ha1.out _) ?_;refine gs ?_
 first|refine gmw (C:=λv=>A0x b h4 Hb1.out _) ?_|refine N0 ?_
 refine gs ?_
 first|refine gmw (C:=λv=>S8 _ (by assumption) _) ?_|refine N0 ?_
 first|refine gmw (C:=λv=>S8 _ (by assumption) _) ?_|refine N0 ?_
 refine gs ?_;refine geC hL ?_;clear hB hG hL L;rintro u ⟨-,hB,hG,-⟩;refine gtT ?_;clear hN K;refine C0Z rfl ?_ ?_
 ·intro ht;have ht17:=ht;refine B9o (rsE A8 [0,0,0,0,1,0] hB hG λL hL=>?_);refine gs ?_;refine gmw (C:=λv=>A3T _ _ (by assumption) (by assumption) _) ?_;refine gs ?_;refine geT hL ?_;clear hB hG hL L;rintro u ⟨-,hB,hG,-⟩;refine rt Tryz.results30 ?_;exact⟨N8 (A9K (by simpa using ht)).symm,hG⟩
 ·intro ht;have ht17:=ht;refine B9v ?_;refine A6 ?_;refine B9o (rdC A8 [] [(0,0),(0,1),(0,2),(0,5),(0,6),(0,7),(1,3),(1,4),(1,8),(1,9),(1,10)] hB hG λK L hN hL=>?_);refine gs ?_;refine gmw (C:=λv=>X8 _ (by assumption) _) ?_;refine gmw (C:=λv=>A2w _ _ (by assumption) _) ?_;refine gmw (C:=λv=>X8 _ (by assumption) _) ?_;refine gmw (C:=λv=>A2w _ _ (by assumption) _) ?_;refine gmw (C:=λv=>A3T _ _ (by assumption) (by assumption) _) ?_;refine geC hL ?_;clear hB hG hL L;rintro u ⟨-,hB,hG,-⟩;refine gtT ?_;clear hN K;refine rt Tryz.results30 ?_;exact⟨N8 (A5V a b).symm,hG⟩
theorem B8x(h:qs a+qs b+1<=BIG)(ha1:¬a.den=1):Calls Tryz.prog 30 #[qV a,qV b] w λe w'=>e = .returned (.int .i64 (H6 a b))/\A4 w w':=by
 have hB40:=M6;have h1:bl a.num.natAbs<=1099511627776:=by have:=I0 a;omega
 have h2:bl b.num.natAbs<=1099511627776:=by have:=I0 b;omega
 have h3:bl a.den<=1099511627776:=by have:=J4 a;omega
 have h4:bl b.den<=1099511627776:=by have:=J4 b;omega
 have h5:bl a.num.natAbs+bl b.den<=1099511627776:=by have:=I0 a;have:=J4 b;omega
 have h6:bl b.num.natAbs+bl a.den<=1099511627776:=by have:=I0 b;have:=J4 a;omega
 have h7:bl (ztm a.num b.den).natAbs<=1099511627776:=by unfold ztm;rw[C0y];exact B9l (W6 _ _) h5
 have h8:bl (ztm b.num a.den).natAbs<=1099511627776:=by unfold ztm;rw[C0y];exact B9l (W6 _ _) h6
 have Ha1:=B9t ha1;clear ha1;go_enter Tryz.func30,Tryz.ntmps30;refine en2 ?_;intro u hG b3 b2 hB hF;refine B9o ?_;refine B9o (rdC A8 [] [(0,0),(1,1),(0,2),(0,3),(1,4),(0,5),(0,6),(0,7),(0,9),(1,8),(1,10),(0,11)] hB hG λK L hN hL=>?_);refine gs ?_;refine gmw (C:=λv=>A0x a h3 Ha1.out _) ?_;refine gs ?_
 first|refine gmw (C:=λv=>A0x a h3 Ha1.out _) ?_|refine N0 ?_
 refine gs ?_
 first|refine gmw (C:=λv=>S8 _ (by assumption) _) ?_|refine N0 ?_
 first|refine gmw (C:=λv=>S8 _ (by assumption) _) ?_|refine N0 ?_
 refine gs ?_;refine geC hL ?_;clear hB hG hL L;rintro u ⟨-,hB,hG,-⟩;refine gtT ?_;clear hN K;refine C0Z rfl ?_ ?_
 ·intro ht;have ht17:=ht;refine B9o (rsE A8 [0,0,0,0,1,0] hB hG λL hL=>?_);refine gs ?_;refine gmw (C:=λv=>A3T _ _ (by assumption) (by assumption) _) ?_;refine gs ?_;refine geT hL ?_;clear hB hG hL L;rintro u ⟨-,hB,hG,-⟩;refine rt Tryz.results30 ?_;exact⟨N8 (A9K (by simpa using ht)).symm,hG⟩
 ·intro ht;have ht17:=ht;refine B9v ?_;refine A6 ?_;refine B9o (rdC A8 [] [(0,0),(0,1),(0,2),(0,5),(0,6),(0,7),(1,3),(1,4),(1,8),(1,9),(1,10)] hB hG λK L hN hL=>?_);refine gs ?_;refine gmw (C:=λv=>X8 _ (by assumption) _) ?_;refine gmw (C:=λv=>A2w _ _ (by assumption) _) ?_;refine gmw (C:=λv=>X8 _ (by assumption) _) ?_;refine gmw (C:=λv=>A2w _ _ (by assumption) _) ?_;refine gmw (C:=λv=>A3T _ _ (by assumption) (by assumption) _) ?_;refine geC hL ?_;clear hB hG hL L;rintro u ⟨-,hB,hG,-⟩;refine gtT ?_;clear hN K;refine rt Tryz.results30 ?_;exact⟨N8 (A5V a b).symm,hG⟩
theorem A1A(h:qs a+qs b+1<=BIG):Calls Tryz.prog 30 #[qV a,qV b] w λe w'=>e = .returned (.int .i64 (H6 a b))/\A4 w w':=by
 by_cases ha1:a.den=1
 ·by_cases hb1:b.den=1
  ·exact B61 a b w h ha1 hb1
  ·exact B42 a b w h ha1 hb1
 ·exact B8x a b w h ha1
theorem A4z(q:Rat)(h:q.den=1):q=(q.num:Rat):=Rat.ext (Rat.num_intCast _).symm (by rw[h];exact(Rat.den_intCast _).symm)
theorem B7T(h:qs a+qs b+1<=BIG)(ha1:a.den=1)(hb1:b.den=1):Calls Tryz.prog 95 #[qV a,qV b] w λe w'=>e = .returned (qV (H9 a b))/\A4 w w':=by
 have hB40:=M6;have h1:bl a.num.natAbs<1099511627776:=by have:=I0 a;omega
 have h2:bl b.num.natAbs<1099511627776:=by have:=I0 b;have:=B6A a;omega
 have h3:bl a.den<=1099511627776:=by have:=J4 a;omega
 have h4:bl b.den<=1099511627776:=by have:=J4 b;omega
 have e:H9 a b=((a.num+b.num:Int):Rat):=by
  unfold H9;rw[Rat.intCast_add,<-A4z a ha1,<-A4z b hb1]
 have e1:(H9 a b).num=A2i a.num b.num:=by rw[e,Rat.num_intCast];rfl
 have e2:(H9 a b).den=1:=by rw[e,Rat.den_intCast]
 have He:=B9t (And.intro e1 e2);clear e e1 e2;have Ha1:=B9t ha1;have Hb1:=B9t hb1;clear ha1 hb1;go_enter Tryz.func95,Tryz.ntmps95;refine en3 ?_;intro u hG b4 b3 b2 hB hF;refine B9o ?_;refine B9o (rsE A8 [0,1,0,0,1,0] hB hG λL hL=>?_);refine gs ?_;refine gmw (C:=λv=>A0v a h3 Ha1.out _) ?_;refine gs ?_
 first|refine gmw (C:=λv=>A0v b h4 Hb1.out _) ?_|refine N0 ?_
 refine gs ?_;refine geT hL ?_;clear hB hG hL L;rintro u ⟨-,hB,hG,-⟩;refine B9w (rfl) ?_;refine B9o (rsC A8 [0,0,0,0,1,0] hB hG λK L hN hL=>?_);refine gs ?_;refine gmw (C:=λv=>A9l _ _ (by assumption) (by assumption) _) ?_;refine gs ?_;refine geC hL ?_;clear hB hG hL L;rintro u ⟨-,hB,hG,-⟩;refine gtT ?_;clear hN K;refine st hB hF hG 2 0 [_,_,_,_,_] ?_;clear hB hG;intro u hB hG;refine rt Tryz.results95 ?_;exact⟨A1x He.out.1 He.out.2,hG⟩
theorem B6X(h:qs a+qs b+1<=BIG):bl (Nat.gcd a.den b.den)<=BIG/\Nat.gcd a.den b.den≠0/\bl a.den<=BIG/\bl b.den<=BIG/\bl a.num.natAbs+bl (b.den/Nat.gcd a.den b.den)<=1099511627776/\bl b.num.natAbs+bl (a.den/Nat.gcd a.den b.den)<=1099511627776 /\
  bl (ztm a.num (b.den/Nat.gcd a.den b.den)).natAbs<1099511627776/\bl (ztm b.num (a.den/Nat.gcd a.den b.den)).natAbs<1099511627776/\bl (A2i (ztm a.num (b.den/Nat.gcd a.den b.den)) (ztm b.num (a.den/Nat.gcd a.den b.den))).natAbs<=BIG /\
  bl (Nat.gcd (A2i (ztm a.num (b.den/Nat.gcd a.den b.den)) (ztm b.num (a.den/Nat.gcd a.den b.den))).natAbs (Nat.gcd a.den b.den))<=BIG/\Nat.gcd (A2i (ztm a.num (b.den/Nat.gcd a.den b.den)) (ztm b.num (a.den/Nat.gcd a.den b.den))).natAbs (Nat.gcd a.den b.den)≠0:=by
 have hB40:=M6;have s1:=I0 a;have s2:=J4 a;have s3:=I0 b;have s4:=J4 b;have s5:=P9 b.den (Nat.gcd a.den b.den);have s6:=P9 a.den (Nat.gcd a.den b.den);have g0:Nat.gcd a.den b.den≠0:=λe=>a.den_nz (C0n e);have g1:=B6I a.den b.den a.den_nz;have up:bl (A0p a b).natAbs<=qs a+qs b+1:=A7y a b;have m1:bl (ztm a.num (b.den/Nat.gcd a.den b.den)).natAbs<=bl a.num.natAbs+bl (b.den/Nat.gcd a.den b.den):=by unfold ztm;rw[C0y];exact W6 _ _
 have m2:bl (ztm b.num (a.den/Nat.gcd a.den b.den)).natAbs<=bl b.num.natAbs+bl (a.den/Nat.gcd a.den b.den):=by unfold ztm;rw[C0y];exact W6 _ _
 refine⟨by omega,g0,by omega,by omega,by omega,by omega,by omega,by omega,B9l up h,B9l (A5P _ _ g0) (by omega),λe=>g0 (C00 e)⟩
end
end Go.Proofs.YtgpglgbcobeogaaGreatDoor
