import Derived.Test.YtgpglgbcobeogaaGreatDoorL16
set_option linter.unusedSimpArgs false
set_option linter.unusedVariables false
set_option maxHeartbeats 2000000
set_option maxRecDepth 100000
namespace Go.Proofs.YtgpglgbcobeogaaGreatDoor
abbrev nqV(n:Int)(d:Nat):Value:=.agg #[.bool (F9 n),.int .u64 (C4 n.natAbs),.string (B8 n.natAbs),.int .u64 (C4 (U5 d)),.string (B8 (U5 d))]
theorem B10:U5 1=0:=rfl
theorem A6U{d:Nat}(h:d≠1):U5 d=d:=if_neg h
theorem A9r{n:Int}{d:Nat}{q:Rat}(h1:q.num=n)(h2:q.den=d):nqV n d=qV q:=by subst h1;subst h2;rfl
theorem A5c(n:Int)(b:Nat):sgn (F9 n) (n.natAbs/b)=n.tdiv b:=by
 unfold sgn F9;by_cases h:n<0
 ·rw[if_pos (B87 h)];obtain⟨m,rfl⟩:∃m:Nat,n = -(m:Int):=⟨n.natAbs,by omega⟩
  rw[Int.neg_tdiv,B9T,B9U,Int.ofNat_tdiv]
 ·rw[if_neg (by simpa using h)];obtain⟨m,rfl⟩:∃m:Nat,n=(m:Int):=⟨n.natAbs,by omega⟩
  rw[B9U,Int.ofNat_tdiv]
theorem A7A(a b:Rat):(a*b).num=a.num.tdiv (Nat.gcd a.num.natAbs b.den)*b.num.tdiv (Nat.gcd b.num.natAbs a.den):=by
 show(Rat.mul a b).num=_;unfold Rat.mul;simp only[Int.divExact_eq_tdiv]
theorem A95(a b:Rat):(a*b).den=a.den/Nat.gcd b.num.natAbs a.den*(b.den/Nat.gcd a.num.natAbs b.den):=by
 show(Rat.mul a b).den=_;unfold Rat.mul;simp only[Nat.divExact_eq_div]
def A0V(a b:Rat):Int:=a.num*((b.den/Nat.gcd a.den b.den:Nat):Int)+b.num*((a.den/Nat.gcd a.den b.den:Nat):Int)
def hOf(a b:Rat):Nat:=Nat.gcd (A0V a b).natAbs (Nat.gcd a.den b.den)
theorem A90(a b:Rat)(h:a.den/Nat.gcd a.den b.den*b.den≠0):a+b=Rat.normalize (A0V a b) (a.den/Nat.gcd a.den b.den*b.den) h:=by
 rw[Rat.add_def];have hg:Nat.gcd a.den b.den≠0:=λh0=>a.den_nz (B9M h0);obtain⟨x,hx⟩:=Nat.gcd_dvd_left a.den b.den;obtain⟨y,hy⟩:=Nat.gcd_dvd_right a.den b.den;have hxd:a.den/Nat.gcd a.den b.den=x:=Nat.div_eq_of_eq_mul_right (B81 hg) hx;have hyd:b.den/Nat.gcd a.den b.den=y:=Nat.div_eq_of_eq_mul_right (B81 hg) hy;rw[<-Rat.normalize_mul_right (a:=Nat.gcd a.den b.den) h hg];congr 1
 ·unfold A0V;rw[hxd,hyd];generalize Nat.gcd a.den b.den=g at *;rw[hx,hy]
  push_cast
  grind
 ·rw[hxd];generalize Nat.gcd a.den b.den=g at *;rw[hx];grind
theorem A9C(a b:Rat):hOf a b=Nat.gcd (A0V a b).natAbs (a.den/Nat.gcd a.den b.den*b.den):=Rat.add.aux a b rfl rfl rfl
theorem A8H(a b:Rat):a.den/Nat.gcd a.den b.den*b.den≠0:=by
 have h1:=Nat.div_gcd_pos_of_pos_left b.den a.den_pos;have h2:=b.den_pos;exact B9V (B8n h1 h2)
theorem A8S(a b:Rat):(a+b).num=(A0V a b).tdiv (hOf a b):=by
 rw[A90 a b (A8H a b),Rat.num_normalize,<-A9C];refine(Int.tdiv_eq_ediv_of_dvd ?_).symm;exact Int.ofNat_dvd_left.2 (Nat.gcd_dvd_left _ _)
theorem A7w(a b:Rat):(a+b).den=a.den/Nat.gcd a.den b.den*(b.den/hOf a b):=by
 rw[A90 a b (A8H a b),Rat.den_normalize,<-A9C];exact Nat.mul_div_assoc _ (Nat.dvd_trans (Nat.gcd_dvd_right _ _) (Nat.gcd_dvd_right _ _))
theorem A5q(n:Int)(d:Nat)(h:d≠0):(mkRat n d).num=n.tdiv (Nat.gcd n.natAbs d):=by
 rw[<-Rat.normalize_eq_mkRat h,Rat.num_normalize];exact(Int.tdiv_eq_ediv_of_dvd (Int.ofNat_dvd_left.2 (Nat.gcd_dvd_left _ _))).symm
theorem A5f(n:Int)(d:Nat)(h:d≠0):(mkRat n d).den=d/Nat.gcd n.natAbs d:=by
 rw[<-Rat.normalize_eq_mkRat h,Rat.den_normalize]
def J9(a b:Rat):Int:=if a<b then -1 else if b<a then 1 else 0
theorem A3F(a b:Rat):J9 a b=O4 (a.num*b.den) (b.num*a.den):=by
 unfold J9 O4;simp only[Rat.lt_iff]
theorem B4w{a b:Rat}(ha:a.den=1)(hb:b.den=1):J9 a b=O4 a.num b.num:=by
 rw[A3F,ha,hb];simp
theorem A88{a b:Rat}(h:a.num.sign≠b.num.sign):J9 a b=O4 a.num b.num:=by
 rw[A3F];have h1:=a.den_pos;have h2:=b.den_pos;generalize a.num=x at *;generalize b.num=y at *;generalize a.den=p at *;generalize b.den=q at *;have hx:(x*(q:Int)).sign=x.sign:=by rw[Int.sign_mul,B9B (a:=(q:Int)) (by omega),Int.mul_one]
 have hy:(y*(p:Int)).sign=y.sign:=by rw[Int.sign_mul,B9B (a:=(p:Int)) (by omega),Int.mul_one]
 rw[<-hx,<-hy]at h;have key:∀u v:Int,u.sign≠v.sign->O4 u v=O4 u.sign v.sign:=by
  intro u v huv;unfold O4
  rcases B9W u 0 with hu|hu|hu<;>rcases B9W v 0 with hv|hv|hv <;>
   (first|(rw[B89 hu]at huv⊢)|(rw[hu,Int.sign_zero]at huv⊢)|(rw[B9B hu]at huv⊢)) <;>
   (first|(rw[B89 hv]at huv⊢)|(rw[hv,Int.sign_zero]at huv⊢)|(rw[B9B hv]at huv⊢)) <;>
   first|(exact absurd rfl huv)|(split<;>(try split)<;>simp<;>omega)
 rw[key _ _ h,hx,hy];rw[hx,hy]at h;exact(key _ _ h).symm
def qs(q:Rat):Nat:=max (bl q.num.natAbs) (bl q.den)
theorem G6(q:Rat):bl q.num.natAbs<=qs q:=Nat.le_max_left _ _
theorem H3(q:Rat):bl q.den<=qs q:=Nat.le_max_right _ _
theorem A3j(n:Int)(g:Nat):(n.tdiv g).natAbs<=n.natAbs:=by
 rw[Int.natAbs_tdiv];exact B8P _ _
theorem Y4(a b:Rat):qs (a*b)<=qs a+qs b:=by
 refine Nat.max_le.2 ⟨?_,?_⟩
 ·rw[A7A,B9X];refine B8K (Q5 _ _) ?_;have h1:=S8 (A3j a.num (Nat.gcd a.num.natAbs b.den));have h2:=S8 (A3j b.num (Nat.gcd b.num.natAbs a.den));have:=G6 a;have:=G6 b;omega
 ·rw[A95];refine B8K (Q5 _ _) ?_;have h1:=O6 a.den (Nat.gcd b.num.natAbs a.den);have h2:=O6 b.den (Nat.gcd a.num.natAbs b.den);have:=H3 a;have:=H3 b;omega
theorem B0D(a b:Rat):bl (A0V a b).natAbs<=qs a+qs b+1:=by
 unfold A0V;have h1:=Q5 a.num.natAbs (b.den/Nat.gcd a.den b.den);have h2:=Q5 b.num.natAbs (a.den/Nat.gcd a.den b.den);have h3:=O6 b.den (Nat.gcd a.den b.den);have h4:=O6 a.den (Nat.gcd a.den b.den);have:=G6 a;have:=H3 a;have:=G6 b;have:=H3 b;refine B8K (S8 (Int.natAbs_add_le _ _)) ?_;rw[B9X,B9X,B9U,B9U];refine B8K (A6S _ _) ?_;omega
theorem A2t(a b:Rat):qs (a+b)<=qs a+qs b+1:=by
 refine Nat.max_le.2 ⟨?_,?_⟩
 ·rw[A8S];exact B8K (S8 (A3j _ _)) (B0D a b)
 ·rw[A7w];refine B8K (Q5 _ _) ?_;have h1:=O6 a.den (Nat.gcd a.den b.den);have h2:=O6 b.den (hOf a b);have:=H3 a;have:=H3 b;omega
theorem A3Y(a:Rat):qs (-a)=qs a:=by
 unfold qs;rw[Rat.neg_num,Rat.neg_den,B9T]
theorem A28(a b:Rat):qs (a-b)<=qs a+qs b+1:=by
 rw[Rat.sub_eq_add_neg];have:=A2t a (-b);rw[A3Y]at this;exact this
theorem A7F(a:Rat)(h:a≠0):qs a⁻¹=qs a:=by
 have h0:a.num≠0:=λe=>h (Rat.num_eq_zero.1 e);unfold qs;rw[Rat.num_inv,Rat.den_inv,if_neg h0,B9X,B9U,Int.natAbs_sign_of_ne_zero h0,B9Y,Nat.max_comm]
theorem A6n(a b:Rat):qs (a/b)<=qs a+qs b:=by
 by_cases h:b=0
 ·subst h;have:a/0=0:=by rw[Rat.div_def,Rat.inv_zero,Rat.mul_zero]
  rw[this];have h0:qs 0=1:=by show max (bl 0) (bl 1)=1;rw[A1B,A3R.2 rfl];rfl
  have:0<bl a.den:=U9.2 a.den_nz;have:=H3 a;omega
 ·rw[Rat.div_def,<-A7F b h];exact Y4 _ _
theorem B05(a:Rat):1<=qs a:=by
 have:0<bl a.den:=U9.2 a.den_nz;have:=H3 a;omega
theorem B4E(n:Int)(k:Nat)(h:n.natAbs<2^k)(hk:1<=k):qs (n:Rat)<=k:=by
 refine Nat.max_le.2 ⟨?_,?_⟩
 ·rw[Rat.num_intCast];exact R6.2 h
 ·rw[Rat.den_intCast];exact B8K (by decide) hk
end Go.Proofs.YtgpglgbcobeogaaGreatDoor
namespace Go.Proofs.YtgpglgbcobeogaaGreatDoor
open Go.RowKit
theorem B49{p q:Rat}(h:p=q):Ending.returned (qV p) = .returned (qV q):=by rw[h]
theorem A1P{n:Int}{d:Nat}{q:Rat}(h1:q.num=n)(h2:q.den=d):Ending.returned (nqV n d) = .returned (qV q):=by rw[A9r h1 h2]
theorem A6v{a b:Nat}(h:a=b):Ending.returned (B5 a) = .returned (B5 b):=by rw[h]
theorem B0v{d:Nat}(h:bl d<=1099511627776):bl (U5 d)<=1099511627776:=by
 unfold U5;split
 ·rw[A1B];omega
 ·exact h
theorem A5y(q:Rat)(h:bl q.den<=1099511627776)(w:World):Calls Tryz.prog 81 #[qV q] w λe w'=>e = .returned (.bool (decide (q.den=1)))/\A4 w w':=by
 have hk:=B0v h;have hd:decide (q.den=1)=((bl (U5 q.den):Int) == 0):=by
  have h2:=q.den_pos;by_cases h1:q.den=1
  ·rw[h1,B10,A1B];rfl
  ·rw[A6U h1,B9C h1];have:bl q.den≠0:=λe=>by have:=A0J.1 e;omega
   symm
   simpa using this
 rw[hd];clear hd;go_enter Tryz.func81,Tryz.ntmps81;refine en1 ?_;intro u hG b1 hB hF;refine B8N (rsE A8 [0,0,1,0,0] hB hG λL hL=>?_);refine gs ?_;refine gmw (C:=λv=>Q6 _ (by assumption) _) ?_;refine gs ?_;refine geT hL ?_;clear hB hG hL L;rintro u ⟨-,hB,hG,-⟩;refine rt Tryz.results81 ?_;exact⟨rfl,hG⟩
theorem B24(w:World):Calls Tryz.prog 143 #[.int .u64 1] w λe w'=>e = .returned (B5 1)/\A4 w w':=A3L 1 (by unfold W64;omega) w
theorem W4(q:Rat)(h:bl q.den<=1099511627776)(w:World):Calls Tryz.prog 84 #[qV q] w λe w'=>e = .returned (B5 q.den)/\A4 w w':=by
 go_enter Tryz.func84,Tryz.ntmps84;refine en2 ?_;intro u hG b2 b1 hB hF;refine B8N ?_;refine B8N (rsE A8 [0,1] hB hG λL hL=>?_);refine gs ?_;refine gmw (C:=λv=>A5y _ (by assumption) _) ?_;refine geT hL ?_;clear hB hG hL L;rintro u ⟨-,hB,hG,-⟩;refine B88 rfl ?_ ?_
 ·intro ht;have ht4:=ht;refine B8N (rsC A8 [1] hB hG λK L hN hL=>?_);refine gmw (C:=λv=>B24 _) ?_;refine geC hL ?_;clear hB hG hL L;rintro u ⟨-,hB,hG,-⟩;refine gtT ?_;clear hN K;refine st hB hF hG 1 0 [_,_] ?_;clear hB hG;intro u hB hG;refine rt Tryz.results84 ?_;have e:q.den=1:=B86 ht;exact⟨A6v e.symm,hG⟩
 ·intro ht;have ht4:=ht;refine B8U ?_;refine A6 ?_;refine r0T ?_;refine st hB hF hG 1 0 [_,_] ?_;clear hB hG;intro u hB hG;refine rt Tryz.results84 ?_;have e:q.den≠1:=B9A ht;exact⟨A6v (A6U e),hG⟩
theorem B5k(q:Rat)(w:World):Calls Tryz.prog 151 #[qV q] w λe w'=>e = .returned (F0 q.num)/\A4 w w':=by
 go_enter Tryz.func151,Tryz.ntmps151;refine en2 ?_;intro u hG b2 b1 hB hF;refine r0T ?_;refine st hB hF hG 1 0 [_,_,_] ?_;clear hB hG;intro u hB hG;refine rt Tryz.results151 ?_;exact⟨rfl,hG⟩
theorem U4(q:Rat)(h:bl q.num.natAbs<=1099511627776)(w:World):Calls Tryz.prog 36 #[qV q] w λe w'=>e = .returned (.int .i64 q.num.sign)/\A4 w w':=by
 go_enter Tryz.func36,Tryz.ntmps36;refine en1 ?_;intro u hG b1 hB hF;refine B8N (rsE A8 [0,0,1,0] hB hG λL hL=>?_);refine gs ?_;refine gmw (C:=λv=>A3q _ (by assumption) _) ?_;refine gs ?_;refine geT hL ?_;clear hB hG hL L;rintro u ⟨-,hB,hG,-⟩;refine rt Tryz.results36 ?_;exact⟨rfl,hG⟩
theorem A4S(n:Int)(d:Nat)(h:bl d<=1099511627776)(w:World):Calls Tryz.prog 85 #[F0 n,B5 d] w λe w'=>e = .returned (nqV n d)/\A4 w w':=by
 go_enter Tryz.func85,Tryz.ntmps85;refine en3 ?_;intro u hG b4 b3 b2 hB hF;refine B8N ?_;refine B8N (rsE A8 [0,1,0] hB hG λL hL=>?_);refine gs ?_;refine gmw (C:=λv=>Q6 _ (by assumption) _) ?_;refine gs ?_;refine geT hL ?_;clear hB hG hL L;rintro u ⟨-,hB,hG,-⟩;refine B88 rfl ?_ ?_
 ·intro ht;have ht7:=ht;refine r0T ?_;refine st hB hF hG 2 0 [_,_,_,_,_] ?_;clear hB hG;intro u hB hG;refine rt Tryz.results85 ?_;have e:d=1:=A3R.1 (by simp at ht;omega);subst e;exact⟨rfl,hG⟩
 ·intro ht;have ht7:=ht;refine B8U ?_;refine A6 ?_;refine r0T ?_;refine st hB hF hG 2 0 [_,_,_,_,_] ?_;clear hB hG;intro u hB hG;refine rt Tryz.results85 ?_;have e:d≠1:=λe=>by
   have h2:=A3R.2 e;rw[h2]at ht;simp at ht
  exact⟨by rw[nqV,A6U e],hG⟩
theorem A2B(a b:Nat)(ha:bl a<=BIG)(hb:bl b<=BIG)(h0:b≠0)(w:World):Calls Tryz.prog 87 #[B5 a,B5 b] w λe w'=>e = .returned (B5 (a/b))/\A4 w w':=by
 have hb':=R7 hb;go_enter Tryz.func87,Tryz.ntmps87;refine en3 ?_;intro u hG b4 b3 b2 hB hF;refine B8N ?_;refine B8N (rsE A8 [0,1,0] hB hG λL hL=>?_);refine gs ?_;refine gmw (C:=λv=>Q6 _ (by assumption) _) ?_;refine gs ?_;refine geT hL ?_;clear hB hG hL L;rintro u ⟨-,hB,hG,-⟩;refine B88 rfl ?_ ?_
 ·intro ht;have ht10:=ht;refine r0T ?_;refine st hB hF hG 2 0 [_,_] ?_;clear hB hG;intro u hB hG;refine rt Tryz.results87 ?_;have e:b=1:=A3R.1 (by simp at ht;omega);exact⟨A6v (by rw[e,Nat.div_one]),hG⟩
 ·intro ht;have ht10:=ht;refine B8U ?_;refine A6 ?_;refine B8N (rsC A8 [0,0,1,0,0,0,0,2,2] hB hG λK L hN hL=>?_);refine gs ?_;refine gmw (C:=λv=>A3l _ _ (by assumption) (by assumption) (by assumption) _) ?_;refine gs ?_;refine gaa (M7 _ _ _ _ _) λb5 hb5 hn5=>?_;refine gaa (M7 _ _ _ _ _) λb6 hb6 hn6=>?_;replace hF:=hF.n1 [] hB hG hb5 hn5;replace hF:=hF.n1 [b5] hB hG hb6 hn6;refine geC hL ?_;clear hB hG hL L;rintro u ⟨⟨⟨-,hB,hG,-⟩,h5⟩,h6⟩;replace hB:=hB.cons' h5;replace hB:=hB.cons' h6;clear h5 h6;clear hb5 hn5 hb6 hn6;have hD:b5≠b6/\b6≠b5:=⟨hF.ne 1 0 rfl rfl (by decide),hF.ne 0 1 rfl rfl (by decide)⟩
  refine gtT ?_;clear hN K;clear hD;refine st2 hB hF hG 1 0 [_,_] 0 0 [_,_] ?_;clear hB hG;intro u hB hG;refine r0T ?_;refine st hB hF hG 4 0 [_,_] ?_;clear hB hG;intro u hB hG;refine rt Tryz.results87 ?_;exact⟨rfl,hG⟩
theorem A4u(n:Int)(b:Nat)(ha:bl n.natAbs<=BIG)(hb:bl b<=BIG)(h0:b≠0)(w:World):Calls Tryz.prog 86 #[F0 n,B5 b] w λe w'=>e = .returned (F0 (ztd n b))/\A4 w w':=by
 have ha':=R7 ha;have hd:bl (n.natAbs/b)<=1099511627776:=B8K (O6 _ _) ha';go_enter Tryz.func86,Tryz.ntmps86;refine en3 ?_;intro u hG b4 b3 b2 hB hF;refine B8N (rdC A8 [] [(0,0),(0,3),(0,5),(1,1),(0,2),(1,4),(1,6),(1,7)] hB hG λK L hN hL=>?_);refine gs ?_;refine gmw (C:=λv=>A3q _ (by assumption) _) ?_;refine gs ?_;refine gmw (C:=λv=>A2d _ _) ?_;refine gmw (C:=λv=>A2B _ _ (by assumption) (by assumption) (by assumption) _) ?_;refine gmw (C:=λv=>T8 _ _ (by assumption) _) ?_;refine geC hL ?_;clear hB hG hL L;rintro u ⟨-,hB,hG,-⟩;refine gtT ?_;clear hN K;refine st hB hF hG 2 0 [_,_,_] ?_;clear hB hG;intro u hB hG;refine rt Tryz.results86 ?_;exact⟨A1l (A5c n b),hG⟩
theorem A2P(n:Int)(d:Nat)(h:bl n.natAbs+bl d<=1099511627776)(w:World):Calls Tryz.prog 90 #[F0 n,B5 d] w λe w'=>e = .returned (F0 (ztm n d))/\A4 w w':=by
 have hd:bl d<=1099511627776:=by omega
 have h':bl n.natAbs+bl (sgn false d).natAbs<=1099511627776:=h;go_enter Tryz.func90,Tryz.ntmps90;refine en3 ?_;intro u hG b4 b3 b2 hB hF;refine B8N (rdC A8 [] [(0,0),(0,1),(1,2),(1,3)] hB hG λK L hN hL=>?_);refine gs ?_;refine gmw (C:=λv=>T8 _ _ (by assumption) _) ?_;refine gmw (C:=λv=>A5p _ _ (by assumption) _) ?_;refine geC hL ?_;clear hB hG hL L;rintro u ⟨-,hB,hG,-⟩;refine gtT ?_;clear hN K;refine st hB hF hG 2 0 [_,_,_] ?_;clear hB hG;intro u hB hG;refine rt Tryz.results90 ?_;exact⟨rfl,hG⟩
theorem A3K(n:Int)(d:Nat)(hn:bl n.natAbs<=BIG)(hd:bl d<=BIG)(w:World)(HT:Tab w):Calls Tryz.prog 83 #[F0 n,F0 (sgn false d)] w λe w'=>e = .returned (B5 (Nat.gcd n.natAbs d))/\A4 w w':=by
 have:=B4F n (sgn false d) hn (by rw[Q7];exact hd) w HT;rw[Q7]at this;exact this
theorem B1C(c d:Nat)(hc:bl c<=BIG)(hd:bl d<=BIG)(w:World)(HT:Tab w):Calls Tryz.prog 83 #[F0 (sgn false c),F0 (sgn false d)] w λe w'=>e = .returned (B5 (Nat.gcd c d))/\A4 w w':=by
 have:=A3K (sgn false c) d (by rw[Q7];exact hc) hd w HT;rw[Q7]at this;exact this
theorem A7W(n:Int)(d:Nat)(hn:bl n.natAbs<=BIG)(hd:bl d<=BIG)(h0:d≠0)(w:World)(HT:Tab w):Calls Tryz.prog 130 #[F0 n,B5 d] w λe w'=>e = .returned (qV (mkRat n d))/\A4 w w':=by
 have hd':=R7 hd;have hg:bl (Nat.gcd n.natAbs d)<=BIG:=B8K (A43 _ _ h0) hd;have hg0:Nat.gcd n.natAbs d≠0:=λe=>h0 (B9Z e);have hdd:bl (d/Nat.gcd n.natAbs d)<=1099511627776:=B8K (O6 _ _) hd';go_enter Tryz.func130,Tryz.ntmps130;refine en3 ?_;intro u hG b4 b3 b2 hB hF;refine B8N (rdC A8 [] [(0,0),(0,1),(1,2),(1,3),(2,4)] hB hG λK L hN hL=>?_);refine gs ?_;refine gmw (C:=λv=>T8 _ _ (by assumption) _) ?_;refine gmd (C:=λv ⟨hgu,hB,hG,_⟩=>A3K n d hn hd _ (HT.grow hG)) ?_;refine gaa (M7 _ _ _ _ _) λb5 hb5 hn5=>?_;replace hF:=hF.n1 [] hB hG hb5 hn5;refine geC hL ?_;clear hB hG hL L;rintro u ⟨⟨-,hB,hG,-⟩,h5⟩;replace hB:=hB.cons' h5;clear h5;clear hb5 hn5;refine gtT ?_;clear hN K;refine st hB hF hG 0 0 [_,_] ?_;clear hB hG;intro u hB hG;refine B8N (rdC A8 [] [(0,0),(0,1),(0,3),(0,4),(1,2),(1,5),(1,6)] hB hG λK L hN hL=>?_);refine gs ?_;refine gmw (C:=λv=>A4u n (Nat.gcd n.natAbs d) hn hg hg0 _) ?_;refine gmw (C:=λv=>A2B d (Nat.gcd n.natAbs d) hd hg hg0 _) ?_;refine gmw (C:=λv=>A4S _ _ (by assumption) _) ?_;refine geC hL ?_;clear hB hG hL L;rintro u ⟨-,hB,hG,-⟩;refine gtT ?_;clear hN K;refine st hB hF hG 3 0 [_,_,_,_,_] ?_;clear hB hG;intro u hB hG;refine rt Tryz.results130 ?_;exact⟨A1P (A5q n d h0) (A5f n d h0),hG⟩
def G9(a b:Rat):Rat:=a+b
def G0(a b:Rat):Rat:=a-b
def C3(a b:Rat):Rat:=a*b
def Q9(a b:Rat):Rat:=a/b
def K4(a:Rat):Rat:=-a
def T0(a:Rat):Rat:=a.abs
def B9(n:Int):Rat:=(n:Rat)
def nz(d:Int):Bool:=decide (d≠0)
def nzq(q:Rat):Bool:=decide (q≠0)
def I0(n d:Int):Rat:=Rat.divInt n d
theorem A51(n:Int):(B9 n).num=n:=Rat.num_intCast n
theorem A6g(n:Int):(B9 n).den=1:=Rat.den_intCast n
theorem A0w(n:Int)(h0 : -9223372036854775808<=n)(h1:n<=9223372036854775807)(w:World):Calls Tryz.prog 48 #[.int .i64 n] w λe w'=>e = .returned (qV (B9 n))/\A4 w w':=by
 go_enter Tryz.func48,Tryz.ntmps48;refine en1 ?_;intro u hG b2 hB hF;refine B8N (rsC A8 [0,1,0] hB hG λK L hN hL=>?_);refine gs ?_;refine gmw (C:=λv=>B4p _ (by assumption) (by assumption) _) ?_;refine gs ?_;refine geC hL ?_;clear hB hG hL L;rintro u ⟨-,hB,hG,-⟩;refine gtT ?_;clear hN K;refine st hB hF hG 0 0 [_,_,_,_,_] ?_;clear hB hG;intro u hB hG;refine rt Tryz.results48 ?_;exact⟨A1P (d:=1) (A51 n) (A6g n),hG⟩
theorem A6D(n d:Int)(h:¬d<0):I0 n d=mkRat n d.natAbs:=by
 obtain⟨m,rfl⟩:∃m:Nat,d=(m:Int):=⟨d.natAbs,by omega⟩
 unfold I0;rw[Rat.divInt_ofNat,B9U]
theorem A5t(n d:Int)(h:d<0):I0 n d=mkRat (T6 n) d.natAbs:=by
 obtain⟨m,rfl⟩:∃m:Nat,d = -(m:Int):=⟨d.natAbs,by omega⟩
 unfold I0 T6;rw[Rat.divInt_neg',Rat.divInt_ofNat,B9T,B9U]
theorem A99(z:Int):bl (T6 z).natAbs=bl z.natAbs:=by unfold T6;rw[B9T]
theorem A39{p q:Rat}{a b:Bool}(h:p=q)(h':a=b):Ending.returned (.tuple #[qV p,.bool a]) = .returned (.tuple #[qV q,.bool b]):=by rw[h,h']
theorem B1I(n d:Int)(hn:bl n.natAbs<=BIG)(hd:bl d.natAbs<=BIG)(w:World)(HT:Tab w):Calls Tryz.prog 64 #[F0 n,F0 d] w λe w'=>e = .returned (.tuple #[qV (I0 n d),.bool (nz d)])/\A4 w w':=by
 have hn':=R7 hn;have hd':=R7 hd;have hz:bl (T6 n).natAbs<=BIG:=by rw[A99];exact hn
 go_enter Tryz.func64,Tryz.ntmps64;refine en3 ?_;intro u hG b4 b3 b2 hB hF;refine B8N ?_;refine B8N (rsE A8 [0,1,0] hB hG λL hL=>?_);refine gs ?_;refine gmw (C:=λv=>A3q _ (by assumption) _) ?_;refine gs ?_;refine geT hL ?_;clear hB hG hL L;rintro u ⟨-,hB,hG,-⟩;refine B88 rfl ?_ ?_
 ·intro ht;have ht8:=ht;refine r0T ?_;refine st hB hF hG 2 0 [_,_,_,_,_] ?_;clear hB hG;intro u hB hG;refine rt Tryz.results64 ?_;have e:d=0:=by simpa using ht
  subst e;exact⟨A39 (p:=0) (by unfold I0;rw[Rat.divInt_zero]) rfl,hG⟩
 ·intro ht;have ht8:=ht;have hd0:d.natAbs≠0:=λe=>by
   have:d=0:=by omega
   rw[this]at ht;simp at ht
  refine B8U ?_;refine A6 ?_;refine B8N ?_;refine B8N (rsE A8 [0,1,0] hB hG λL hL=>?_);refine gs ?_;refine gmw (C:=λv=>A3q _ (by assumption) _) ?_;refine gs ?_;refine geT hL ?_;clear hB hG hL L;rintro u ⟨-,hB,hG,-⟩;refine B88 rfl ?_ ?_
  ·intro ht;have ht12:=ht;refine rsC A8 [0,1] hB hG λK L hN hL=>?_;refine gs ?_;refine gmw (C:=λv=>A97 _ (by assumption) _) ?_;refine geC hL ?_;clear hB hG hL L;rintro u ⟨-,hB,hG,-⟩;refine gtT ?_;clear hN K;refine st hB hF hG 0 0 [_,_,_] ?_;clear hB hG;intro u hB hG;refine B8N (rdC A8 [] [(0,0),(0,1),(1,2),(1,3)] hB hG λK L hN hL=>?_);refine gs ?_;refine gmw (C:=λv=>A2d _ _) ?_;refine gmd (C:=λv ⟨hgu,hB,hG,_⟩=>A7W _ _ (by assumption) (by assumption) (by assumption) _ (HT.grow hG)) ?_;refine geC hL ?_;clear hB hG hL L;rintro u ⟨-,hB,hG,-⟩;refine gtT ?_;clear hN K;refine st hB hF hG 2 0 [_,_,_,_,_] ?_;clear hB hG;intro u hB hG;refine rt Tryz.results64 ?_;have e:d<0:=by simpa using ht
   exact⟨A39 (A5t n d e).symm (B87 (by omega)).symm,hG⟩
  ·intro ht;have ht12:=ht;refine B8U ?_;refine A6 ?_;refine B8N (rdC A8 [] [(0,0),(0,1),(1,2),(1,3)] hB hG λK L hN hL=>?_);refine gs ?_;refine gmw (C:=λv=>A2d _ _) ?_;refine gmd (C:=λv ⟨hgu,hB,hG,_⟩=>A7W _ _ (by assumption) (by assumption) (by assumption) _ (HT.grow hG)) ?_;refine geC hL ?_;clear hB hG hL L;rintro u ⟨-,hB,hG,-⟩;refine gtT ?_;clear hN K;refine st hB hF hG 2 0 [_,_,_,_,_] ?_;clear hB hG;intro u hB hG;refine rt Tryz.results64 ?_;have e:¬d<0:=by simpa using ht
   exact⟨A39 (A6D n d e).symm (B87 (by omega)).symm,hG⟩
theorem A87{n:Int}(h0 : -9223372036854775808<=n)(h1:n<=9223372036854775807):bl n.natAbs<=BIG:=by
 refine B8K (R6.2 ?_) A56;have:(2:Nat)^64=18446744073709551616:=rfl;omega
theorem A7v(q:Rat)(h:bl q.num.natAbs<=1099511627776)(w:World):Calls Tryz.prog 97 #[qV q] w λe w'=>e = .returned (qV (K4 q))/\A4 w w':=by
 go_enter Tryz.func97,Tryz.ntmps97;refine en2 ?_;intro u hG b2 b1 hB hF;refine B8N (rdC A8 [] [(0,0),(0,1),(0,3),(0,4),(1,2),(0,5)] hB hG λK L hN hL=>?_);refine gs ?_;refine gmw (C:=λv=>A97 _ (by assumption) _) ?_;refine gs ?_;refine geC hL ?_;clear hB hG hL L;rintro u ⟨-,hB,hG,-⟩;refine gtT ?_;clear hN K;refine st hB hF hG 1 0 [_,_,_,_,_] ?_;clear hB hG;intro u hB hG;refine rt Tryz.results97 ?_;exact⟨A1P (Rat.neg_num q) (Rat.neg_den q),hG⟩
theorem A6a(q:Rat):q.abs.num=sgn false q.num.natAbs:=by
 rw[A0f];by_cases h:0<=q
 ·rw[Rat.abs_of_nonneg h];have:=Rat.num_nonneg.2 h;omega
 ·have h':q<=0:=by rcases B9a (a:=0) (b:=q)with h1|h1;exact absurd h1 h;exact h1
  rw[Rat.abs_of_nonpos h',Rat.neg_num];have:¬0<=q.num:=λh2=>h (Rat.num_nonneg.1 h2);omega
theorem A5N(q:Rat):q.abs.den=q.den:=by
 by_cases h:0<=q
 ·rw[Rat.abs_of_nonneg h]
 ·have h':q<=0:=by rcases B9a (a:=0) (b:=q)with h1|h1;exact absurd h1 h;exact h1
  rw[Rat.abs_of_nonpos h',Rat.neg_den]
theorem B1J(q:Rat)(h:bl q.num.natAbs<=1099511627776)(w:World):Calls Tryz.prog 54 #[qV q] w λe w'=>e = .returned (qV (T0 q))/\A4 w w':=by
 go_enter Tryz.func54,Tryz.ntmps54;refine en2 ?_;intro u hG b2 b1 hB hF;refine B8N (rdC A8 [] [(0,0),(0,1),(0,4),(0,5),(1,2),(1,3),(0,6)] hB hG λK L hN hL=>?_);refine gs ?_;refine gmw (C:=λv=>A2d _ _) ?_;refine gmw (C:=λv=>T8 _ _ (by assumption) _) ?_;refine gs ?_;refine geC hL ?_;clear hB hG hL L;rintro u ⟨-,hB,hG,-⟩;refine gtT ?_;clear hN K;refine st hB hF hG 1 0 [_,_,_,_,_] ?_;clear hB hG;intro u hB hG;refine rt Tryz.results54 ?_;exact⟨A1P (A6a q) (A5N q),hG⟩
theorem A0U(q:Rat)(h:bl q.den<=1099511627776)(h1:q.den=1)(w:World):Calls Tryz.prog 81 #[qV q] w λe w'=>e = .returned (.bool true)/\A4 w w':=by
 have:=A5y q h w;rw[B87 h1]at this;exact this
theorem A0Z(q:Rat)(h:bl q.den<=1099511627776)(h1:¬q.den=1)(w:World):Calls Tryz.prog 81 #[qV q] w λe w'=>e = .returned (.bool false)/\A4 w w':=by
 have:=A5y q h w;rw[B9C h1]at this;exact this
section
variable (a b:Rat) (w:World)
theorem B2q(h:qs a+qs b+1<=BIG)(ha1:a.den=1)(hb1:b.den=1):Calls Tryz.prog 30 #[qV a,qV b] w λe w'=>e = .returned (.int .i64 (J9 a b))/\A4 w w':=by
 have hB40:=I6;have h1:bl a.num.natAbs<=1099511627776:=by have:=G6 a;omega
 have h2:bl b.num.natAbs<=1099511627776:=by have:=G6 b;omega
 have h3:bl a.den<=1099511627776:=by have:=H3 a;omega
 have h4:bl b.den<=1099511627776:=by have:=H3 b;omega
 have Ha1:=B8S ha1;have Hb1:=B8S hb1;clear ha1 hb1;go_enter Tryz.func30,Tryz.ntmps30;refine en2 ?_;intro u hG b3 b2 hB hF;refine B8N ?_;refine B8N (rdC A8 [] [(0,0),(1,1),(0,2),(0,3),(1,4),(0,5),(0,6),(0,7),(0,9),(1,8),(1,10),(0,11)] hB hG λK L hN hL=>?_);refine gs ?_;refine gmw (C:=λv=>A0U a h3 Ha1.out _) ?_;refine gs ?_
 first|refine gmw (C:=λv=>A0U b h4 Hb1.out _) ?_|refine J6 ?_
 refine gs ?_
 first|refine gmw (C:=λv=>U4 _ (by assumption) _) ?_|refine J6 ?_
 first|refine gmw (C:=λv=>U4 _ (by assumption) _) ?_|refine J6 ?_
 refine gs ?_;refine geC hL ?_;clear hB hG hL L;rintro u ⟨-,hB,hG,-⟩;refine gtT ?_;clear hN K;refine B8V (rfl) ?_;refine B8N (rsE A8 [0,0,0,0,1,0] hB hG λL hL=>?_);refine gs ?_;refine gmw (C:=λv=>A3m _ _ (by assumption) (by assumption) _) ?_;refine gs ?_;refine geT hL ?_;clear hB hG hL L;rintro u ⟨-,hB,hG,-⟩;refine rt Tryz.results30 ?_;exact⟨M5 (B4w Ha1.out Hb1.out).symm,hG⟩
theorem B6p(h:qs a+qs b+1<=BIG)(ha1:a.den=1)(hb1:¬b.den=1):Calls Tryz.prog 30 #[qV a,qV b] w λe w'=>e = .returned (.int .i64 (J9 a b))/\A4 w w':=by
 have hB40:=I6;have h1:bl a.num.natAbs<=1099511627776:=by have:=G6 a;omega
 have h2:bl b.num.natAbs<=1099511627776:=by have:=G6 b;omega
 have h3:bl a.den<=1099511627776:=by have:=H3 a;omega
 have h4:bl b.den<=1099511627776:=by have:=H3 b;omega
 have h5:bl a.num.natAbs+bl b.den<=1099511627776:=by have:=G6 a;have:=H3 b;omega
 have h6:bl b.num.natAbs+bl a.den<=1099511627776:=by have:=G6 b;have:=H3 a;omega
 have h7:bl (ztm a.num b.den).natAbs<=1099511627776:=by unfold ztm;rw[B9X];exact B8K (Q5 _ _) h5
 have h8:bl (ztm b.num a.den).natAbs<=1099511627776:=by unfold ztm;rw[B9X];exact B8K (Q5 _ _) h6
 have Ha1:=B8S ha1;have Hb1:=B8S hb1;clear ha1 hb1;go_enter Tryz.func30,Tryz.ntmps30;refine en2 ?_;intro u hG b3 b2 hB hF;refine B8N ?_;refine B8N (rdC A8 [] [(0,0),(1,1),(0,2),(0,3),(1,4),(0,5),(0,6),(0,7),(0,9),(1,8),(1,10),(0,11)] hB hG λK L hN hL=>?_);refine gs ?_;refine gmw (C:=λv=>A0U a h3 Ha1.out _) ?_;refine gs ?_
 first|refine gmw (C:=λv=>A0Z b h4 Hb1.out _) ?_|refine J6 ?_
 refine gs ?_
 first|refine gmw (C:=λv=>U4 _ (by assumption) _) ?_|refine J6 ?_
 first|refine gmw (C:=λv=>U4 _ (by assumption) _) ?_|refine J6 ?_
 refine gs ?_;refine geC hL ?_;clear hB hG hL L;rintro u ⟨-,hB,hG,-⟩;refine gtT ?_;clear hN K;refine B88 rfl ?_ ?_
 ·intro ht;have ht17:=ht;refine B8N (rsE A8 [0,0,0,0,1,0] hB hG λL hL=>?_);refine gs ?_;refine gmw (C:=λv=>A3m _ _ (by assumption) (by assumption) _) ?_;refine gs ?_;refine geT hL ?_;clear hB hG hL L;rintro u ⟨-,hB,hG,-⟩;refine rt Tryz.results30 ?_;exact⟨M5 (A88 (by simpa using ht)).symm,hG⟩
 ·intro ht;have ht17:=ht;refine B8U ?_;refine A6 ?_;refine B8N (rdC A8 [] [(0,0),(0,1),(0,2),(0,5),(0,6),(0,7),(1,3),(1,4),(1,8),(1,9),(1,10)] hB hG λK L hN hL=>?_);refine gs ?_;refine gmw (C:=λv=>W4 _ (by assumption) _) ?_;refine gmw (C:=λv=>A2P _ _ (by assumption) _) ?_;refine gmw (C:=λv=>W4 _ (by assumption) _) ?_;refine gmw (C:=λv=>A2P _ _ (by assumption) _) ?_;refine gmw (C:=λv=>A3m _ _ (by assumption) (by assumption) _) ?_;refine geC hL ?_;clear hB hG hL L;rintro u ⟨-,hB,hG,-⟩;refine gtT ?_;clear hN K;refine rt Tryz.results30 ?_;exact⟨M5 (A3F a b).symm,hG⟩
theorem B3g(h:qs a+qs b+1<=BIG)(ha1:¬a.den=1):Calls Tryz.prog 30 #[qV a,qV b] w λe w'=>e = .returned (.int .i64 (J9 a b))/\A4 w w':=by
 have hB40:=I6;have h1:bl a.num.natAbs<=1099511627776:=by have:=G6 a;omega
 have h2:bl b.num.natAbs<=1099511627776:=by have:=G6 b;omega
 have h3:bl a.den<=1099511627776:=by have:=H3 a;omega
 have h4:bl b.den<=1099511627776:=by have:=H3 b;omega
 have h5:bl a.num.natAbs+bl b.den<=1099511627776:=by have:=G6 a;have:=H3 b;omega
 have h6:bl b.num.natAbs+bl a.den<=1099511627776:=by have:=G6 b;have:=H3 a;omega
 have h7:bl (ztm a.num b.den).natAbs<=1099511627776:=by unfold ztm;rw[B9X];exact B8K (Q5 _ _) h5
 have h8:bl (ztm b.num a.den).natAbs<=1099511627776:=by unfold ztm;rw[B9X];exact B8K (Q5 _ _) h6
 have Ha1:=B8S ha1;clear ha1;go_enter Tryz.func30,Tryz.ntmps30;refine en2 ?_;intro u hG b3 b2 hB hF;refine B8N ?_;refine B8N (rdC A8 [] [(0,0),(1,1),(0,2),(0,3),(1,4),(0,5),(0,6),(0,7),(0,9),(1,8),(1,10),(0,11)] hB hG λK L hN hL=>?_);refine gs ?_;refine gmw (C:=λv=>A0Z a h3 Ha1.out _) ?_;refine gs ?_
 first|refine gmw (C:=λv=>A0Z a h3 Ha1.out _) ?_|refine J6 ?_
 refine gs ?_
 first|refine gmw (C:=λv=>U4 _ (by assumption) _) ?_|refine J6 ?_
 first|refine gmw (C:=λv=>U4 _ (by assumption) _) ?_|refine J6 ?_
 refine gs ?_;refine geC hL ?_;clear hB hG hL L;rintro u ⟨-,hB,hG,-⟩;refine gtT ?_;clear hN K;refine B88 rfl ?_ ?_
 ·intro ht;have ht17:=ht;refine B8N (rsE A8 [0,0,0,0,1,0] hB hG λL hL=>?_);refine gs ?_;refine gmw (C:=λv=>A3m _ _ (by assumption) (by assumption) _) ?_;refine gs ?_;refine geT hL ?_;clear hB hG hL L;rintro u ⟨-,hB,hG,-⟩;refine rt Tryz.results30 ?_;exact⟨M5 (A88 (by simpa using ht)).symm,hG⟩
 ·intro ht;have ht17:=ht;refine B8U ?_;refine A6 ?_;refine B8N (rdC A8 [] [(0,0),(0,1),(0,2),(0,5),(0,6),(0,7),(1,3),(1,4),(1,8),(1,9),(1,10)] hB hG λK L hN hL=>?_);refine gs ?_;refine gmw (C:=λv=>W4 _ (by assumption) _) ?_;refine gmw (C:=λv=>A2P _ _ (by assumption) _) ?_;refine gmw (C:=λv=>W4 _ (by assumption) _) ?_;refine gmw (C:=λv=>A2P _ _ (by assumption) _) ?_;refine gmw (C:=λv=>A3m _ _ (by assumption) (by assumption) _) ?_;refine geC hL ?_;clear hB hG hL L;rintro u ⟨-,hB,hG,-⟩;refine gtT ?_;clear hN K;refine rt Tryz.results30 ?_;exact⟨M5 (A3F a b).symm,hG⟩
theorem B2d(h:qs a+qs b+1<=BIG):Calls Tryz.prog 30 #[qV a,qV b] w λe w'=>e = .returned (.int .i64 (J9 a b))/\A4 w w':=by
 by_cases ha1:a.den=1
 ·by_cases hb1:b.den=1
  ·exact B2q a b w h ha1 hb1
  ·exact B6p a b w h ha1 hb1
 ·exact B3g a b w h ha1
theorem A4D(q:Rat)(h:q.den=1):q=(q.num:Rat):=Rat.ext (Rat.num_intCast _).symm (by rw[h];exact(Rat.den_intCast _).symm)
theorem B3F(h:qs a+qs b+1<=BIG)(ha1:a.den=1)(hb1:b.den=1):Calls Tryz.prog 95 #[qV a,qV b] w λe w'=>e = .returned (qV (G9 a b))/\A4 w w':=by
 have hB40:=I6;have h1:bl a.num.natAbs<1099511627776:=by have:=G6 a;omega
 have h2:bl b.num.natAbs<1099511627776:=by have:=G6 b;have:=B05 a;omega
 have h3:bl a.den<=1099511627776:=by have:=H3 a;omega
 have h4:bl b.den<=1099511627776:=by have:=H3 b;omega
 have e:G9 a b=((a.num+b.num:Int):Rat):=by
  unfold G9;rw[Rat.intCast_add,<-A4D a ha1,<-A4D b hb1]
 have e1:(G9 a b).num=X7 a.num b.num:=by rw[e,Rat.num_intCast];rfl
 have e2:(G9 a b).den=1:=by rw[e,Rat.den_intCast]
 have He:=B8S (And.intro e1 e2);clear e e1 e2;have Ha1:=B8S ha1;have Hb1:=B8S hb1;clear ha1 hb1;go_enter Tryz.func95,Tryz.ntmps95;refine en3 ?_;intro u hG b4 b3 b2 hB hF;refine B8N ?_;refine B8N (rsE A8 [0,1,0,0,1,0] hB hG λL hL=>?_);refine gs ?_;refine gmw (C:=λv=>A0U a h3 Ha1.out _) ?_;refine gs ?_
 first|refine gmw (C:=λv=>A0U b h4 Hb1.out _) ?_|refine J6 ?_
 refine gs ?_;refine geT hL ?_;clear hB hG hL L;rintro u ⟨-,hB,hG,-⟩;refine B8V (rfl) ?_;refine B8N (rsC A8 [0,0,0,0,1,0] hB hG λK L hN hL=>?_);refine gs ?_;refine gmw (C:=λv=>A7x _ _ (by assumption) (by assumption) _) ?_;refine gs ?_;refine geC hL ?_;clear hB hG hL L;rintro u ⟨-,hB,hG,-⟩;refine gtT ?_;clear hN K;refine st hB hF hG 2 0 [_,_,_,_,_] ?_;clear hB hG;intro u hB hG;refine rt Tryz.results95 ?_;exact⟨A1P He.out.1 He.out.2,hG⟩
theorem B33(h:qs a+qs b+1<=BIG):bl (Nat.gcd a.den b.den)<=BIG/\Nat.gcd a.den b.den≠0/\bl a.den<=BIG/\bl b.den<=BIG/\bl a.num.natAbs+bl (b.den/Nat.gcd a.den b.den)<=1099511627776/\bl b.num.natAbs+bl (a.den/Nat.gcd a.den b.den)<=1099511627776 /\
  bl (ztm a.num (b.den/Nat.gcd a.den b.den)).natAbs<1099511627776/\bl (ztm b.num (a.den/Nat.gcd a.den b.den)).natAbs<1099511627776/\bl (X7 (ztm a.num (b.den/Nat.gcd a.den b.den)) (ztm b.num (a.den/Nat.gcd a.den b.den))).natAbs<=BIG /\
  bl (Nat.gcd (X7 (ztm a.num (b.den/Nat.gcd a.den b.den)) (ztm b.num (a.den/Nat.gcd a.den b.den))).natAbs (Nat.gcd a.den b.den))<=BIG/\Nat.gcd (X7 (ztm a.num (b.den/Nat.gcd a.den b.den)) (ztm b.num (a.den/Nat.gcd a.den b.den))).natAbs (Nat.gcd a.den b.den)≠0:=by
 have hB40:=I6;have s1:=G6 a;have s2:=H3 a;have s3:=G6 b;have s4:=H3 b;have s5:=O6 b.den (Nat.gcd a.den b.den);have s6:=O6 a.den (Nat.gcd a.den b.den);have g0:Nat.gcd a.den b.den≠0:=λe=>a.den_nz (B9M e);have g1:=B4C a.den b.den a.den_nz;have up:bl (A0V a b).natAbs<=qs a+qs b+1:=B0D a b;have m1:bl (ztm a.num (b.den/Nat.gcd a.den b.den)).natAbs<=bl a.num.natAbs+bl (b.den/Nat.gcd a.den b.den):=by unfold ztm;rw[B9X];exact Q5 _ _
 have m2:bl (ztm b.num (a.den/Nat.gcd a.den b.den)).natAbs<=bl b.num.natAbs+bl (a.den/Nat.gcd a.den b.den):=by unfold ztm;rw[B9X];exact Q5 _ _
 refine⟨by omega,g0,by omega,by omega,by omega,by omega,by omega,by omega,B8K up h,B8K (A43 _ _ g0) (by omega),λe=>g0 (B9Z e)⟩
end
end Go.Proofs.YtgpglgbcobeogaaGreatDoor
