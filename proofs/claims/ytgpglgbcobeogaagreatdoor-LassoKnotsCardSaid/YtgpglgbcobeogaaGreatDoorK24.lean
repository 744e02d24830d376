import Derived.Test.YtgpglgbcobeogaaGreatDoorK22
set_option linter.unusedSimpArgs false
set_option linter.unusedVariables false
set_option maxHeartbeats 1000000
set_option maxRecDepth 100000
namespace Go.Proofs.YtgpglgbcobeogaaGreatDoor
open Go.RowKit
theorem B6d{x:Ax}{y z:Int}(h:y=z):Ending.returned (riV x y) = .returned (riV x z):=by rw[h]
theorem B9P(x y:Ax)(q:Rat)(w:World):Calls Tryz.prog 154 #[rqV x y q] w λe w'=>e = .returned (riV y (sgn false q.den))/\A4 w w':=by
 rw[A5a,Bool.false_and];have hI:=λW=>A2M y false q.den W;simp only[A5a,Bool.false_and]at hI;go_enter Tryz.func154,Tryz.ntmps154;refine en2 ?_;intro u hG b2 b1 hB hF;refine B9o (rsC A8 [0,0,1] hB hG λK L hN hL=>?_);refine gs ?_;refine gmw (C:=λv=>hI _) ?_;refine geC hL ?_;clear hB hG hL L;rintro u ⟨-,hB,hG,-⟩;refine gtT ?_;clear hN K;refine st hB hF hG 1 0 [_,_] ?_;clear hB hG;intro u hB hG;refine rt Tryz.results154 ?_;exact⟨rfl,hG⟩
theorem B3f(x:Ax)(z:Int)(w:World):Calls Tryz.prog 136 #[riV x z] w λe w'=>e = .returned (riV x (A0k z))/\A4 w w':=by
 go_enter Tryz.func136,Tryz.ntmps136;refine en2 ?_;intro u hG b2 b1 hB hF;refine B9o (rsC A8 [0,0,0,0,0,1] hB hG λK L hN hL=>?_);refine gs ?_;refine gmw (C:=λv=>A2M x _ z.natAbs _) ?_;refine geC hL ?_;clear hB hG hL L;rintro u ⟨-,hB,hG,-⟩;refine gtT ?_;clear hN K;refine st hB hF hG 1 0 [_,_] ?_;clear hB hG;intro u hB hG;refine rt Tryz.results136 ?_;exact⟨B6d (A74 z),hG⟩
theorem B8m(x:Ax)(z:Int)(w:World):Calls Tryz.prog 69 #[riV x z] w λe w'=>e = .returned (.int .i64 z.sign)/\A4 w w':=by
 go_enter Tryz.func69,Tryz.ntmps69;refine en1 ?_;intro u hG b1 hB hF;refine B9o ?_;refine C0M ?_;refine r0T ?_;refine C0Z rfl ?_ ?_
 ·intro ht;have ht3:=ht;refine r0T ?_;refine rt Tryz.results69 ?_;have h2:ln z.natAbs=0:=by simpa using ht3
  have h3:z=0:=by have:=@A7F z.natAbs;omega
  exact⟨N8 (by rw[h3];rfl),hG⟩
 ·intro ht;have ht3:=ht;refine r0T ?_;refine C0Z rfl ?_ ?_
  ·intro ht;have ht8:=ht;refine r0T ?_;refine rt Tryz.results69 ?_;have h:z<0:=C0X ht8;exact⟨N8 (C0a h).symm,hG⟩
  ·intro ht;have ht8:=ht;refine B9v ?_;refine C7 ?_;refine A6 ?_;refine r0T ?_;refine rt Tryz.results69 ?_;have h:¬z<0:=C0b ht8;have h2:¬ln z.natAbs=0:=by simpa using ht3
   have h3:z≠0:=by have:=@A7F z.natAbs;omega
   exact⟨N8 (C0c (by omega)).symm,hG⟩
abbrev Az:=Ax×Ax
def Rz(u:World)(p:Az)(q:Rat):Prop:=Rn u p.1 q.num.natAbs/\Rn u p.2 q.den
theorem Rz.grow{u u':World}{p:Az}{q:Rat}(h:Rz u p q)(hg:A4 u u'):Rz u' p q:=⟨h.1.grow hg,h.2.grow hg⟩
theorem B7N(q:Rat):Rat.divInt q.num (q.den:Int)=q:=by rw[Rat.divInt_ofNat];exact Rat.mkRat_self q
theorem B9R(x y:Ax)(q:Rat)(w:World):Calls Tryz.prog 20 #[rqV x y q] w λe w'=>e = .returned (.int .i64 q.num.sign)/\A4 w w':=by
 go_enter Tryz.func20,Tryz.ntmps20;refine en1 ?_;intro u hG b1 hB hF;refine B9o (rsE A8 [0,0,1,0] hB hG λL hL=>?_);refine gs ?_;refine gmw (C:=λv=>B8m x q.num _) ?_;refine gs ?_;refine geT hL ?_;clear hB hG hL L;rintro u ⟨-,hB,hG,-⟩;refine rt Tryz.results20 ?_;exact⟨rfl,hG⟩
theorem B9T(x y:Ax)(q:Rat)(w:World):Calls Tryz.prog 75 #[rqV x y q] w λe w'=>e = .returned (rqV x y (K5 q))/\A4 w w':=by
 go_enter Tryz.func75,Tryz.ntmps75;refine en2 ?_;intro u hG b2 b1 hB hF;refine B9o (rdC A8 [] [(0,0),(0,1),(0,3),(0,4),(1,2),(0,5)] hB hG λK L hN hL=>?_);refine gs ?_;refine gmw (C:=λv=>B3f _ _ _) ?_;refine gs ?_;refine geC hL ?_;clear hB hG hL L;rintro u ⟨-,hB,hG,-⟩;refine gtT ?_;clear hN K;refine st hB hF hG 1 0 [_,_,_] ?_;clear hB hG;intro u hB hG;refine rt Tryz.results75 ?_;exact⟨A4O (q:=K5 q) (Rat.neg_num q) (Rat.neg_den q),hG⟩
theorem B9Q(x y:Ax)(q:Rat)(w:World):Calls Tryz.prog 26 #[rqV x y q] w λe w'=>e = .returned (rqV x y (Z7 q))/\A4 w w':=by
 go_enter Tryz.func26,Tryz.ntmps26;refine en2 ?_;intro u hG b2 b1 hB hF;refine B9o (rdC A8 [] [(0,0),(0,1),(0,2),(0,4),(0,5),(1,3),(0,6)] hB hG λK L hN hL=>?_);refine gs ?_;refine gmw (C:=λv=>A2M x _ q.num.natAbs _) ?_;refine gs ?_;refine geC hL ?_;clear hB hG hL L;rintro u ⟨-,hB,hG,-⟩;refine gtT ?_;clear hN K;refine st hB hF hG 1 0 [_,_,_] ?_;clear hB hG;intro u hB hG;refine rt Tryz.results26 ?_;exact⟨A4O (q:=Z7 q) (A9b q) (A7Z q),hG⟩
theorem B8i(a k:Nat):dg (B5 W32 a) (k/4)/2^(8*(k%4))%256=dg (byt a) k:=by
 unfold byt;rw[A3m F9,A3m (by omega)];have e1:(256:Nat)^k=W32^(k/4)*2^(8*(k%4)):=by
  rw[show W32=2^32 from rfl,show(256:Nat)=2^8 from rfl,<-B9z,<-B9z,<-B91];congr 1;omega
 rw[e1,<-B9x];generalize a/W32^(k/4)=x;have hr:k%4<4:=B92 _ (by omega);generalize k%4=r at hr;have e2:W32=2^(8*r)*(256*2^(24-8*r)):=by
  rw[show W32=2^32 from rfl,show(256:Nat)=2^8 from rfl,<-B91,<-B91];congr 1;omega
 rw[e2,B93,Nat.mod_mul_right_mod]
theorem B5U(x:Ax)(a:Nat)(w:World)(hx:Rn w x a)(ha:bl a<=LIM):Calls Tryz.prog 133 #[nvV x a] w λe w'=>∃b:Nat,e = .returned (.slice (some ⟨b,0,none⟩) (byt a).length (byt a).length)/\By w' (some ⟨b,0,none⟩) (byt a).reverse/\A4 w w':=by
 unfold LIM at ha;obtain⟨A,c⟩:=x;obtain⟨n,hn⟩:∃n,n=(byt a).length:=⟨_,rfl⟩
 obtain⟨m,hm⟩:∃m,m=ln a:=⟨_,rfl⟩
 have hnb:n=(bl a+7)/8:=by rw[hn,A21]
 have hmk:=A5t n (by omega) (n:Int) rfl;have hbits:=λW (hg:A4 w W)=>A81 (A,c) a W (hx.grow hg) (by omega);show Calls Tryz.prog 133 #[.slice A (ln a) c] w _;change ∀W,A4 w W->Calls Tryz.prog 166 #[.slice A (ln a) c] W _ at hbits;rw[<-hm]at hbits;rw[<-hm,<-hn];have Hx:=B9t hx.1;obtain⟨B,hB⟩:∃B,B=bl a:=⟨_,rfl⟩
 rw[<-hB]at hbits hnb ha;have hb1:IntKind.i64.wrap ((B:Int)+7)=(B:Int)+7:=C0A _ (by omega);have hdv:((B:Int)+7).tdiv 8=(n:Int):=by rw[B9r (by omega)];omega
 have hdv2:((B:Int)+7)/8=(n:Int):=by omega
 have hnB:n<=137438953471:=by omega
 have fnw:IntKind.i64.wrap (n:Int)=(n:Int):=C0A _ (by omega);have Hbits:=B9t hbits;have Hn:=B9t hn;have Hm:=B9t hm;have Hnb:=B9t (hnb.trans (by rw[hB]));clear hbits hn hm hx ha hB hnb;go_enter Tryz.func133,Tryz.ntmps133;refine en0 ?_;intro u hG hB hF;refine B9o (rsE A8 [0,1,0,0,0] hB hG λL hL=>?_);refine gs ?_;refine gmd (C:=λv ⟨hgu,hB,hG,_⟩=>Hbits.out _ hG) ?_;refine gs ?_;refine geT hL ?_;clear hB hG hL L;rintro u ⟨-,hB,hG,-⟩;refine r0T ?_;have hbo:=Blk.new u 5 (M8 (List.replicate n 0));have hF3:=Fr.new (tk:=[]) hF hB hG (K2 u.heap.size) (by simp);have hB3:=Bx.cons hbo (hB.grow (A4.alloc u (.cells (M8 (List.replicate n 0)) 5)));have hG3:=hG.trans (A4.alloc u (.cells (M8 (List.replicate n 0)) 5));simp only[List.cons_append,List.nil_append,List.map_cons,List.map_nil]at hF3;clear hB hF hG hbo;generalize World.alloc u _=v at  hB3 hG3⊢;generalize u.heap.size=b11 at hB3 hF3⊢;have hB:=hB3;have hF:=hF3;have hG:=hG3;clear hB3 hF3 hG3;obtain⟨u,rfl⟩:=exQ v;refine B9o ?_;refine r0T ?_;refine C0M ?_;go_loopw [5] (λs0 wr=>∃(k:Nat) (zs:List Nat),k<=n/\s0 = .int .i64 k/\(zs=P5 (byt a) k)/\Bx wr [(b11,5,M8 zs)]/\A4 w wr) (λs0 _=>n-(intOf s0).toNat)
 case atStart=>exact⟨0,List.replicate n 0,C0B _,rfl,by unfold P5;rw[<-Hn.out];simp,hB,hG⟩
 case round =>
  clear hB hG;obtain⟨k,zs,hk,rfl,hrel0,hB,hG⟩:=hrel;obtain⟨u,rfl⟩:=exQ wr;have H0:=B9t hrel0;clear hrel0;rcases B9U k n with hlt0|hge0
  ·have hdec:decide ((k:Int)<(n:Int))=true:=by simp;omega
   have hkl:k<(byt a).length:=by rw[<-Hn.out];exact hlt0
   have hwk:k/4<(B5 W32 a).length:=by
    refine A45 F9 ?_;have h1:k<(bl a+7)/8:=by rw[<-Hnb.out];exact hlt0
    rw[show W32=2^32 from rfl,<-B9z];exact A1P.1 (by omega)
   obtain⟨ba,oa,hAe,-⟩:=Hx.out.cell hwk;have hcl:∀W,A4 w W->W.cell? ⟨ba,oa+k/4,none⟩=some (.int .u32 (dg (B5 W32 a) (k/4):Nat)):=λW hg=>by
    obtain⟨b',o',e,hc⟩:=(Hx.out.grow hg).cell hwk;rw[hAe]at e;cases e;exact hc
   have hby:=B8i a k;have hbl:=C5 (by omega) (A28 a) k;have hst:=A5l (byt a) hkl;have hxl:=dgl a (k/4);have hwm:k/4<m:=by rw[Hm.out];exact hwk
   have hzl:zs.length=n:=by rw[H0.out,A5e _ (by omega),<-Hn.out]
   rw[<-Hn.out,<-H0.out]at hst;obtain⟨q,hq⟩:∃q,q=k/4:=⟨_,rfl⟩
   obtain⟨r,hr⟩:∃r,r=k%4:=⟨_,rfl⟩
   have hr8:r<4:=by omega
   rw[<-hq]at hwm hxl hby
   rw[<-hr]at hby
   simp only[<-hq]at hcl;obtain⟨X,hX⟩:∃x,x=dg (B5 W32 a) q:=⟨_,rfl⟩
   obtain⟨y,hy⟩:∃y,y=dg (byt a) k:=⟨_,rfl⟩
   rw[<-hX]at hby hxl;simp only[<-hX]at hcl;rw[<-hy]at hby hbl hst;obtain⟨t,ht⟩:∃t,t=n-1-k:=⟨_,rfl⟩
   rw[<-ht]at hst;have f1:(n:Int)-1-(k:Int)=(t:Int):=by omega
   have f1':(n:Int)-1=(t:Int)+(k:Int):=by omega
   have f1w:IntKind.i64.wrap ((t:Int)+(k:Int))=(t:Int)+(k:Int):=C0A _ (by omega);have htn:t<n:=by omega
   have q1:(k:Int).tdiv 4=(q:Int):=by rw[B9r (by omega)];omega
   have q2:(k:Int).tmod 4=(r:Int):=by rw[B9s (by omega)];omega
   have q3:(k:Int)/4=(q:Int):=by omega
   have q4:(k:Int)%4=(r:Int):=by omega
   have q5:IntKind.i64.wrap (8*(r:Int))=8*(r:Int):=C0A _ (by omega);have q6:IntKind.u64.wrap (8*(r:Int))=8*(r:Int):=u64_wrap_id (x:=8*(r:Int)) (by omega) (by omega);have q7:(8*(r:Int)).toNat=8*r:=by omega
   have q8:min (8*r) 32=8*r:=by omega
   obtain⟨s,hs⟩:∃s,s=X/2^(8*r):=⟨_,rfl⟩
   rw[<-hs]at hby
   have q9:(X:Int)/2^(8*r)=(s:Int):=by rw[hs];simp
   have q10:IntKind.u8.wrap (s:Int)=(y:Int):=by rw[<-hby];simp[IntKind.wrap,IntKind.signed,IntKind.bits]
   have q11:(s:Int)%256=(y:Int):=by omega
   have g1:∃old,(M8 zs)[t]?=some old:=by rw[A4L,B99 (by omega)];exact⟨_,rfl⟩
   obtain⟨old,g1⟩:=g1;have G2:=B9t (A7L zs t y);have Hcl:=B9t hcl;have Hst:=B9t hst;subst hAe;clear hcl hst hby hq hr hX hy hs ht hkl hwk hzl;refine B9o ?_;refine r0T ?_;refine B9w (rfl) ?_;refine B9v ?_;refine A6 ?_;refine B9o ?_;refine C0M ?_;have hcb:=Hcl.out u hG;refine r0E ?_;generalize hu0:World.setCell u _ _=u0;have hBG:=hB.over hF hG 0 rfl t [_] hu0;clear hB hG;simp only[List.modify_succ_cons,List.modify_zero_cons,J8,G2.out]at hBG;obtain⟨hB,hG⟩:=hBG;clear hu0;obtain⟨u,rfl⟩:=exQ u0;refine C7 ?_;refine A6 ?_;refine r0E ?_;refine A6 ?_;go_roundw
   case rel=>exact⟨k+1,zs.set t y,by omega,by go_num,Hst.out,hB,hG⟩
   case measure=>simp[intOf];try omega
  ·obtain rfl:n=k:=by omega
   have hdec:decide ((n:Int)<(n:Int))=false:=by simp
   skip
   refine B9o ?_;refine r0T ?_;refine B9u (rfl) ?_;refine C0O ?_;refine B9 ?_;refine B9 ?_;refine E3 ?_;refine A6 ?_;refine r0T ?_;refine rt Tryz.results133 ?_;exact⟨b11,rfl,by have:=By.of hB.head;rw[H0.out,Hn.out,A5r]at this;exact this,hG⟩
theorem A7z(x:Ax)(a:Nat)(w:World)(hx:Rn w x a)(ha:bl a<=LIM):Calls Tryz.prog 67 #[nvV x a] w λe w'=>e = .returned (B4 a)/\A4 w w':=by
 have hby:=λW (hg:A4 w W)=>B5U x a W (hx.grow hg) ha;have hfr:∀b W,By W (some ⟨b,0,none⟩) (byt a).reverse->Calls Tryz.prog 132 #[.slice (some ⟨b,0,none⟩) (byt a).length (byt a).length] W λe w'=>e = .returned (B4 a)/\A4 W w':=λb W h=>by
  have h1:=B0n (some ⟨b,0,none⟩) (byt a).reverse (byt a).length (λy hy=>A28 a y (List.mem_reverse.1 hy)) (by rw[C0P,A21];unfold LIM at ha;omega) W h;rw[C0P,List.reverse_reverse,show val 256 (byt a)=a from E6 (by omega) a]at h1;exact h1
 obtain⟨n,hn⟩:∃n,n=(byt a).length:=⟨_,rfl⟩
 rw[<-hn]at hby hfr;have Hby:=B9t hby
 have Hfr:=B9t hfr;clear hby hfr hn hx ha;go_enter Tryz.func67,Tryz.ntmps67;refine en1 ?_;intro u hG b2 hB hF;refine B9o (rsC A8 [0,1,1] hB hG λK L hN hL=>?_);refine gs ?_;refine gxd (X:=Nat) (λb:Nat=>.slice (some ⟨b,0,none⟩) n n) (λb W=>By W (some ⟨b,0,none⟩) (byt a).reverse) (λb u u' hg h=>By.grow h hg) (λx4=>?_) (C:=by(rintro v ⟨hgu,hB,hG,-⟩;exact Hby.out _ hG));refine gmd (C:=λv ⟨⟨hgu,hB,hG,_⟩,hx4⟩=>Hfr.out x4 _ hx4) ?_;refine geC hL ?_;clear hB hG hL L;rintro u ⟨⟨hgu,hB,hG,-⟩,hx4⟩;clear hx4;clear hgu;refine gtT ?_;clear hN K;refine st hB hF hG 0 0 [_,_] ?_;clear hB hG;intro u hB hG;refine rt Tryz.results67 ?_;exact⟨rfl,hG⟩
theorem B7g(x:Ax)(z:Int)(w:World)(hx:Rn w x z.natAbs)(ha:bl z.natAbs<=LIM):Calls Tryz.prog 65 #[riV x z] w λe w'=>e = .returned (E5 z)/\A4 w w':=by
 have ha':bl z.natAbs<=1099511627776:=by unfold LIM at ha;omega
 go_enter Tryz.func65,Tryz.ntmps65;refine en2 ?_;intro u hG b2 b1 hB hF;replace hx:=hx.grow hG;refine B9o (rdC A8 [] [(0,0),(0,1),(0,2),(0,3),(1,4),(1,5)] hB hG λK L hN hL=>?_);refine gs ?_;refine gmd (C:=λv ⟨hgu,hB,hG,_⟩=>A7z x z.natAbs _ (hx.grow hgu) ha) ?_;refine gmw (C:=λv=>T6 _ _ (by assumption) _) ?_;refine geC hL ?_;clear hB hG hL L;rintro u ⟨hgu,hB,hG,-⟩;replace hx:=hx.grow hgu;clear hgu;refine gtT ?_;clear hN K;refine sv hB hF hG 1 0 [_,_,_] ?_;intro u hu hBG;replace hx:=hx.put hB 1 rfl (by first|decide|simp) _ _ hu;clear hB hG hu;obtain⟨hB,hG⟩:=hBG;refine rt Tryz.results65 ?_;exact⟨A1y (A1b z),hG⟩
theorem B37(x y:Ax)(q:Rat)(w:World)(h1:Rn w x q.num.natAbs)(h2:Rn w y q.den)(ha:qs q<=BIG)(HT:Tab w):Calls Tryz.prog 17 #[rqV x y q] w λe w'=>e = .returned (qV q)/\A4 w w':=by
 have z1:=I0 q;have z2:=J4 q;have hBl:BIG<=LIM:=by unfold BIG LIM;omega
 have hBm:=M6;have hmk:=λW (hT:Tab W)=>B8f q.num (sgn false q.den) (by omega) (by rw[A1J];omega) W hT;have hq:K3 q.num (sgn false q.den)=q:=B7N q;rw[hq]at hmk;have z3:bl q.den<=1099511627776:=by omega
 go_enter Tryz.func17,Tryz.ntmps17;refine en2 ?_;intro u hG b2 b1 hB hF;replace h1:=h1.grow hG;replace h2:=h2.grow hG;refine B9o (rdC A8 [10] [(0,0),(0,1),(0,3),(0,4),(1,2),(1,5),(1,6),(1,7),(0,8),(0,9),(0,10),(2,11)] hB hG λK L hN hL=>?_);refine gs ?_;refine gmd (C:=λv ⟨hgu,hB,hG,_⟩=>B7g x q.num _ (h1.grow hgu) (by omega)) ?_;refine gmd (C:=λv ⟨hgu,hB,hG,_⟩=>A7z y q.den _ (h2.grow hgu) (by omega)) ?_;refine gmw (C:=λv=>T6 false q.den z3 _) ?_;refine gmd (C:=λv ⟨hgu,hB,hG,_⟩=>hmk _ (HT.grow hG)) ?_;refine gs ?_;refine gaa (J3 _ _ _ _ _) λb3 hb3 hn3=>?_;replace hF:=hF.n1 [] hB hG hb3 hn3;refine geC hL ?_;clear hB hG hL L;rintro u ⟨⟨hgu,hB,hG,-⟩,h3⟩;replace hB:=hB.cons' h3;clear h3;replace h1:=h1.grow hgu;replace h2:=h2.grow hgu;clear hb3 hn3;clear hgu;refine gtT ?_;clear hN K;refine sv hB hF hG 0 0 [_,_,_,_,_] ?_;intro u hu hBG;replace h1:=h1.put hB 0 rfl (by first|decide|simp) _ _ hu;replace h2:=h2.put hB 0 rfl (by first|decide|simp) _ _ hu;clear hB hG hu;obtain⟨hB,hG⟩:=hBG;refine r0T ?_;refine sv hB hF hG 2 0 [_,_,_,_,_] ?_;intro u hu hBG;replace h1:=h1.put hB 2 rfl (by first|decide|simp) _ _ hu;replace h2:=h2.put hB 2 rfl (by first|decide|simp) _ _ hu;clear hB hG hu;obtain⟨hB,hG⟩:=hBG;refine rt Tryz.results17 ?_;exact⟨rfl,hG⟩
end Go.Proofs.YtgpglgbcobeogaaGreatDoor
