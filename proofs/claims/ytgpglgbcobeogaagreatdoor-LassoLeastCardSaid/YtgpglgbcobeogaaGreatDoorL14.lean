import Derived.Test.YtgpglgbcobeogaaGreatDoorL13
set_option linter.unusedSimpArgs false
set_option linter.unusedVariables false
set_option maxHeartbeats 1000000
set_option maxRecDepth 100000
namespace Go.Proofs.YtgpglgbcobeogaaGreatDoor
open Go.RowKit
theorem A4B{B:Nat}{la lb:List Nat}(hB:2<=B)(h1:Dig B la)(h3:W6 lb)(h2:Dig B lb)(h:la.length<lb.length):val B la<val B lb:=by
 have e1:=K6 h1;rcases (A40 h2).1 h3 with h4|h4
 ·rw[h4]at h;simp at h
 ·exact B8X e1 (B8K (B8Z (by omega) (by omega)) h4)
theorem M5{x y:Int}(h:x=y):Ending.returned (.int .i64 x) = .returned (.int .i64 y):=by rw[h]
theorem B0e(A:Option Addr)(l:List Nat)(c:Nat)(w:World)(h:Rd w A l)(hc:l.length<=c)(hm:c<=9223372036854775807) :
  Calls Tryz.prog 204 #[.slice A l.length c] w λe w'=>e = .returned (.slice A (E4 l).length c)/\w=w':=by
 have H:=B8S h;clear h;obtain⟨n,hn⟩:∃n,n=l.length:=⟨_,rfl⟩
 rw[<-hn];rw[<-hn]at hc;have Hn:=B8S hn;clear hn;go_enter Tryz.func204,Tryz.ntmps204;go_wp2;go_loop [0] (λs=>∃k:Nat,k<=n/\s = .slice A k c/\E4 (l.take k)=E4 l) (λs=>match s with | .slice _ k _=>k|_=>0)
 case atStart=>exact⟨n,K2 _,rfl,by rw[B8u (by rw[Hn.out];exact K2 _)]⟩
 case round =>
  obtain⟨k,hk,rfl,ht⟩:=hrel;have Ht:=B8S ht;clear ht;rcases B8M k with rfl|hpos
  ·go_wp2;go_ret;refine⟨?_,rfl⟩;have:E4 l=[]:=by rw[<-Ht.out];rfl
   rw[this];rfl
  ·have hkl:k-1<l.length:=by rw[<-Hn.out];omega
   obtain⟨b,off,rfl,hw⟩:=H.out (by rintro rfl;simp at hkl);have hcell:=hw.cell hkl;have Hw:=B8S hw;clear hw;have hsn:l.take k=l.take (k-1)++[l[k-1]]:=by
    have:=B8h hkl;rw[show k-1+1=k by omega]at this;exact this
   have Hsn:=B8S hsn;clear hsn;obtain⟨x,hx⟩:∃x,x=l[k-1]:=⟨_,rfl⟩
   rw[<-hx]at hcell;have Hx:=B8S hx;clear hx;have hidx:(0:Int)<=(k:Int)-1:=by omega
   by_cases h0:x=0
   ·subst h0;go_wp2;go_round
    case rel=>exact⟨k-1,by omega,by go_num,by rw[<-Ht.out,Hsn.out,<-Hx.out,A5L]⟩
    case measure=>simp;omega
   ·have hb:((x:Int) == 0)=false:=by simpa using h0
    go_wp2;go_ret;refine⟨?_,rfl⟩;have:E4 l=l.take k:=by rw[<-Ht.out,Hsn.out,A55 _ (by rw[<-Hx.out];exact h0)]
    rw[this,List.length_take,B83 (by omega)];rfl
theorem B5x(b1 o1 b2 o2:Nat)(l1 l2:List Nat)(c1 c2:Nat)(w:World)(h1:Wds w b1 o1 l1)(h2:Wds w b2 o2 l2)(hd1:Dig W64 l1)(hd2:Dig W64 l2)(hl:l1.length=l2.length)(hm:l1.length<=34359738368) :
  Calls Tryz.prog 175 #[.slice (some ⟨b1,o1,none⟩) l1.length c1,.slice (some ⟨b2,o2,none⟩) l2.length c2] w λe w'=>e = .returned (.int .i64 (G4 (val W64 l1) (val W64 l2)))/\A4 w w':=by
 have H1:=B8S h1;have H2:=B8S h2;have Hd1:=B8S hd1;have Hd2:=B8S hd2;obtain⟨n,hn⟩:∃n,n=l1.length:=⟨_,rfl⟩
 rw[<-hl,<-hn];rw[<-hn]at hm;have Hn1:=B8S hn;have Hn2:=B8S (hn.trans hl);clear h1 h2 hd1 hd2 hl hn;go_enter Tryz.func175,Tryz.ntmps175;go_wp2_with fail;go_loopw [5] (λs wr=>∃k:Nat,k<=n/\s = .int .i64 ((k:Int)-1)/\l1.drop k=l2.drop k/\A4 w wr) (λs _=>(intOf s+1).toNat)
 case atStart=>exact⟨n,K2 _,rfl,by rw[B8m (B84 Hn1.out.symm),B8m (B84 Hn2.out.symm)],A4.refl _⟩
 case round =>
  obtain⟨k,hk,rfl,hd,hG⟩:=hrel;have Hd:=B8S hd;clear hd;rcases B8M k with rfl|hpos
  ·have hc:decide ((0:Int)<=((0:Nat):Int)-1)=false:=by decide
   go_wp2_with fail;go_ret;refine⟨M5 ?_,hG⟩;have:=Hd.out;simp only[List.drop_zero]at this;rw[this,A13 rfl]
  ·obtain⟨j,rfl⟩:∃j,k=j+1:=⟨k-1,by omega⟩
   have e1:((j+1:Nat):Int)-1=(j:Nat):=by omega
   rw[e1];have hj1:j<l1.length:=by have:=Hn1.out;omega
   have hj2:j<l2.length:=by have:=Hn2.out;omega
   have hc1:=(H1.out.grow hG).cell hj1;have hc2:=(H2.out.grow hG).cell hj2;rw[<-E8 hj1]at hc1;rw[<-E8 hj2]at hc2;obtain⟨p,hp⟩:∃p,p=dg l1 j:=⟨_,rfl⟩
   obtain⟨q,hq⟩:∃q,q=dg l2 j:=⟨_,rfl⟩
   rw[<-hp]at hc1;rw[<-hq]at hc2;have Hp:=B8S hp;have Hq:=B8S hq;clear hp hq e1;have hc0:decide ((0:Int)<=(j:Int))=true:=by simp
   rcases B85 p q with hlt|heq|hgt
   ·have hb1:((p:Int) != (q:Int))=true:=by simp;omega
    have hb2:decide ((p:Int)<(q:Int))=true:=by simp;omega
    go_wp2_with fail;go_quiet (fail);go_wp2_with fail;go_quiet (fail);go_wp2_with fail;go_ret;refine⟨M5 ?_,hG.trans ((T2 _ _).trans (T2 _ _))⟩;have h1:=A2f Hd1.out (Hn1.out.symm.trans Hn2.out) hj1 Hd.out (by rw[<-Hp.out,<-Hq.out];exact hlt);rw[V4 h1]
   ·subst heq;go_wp2_with fail;go_quiet (fail);go_wp2_with fail;exact⟨⟨j,by omega,rfl,by rw[A1O hj1,A1O hj2,Hd.out,<-Hp.out,<-Hq.out],hG.trans (T2 _ _)⟩,by simp[intOf]⟩
   ·have hb1:((p:Int) != (q:Int))=true:=by simp;omega
    have hb2:decide ((p:Int)<(q:Int))=false:=by simp;omega
    go_wp2_with fail;go_quiet (fail);go_wp2_with fail;go_quiet (fail);go_wp2_with fail;go_ret;refine⟨M5 ?_,hG.trans ((T2 _ _).trans (T2 _ _))⟩;have h1:=A2f Hd2.out (Hn2.out.symm.trans Hn1.out) hj2 Hd.out.symm (by rw[<-Hp.out,<-Hq.out];exact hgt);rw[A0c h1]
theorem B3d(b1 o1 b2 o2:Nat)(l1 l2:List Nat)(c1 c2:Nat)(w:World)(h1:Wds w b1 o1 l1)(h2:Wds w b2 o2 l2)(hd1:Dig W64 l1)(hd2:Dig W64 l2)(ht1:W6 l1)(ht2:W6 l2)(hm:l1.length<=34359738368) :
  Calls Tryz.prog 175 #[.slice (some ⟨b1,o1,none⟩) l1.length c1,.slice (some ⟨b2,o2,none⟩) l2.length c2] w λe w'=>e = .returned (.int .i64 (G4 (val W64 l1) (val W64 l2)))/\A4 w w':=by
 rcases B85 l1.length l2.length with h|h|h
 ·rw[V4 (A4B E5 hd1 ht2 hd2 h)];generalize l1.length=x at *;generalize l2.length=y at *;clear h1 h2 hd1 hd2 ht1 ht2;have hb:((x:Int) != (y:Int))=true:=by simp;omega
  have hb2:decide ((x:Int)<(y:Int))=true:=by simp;omega
  go_enter Tryz.func175,Tryz.ntmps175;go_wp2_with fail;go_ret;exact⟨rfl,A4.refl _⟩
 ·exact B5x b1 o1 b2 o2 l1 l2 c1 c2 w h1 h2 hd1 hd2 h hm
 ·rw[A0c (A4B E5 hd2 ht1 hd1 h)];generalize l1.length=x at *;generalize l2.length=y at *;clear h1 h2 hd1 hd2 ht1 ht2;have hb:((x:Int) != (y:Int))=true:=by simp;omega
  have hb2:decide ((x:Int)<(y:Int))=false:=by simp;omega
  go_enter Tryz.func175,Tryz.ntmps175;go_wp2_with fail;go_ret;exact⟨rfl,A4.refl _⟩
theorem B7J(b1 o1 b2 o2:Nat)(lx ly:List Nat)(c1 c2:Nat)(w0 w:World)(h1:Wds w b1 o1 lx)(h2:Wds w b2 o2 ly)(hne:b1≠b2)(hdx:Dig W64 lx)(hdy:Dig W64 ly)(hl:ly.length<=lx.length)(hle:val W64 ly<=val W64 lx)(hm:lx.length<=34359738368)
  (hc:lx.length<=c1) (hcm:c1<=9223372036854775807) (hg0:A4 w0 w) (hb0:w0.heap.size<=b1) :
  Calls Tryz.prog 176 #[.slice (some ⟨b1,o1,none⟩) lx.length c1,.slice (some ⟨b2,o2,none⟩) ly.length c2] w λe w'=>∃zs:List Nat,e = .returned (.slice (some ⟨b1,o1,none⟩) (E4 zs).length c1)/\(Wds w' b1 o1 zs/\zs.length=lx.length/\Dig W64 zs/\val W64 zs=val W64 lx-val W64 ly/\Wds w' b2 o2 ly)/\A4 w0 w':=by
 obtain⟨n,hn⟩:∃n,n=lx.length:=⟨_,rfl⟩
 obtain⟨m,hmm⟩:∃n,n=ly.length:=⟨_,rfl⟩
 rw[<-hn]at hm hc;rw[<-hn,<-hmm];have hmn:m<=n:=by omega
 have Hs0:=B8S (SbI.start W64 ly hdx);have H1:=B8S h1;have H2:=B8S h2;have Hdx:=B8S hdx;have Hdy:=B8S hdy;have Hn:=B8S hn;have Hmm:=B8S hmm;have Hl:=B8S hl;have Hle:=B8S hle;have Hg0:=B8S hg0;clear h1 h2 hdx hdy hn hmm hl hle hg0;go_enter Tryz.func176,Tryz.ntmps176;go_wp2_with fail;go_loopw [5,10] (λr i wr=>∃(k br:Nat) (zs:List Nat),k<=n/\i = .int .i64 k/\r = .int .u64 br/\SbI W64 lx ly k br zs/\Wds wr b1 o1 zs/\Wds wr b2 o2 ly/\A4 w0 wr) (λ_ i _=>n-(intOf i).toNat)
 case atStart=>exact⟨0,0,lx,by omega,rfl,rfl,Hs0.out,H1.out,H2.out,Hg0.out⟩
 case round =>
  clear Hs0 H1 H2 Hg0;obtain⟨k,br,zs,hk,rfl,rfl,hI,hR,hR2,hG⟩:=hrel;have hbr:br<=1:=hI.2.2.1;have HI:=B8S hI;have HG:=B8S hG;have HR:=B8S hR;have HR2:=B8S hR2;clear hI hG hR hR2;rcases B73 k n with hkn|hkn
  ·have hkl:k<lx.length:=by rw[<-Hn.out];exact hkn
   have hkz:k<zs.length:=by rw[HI.out.1];exact hkl
   have hc1:=HR.out.cell hkz;have hf1:=HR.out.frozen (o1+k);rw[<-E8 hkz,HI.out.2.2.2.1 k (K2 _)]at hc1;have hnx:=HI.out.next C6 Hdx.out Hdy.out hkl;obtain⟨x,hx⟩:∃x,x=dg lx k:=⟨_,rfl⟩
   obtain⟨o,ho⟩:∃o,o=dg ly k:=⟨_,rfl⟩
   rw[<-hx,<-ho]at hnx;rw[<-hx]at hc1;obtain⟨sm,hsm⟩:∃sm,sm=(x+W64-o-br)%W64:=⟨_,rfl⟩
   obtain⟨t,ht⟩:∃t,t=(if x<o+br then 1 else 0):=⟨_,rfl⟩
   rw[<-hsm,<-ht]at hnx;have Hnx:=B8S hnx;have Hset:=B8S (HR.out.set k sm hkz);have Hfar:=B8S (HR2.out.far (p:=⟨b1,o1+k,none⟩) (λe=>hne e.symm) (.int .u64 (sm:Nat)));clear hnx hkz;have hdk:decide ((k:Int)<(n:Int))=true:=by simp;omega
   by_cases hky:k<m
   ·have hc2:=HR2.out.cell (i:=k) (by rw[<-Hmm.out];exact hky);rw[<-E8 (by rw[<-Hmm.out];exact hky),<-ho]at hc2;have hadd:=A2c x o br hbr (x:Int) (o:Int) (br:Int) rfl rfl rfl;rw[show(x+18446744073709551616-o-br)%18446744073709551616=sm from hsm.symm,show(if x<o+br then 1 else 0)=t from ht.symm]at hadd;clear hsm ht hx ho;go_wp2;go_roundw
    case rel=>exact⟨k+1,t,_,by omega,by go_num,rfl,Hnx.out,Hset.out,Hfar.out,HG.out.setCell (p:=⟨b1,o1+k,none⟩) hb0 _⟩
    case measure=>simp[intOf];omega
   ·have hz:o=0:=by rw[ho];exact A0u (by rw[<-Hmm.out];omega)
    have hadd:=A2c x o br hbr (x:Int) 0 (br:Int) rfl (by rw[hz];rfl) rfl;rw[show(x+18446744073709551616-o-br)%18446744073709551616=sm from hsm.symm,show(if x<o+br then 1 else 0)=t from ht.symm]at hadd;clear hsm ht hx ho hz;go_wp2;go_roundw
    case rel=>exact⟨k+1,t,_,by omega,by go_num,rfl,Hnx.out,Hset.out,Hfar.out,HG.out.setCell (p:=⟨b1,o1+k,none⟩) hb0 _⟩
    case measure=>simp[intOf];omega
  ·obtain rfl:n=k:=by omega
   have htr:Calls Tryz.prog 204 #[.slice (some ⟨b1,o1,none⟩) n c1] wr λe w'=>e = .returned (.slice (some ⟨b1,o1,none⟩) (E4 zs).length c1)/\wr=w':=by
    have hl:=HI.out.1;rw[<-Hn.out]at hl;have:=B0e (some ⟨b1,o1,none⟩) zs c1 wr (λ_=>⟨_,_,rfl,HR.out⟩) (by omega) hcm;rw[hl]at this;exact this
   have Htr:=B8S htr;clear htr;have hdk:decide ((n:Int)<(n:Int))=false:=by simp
   go_wp2_with (go_at_call 204;((with_reducible refine(Htr.out).mono ?_);rintro e w1 ⟨rfl,rfl⟩));go_ret;exact⟨zs,rfl,⟨HR.out,by rw[HI.out.1,Hn.out],HI.out.2.1,HI.out.done Hn.out Hl.out Hle.out,HR2.out⟩,HG.out⟩
def T6(z:Int):Int:=-z
def X7(a b:Int):Int:=a+b
def I5(a b:Int):Int:=a*b
def ztd(a:Int)(b:Nat):Int:=a.tdiv b
def ztm(a:Int)(b:Nat):Int:=a*b
def sgn(neg:Bool)(a:Nat):Int:=if neg then -(a:Int)else a
theorem Q7(neg:Bool)(a:Nat):(sgn neg a).natAbs=a:=by unfold sgn;split<;>omega
theorem A0f(a:Nat):sgn false a=a:=rfl
theorem B1a(a:Nat):sgn true a = -(a:Int):=rfl
theorem A9i(neg:Bool)(a:Nat):F9 (sgn neg a)=(neg&&decide (a≠0)):=by
 unfold F9 sgn;cases neg
 ·simp
 ·rw[Bool.eq_iff_iff];simp;omega
theorem A8o(neg:Bool)(a:Nat):F0 (sgn neg a) = .agg #[.bool (neg&&decide (a≠0)),.int .u64 (C4 a),.string (B8 a)]:=by
 unfold F0;rw[A9i,Q7]
theorem A1L(z:Int):sgn (F9 z) z.natAbs=z:=by
 unfold sgn F9;split
 ·rename_i h;have:=B86 h;omega
 ·rename_i h;have:¬z<0:=λh'=>h (B87 h');omega
theorem B2H(a:Nat)(w:World):Calls Tryz.prog 66 #[.bool false,B5 a] w λe w'=>e = .returned (F0 (sgn false a))/\A4 w w':=by
 rw[A8o,Bool.false_and];go_enter Tryz.func66,Tryz.ntmps66;refine en2 ?_;intro u hG b4 b3 hB hF;refine B8N (rdC A8 [] [(0,0),(0,1),(0,2),(0,6),(1,3),(0,4),(0,5),(0,7)] hB hG λK L hN hL=>?_);refine gs ?_
 first|refine gmw (C:=λv=>Q6 _ (by assumption) _) ?_|refine J6 ?_
 refine gs ?_;refine geC hL ?_;clear hB hG hL L;rintro u ⟨-,hB,hG,-⟩;refine gtT ?_;clear hN K;refine st hB hF hG 1 0 [_,_,_] ?_;clear hB hG;intro u hB hG;refine rt Tryz.results66 ?_;exact⟨rfl,hG⟩
theorem B7A(a:Nat)(ha:bl a<=1099511627776)(w:World):Calls Tryz.prog 66 #[.bool true,B5 a] w λe w'=>e = .returned (F0 (sgn true a))/\A4 w w':=by
 rw[A8o,Bool.true_and];have hd:decide (a≠0)=decide (0<bl a):=by
  have:=@U9 a;rw[decide_eq_decide];exact this.symm
 rw[hd];clear hd;go_enter Tryz.func66,Tryz.ntmps66;refine en2 ?_;intro u hG b4 b3 hB hF;refine B8N (rdC A8 [] [(0,0),(0,1),(0,2),(0,6),(1,3),(0,4),(0,5),(0,7)] hB hG λK L hN hL=>?_);refine gs ?_
 first|refine gmw (C:=λv=>Q6 _ (by assumption) _) ?_|refine J6 ?_
 refine gs ?_;refine geC hL ?_;clear hB hG hL L;rintro u ⟨-,hB,hG,-⟩;refine gtT ?_;clear hN K;refine st hB hF hG 1 0 [_,_,_] ?_;clear hB hG;intro u hB hG;refine rt Tryz.results66 ?_;exact⟨rfl,hG⟩
theorem T8(neg:Bool)(a:Nat)(ha:bl a<=1099511627776)(w:World):Calls Tryz.prog 66 #[.bool neg,B5 a] w λe w'=>e = .returned (F0 (sgn neg a))/\A4 w w':=by
 cases neg
 ·exact B2H a w
 ·exact B7A a ha w
theorem A2d(z:Int)(w:World):Calls Tryz.prog 124 #[F0 z] w λe w'=>e = .returned (B5 z.natAbs)/\A4 w w':=by
 go_enter Tryz.func124,Tryz.ntmps124;refine en2 ?_;intro u hG b2 b1 hB hF;refine r0T ?_;refine st hB hF hG 1 0 [_,_] ?_;clear hB hG;intro u hB hG;refine rt Tryz.results124 ?_;exact⟨rfl,hG⟩
theorem A1l{x y:Int}(h:x=y):Ending.returned (F0 x) = .returned (F0 y):=by rw[h]
theorem B3S(n:Int)(h0:n<0)(h1 : -9223372036854775808<=n)(w:World):Calls Tryz.prog 114 #[.int .i64 n] w λe w'=>e = .returned (F0 n)/\A4 w w':=by
 have hw1:IntKind.u64.wrap n=n+18446744073709551616:=by
  simp[IntKind.wrap,IntKind.signed,IntKind.bits];omega
 have hw2:IntKind.u64.wrap (-(n+18446744073709551616))=(n.natAbs:Nat):=by
  simp[IntKind.wrap,IntKind.signed,IntKind.bits];omega
 have hlt:n.natAbs<W64:=by unfold W64;omega
 have hd:decide (n<0)=true:=by simpa using h0
 have hn:F9 n=true:=by unfold F9;exact hd
 go_enter Tryz.func114,Tryz.ntmps114;refine en1 ?_;intro u hG b2 hB hF;refine B8N ?_;refine r0T ?_;refine B8V (rfl) ?_;refine B8N (rsC A8 [0,0,0,1,0] hB hG λK L hN hL=>?_);refine gs ?_;refine gmw (C:=λv=>A3L _ (by assumption) _) ?_;refine gs ?_;refine geC hL ?_;clear hB hG hL L;rintro u ⟨-,hB,hG,-⟩;refine gtT ?_;clear hN K;refine st hB hF hG 0 0 [_,_,_] ?_;clear hB hG;intro u hB hG;refine rt Tryz.results114 ?_;exact⟨by rw[F0,hn],hG⟩
theorem B36(n:Int)(h0:0<=n)(h1:n<=9223372036854775807)(w:World):Calls Tryz.prog 114 #[.int .i64 n] w λe w'=>e = .returned (F0 n)/\A4 w w':=by
 have hw1:IntKind.u64.wrap n=(n.natAbs:Nat):=by
  simp[IntKind.wrap,IntKind.signed,IntKind.bits];omega
 have hlt:n.natAbs<W64:=by unfold W64;omega
 have hd:decide (n<0)=false:=by simpa using h0
 have hn:F9 n=false:=by unfold F9;exact hd
 go_enter Tryz.func114,Tryz.ntmps114;refine en1 ?_;intro u hG b2 hB hF;refine B8N ?_;refine r0T ?_;refine B8T (rfl) ?_;refine B8U ?_;refine A6 ?_;refine B8N (rsC A8 [0,0,1,0] hB hG λK L hN hL=>?_);refine gs ?_;refine gmw (C:=λv=>A3L _ (by assumption) _) ?_;refine gs ?_;refine geC hL ?_;clear hB hG hL L;rintro u ⟨-,hB,hG,-⟩;refine gtT ?_;clear hN K;refine st hB hF hG 0 0 [_,_,_] ?_;clear hB hG;intro u hB hG;refine rt Tryz.results114 ?_;exact⟨by rw[F0,hn],hG⟩
theorem B4p(n:Int)(h0 : -9223372036854775808<=n)(h1:n<=9223372036854775807)(w:World):Calls Tryz.prog 114 #[.int .i64 n] w λe w'=>e = .returned (F0 n)/\A4 w w':=by
 by_cases h:n<0
 ·exact B3S n h h0 w
 ·exact B36 n (by omega) h1 w
theorem A3q(z:Int)(ha:bl z.natAbs<=1099511627776)(w:World):Calls Tryz.prog 99 #[F0 z] w λe w'=>e = .returned (.int .i64 z.sign)/\A4 w w':=by
 go_enter Tryz.func99,Tryz.ntmps99;refine en1 ?_;intro u hG b1 hB hF;refine B8N ?_;refine B8v ?_;refine r0T ?_;refine B88 rfl ?_ ?_
 ·intro ht;have ht3:=ht;refine r0T ?_;refine rt Tryz.results99 ?_;have h:z<0:=B86 ht;exact⟨M5 (B89 h).symm,hG⟩
 ·intro ht;have ht3:=ht;refine B8N (rsE A8 [0,0,1,0,0] hB hG λL hL=>?_);refine gs ?_;refine gmw (C:=λv=>Q6 _ (by assumption) _) ?_;refine gs ?_;refine geT hL ?_;clear hB hG hL L;rintro u ⟨-,hB,hG,-⟩;refine B88 rfl ?_ ?_
  ·intro ht;have ht6:=ht;refine r0T ?_;refine rt Tryz.results99 ?_;have h:¬z<0:=B9A ht3;have h2:0<bl z.natAbs:=by simpa using ht
   have h3:=U9.1 h2;exact⟨M5 (B9B (by omega)).symm,hG⟩
  ·intro ht;have ht6:=ht;refine B8U ?_;refine C8 ?_;refine A6 ?_;refine r0T ?_;refine rt Tryz.results99 ?_;have h:¬z<0:=B9A ht3;have h2:¬0<bl z.natAbs:=by simpa using ht
   have h3:z=0:=by have:=@U9 z.natAbs;omega
   exact⟨M5 (by rw[h3];rfl),hG⟩
theorem A9s(z:Int):sgn (!F9 z) z.natAbs = -z:=by
 unfold sgn F9;by_cases h:z<0<;>simp[h]<;>omega
theorem A97(z:Int)(ha:bl z.natAbs<=1099511627776)(w:World):Calls Tryz.prog 129 #[F0 z] w λe w'=>e = .returned (F0 (T6 z))/\A4 w w':=by
 go_enter Tryz.func129,Tryz.ntmps129;refine en2 ?_;intro u hG b2 b1 hB hF;refine B8N (rsC A8 [0,0,0,0,0,1] hB hG λK L hN hL=>?_);refine gs ?_;refine gmw (C:=λv=>T8 _ _ (by assumption) _) ?_;refine geC hL ?_;clear hB hG hL L;rintro u ⟨-,hB,hG,-⟩;refine gtT ?_;clear hN K;refine st hB hF hG 1 0 [_,_,_] ?_;clear hB hG;intro u hB hG;refine rt Tryz.results129 ?_;exact⟨A1l (A9s z),hG⟩
theorem A8K(a b:Int):sgn (F9 a != F9 b) (a.natAbs*b.natAbs)=a*b:=by
 have h1:=A1L a;have h2:=A1L b;revert h1 h2;generalize F9 a=p;generalize F9 b=q;generalize a.natAbs=x;generalize b.natAbs=y;rintro rfl rfl;cases p<;>cases q<;>simp[sgn,Int.neg_mul,Int.mul_neg]
theorem A5p(a b:Int)(hab:bl a.natAbs+bl b.natAbs<=1099511627776)(w:World):Calls Tryz.prog 82 #[F0 a,F0 b] w λe w'=>e = .returned (F0 (I5 a b))/\A4 w w':=by
 have h1:bl a.natAbs<=1099511627776:=by omega
 have h2:bl b.natAbs<=1099511627776:=by omega
 have h3:bl (a.natAbs*b.natAbs)<=1099511627776:=B8K (Q5 _ _) hab;go_enter Tryz.func82,Tryz.ntmps82;refine en3 ?_;intro u hG b4 b3 b2 hB hF;refine B8N (rdC A8 [] [(0,0),(0,1),(0,2),(0,3),(0,4),(0,5),(0,6),(0,7),(0,8),(1,9),(1,10)] hB hG λK L hN hL=>?_);refine gs ?_;refine gmw (C:=λv=>A6I _ _ (by assumption) (by assumption) _) ?_;refine gmw (C:=λv=>T8 _ _ (by assumption) _) ?_;refine geC hL ?_;clear hB hG hL L;rintro u ⟨-,hB,hG,-⟩;refine gtT ?_;clear hN K;refine st hB hF hG 2 0 [_,_,_] ?_;clear hB hG;intro u hB hG;refine rt Tryz.results82 ?_;exact⟨A1l (A8K a b),hG⟩
def O4(a b:Int):Int:=if a<b then -1 else if b<a then 1 else 0
theorem B6i{a b:Int}(ha:a<0)(hb:b<0):G4 b.natAbs a.natAbs=O4 a b:=by
 unfold G4 O4;split<;>split<;>first|rfl|omega|skip
 all_goals split<;>(try split)<;>omega
theorem B6j{a b:Int}(ha:¬a<0)(hb:¬b<0):G4 a.natAbs b.natAbs=O4 a b:=by
 unfold G4 O4;split<;>split<;>first|rfl|omega|skip
 all_goals split<;>(try split)<;>omega
theorem B1F(a b:Int)(hb:bl b.natAbs<=1099511627776)(n1:a<0)(w:World):Calls Tryz.prog 89 #[F0 a,F0 b] w λe w'=>e = .returned (.int .i64 (O4 a b))/\A4 w w':=by
 have g1:F9 a=true:=B87 n1;go_enter Tryz.func89,Tryz.ntmps89;refine en2 ?_;intro u hG b3 b2 hB hF;refine B8N ?_;refine B8v ?_;refine r0T ?_;refine B88 rfl ?_ ?_
 ·intro ht;have ht5:=ht;refine B8N (rsE A8 [0,0,0,0,1,0] hB hG λL hL=>?_);refine gs ?_;refine gmw (C:=λv=>A0G _ _ (by assumption) _) ?_;refine gs ?_;refine geT hL ?_;clear hB hG hL L;rintro u ⟨-,hB,hG,-⟩;refine rt Tryz.results89 ?_;exact⟨M5 (B6i n1 (B86 ht)),hG⟩
 ·intro ht;have ht5:=ht;refine r0T ?_;refine B8V (rfl) ?_;refine r0T ?_;refine rt Tryz.results89 ?_;have n2:¬b<0:=B9A ht5;exact⟨M5 (by unfold O4;rw[if_pos (by omega)]),hG⟩
theorem B7C(a b:Int)(ha:bl a.natAbs<=1099511627776)(n1:¬a<0)(w:World):Calls Tryz.prog 89 #[F0 a,F0 b] w λe w'=>e = .returned (.int .i64 (O4 a b))/\A4 w w':=by
 have g1:F9 a=false:=B9C n1;replace n1:=Int.not_lt.1 n1;go_enter Tryz.func89,Tryz.ntmps89;refine en2 ?_;intro u hG b3 b2 hB hF;refine B8N ?_;refine B8v ?_;refine r0T ?_;refine B8T (rfl) ?_;refine r0T ?_;refine B8T (rfl) ?_;refine r0T ?_;refine B88 rfl ?_ ?_
 ·intro ht;have ht20:=ht;refine r0T ?_;refine rt Tryz.results89 ?_;have n2:b<0:=B86 ht;exact⟨M5 (by unfold O4;rw[if_neg (by omega),if_pos (by omega)]),hG⟩
 ·intro ht;have ht20:=ht;refine B8U ?_;refine C8 ?_;refine A6 ?_;refine B8N (rsE A8 [0,0,0,0,1,0] hB hG λL hL=>?_);refine gs ?_;refine gmw (C:=λv=>A0G _ _ (by assumption) _) ?_;refine gs ?_;refine geT hL ?_;clear hB hG hL L;rintro u ⟨-,hB,hG,-⟩;refine rt Tryz.results89 ?_;exact⟨M5 (B6j (by omega) (B9A ht20)),hG⟩
theorem A3m(a b:Int)(ha:bl a.natAbs<=1099511627776)(hb:bl b.natAbs<=1099511627776)(w:World):Calls Tryz.prog 89 #[F0 a,F0 b] w λe w'=>e = .returned (.int .i64 (O4 a b))/\A4 w w':=by
 by_cases h:a<0
 ·exact B1F a b hb h w
 ·exact B7C a b ha h w
theorem A9H(a b:Nat)(ha:bl a<=1099511627776)(w:World):Calls Tryz.prog 185 #[B5 a,B5 b] w λe w'=>e = .returned (.tuple #[B5 (a-b),.bool (decide (b<=a))])/\A4 w w':=by
 by_cases h:b<=a
 ·rw[B87 h];exact B5C a b ha h w
 ·rw[B9C h,Nat.sub_eq_zero_of_le (by omega)];exact B4Q a b ha (by omega) w
theorem A9n{a b:Int}(h:F9 a=F9 b):sgn (F9 a) (a.natAbs+b.natAbs)=a+b:=by
 have h1:=A1L a;have h2:=A1L b;rw[<-h]at h2;revert h1 h2;clear h;generalize F9 a=p;generalize a.natAbs=x;generalize b.natAbs=y;rintro rfl rfl;cases p<;>simp[sgn]<;>omega
theorem A5V{a b:Int}(h:¬F9 a=F9 b)(hle:b.natAbs<=a.natAbs):sgn (F9 a) (a.natAbs-b.natAbs)=a+b:=by
 have h1:=A1L a;have h2:=A1L b;revert h1 h2 h hle;generalize F9 a=p;generalize F9 b=q;generalize a.natAbs=x;generalize b.natAbs=y;intro h hle;rintro rfl rfl;revert h;cases p<;>cases q<;>simp[sgn]<;>omega
theorem A8l{a b:Int}(h:¬F9 a=F9 b)(hle:¬b.natAbs<=a.natAbs):sgn (F9 b) (b.natAbs-a.natAbs)=a+b:=by
 rw[A5V (a:=b) (b:=a) (λe=>h e.symm) (by omega),Int.add_comm]
theorem A7x(a b:Int)(ha:bl a.natAbs<1099511627776)(hb:bl b.natAbs<1099511627776)(w:World):Calls Tryz.prog 149 #[F0 a,F0 b] w λe w'=>e = .returned (F0 (X7 a b))/\A4 w w':=by
 have h1:bl a.natAbs<=1099511627776:=by omega
 have h2:bl b.natAbs<=1099511627776:=by omega
 have h3:bl (a.natAbs+b.natAbs)<=1099511627776:=B8K (A6S _ _) (by omega);have h4:bl (a.natAbs-b.natAbs)<=1099511627776:=B8K (A7n _ _) h1;have h5:bl (b.natAbs-a.natAbs)<=1099511627776:=B8K (A7n _ _) h2;go_enter Tryz.func149,Tryz.ntmps149;refine en3 ?_;intro u hG b4 b3 b2 hB hF;refine B8N ?_;refine r0T ?_;refine B88 rfl ?_ ?_
 ·intro ht;have ht13:=ht;refine B8N (rdC A8 [] [(0,0),(0,1),(0,2),(0,3),(0,4),(0,5),(1,6),(1,7)] hB hG λK L hN hL=>?_);refine gs ?_;refine gmw (C:=λv=>B1M _ _ (by assumption) (by assumption) _) ?_;refine gmw (C:=λv=>T8 _ _ (by assumption) _) ?_;refine geC hL ?_;clear hB hG hL L;rintro u ⟨-,hB,hG,-⟩;refine gtT ?_;clear hN K;refine st hB hF hG 2 0 [_,_,_] ?_;clear hB hG;intro u hB hG;refine rt Tryz.results149 ?_;exact⟨A1l (A9n (by simpa using ht)),hG⟩
 ·intro ht;have ht13:=ht;refine B8U ?_;refine A6 ?_;refine B8N ?_;refine B8N (rsC A8 [0,0,0,0,1,0,0,0,2] hB hG λK L hN hL=>?_);refine gs ?_;refine gmw (C:=λv=>A9H _ _ (by assumption) _) ?_;refine gs ?_;refine gaa (M7 _ _ _ _ _) λb5 hb5 hn5=>?_;replace hF:=hF.n1 [] hB hG hb5 hn5;refine geC hL ?_;clear hB hG hL L;rintro u ⟨⟨-,hB,hG,-⟩,h5⟩;replace hB:=hB.cons' h5;clear h5;clear hb5 hn5;refine gtT ?_;clear hN K;refine st hB hF hG 0 0 [_,_] ?_;clear hB hG;intro u hB hG;refine r0T ?_;refine B88 rfl ?_ ?_
  ·intro ht;have ht30:=ht;refine B8N (rsC A8 [0,0,0,1] hB hG λK L hN hL=>?_);refine gs ?_;refine gmw (C:=λv=>T8 _ _ (by assumption) _) ?_;refine geC hL ?_;clear hB hG hL L;rintro u ⟨-,hB,hG,-⟩;refine gtT ?_;clear hN K;refine st hB hF hG 3 0 [_,_,_] ?_;clear hB hG;intro u hB hG;refine rt Tryz.results149 ?_;exact⟨A1l (A5V (by simpa using ht13) (by simpa using ht)),hG⟩
  ·intro ht;have ht30:=ht;refine B8U ?_;refine A6 ?_;refine B8N (rsC A8 [0,0,0,0,1,0,0,0,2] hB hG λK L hN hL=>?_);refine gs ?_;refine gmw (C:=λv=>A9H _ _ (by assumption) _) ?_;refine gs ?_;refine gaa (M7 _ _ _ _ _) λb7 hb7 hn7=>?_;replace hF:=hF.n1 [] hB hG hb7 hn7;refine geC hL ?_;clear hB hG hL L;rintro u ⟨⟨-,hB,hG,-⟩,h7⟩;replace hB:=hB.cons' h7;clear h7;clear hb7 hn7;refine gtT ?_;clear hN K;refine st hB hF hG 0 0 [_,_] ?_;clear hB hG;intro u hB hG;refine B8N (rsC A8 [0,0,0,1] hB hG λK L hN hL=>?_);refine gs ?_;refine gmw (C:=λv=>T8 _ _ (by assumption) _) ?_;refine geC hL ?_;clear hB hG hL L;rintro u ⟨-,hB,hG,-⟩;refine gtT ?_;clear hN K;refine st hB hF hG 4 0 [_,_,_] ?_;clear hB hG;intro u hB hG;refine rt Tryz.results149 ?_;exact⟨A1l (A8l (by simpa using ht13) (by simpa using ht)),hG⟩
def Oth(b:Nat)(w w':World):Prop:=∀b2 o2 l2,b2≠b->Wds w b2 o2 l2->Wds w' b2 o2 l2
theorem Oth.set{b:Nat}{w w':World}(h:Oth b w w')(i:Nat)(v:Value):Oth b w (w'.setCell ⟨b,i,none⟩ v):=λb2 o2 l2 hn hw=>(h b2 o2 l2 hn hw).far (p:=⟨b,i,none⟩) hn v
theorem Oth.grow{b:Nat}{w w' w'':World}(h:Oth b w w')(hg:A4 w' w''):Oth b w w'':=λb2 o2 l2 hn hw=>(h b2 o2 l2 hn hw).grow hg
theorem Oth.refl(b:Nat)(w:World):Oth b w w:=λ_ _ _ _ h=>h
theorem Oth.trans{b:Nat}{w w' w'':World}(h:Oth b w w')(k:Oth b w' w''):Oth b w w'':=λb2 o2 l2 hn hw=>k b2 o2 l2 hn (h b2 o2 l2 hn hw)
theorem B68{l zs:List Nat}{z:Nat}(hz:Tz (val W64 l) z)(hd:Dig W64 l)(h:val W64 zs=val W64 (l.drop (z/64))/2^(z%64)):val W64 l=2^z*val W64 zs/\val W64 zs%2=1:=by
 obtain⟨m,hm⟩:=hz;rw[h,A4n C6 hd,B8W,show W64^(z/64)*2^(z%64)=2^z from A5X z,hm,Nat.mul_div_cancel_left _ (Nat.two_pow_pos z)];exact⟨rfl,by omega⟩
theorem B5f(b off:Nat)(l:List Nat)(c:Nat)(w0 w:World)(h:Wds w b off l)(hd:Dig W64 l)(hv:val W64 l≠0)(hm:l.length<=34359738368)(hc:l.length<=c)(hcm:c<=1099511627776)(hT:Tab w0)(hg0:A4 w0 w)(hb0:w0.heap.size<=b) :
  Calls Tryz.prog 174 #[.slice (some ⟨b,off,none⟩) l.length c] w λe w'=>∃(o' c':Nat) (zs:List Nat),e = .returned (.slice (some ⟨b,o',none⟩) (E4 zs).length c')/\(Wds w' b o' zs/\Dig W64 zs/\zs.length<=l.length/\zs.length<=c'/\c'<=c/\(∃z,Tz (val W64 l) z/\val W64 l=2^z*val W64 zs)/\val W64 zs%2=1/\Oth b w w')/\A4 w0 w':=by
 have hzs:=A5r b off l c hd hv hm w h (hT.grow hg0);obtain⟨n,hn⟩:∃n,n=l.length:=⟨_,rfl⟩
 rw[<-hn]at hm hc hzs;rw[<-hn];have H:=B8S h;have Hzs:=B8S hzs;have Hn:=B8S hn;have Hd:=B8S hd;have Hg0:=B8S hg0;clear h hzs hn hd hg0 hT hv;go_enter Tryz.func174,Tryz.ntmps174;go_wp2_with (go_at_call 173;((with_reducible refine(Hzs.out).mono ?_);rintro e w1 ⟨z,rfl,htz,hzn,rfl⟩;have Htz:=B8S htz;clear htz;obtain⟨wh,hwh⟩:∃q,q=z/64:=⟨_,rfl⟩;obtain⟨p,hp⟩:∃q,q=z%64:=⟨_,rfl⟩;have hp64:p<64:=(by omega);have q1:(z:Int).tdiv 64=(wh:Nat):=(by rw[B8Q (by omega)];omega);have q2:(z:Int).tmod 64=(p:Nat):=(by rw[B8R (by omega)];omega);have q3:(z:Int)/64=(wh:Nat):=(by omega);have q4:(z:Int)%64=(p:Nat):=(by omega);have hwn:wh<n:=(by omega);have Hwh:=B8S hwh;have Hp:=B8S hp;clear hwh hp hzn));obtain⟨m,hmm⟩:∃m,m=n-wh:=⟨_,rfl⟩
 obtain⟨O,hO⟩:∃O,O=off+wh:=⟨_,rfl⟩
 obtain⟨C,hC⟩:∃C,C=c-wh:=⟨_,rfl⟩
 obtain⟨l',hl'⟩:∃l',l'=l.drop wh:=⟨_,rfl⟩
 rw[<-hmm,<-hO,<-hC];have hW:Wds w1 b O l':=by rw[hO,hl'];exact H.out.drop wh
 have hl'n:m=l'.length:=by rw[hl',B9D,hmm,Hn.out]
 have hd':Dig W64 l':=λx hx=>Hd.out x (by rw[hl']at hx;exact B9E hx);obtain⟨t,ht⟩:∃t,t=64-p:=⟨_,rfl⟩
 have hpw:W64=2^p*2^t:=by rw[<-B8a,show p+t=64 by omega];rfl
 have fsm:min p 64=p:=by omega
 have ftm:min t 64=t:=by omega
 have ft:(64-(p:Int))=(t:Nat):=by omega
 have ft2:IntKind.i64.wrap (64-(p:Int))=(t:Nat):=by rw[ft];exact B8j _ (by omega)
 have ft3:IntKind.i64.wrap (t:Int)=(t:Nat):=B8j _ (by omega);have hm2:m<=34359738368:=by omega
 have hCm:m<=C:=by omega
 have hCc:C<=c:=by omega
 have HW:=B8S hW;have Hl'n:=B8S hl'n;have Hl':=B8S hl';have Hd':=B8S hd';have Hpw:=B8S hpw;have Hmm:=B8S hmm;clear hW hl'n hl' hd' hpw hmm hO hC ht q1 q2 q3 q4 H Hzs;go_loopw [16] (λi wr=>∃(k:Nat) (zs:List Nat),k<=m/\i = .int .i64 k/\DnI (2^p) (2^t) l' k zs/\Wds wr b O zs/\Oth b w1 wr/\A4 w0 wr) (λi _=>m-(intOf i).toNat)
 case atStart=>exact⟨0,l',by omega,rfl,DnI.start _ _ _,HW.out,Oth.refl _ _,Hg0.out⟩
 case round =>
  obtain⟨k,zs,hk,rfl,hI,hR,hO,hG⟩:=hrel;have HI:=B8S hI;have HG:=B8S hG;have HR:=B8S hR;have HO:=B8S hO;clear hI hG hR hO;rcases B73 k m with hkm|hkm
  ·have hkl:k<l'.length:=by rw[<-Hl'n.out];exact hkm
   have hkz:k<zs.length:=by rw[HI.out.1];exact hkl
   have hc1:=HR.out.cell hkz;have hf1:=HR.out.frozen (O+k);rw[<-E8 hkz,HI.out.2.2 k (K2 _)]at hc1;have hnx:=HI.out.next hkl;have hxW:=D1 C6 Hd'.out k;have hyW:=D1 C6 Hd'.out (k+1);have hy1:=HI.out.2.2 (k+1) (by omega);obtain⟨x,hx⟩:∃x,x=dg l' k:=⟨_,rfl⟩
   obtain⟨y,hy⟩:∃x,x=dg l' (k+1):=⟨_,rfl⟩
   rw[<-hx]at hc1 hnx hxW;rw[<-hy]at hnx hyW hy1;obtain⟨q,hq⟩:∃q,q=x/2^p:=⟨_,rfl⟩
   obtain⟨L,hL⟩:∃q,q=y%2^p*2^t:=⟨_,rfl⟩
   have hdd:=A2R (y:=y) Hpw.out (Nat.two_pow_pos _) hxW;rw[<-hq,<-hL]at hnx hdd;have fq:(x:Int)/2^p=(q:Nat):=by rw[hq];simp
   have hdj:decide ((k:Int)<(m:Int))=true:=by simp;omega
   rcases B73 (k+1) m with hin|hin
   ·obtain⟨S,hS⟩:∃S,S=q+L:=⟨_,rfl⟩
    rw[<-hS]at hnx;have fL:IntKind.u64.wrap ((y:Int)*2^t)=(L:Nat):=by
     have e:=(A35 y W64 (2^t) (Nat.two_pow_pos _) (2^p) (by rw[B8t];exact Hpw.out) (Nat.two_pow_pos _)).2;rw[show((y:Int)*2^t)=((y*2^t:Nat):Int)by simp,hL,<-e];exact A3N
    have fo:bits .or .u64 (q:Int) (L:Int)=(S:Nat):=by
     rw[hS];have hyW:q<18446744073709551616:=by have:=hdd.1;unfold W64 at this;omega
     rw[B8w _ _ hyW (by have:=hdd.1;unfold W64 at this;omega),A2Q hdd.2 (by rw[hL];exact B9F _ _),B9G]
    have hset1:=HR.out.set k q hkz;have hc2:=hset1.cell (i:=k) (by rw[B8r];exact hkz);have hf2:=hset1.frozen (O+k);rw[List.getElem_set_self]at hc2;have hk1z:k+1<(zs.set k q).length:=by rw[B8r,HI.out.1,<-Hl'n.out];exact hin
    have hc3:=hset1.cell hk1z;rw[<-E8 hk1z,R4 _ _ (by omega),hy1]at hc3;have hset2:=hset1.set k S (by rw[B8r];exact hkz);rw[List.set_set]at hset2;have Hset2:=B8S hset2;have Hnx:=B8S hnx;have hO1:=HO.out.set (O+k) (.int .u64 (q:Nat));have hG1:=HG.out.setCell (p:=⟨b,O+k,none⟩) hb0 (.int .u64 (q:Nat));have hc9:decide ((k:Int)+1<(m:Int))=true:=by simp;omega
    have HO1:=B8S hO1;have HG1:=B8S hG1;clear hS hset1 hset2 hnx hdd hx hy hq hL hkz hk1z hy1 hO1 hG1;go_wp2_with fail;have hset2:=Hset2.out;have hO1:=HO1.out;have hG1:=HG1.out;clear Hset2 HO1 HG1;generalize wr.setCell ⟨b,O+k,none⟩ (.int .u64 q)=w2 at hc2 hf2 hc3 hset2 hG1 hO1⊢;have Hset2:=B8S hset2;have HG1:=B8S hG1;have HO1:=B8S hO1;clear hset2 hG1 hO1 hc1 hf1 hc9 hdj;obtain⟨K1,hK1⟩:∃K,K=k+1:=⟨_,rfl⟩
    have f1:IntKind.i64.wrap ((k:Int)+1)=(K1:Nat):=by rw[show((k:Int)+1)=(K1:Nat)by omega];exact B8j _ (by omega)
    have hK1m:K1<m:=by omega
    rw[<-hK1]at hc3;have HK1:=B8S hK1;clear hK1 hin hkl;go_still_tail 13,(by kernel_rfl)
    go_wp2_with fail;go_roundw
    case rel=>exact⟨K1,_,by omega,rfl,by rw[HK1.out];exact Hnx.out,Hset2.out.grow (A4.drew _),(HO1.out.set (O+k) _).grow (A4.drew _),(HG1.out.setCell (p:=⟨b,O+k,none⟩) hb0 _).trans (A4.drew _)⟩
    case measure=>have:=HK1.out;simp[intOf];omega
   ·have hy0:y=0:=by rw[hy];exact A0u (by rw[<-Hl'n.out];exact hin)
    have hL0:L=0:=by rw[hL,hy0,Nat.zero_mod,B8s]
    rw[hL0,Nat.add_zero]at hnx;have Hset1:=B8S (HR.out.set k q hkz);have Hnx:=B8S hnx;have hc9:decide ((k:Int)+1<(m:Int))=false:=by simp;omega
    clear hnx hdd hx hy hq hL hkz hy0 hL0 hy1;go_wp2_with fail;go_roundw
    case rel=>exact⟨k+1,_,by omega,by go_num,Hnx.out,Hset1.out,HO.out.set (O+k) _,HG.out.setCell (p:=⟨b,O+k,none⟩) hb0 _⟩
    case measure=>simp[intOf];omega
  ·obtain rfl:m=k:=by omega
   have hdn:=HI.out;rw[Hl'n.out]at hdn;obtain⟨hv1,hd1⟩:=hdn.done Hpw.out (Nat.two_pow_pos _) C6 Hd'.out;have hzl:zs.length=m:=by rw[HI.out.1,Hl'n.out]
   have htr:Calls Tryz.prog 204 #[.slice (some ⟨b,O,none⟩) m C] wr λe w'=>e = .returned (.slice (some ⟨b,O,none⟩) (E4 zs).length C)/\wr=w':=by
    have:=B0e (some ⟨b,O,none⟩) zs C wr (λ_=>⟨_,_,rfl,HR.out⟩) (by omega) (by omega);rw[hzl]at this;exact this
   have hvv:=B68 Htz.out Hd.out (zs:=zs) (by rw[<-Hwh.out,<-Hp.out,<-Hl'.out];exact hv1);have Htr:=B8S htr;have Hvv:=B8S hvv;have Hd1:=B8S hd1;have Hzl:=B8S hzl;clear hdn hv1 hd1 htr hvv hzl;have hdj:decide ((m:Int)<(m:Int))=false:=by simp
   go_wp2_with (go_at_call 204;((with_reducible refine(Htr.out).mono ?_);rintro e w1 ⟨rfl,rfl⟩));go_ret;exact⟨O,C,zs,rfl,⟨HR.out,Hd1.out,by rw[Hzl.out,Hmm.out];omega,by rw[Hzl.out];exact hCm,hCc,⟨z,Htz.out,Hvv.out.1⟩,Hvv.out.2,HO.out⟩,HG.out⟩
end Go.Proofs.YtgpglgbcobeogaaGreatDoor
