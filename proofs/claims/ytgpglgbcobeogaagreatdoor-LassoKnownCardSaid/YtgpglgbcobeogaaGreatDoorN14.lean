import Derived.Test.YtgpglgbcobeogaaGreatDoorN13
set_option linter.unusedSimpArgs false
set_option linter.unusedVariables false
set_option maxHeartbeats 1000000
set_option maxRecDepth 100000
namespace Go.Proofs.YtgpglgbcobeogaaGreatDoor
open Go.RowKit
theorem A45{B:Nat}{la lb:List Nat}(hB:2<=B)(h1:Dig B la)(h3:U7 lb)(h2:Dig B lb)(h:la.length<lb.length):val B la<val B lb:=by
 have e1:=K4 h1;rcases (A4O h2).1 h3 with h4|h4
 ·rw[h4]at h;simp at h
 ·exact B9N e1 (B9A (B9P (by omega) (by omega)) h4)
theorem N0{x y:Int}(h:x=y):Ending.returned (.int .i64 x) = .returned (.int .i64 y):=by rw[h]
theorem A9w(A:Option Addr)(l:List Nat)(c:Nat)(w:World)(h:Rd w A l)(hc:l.length<=c)(hm:c<=9223372036854775807) :
  Calls Tryz.prog 204 #[.slice A l.length c] w λe w'=>e = .returned (.slice A (D6 l).length c)/\w=w':=by
 have H:=B9I h;clear h;obtain⟨n,hn⟩:∃n,n=l.length:=⟨_,rfl⟩
 rw[<-hn];rw[<-hn]at hc;have Hn:=B9I hn;clear hn;go_enter Tryz.func204,Tryz.ntmps204;go_wp2;go_loop [0] (λs=>∃k:Nat,k<=n/\s = .slice A k c/\D6 (l.take k)=D6 l) (λs=>match s with | .slice _ k _=>k|_=>0)
 case atStart=>exact⟨n,B8s _,rfl,by rw[B9k (by rw[Hn.out];exact B8s _)]⟩
 case round =>
  obtain⟨k,hk,rfl,ht⟩:=hrel;have Ht:=B9I ht;clear ht;rcases B9C k with rfl|hpos
  ·go_wp2;go_ret;refine⟨?_,rfl⟩;have:D6 l=[]:=by rw[<-Ht.out];rfl
   rw[this];rfl
  ·have hkl:k-1<l.length:=by rw[<-Hn.out];omega
   obtain⟨b,off,rfl,hw⟩:=H.out (by rintro rfl;simp at hkl);have hcell:=hw.cell hkl;have Hw:=B9I hw;clear hw;have hsn:l.take k=l.take (k-1)++[l[k-1]]:=by
    have:=B9X hkl;rw[show k-1+1=k by omega]at this;exact this
   have Hsn:=B9I hsn;clear hsn;obtain⟨x,hx⟩:∃x,x=l[k-1]:=⟨_,rfl⟩
   rw[<-hx]at hcell;have Hx:=B9I hx;clear hx;have hidx:(0:Int)<=(k:Int)-1:=by omega
   by_cases h0:x=0
   ·subst h0;go_wp2;go_round
    case rel=>exact⟨k-1,by omega,by go_num,by rw[<-Ht.out,Hsn.out,<-Hx.out,A5a]⟩
    case measure=>simp;omega
   ·have hb:((x:Int) == 0)=false:=by simpa using h0
    go_wp2;go_ret;refine⟨?_,rfl⟩;have:D6 l=l.take k:=by rw[<-Ht.out,Hsn.out,A5j _ (by rw[<-Hx.out];exact h0)]
    rw[this,List.length_take,B9t (by omega)];rfl
theorem B12(b1 o1 b2 o2:Nat)(l1 l2:List Nat)(c1 c2:Nat)(w:World)(h1:Wds w b1 o1 l1)(h2:Wds w b2 o2 l2)(hd1:Dig W64 l1)(hd2:Dig W64 l2)(hl:l1.length=l2.length)(hm:l1.length<=34359738368) :
  Calls Tryz.prog 175 #[.slice (some ⟨b1,o1,none⟩) l1.length c1,.slice (some ⟨b2,o2,none⟩) l2.length c2] w λe w'=>e = .returned (.int .i64 (G8 (val W64 l1) (val W64 l2)))/\A4 w w':=by
 have H1:=B9I h1;have H2:=B9I h2;have Hd1:=B9I hd1;have Hd2:=B9I hd2;obtain⟨n,hn⟩:∃n,n=l1.length:=⟨_,rfl⟩
 rw[<-hl,<-hn];rw[<-hn]at hm;have Hn1:=B9I hn;have Hn2:=B9I (hn.trans hl);clear h1 h2 hd1 hd2 hl hn;go_enter Tryz.func175,Tryz.ntmps175;go_wp2_with fail;go_loopw [5] (λs wr=>∃k:Nat,k<=n/\s = .int .i64 ((k:Int)-1)/\l1.drop k=l2.drop k/\A4 w wr) (λs _=>(intOf s+1).toNat)
 case atStart=>exact⟨n,B8s _,rfl,by rw[B9c (B9u Hn1.out.symm),B9c (B9u Hn2.out.symm)],A4.refl _⟩
 case round =>
  obtain⟨k,hk,rfl,hd,hG⟩:=hrel;have Hd:=B9I hd;clear hd;rcases B9C k with rfl|hpos
  ·have hc:decide ((0:Int)<=((0:Nat):Int)-1)=false:=by decide
   go_wp2_with fail;go_ret;refine⟨N0 ?_,hG⟩;have:=Hd.out;simp only[List.drop_zero]at this;rw[this,A14 rfl]
  ·obtain⟨j,rfl⟩:∃j,k=j+1:=⟨k-1,by omega⟩
   have e1:((j+1:Nat):Int)-1=(j:Nat):=by omega
   rw[e1];have hj1:j<l1.length:=by have:=Hn1.out;omega
   have hj2:j<l2.length:=by have:=Hn2.out;omega
   have hc1:=(H1.out.grow hG).cell hj1;have hc2:=(H2.out.grow hG).cell hj2;rw[<-E3 hj1]at hc1;rw[<-E3 hj2]at hc2;obtain⟨p,hp⟩:∃p,p=dg l1 j:=⟨_,rfl⟩
   obtain⟨q,hq⟩:∃q,q=dg l2 j:=⟨_,rfl⟩
   rw[<-hp]at hc1;rw[<-hq]at hc2;have Hp:=B9I hp;have Hq:=B9I hq;clear hp hq e1;have hc0:decide ((0:Int)<=(j:Int))=true:=by simp
   rcases B9v p q with hlt|heq|hgt
   ·have hb1:((p:Int) != (q:Int))=true:=by simp;omega
    have hb2:decide ((p:Int)<(q:Int))=true:=by simp;omega
    go_wp2_with fail;go_quiet (fail);go_wp2_with fail;go_quiet (fail);go_wp2_with fail;go_ret;refine⟨N0 ?_,hG.trans ((R5 _ _).trans (R5 _ _))⟩;have h1:=A2b Hd1.out (Hn1.out.symm.trans Hn2.out) hj1 Hd.out (by rw[<-Hp.out,<-Hq.out];exact hlt);rw[T8 h1]
   ·subst heq;go_wp2_with fail;go_quiet (fail);go_wp2_with fail;exact⟨⟨j,by omega,rfl,by rw[A1h hj1,A1h hj2,Hd.out,<-Hp.out,<-Hq.out],hG.trans (R5 _ _)⟩,by simp[intOf]⟩
   ·have hb1:((p:Int) != (q:Int))=true:=by simp;omega
    have hb2:decide ((p:Int)<(q:Int))=false:=by simp;omega
    go_wp2_with fail;go_quiet (fail);go_wp2_with fail;go_quiet (fail);go_wp2_with fail;go_ret;refine⟨N0 ?_,hG.trans ((R5 _ _).trans (R5 _ _))⟩;have h1:=A2b Hd2.out (Hn2.out.symm.trans Hn1.out) hj2 Hd.out.symm (by rw[<-Hp.out,<-Hq.out];exact hgt);rw[A0V h1]
theorem B3d(b1 o1 b2 o2:Nat)(l1 l2:List Nat)(c1 c2:Nat)(w:World)(h1:Wds w b1 o1 l1)(h2:Wds w b2 o2 l2)(hd1:Dig W64 l1)(hd2:Dig W64 l2)(ht1:U7 l1)(ht2:U7 l2)(hm:l1.length<=34359738368) :
  Calls Tryz.prog 175 #[.slice (some ⟨b1,o1,none⟩) l1.length c1,.slice (some ⟨b2,o2,none⟩) l2.length c2] w λe w'=>e = .returned (.int .i64 (G8 (val W64 l1) (val W64 l2)))/\A4 w w':=by
 rcases B9v l1.length l2.length with h|h|h
 ·rw[T8 (A45 D8 hd1 ht2 hd2 h)];generalize l1.length=x at *;generalize l2.length=y at *;clear h1 h2 hd1 hd2 ht1 ht2;have hb:((x:Int) != (y:Int))=true:=by simp;omega
  have hb2:decide ((x:Int)<(y:Int))=true:=by simp;omega
  go_enter Tryz.func175,Tryz.ntmps175;go_wp2_with fail;go_ret;exact⟨rfl,A4.refl _⟩
 ·exact B12 b1 o1 b2 o2 l1 l2 c1 c2 w h1 h2 hd1 hd2 h hm
 ·rw[A0V (A45 D8 hd2 ht1 hd1 h)];generalize l1.length=x at *;generalize l2.length=y at *;clear h1 h2 hd1 hd2 ht1 ht2;have hb:((x:Int) != (y:Int))=true:=by simp;omega
  have hb2:decide ((x:Int)<(y:Int))=false:=by simp;omega
  go_enter Tryz.func175,Tryz.ntmps175;go_wp2_with fail;go_ret;exact⟨rfl,A4.refl _⟩
theorem B7F(b1 o1 b2 o2:Nat)(lx ly:List Nat)(c1 c2:Nat)(w0 w:World)(h1:Wds w b1 o1 lx)(h2:Wds w b2 o2 ly)(hne:b1≠b2)(hdx:Dig W64 lx)(hdy:Dig W64 ly)(hl:ly.length<=lx.length)(hle:val W64 ly<=val W64 lx)(hm:lx.length<=34359738368)
  (hc:lx.length<=c1) (hcm:c1<=9223372036854775807) (hg0:A4 w0 w) (hb0:w0.heap.size<=b1) :
  Calls Tryz.prog 176 #[.slice (some ⟨b1,o1,none⟩) lx.length c1,.slice (some ⟨b2,o2,none⟩) ly.length c2] w λe w'=>∃zs:List Nat,e = .returned (.slice (some ⟨b1,o1,none⟩) (D6 zs).length c1)/\(Wds w' b1 o1 zs/\zs.length=lx.length/\Dig W64 zs/\val W64 zs=val W64 lx-val W64 ly/\Wds w' b2 o2 ly)/\A4 w0 w':=by
 obtain⟨n,hn⟩:∃n,n=lx.length:=⟨_,rfl⟩
 obtain⟨m,hmm⟩:∃n,n=ly.length:=⟨_,rfl⟩
 rw[<-hn]at hm hc;rw[<-hn,<-hmm];have hmn:m<=n:=by omega
 have Hs0:=B9I (SbI.start W64 ly hdx);have H1:=B9I h1;have H2:=B9I h2;have Hdx:=B9I hdx;have Hdy:=B9I hdy;have Hn:=B9I hn;have Hmm:=B9I hmm;have Hl:=B9I hl;have Hle:=B9I hle;have Hg0:=B9I hg0;clear h1 h2 hdx hdy hn hmm hl hle hg0;go_enter Tryz.func176,Tryz.ntmps176;go_wp2_with fail;go_loopw [5,10] (λr i wr=>∃(k br:Nat) (zs:List Nat),k<=n/\i = .int .i64 k/\r = .int .u64 br/\SbI W64 lx ly k br zs/\Wds wr b1 o1 zs/\Wds wr b2 o2 ly/\A4 w0 wr) (λ_ i _=>n-(intOf i).toNat)
 case atStart=>exact⟨0,0,lx,by omega,rfl,rfl,Hs0.out,H1.out,H2.out,Hg0.out⟩
 case round =>
  clear Hs0 H1 H2 Hg0;obtain⟨k,br,zs,hk,rfl,rfl,hI,hR,hR2,hG⟩:=hrel;have hbr:br<=1:=hI.2.2.1;have HI:=B9I hI;have HG:=B9I hG;have HR:=B9I hR;have HR2:=B9I hR2;clear hI hG hR hR2;rcases B8t k n with hkn|hkn
  ·have hkl:k<lx.length:=by rw[<-Hn.out];exact hkn
   have hkz:k<zs.length:=by rw[HI.out.1];exact hkl
   have hc1:=HR.out.cell hkz;have hf1:=HR.out.frozen (o1+k);rw[<-E3 hkz,HI.out.2.2.2.1 k (B8s _)]at hc1;have hnx:=HI.out.next C1 Hdx.out Hdy.out hkl;obtain⟨x,hx⟩:∃x,x=dg lx k:=⟨_,rfl⟩
   obtain⟨o,ho⟩:∃o,o=dg ly k:=⟨_,rfl⟩
   rw[<-hx,<-ho]at hnx;rw[<-hx]at hc1;obtain⟨sm,hsm⟩:∃sm,sm=(x+W64-o-br)%W64:=⟨_,rfl⟩
   obtain⟨t,ht⟩:∃t,t=(if x<o+br then 1 else 0):=⟨_,rfl⟩
   rw[<-hsm,<-ht]at hnx;have Hnx:=B9I hnx;have Hset:=B9I (HR.out.set k sm hkz);have Hfar:=B9I (HR2.out.far (p:=⟨b1,o1+k,none⟩) (λe=>hne e.symm) (.int .u64 (sm:Nat)));clear hnx hkz;have hdk:decide ((k:Int)<(n:Int))=true:=by simp;omega
   by_cases hky:k<m
   ·have hc2:=HR2.out.cell (i:=k) (by rw[<-Hmm.out];exact hky);rw[<-E3 (by rw[<-Hmm.out];exact hky),<-ho]at hc2;have hadd:=A2c x o br hbr (x:Int) (o:Int) (br:Int) rfl rfl rfl;rw[show(x+18446744073709551616-o-br)%18446744073709551616=sm from hsm.symm,show(if x<o+br then 1 else 0)=t from ht.symm]at hadd;clear hsm ht hx ho;go_wp2;go_roundw
    case rel=>exact⟨k+1,t,_,by omega,by go_num,rfl,Hnx.out,Hset.out,Hfar.out,HG.out.setCell (p:=⟨b1,o1+k,none⟩) hb0 _⟩
    case measure=>simp[intOf];omega
   ·have hz:o=0:=by rw[ho];exact A0p (by rw[<-Hmm.out];omega)
    have hadd:=A2c x o br hbr (x:Int) 0 (br:Int) rfl (by rw[hz];rfl) rfl;rw[show(x+18446744073709551616-o-br)%18446744073709551616=sm from hsm.symm,show(if x<o+br then 1 else 0)=t from ht.symm]at hadd;clear hsm ht hx ho hz;go_wp2;go_roundw
    case rel=>exact⟨k+1,t,_,by omega,by go_num,rfl,Hnx.out,Hset.out,Hfar.out,HG.out.setCell (p:=⟨b1,o1+k,none⟩) hb0 _⟩
    case measure=>simp[intOf];omega
  ·obtain rfl:n=k:=by omega
   have htr:Calls Tryz.prog 204 #[.slice (some ⟨b1,o1,none⟩) n c1] wr λe w'=>e = .returned (.slice (some ⟨b1,o1,none⟩) (D6 zs).length c1)/\wr=w':=by
    have hl:=HI.out.1;rw[<-Hn.out]at hl;have:=A9w (some ⟨b1,o1,none⟩) zs c1 wr (λ_=>⟨_,_,rfl,HR.out⟩) (by omega) hcm;rw[hl]at this;exact this
   have Htr:=B9I htr;clear htr;have hdk:decide ((n:Int)<(n:Int))=false:=by simp
   go_wp2_with (go_at_call 204;((with_reducible refine(Htr.out).mono ?_);rintro e w1 ⟨rfl,rfl⟩));go_ret;exact⟨zs,rfl,⟨HR.out,by rw[HI.out.1,Hn.out],HI.out.2.1,HI.out.done Hn.out Hl.out Hle.out,HR2.out⟩,HG.out⟩
def A0c(z:Int):Int:=-z
def A2a(a b:Int):Int:=a+b
def A5e(a b:Int):Int:=a*b
def ztd(a:Int)(b:Nat):Int:=a.tdiv b
def ztm(a:Int)(b:Nat):Int:=a*b
def sgn(neg:Bool)(a:Nat):Int:=if neg then -(a:Int)else a
theorem A1k(neg:Bool)(a:Nat):(sgn neg a).natAbs=a:=by unfold sgn;split<;>omega
theorem A7H(a:Nat):sgn false a=a:=rfl
theorem B7S(a:Nat):sgn true a = -(a:Int):=rfl
theorem A86(neg:Bool)(a:Nat):E0 (sgn neg a)=(neg&&decide (a≠0)):=by
 unfold E0 sgn;cases neg
 ·simp
 ·rw[Bool.eq_iff_iff];simp;omega
theorem A68(neg:Bool)(a:Nat):E5 (sgn neg a) = .agg #[.bool (neg&&decide (a≠0)),.int .u64 (B8 a),.string (B6 a)]:=by
 unfold E5;rw[A86,A1k]
theorem A2K(z:Int):sgn (E0 z) z.natAbs=z:=by
 unfold sgn E0;split
 ·rename_i h;have:=B9w h;omega
 ·rename_i h;have:¬z<0:=λh'=>h (B9x h');omega
theorem B1Y(a:Nat)(w:World):Calls Tryz.prog 66 #[.bool false,B2 a] w λe w'=>e = .returned (E5 (sgn false a))/\A4 w w':=by
 rw[A68,Bool.false_and];go_enter Tryz.func66,Tryz.ntmps66;refine en2 ?_;intro u hG b4 b3 hB hF;refine B9D (rdC A8 [] [(0,0),(0,1),(0,2),(0,6),(1,3),(0,4),(0,5),(0,7)] hB hG λK L hN hL=>?_);refine gs ?_
 first|refine gmw (C:=λv=>P4 _ (by assumption) _) ?_|refine I0 ?_
 refine gs ?_;refine geC hL ?_;clear hB hG hL L;rintro u ⟨-,hB,hG,-⟩;refine gtT ?_;clear hN K;refine st hB hF hG 1 0 [_,_,_] ?_;clear hB hG;intro u hB hG;refine rt Tryz.results66 ?_;exact⟨rfl,hG⟩
theorem B6z(a:Nat)(ha:bl a<=1099511627776)(w:World):Calls Tryz.prog 66 #[.bool true,B2 a] w λe w'=>e = .returned (E5 (sgn true a))/\A4 w w':=by
 rw[A68,Bool.true_and];have hd:decide (a≠0)=decide (0<bl a):=by
  have:=@T2 a;rw[decide_eq_decide];exact this.symm
 rw[hd];clear hd;go_enter Tryz.func66,Tryz.ntmps66;refine en2 ?_;intro u hG b4 b3 hB hF;refine B9D (rdC A8 [] [(0,0),(0,1),(0,2),(0,6),(1,3),(0,4),(0,5),(0,7)] hB hG λK L hN hL=>?_);refine gs ?_
 first|refine gmw (C:=λv=>P4 _ (by assumption) _) ?_|refine I0 ?_
 refine gs ?_;refine geC hL ?_;clear hB hG hL L;rintro u ⟨-,hB,hG,-⟩;refine gtT ?_;clear hN K;refine st hB hF hG 1 0 [_,_,_] ?_;clear hB hG;intro u hB hG;refine rt Tryz.results66 ?_;exact⟨rfl,hG⟩
theorem V5(neg:Bool)(a:Nat)(ha:bl a<=1099511627776)(w:World):Calls Tryz.prog 66 #[.bool neg,B2 a] w λe w'=>e = .returned (E5 (sgn neg a))/\A4 w w':=by
 cases neg
 ·exact B1Y a w
 ·exact B6z a ha w
theorem A2Q(z:Int)(w:World):Calls Tryz.prog 124 #[E5 z] w λe w'=>e = .returned (B2 z.natAbs)/\A4 w w':=by
 go_enter Tryz.func124,Tryz.ntmps124;refine en2 ?_;intro u hG b2 b1 hB hF;refine r0T ?_;refine st hB hF hG 1 0 [_,_] ?_;clear hB hG;intro u hB hG;refine rt Tryz.results124 ?_;exact⟨rfl,hG⟩
theorem A2z{x y:Int}(h:x=y):Ending.returned (E5 x) = .returned (E5 y):=by rw[h]
theorem B69(n:Int)(h0:n<0)(h1 : -9223372036854775808<=n)(w:World):Calls Tryz.prog 114 #[.int .i64 n] w λe w'=>e = .returned (E5 n)/\A4 w w':=by
 have hw1:IntKind.u64.wrap n=n+18446744073709551616:=by
  simp[IntKind.wrap,IntKind.signed,IntKind.bits];omega
 have hw2:IntKind.u64.wrap (-(n+18446744073709551616))=(n.natAbs:Nat):=by
  simp[IntKind.wrap,IntKind.signed,IntKind.bits];omega
 have hlt:n.natAbs<W64:=by unfold W64;omega
 have hd:decide (n<0)=true:=by simpa using h0
 have hn:E0 n=true:=by unfold E0;exact hd
 go_enter Tryz.func114,Tryz.ntmps114;refine en1 ?_;intro u hG b2 hB hF;refine B9D ?_;refine r0T ?_;refine B9L (rfl) ?_;refine B9D (rsC A8 [0,0,0,1,0] hB hG λK L hN hL=>?_);refine gs ?_;refine gmw (C:=λv=>A3j _ (by assumption) _) ?_;refine gs ?_;refine geC hL ?_;clear hB hG hL L;rintro u ⟨-,hB,hG,-⟩;refine gtT ?_;clear hN K;refine st hB hF hG 0 0 [_,_,_] ?_;clear hB hG;intro u hB hG;refine rt Tryz.results114 ?_;exact⟨by rw[E5,hn],hG⟩
theorem B2I(n:Int)(h0:0<=n)(h1:n<=9223372036854775807)(w:World):Calls Tryz.prog 114 #[.int .i64 n] w λe w'=>e = .returned (E5 n)/\A4 w w':=by
 have hw1:IntKind.u64.wrap n=(n.natAbs:Nat):=by
  simp[IntKind.wrap,IntKind.signed,IntKind.bits];omega
 have hlt:n.natAbs<W64:=by unfold W64;omega
 have hd:decide (n<0)=false:=by simpa using h0
 have hn:E0 n=false:=by unfold E0;exact hd
 go_enter Tryz.func114,Tryz.ntmps114;refine en1 ?_;intro u hG b2 hB hF;refine B9D ?_;refine r0T ?_;refine B9J (rfl) ?_;refine B9K ?_;refine A6 ?_;refine B9D (rsC A8 [0,0,1,0] hB hG λK L hN hL=>?_);refine gs ?_;refine gmw (C:=λv=>A3j _ (by assumption) _) ?_;refine gs ?_;refine geC hL ?_;clear hB hG hL L;rintro u ⟨-,hB,hG,-⟩;refine gtT ?_;clear hN K;refine st hB hF hG 0 0 [_,_,_] ?_;clear hB hG;intro u hB hG;refine rt Tryz.results114 ?_;exact⟨by rw[E5,hn],hG⟩
theorem B3n(n:Int)(h0 : -9223372036854775808<=n)(h1:n<=9223372036854775807)(w:World):Calls Tryz.prog 114 #[.int .i64 n] w λe w'=>e = .returned (E5 n)/\A4 w w':=by
 by_cases h:n<0
 ·exact B69 n h h0 w
 ·exact B2I n (by omega) h1 w
theorem A3I(z:Int)(ha:bl z.natAbs<=1099511627776)(w:World):Calls Tryz.prog 99 #[E5 z] w λe w'=>e = .returned (.int .i64 z.sign)/\A4 w w':=by
 go_enter Tryz.func99,Tryz.ntmps99;refine en1 ?_;intro u hG b1 hB hF;refine B9D ?_;refine B9l ?_;refine r0T ?_;refine B9y rfl ?_ ?_
 ·intro ht;have ht3:=ht;refine r0T ?_;refine rt Tryz.results99 ?_;have h:z<0:=B9w ht;exact⟨N0 (B9z h).symm,hG⟩
 ·intro ht;have ht3:=ht;refine B9D (rsE A8 [0,0,1,0,0] hB hG λL hL=>?_);refine gs ?_;refine gmw (C:=λv=>P4 _ (by assumption) _) ?_;refine gs ?_;refine geT hL ?_;clear hB hG hL L;rintro u ⟨-,hB,hG,-⟩;refine B9y rfl ?_ ?_
  ·intro ht;have ht6:=ht;refine r0T ?_;refine rt Tryz.results99 ?_;have h:¬z<0:=B90 ht3;have h2:0<bl z.natAbs:=by simpa using ht
   have h3:=T2.1 h2;exact⟨N0 (B91 (by omega)).symm,hG⟩
  ·intro ht;have ht6:=ht;refine B9K ?_;refine C5 ?_;refine A6 ?_;refine r0T ?_;refine rt Tryz.results99 ?_;have h:¬z<0:=B90 ht3;have h2:¬0<bl z.natAbs:=by simpa using ht
   have h3:z=0:=by have:=@T2 z.natAbs;omega
   exact⟨N0 (by rw[h3];rfl),hG⟩
theorem A7a(z:Int):sgn (!E0 z) z.natAbs = -z:=by
 unfold sgn E0;by_cases h:z<0<;>simp[h]<;>omega
theorem A9U(z:Int)(ha:bl z.natAbs<=1099511627776)(w:World):Calls Tryz.prog 129 #[E5 z] w λe w'=>e = .returned (E5 (A0c z))/\A4 w w':=by
 go_enter Tryz.func129,Tryz.ntmps129;refine en2 ?_;intro u hG b2 b1 hB hF;refine B9D (rsC A8 [0,0,0,0,0,1] hB hG λK L hN hL=>?_);refine gs ?_;refine gmw (C:=λv=>V5 _ _ (by assumption) _) ?_;refine geC hL ?_;clear hB hG hL L;rintro u ⟨-,hB,hG,-⟩;refine gtT ?_;clear hN K;refine st hB hF hG 1 0 [_,_,_] ?_;clear hB hG;intro u hB hG;refine rt Tryz.results129 ?_;exact⟨A2z (A7a z),hG⟩
theorem B6E(a b:Int):sgn (E0 a != E0 b) (a.natAbs*b.natAbs)=a*b:=by
 have h1:=A2K a;have h2:=A2K b;revert h1 h2;generalize E0 a=p;generalize E0 b=q;generalize a.natAbs=x;generalize b.natAbs=y;rintro rfl rfl;cases p<;>cases q<;>simp[sgn,Int.neg_mul,Int.mul_neg]
theorem A6h(a b:Int)(hab:bl a.natAbs+bl b.natAbs<=1099511627776)(w:World):Calls Tryz.prog 82 #[E5 a,E5 b] w λe w'=>e = .returned (E5 (A5e a b))/\A4 w w':=by
 have h1:bl a.natAbs<=1099511627776:=by omega
 have h2:bl b.natAbs<=1099511627776:=by omega
 have h3:bl (a.natAbs*b.natAbs)<=1099511627776:=B9A (T0 _ _) hab;go_enter Tryz.func82,Tryz.ntmps82;refine en3 ?_;intro u hG b4 b3 b2 hB hF;refine B9D (rdC A8 [] [(0,0),(0,1),(0,2),(0,3),(0,4),(0,5),(0,6),(0,7),(0,8),(1,9),(1,10)] hB hG λK L hN hL=>?_);refine gs ?_;refine gmw (C:=λv=>A6K _ _ (by assumption) (by assumption) _) ?_;refine gmw (C:=λv=>V5 _ _ (by assumption) _) ?_;refine geC hL ?_;clear hB hG hL L;rintro u ⟨-,hB,hG,-⟩;refine gtT ?_;clear hN K;refine st hB hF hG 2 0 [_,_,_] ?_;clear hB hG;intro u hB hG;refine rt Tryz.results82 ?_;exact⟨A2z (B6E a b),hG⟩
def T6(a b:Int):Int:=if a<b then -1 else if b<a then 1 else 0
theorem B6w{a b:Int}(ha:a<0)(hb:b<0):G8 b.natAbs a.natAbs=T6 a b:=by
 unfold G8 T6;split<;>split<;>first|rfl|omega|skip
 all_goals split<;>(try split)<;>omega
theorem B7U{a b:Int}(ha:¬a<0)(hb:¬b<0):G8 a.natAbs b.natAbs=T6 a b:=by
 unfold G8 T6;split<;>split<;>first|rfl|omega|skip
 all_goals split<;>(try split)<;>omega
theorem B7V(a b:Int)(hb:bl b.natAbs<=1099511627776)(n1:a<0)(w:World):Calls Tryz.prog 89 #[E5 a,E5 b] w λe w'=>e = .returned (.int .i64 (T6 a b))/\A4 w w':=by
 have g1:E0 a=true:=B9x n1;go_enter Tryz.func89,Tryz.ntmps89;refine en2 ?_;intro u hG b3 b2 hB hF;refine B9D ?_;refine B9l ?_;refine r0T ?_;refine B9y rfl ?_ ?_
 ·intro ht;have ht5:=ht;refine B9D (rsE A8 [0,0,0,0,1,0] hB hG λL hL=>?_);refine gs ?_;refine gmw (C:=λv=>A0L _ _ (by assumption) _) ?_;refine gs ?_;refine geT hL ?_;clear hB hG hL L;rintro u ⟨-,hB,hG,-⟩;refine rt Tryz.results89 ?_;exact⟨N0 (B6w n1 (B9w ht)),hG⟩
 ·intro ht;have ht5:=ht;refine r0T ?_;refine B9L (rfl) ?_;refine r0T ?_;refine rt Tryz.results89 ?_;have n2:¬b<0:=B90 ht5;exact⟨N0 (by unfold T6;rw[if_pos (by omega)]),hG⟩
theorem B4X(a b:Int)(ha:bl a.natAbs<=1099511627776)(n1:¬a<0)(w:World):Calls Tryz.prog 89 #[E5 a,E5 b] w λe w'=>e = .returned (.int .i64 (T6 a b))/\A4 w w':=by
 have g1:E0 a=false:=B92 n1;replace n1:=Int.not_lt.1 n1;go_enter Tryz.func89,Tryz.ntmps89;refine en2 ?_;intro u hG b3 b2 hB hF;refine B9D ?_;refine B9l ?_;refine r0T ?_;refine B9J (rfl) ?_;refine r0T ?_;refine B9J (rfl) ?_;refine r0T ?_;refine B9y rfl ?_ ?_
 ·intro ht;have ht20:=ht;refine r0T ?_;refine rt Tryz.results89 ?_;have n2:b<0:=B9w ht;exact⟨N0 (by unfold T6;rw[if_neg (by omega),if_pos (by omega)]),hG⟩
 ·intro ht;have ht20:=ht;refine B9K ?_;refine C5 ?_;refine A6 ?_;refine B9D (rsE A8 [0,0,0,0,1,0] hB hG λL hL=>?_);refine gs ?_;refine gmw (C:=λv=>A0L _ _ (by assumption) _) ?_;refine gs ?_;refine geT hL ?_;clear hB hG hL L;rintro u ⟨-,hB,hG,-⟩;refine rt Tryz.results89 ?_;exact⟨N0 (B7U (by omega) (B90 ht20)),hG⟩
theorem A3B(a b:Int)(ha:bl a.natAbs<=1099511627776)(hb:bl b.natAbs<=1099511627776)(w:World):Calls Tryz.prog 89 #[E5 a,E5 b] w λe w'=>e = .returned (.int .i64 (T6 a b))/\A4 w w':=by
 by_cases h:a<0
 ·exact B7V a b hb h w
 ·exact B4X a b ha h w
theorem A7l(a b:Nat)(ha:bl a<=1099511627776)(w:World):Calls Tryz.prog 185 #[B2 a,B2 b] w λe w'=>e = .returned (.tuple #[B2 (a-b),.bool (decide (b<=a))])/\A4 w w':=by
 by_cases h:b<=a
 ·rw[B9x h];exact B1l a b ha h w
 ·rw[B92 h,Nat.sub_eq_zero_of_le (by omega)];exact B2y a b ha (by omega) w
theorem B3Q{a b:Int}(h:E0 a=E0 b):sgn (E0 a) (a.natAbs+b.natAbs)=a+b:=by
 have h1:=A2K a;have h2:=A2K b;rw[<-h]at h2;revert h1 h2;clear h;generalize E0 a=p;generalize a.natAbs=x;generalize b.natAbs=y;rintro rfl rfl;cases p<;>simp[sgn]<;>omega
theorem A7I{a b:Int}(h:¬E0 a=E0 b)(hle:b.natAbs<=a.natAbs):sgn (E0 a) (a.natAbs-b.natAbs)=a+b:=by
 have h1:=A2K a;have h2:=A2K b;revert h1 h2 h hle;generalize E0 a=p;generalize E0 b=q;generalize a.natAbs=x;generalize b.natAbs=y;intro h hle;rintro rfl rfl;revert h;cases p<;>cases q<;>simp[sgn]<;>omega
theorem B3S{a b:Int}(h:¬E0 a=E0 b)(hle:¬b.natAbs<=a.natAbs):sgn (E0 b) (b.natAbs-a.natAbs)=a+b:=by
 rw[A7I (a:=b) (b:=a) (λe=>h e.symm) (by omega),Int.add_comm]
theorem B0p(a b:Int)(ha:bl a.natAbs<1099511627776)(hb:bl b.natAbs<1099511627776)(w:World):Calls Tryz.prog 149 #[E5 a,E5 b] w λe w'=>e = .returned (E5 (A2a a b))/\A4 w w':=by
 have h1:bl a.natAbs<=1099511627776:=by omega
 have h2:bl b.natAbs<=1099511627776:=by omega
 have h3:bl (a.natAbs+b.natAbs)<=1099511627776:=B9A (A8b _ _) (by omega);have h4:bl (a.natAbs-b.natAbs)<=1099511627776:=B9A (A7A _ _) h1;have h5:bl (b.natAbs-a.natAbs)<=1099511627776:=B9A (A7A _ _) h2;go_enter Tryz.func149,Tryz.ntmps149;refine en3 ?_;intro u hG b4 b3 b2 hB hF;refine B9D ?_;refine r0T ?_;refine B9y rfl ?_ ?_
 ·intro ht;have ht13:=ht;refine B9D (rdC A8 [] [(0,0),(0,1),(0,2),(0,3),(0,4),(0,5),(1,6),(1,7)] hB hG λK L hN hL=>?_);refine gs ?_;refine gmw (C:=λv=>B4i _ _ (by assumption) (by assumption) _) ?_;refine gmw (C:=λv=>V5 _ _ (by assumption) _) ?_;refine geC hL ?_;clear hB hG hL L;rintro u ⟨-,hB,hG,-⟩;refine gtT ?_;clear hN K;refine st hB hF hG 2 0 [_,_,_] ?_;clear hB hG;intro u hB hG;refine rt Tryz.results149 ?_;exact⟨A2z (B3Q (by simpa using ht)),hG⟩
 ·intro ht;have ht13:=ht;refine B9K ?_;refine A6 ?_;refine B9D ?_;refine B9D (rsC A8 [0,0,0,0,1,0,0,0,2] hB hG λK L hN hL=>?_);refine gs ?_;refine gmw (C:=λv=>A7l _ _ (by assumption) _) ?_;refine gs ?_;refine gaa (L8 _ _ _ _ _) λb5 hb5 hn5=>?_;replace hF:=hF.n1 [] hB hG hb5 hn5;refine geC hL ?_;clear hB hG hL L;rintro u ⟨⟨-,hB,hG,-⟩,h5⟩;replace hB:=hB.cons' h5;clear h5;clear hb5 hn5;refine gtT ?_;clear hN K;refine st hB hF hG 0 0 [_,_] ?_;clear hB hG;intro u hB hG;refine r0T ?_;refine B9y rfl ?_ ?_
  ·intro ht;have ht30:=ht;refine B9D (rsC A8 [0,0,0,1] hB hG λK L hN hL=>?_);refine gs ?_;refine gmw (C:=λv=>V5 _ _ (by assumption) _) ?_;refine geC hL ?_;clear hB hG hL L;rintro u ⟨-,hB,hG,-⟩;refine gtT ?_;clear hN K;refine st hB hF hG 3 0 [_,_,_] ?_;clear hB hG;intro u hB hG;refine rt Tryz.results149 ?_;exact⟨A2z (A7I (by simpa using ht13) (by simpa using ht)),hG⟩
  ·intro ht;have ht30:=ht;refine B9K ?_;refine A6 ?_;refine B9D (rsC A8 [0,0,0,0,1,0,0,0,2] hB hG λK L hN hL=>?_);refine gs ?_;refine gmw (C:=λv=>A7l _ _ (by assumption) _) ?_;refine gs ?_;refine gaa (L8 _ _ _ _ _) λb7 hb7 hn7=>?_;replace hF:=hF.n1 [] hB hG hb7 hn7;refine geC hL ?_;clear hB hG hL L;rintro u ⟨⟨-,hB,hG,-⟩,h7⟩;replace hB:=hB.cons' h7;clear h7;clear hb7 hn7;refine gtT ?_;clear hN K;refine st hB hF hG 0 0 [_,_] ?_;clear hB hG;intro u hB hG;refine B9D (rsC A8 [0,0,0,1] hB hG λK L hN hL=>?_);refine gs ?_;refine gmw (C:=λv=>V5 _ _ (by assumption) _) ?_;refine geC hL ?_;clear hB hG hL L;rintro u ⟨-,hB,hG,-⟩;refine gtT ?_;clear hN K;refine st hB hF hG 4 0 [_,_,_] ?_;clear hB hG;intro u hB hG;refine rt Tryz.results149 ?_;exact⟨A2z (B3S (by simpa using ht13) (by simpa using ht)),hG⟩
def Oth(b:Nat)(w w':World):Prop:=∀b2 o2 l2,b2≠b->Wds w b2 o2 l2->Wds w' b2 o2 l2
theorem Oth.set{b:Nat}{w w':World}(h:Oth b w w')(i:Nat)(v:Value):Oth b w (w'.setCell ⟨b,i,none⟩ v):=λb2 o2 l2 hn hw=>(h b2 o2 l2 hn hw).far (p:=⟨b,i,none⟩) hn v
theorem Oth.grow{b:Nat}{w w' w'':World}(h:Oth b w w')(hg:A4 w' w''):Oth b w w'':=λb2 o2 l2 hn hw=>(h b2 o2 l2 hn hw).grow hg
theorem Oth.refl(b:Nat)(w:World):Oth b w w:=λ_ _ _ _ h=>h
theorem Oth.trans{b:Nat}{w w' w'':World}(h:Oth b w w')(k:Oth b w' w''):Oth b w w'':=λb2 o2 l2 hn hw=>k b2 o2 l2 hn (h b2 o2 l2 hn hw)
theorem B6p{l zs:List Nat}{z:Nat}(hz:Tz (val W64 l) z)(hd:Dig W64 l)(h:val W64 zs=val W64 (l.drop (z/64))/2^(z%64)):val W64 l=2^z*val W64 zs/\val W64 zs%2=1:=by
 obtain⟨m,hm⟩:=hz;rw[h,A4y C1 hd,B9M,show W64^(z/64)*2^(z%64)=2^z from A5g z,hm,Nat.mul_div_cancel_left _ (Nat.two_pow_pos z)];exact⟨rfl,by omega⟩
theorem B2Z(b off:Nat)(l:List Nat)(c:Nat)(w0 w:World)(h:Wds w b off l)(hd:Dig W64 l)(hv:val W64 l≠0)(hm:l.length<=34359738368)(hc:l.length<=c)(hcm:c<=1099511627776)(hT:Tab w0)(hg0:A4 w0 w)(hb0:w0.heap.size<=b) :
  Calls Tryz.prog 174 #[.slice (some ⟨b,off,none⟩) l.length c] w λe w'=>∃(o' c':Nat) (zs:List Nat),e = .returned (.slice (some ⟨b,o',none⟩) (D6 zs).length c')/\(Wds w' b o' zs/\Dig W64 zs/\zs.length<=l.length/\zs.length<=c'/\c'<=c/\(∃z,Tz (val W64 l) z/\val W64 l=2^z*val W64 zs)/\val W64 zs%2=1/\Oth b w w')/\A4 w0 w':=by
 have hzs:=A5m b off l c hd hv hm w h (hT.grow hg0);obtain⟨n,hn⟩:∃n,n=l.length:=⟨_,rfl⟩
 rw[<-hn]at hm hc hzs;rw[<-hn];have H:=B9I h;have Hzs:=B9I hzs;have Hn:=B9I hn;have Hd:=B9I hd;have Hg0:=B9I hg0;clear h hzs hn hd hg0 hT hv;go_enter Tryz.func174,Tryz.ntmps174;go_wp2_with (go_at_call 173;((with_reducible refine(Hzs.out).mono ?_);rintro e w1 ⟨z,rfl,htz,hzn,rfl⟩;have Htz:=B9I htz;clear htz;obtain⟨wh,hwh⟩:∃q,q=z/64:=⟨_,rfl⟩;obtain⟨p,hp⟩:∃q,q=z%64:=⟨_,rfl⟩;have hp64:p<64:=(by omega);have q1:(z:Int).tdiv 64=(wh:Nat):=(by rw[B9G (by omega)];omega);have q2:(z:Int).tmod 64=(p:Nat):=(by rw[B9H (by omega)];omega);have q3:(z:Int)/64=(wh:Nat):=(by omega);have q4:(z:Int)%64=(p:Nat):=(by omega);have hwn:wh<n:=(by omega);have Hwh:=B9I hwh;have Hp:=B9I hp;clear hwh hp hzn));obtain⟨m,hmm⟩:∃m,m=n-wh:=⟨_,rfl⟩
 obtain⟨O,hO⟩:∃O,O=off+wh:=⟨_,rfl⟩
 obtain⟨C,hC⟩:∃C,C=c-wh:=⟨_,rfl⟩
 obtain⟨l',hl'⟩:∃l',l'=l.drop wh:=⟨_,rfl⟩
 rw[<-hmm,<-hO,<-hC];have hW:Wds w1 b O l':=by rw[hO,hl'];exact H.out.drop wh
 have hl'n:m=l'.length:=by rw[hl',B93,hmm,Hn.out]
 have hd':Dig W64 l':=λx hx=>Hd.out x (by rw[hl']at hx;exact B94 hx);obtain⟨t,ht⟩:∃t,t=64-p:=⟨_,rfl⟩
 have hpw:W64=2^p*2^t:=by rw[<-B9Q,show p+t=64 by omega];rfl
 have fsm:min p 64=p:=by omega
 have ftm:min t 64=t:=by omega
 have ft:(64-(p:Int))=(t:Nat):=by omega
 have ft2:IntKind.i64.wrap (64-(p:Int))=(t:Nat):=by rw[ft];exact B9Z _ (by omega)
 have ft3:IntKind.i64.wrap (t:Int)=(t:Nat):=B9Z _ (by omega);have hm2:m<=34359738368:=by omega
 have hCm:m<=C:=by omega
 have hCc:C<=c:=by omega
 have HW:=B9I hW;have Hl'n:=B9I hl'n;have Hl':=B9I hl';have Hd':=B9I hd';have Hpw:=B9I hpw;have Hmm:=B9I hmm;clear hW hl'n hl' hd' hpw hmm hO hC ht q1 q2 q3 q4 H Hzs;go_loopw [16] (λi wr=>∃(k:Nat) (zs:List Nat),k<=m/\i = .int .i64 k/\DnI (2^p) (2^t) l' k zs/\Wds wr b O zs/\Oth b w1 wr/\A4 w0 wr) (λi _=>m-(intOf i).toNat)
 case atStart=>exact⟨0,l',by omega,rfl,DnI.start _ _ _,HW.out,Oth.refl _ _,Hg0.out⟩
 case round =>
  obtain⟨k,zs,hk,rfl,hI,hR,hO,hG⟩:=hrel;have HI:=B9I hI;have HG:=B9I hG;have HR:=B9I hR;have HO:=B9I hO;clear hI hG hR hO;rcases B8t k m with hkm|hkm
  ·have hkl:k<l'.length:=by rw[<-Hl'n.out];exact hkm
   have hkz:k<zs.length:=by rw[HI.out.1];exact hkl
   have hc1:=HR.out.cell hkz;have hf1:=HR.out.frozen (O+k);rw[<-E3 hkz,HI.out.2.2 k (B8s _)]at hc1;have hnx:=HI.out.next hkl;have hxW:=C6 C1 Hd'.out k;have hyW:=C6 C1 Hd'.out (k+1);have hy1:=HI.out.2.2 (k+1) (by omega);obtain⟨x,hx⟩:∃x,x=dg l' k:=⟨_,rfl⟩
   obtain⟨y,hy⟩:∃x,x=dg l' (k+1):=⟨_,rfl⟩
   rw[<-hx]at hc1 hnx hxW;rw[<-hy]at hnx hyW hy1;obtain⟨q,hq⟩:∃q,q=x/2^p:=⟨_,rfl⟩
   obtain⟨L,hL⟩:∃q,q=y%2^p*2^t:=⟨_,rfl⟩
   have hdd:=A2R (y:=y) Hpw.out (Nat.two_pow_pos _) hxW;rw[<-hq,<-hL]at hnx hdd;have fq:(x:Int)/2^p=(q:Nat):=by rw[hq];simp
   have hdj:decide ((k:Int)<(m:Int))=true:=by simp;omega
   rcases B8t (k+1) m with hin|hin
   ·obtain⟨S,hS⟩:∃S,S=q+L:=⟨_,rfl⟩
    rw[<-hS]at hnx;have fL:IntKind.u64.wrap ((y:Int)*2^t)=(L:Nat):=by
     have e:=(A4m y W64 (2^t) (Nat.two_pow_pos _) (2^p) (by rw[B9j];exact Hpw.out) (Nat.two_pow_pos _)).2;rw[show((y:Int)*2^t)=((y*2^t:Nat):Int)by simp,hL,<-e];exact A3Y
    have fo:bits .or .u64 (q:Int) (L:Int)=(S:Nat):=by
     rw[hS];have hyW:q<18446744073709551616:=by have:=hdd.1;unfold W64 at this;omega
     rw[B9m _ _ hyW (by have:=hdd.1;unfold W64 at this;omega),A20 hdd.2 (by rw[hL];exact B95 _ _),B96]
    have hset1:=HR.out.set k q hkz;have hc2:=hset1.cell (i:=k) (by rw[B9h];exact hkz);have hf2:=hset1.frozen (O+k);rw[List.getElem_set_self]at hc2;have hk1z:k+1<(zs.set k q).length:=by rw[B9h,HI.out.1,<-Hl'n.out];exact hin
    have hc3:=hset1.cell hk1z;rw[<-E3 hk1z,P6 _ _ (by omega),hy1]at hc3;have hset2:=hset1.set k S (by rw[B9h];exact hkz);rw[List.set_set]at hset2;have Hset2:=B9I hset2;have Hnx:=B9I hnx;have hO1:=HO.out.set (O+k) (.int .u64 (q:Nat));have hG1:=HG.out.setCell (p:=⟨b,O+k,none⟩) hb0 (.int .u64 (q:Nat));have hc9:decide ((k:Int)+1<(m:Int))=true:=by simp;omega
    have HO1:=B9I hO1;have HG1:=B9I hG1;clear hS hset1 hset2 hnx hdd hx hy hq hL hkz hk1z hy1 hO1 hG1;go_wp2_with fail;have hset2:=Hset2.out;have hO1:=HO1.out;have hG1:=HG1.out;clear Hset2 HO1 HG1;generalize wr.setCell ⟨b,O+k,none⟩ (.int .u64 q)=w2 at hc2 hf2 hc3 hset2 hG1 hO1⊢;have Hset2:=B9I hset2;have HG1:=B9I hG1;have HO1:=B9I hO1;clear hset2 hG1 hO1 hc1 hf1 hc9 hdj;obtain⟨K1,hK1⟩:∃K,K=k+1:=⟨_,rfl⟩
    have f1:IntKind.i64.wrap ((k:Int)+1)=(K1:Nat):=by rw[show((k:Int)+1)=(K1:Nat)by omega];exact B9Z _ (by omega)
    have hK1m:K1<m:=by omega
    rw[<-hK1]at hc3;have HK1:=B9I hK1;clear hK1 hin hkl;go_still_tail 13,(by kernel_rfl)
    go_wp2_with fail;go_roundw
    case rel=>exact⟨K1,_,by omega,rfl,by rw[HK1.out];exact Hnx.out,Hset2.out.grow (A4.drew _),(HO1.out.set (O+k) _).grow (A4.drew _),(HG1.out.setCell (p:=⟨b,O+k,none⟩) hb0 _).trans (A4.drew _)⟩
    case measure=>have:=HK1.out;simp[intOf];omega
   ·have hy0:y=0:=by rw[hy];exact A0p (by rw[<-Hl'n.out];exact hin)
    have hL0:L=0:=by rw[hL,hy0,Nat.zero_mod,B9i]
    rw[hL0,Nat.add_zero]at hnx;have Hset1:=B9I (HR.out.set k q hkz);have Hnx:=B9I hnx;have hc9:decide ((k:Int)+1<(m:Int))=false:=by simp;omega
    clear hnx hdd hx hy hq hL hkz hy0 hL0 hy1;go_wp2_with fail;go_roundw
    case rel=>exact⟨k+1,_,by omega,by go_num,Hnx.out,Hset1.out,HO.out.set (O+k) _,HG.out.setCell (p:=⟨b,O+k,none⟩) hb0 _⟩
    case measure=>simp[intOf];omega
  ·obtain rfl:m=k:=by omega
   have hdn:=HI.out;rw[Hl'n.out]at hdn;obtain⟨hv1,hd1⟩:=hdn.done Hpw.out (Nat.two_pow_pos _) C1 Hd'.out;have hzl:zs.length=m:=by rw[HI.out.1,Hl'n.out]
   have htr:Calls Tryz.prog 204 #[.slice (some ⟨b,O,none⟩) m C] wr λe w'=>e = .returned (.slice (some ⟨b,O,none⟩) (D6 zs).length C)/\wr=w':=by
    have:=A9w (some ⟨b,O,none⟩) zs C wr (λ_=>⟨_,_,rfl,HR.out⟩) (by omega) (by omega);rw[hzl]at this;exact this
   have hvv:=B6p Htz.out Hd.out (zs:=zs) (by rw[<-Hwh.out,<-Hp.out,<-Hl'.out];exact hv1);have Htr:=B9I htr;have Hvv:=B9I hvv;have Hd1:=B9I hd1;have Hzl:=B9I hzl;clear hdn hv1 hd1 htr hvv hzl;have hdj:decide ((m:Int)<(m:Int))=false:=by simp
   go_wp2_with (go_at_call 204;((with_reducible refine(Htr.out).mono ?_);rintro e w1 ⟨rfl,rfl⟩));go_ret;exact⟨O,C,zs,rfl,⟨HR.out,Hd1.out,by rw[Hzl.out,Hmm.out];omega,by rw[Hzl.out];exact hCm,hCc,⟨z,Htz.out,Hvv.out.1⟩,Hvv.out.2,HO.out⟩,HG.out⟩
end Go.Proofs.YtgpglgbcobeogaaGreatDoor
