import Derived.Test.YtgpglgbcobeogaaGreatDoorF13
set_option linter.unusedSimpArgs false
set_option linter.unusedVariables false
set_option maxHeartbeats 1000000
set_option maxRecDepth 100000
namespace Go.Proofs.YtgpglgbcobeogaaGreatDoor
open Go.RowKit
theorem A47{B:Nat}{la lb:List Nat}(hB:2≤B)(h1:Dig B la)(h3:X8 lb)(h2:Dig B lb)(h:la.length<lb.length):val B la<val B lb:=by
 have e1:=M5 h1;rcases (A5r h2).1 h3 with h4|h4
 ·rw[h4]at h;simp at h
 ·exact C0U e1 (C0H (C0W (by omega) (by omega)) h4)
theorem N7{x y:Int}(h:x=y):Ending.returned (.int .i64 x) = .returned (.int .i64 y):=by rw[h]
theorem B0b(A:Option Addr)(l:List Nat)(c:Nat)(w:World)(h:Rd w A l)(hc:l.length≤c)(hm:c≤9223372036854775807) :
  Calls Tryz.prog 204 #[.slice A l.length c] w fun e w'=>e = .returned (.slice A (D8 l).length c)∧w=w':=by
 have H:=C0P h;clear h;obtain⟨n,hn⟩:∃n,n=l.length:=⟨_,rfl⟩
 rw[←hn];rw[←hn]at hc;have Hn:=C0P hn;clear hn;go_enter Tryz.func204,Tryz.ntmps204;go_wp2;go_loop [0] (fun s=>∃k:Nat,k≤n∧s = .slice A k c∧D8 (l.take k)=D8 l) (fun s=>match s with | .slice _ k _=>k|_=>0)
 case atStart=>exact⟨n,B9z _,rfl,by rw[C0r (by rw[Hn.out];exact B9z _)]⟩
 case round =>
  obtain⟨k,hk,rfl,ht⟩:=hrel;have Ht:=C0P ht;clear ht;rcases C0J k with rfl|hpos
  ·go_wp2;go_ret;refine⟨?_,rfl⟩;have:D8 l=[]:=by rw[←Ht.out];rfl
   rw[this];rfl
  ·have hkl:k-1<l.length:=by rw[←Hn.out];omega
   obtain⟨b,off,rfl,hw⟩:=H.out (by rintro rfl;simp at hkl);have hcell:=hw.cell hkl;have Hw:=C0P hw;clear hw;have hsn:l.take k=l.take (k-1)++[l[k-1]]:=by
    have:=C0e hkl;rw[show k-1+1=k by omega]at this;exact this
   have Hsn:=C0P hsn;clear hsn;obtain⟨x,hx⟩:∃x,x=l[k-1]:=⟨_,rfl⟩
   rw[←hx]at hcell;have Hx:=C0P hx;clear hx;have hidx:(0:Int)≤(k:Int)-1:=by omega
   by_cases h0:x=0
   ·subst h0;go_wp2;go_round
    case rel=>exact⟨k-1,by omega,by go_num,by rw[←Ht.out,Hsn.out,←Hx.out,A7P]⟩
    case measure=>simp;omega
   ·have hb:((x:Int) == 0)=false:=by simpa using h0
    go_wp2;go_ret;refine⟨?_,rfl⟩;have:D8 l=l.take k:=by rw[←Ht.out,Hsn.out,A6j _ (by rw[←Hx.out];exact h0)]
    rw[this,List.length_take,C00 (by omega)];rfl
theorem B5Y(b1 o1 b2 o2:Nat)(l1 l2:List Nat)(c1 c2:Nat)(w:World)(h1:Wds w b1 o1 l1)(h2:Wds w b2 o2 l2)(hd1:Dig W64 l1)(hd2:Dig W64 l2)(hl:l1.length=l2.length)(hm:l1.length≤34359738368) :
  Calls Tryz.prog 175 #[.slice (some ⟨b1,o1,none⟩) l1.length c1,.slice (some ⟨b2,o2,none⟩) l2.length c2] w fun e w'=>e = .returned (.int .i64 (H3 (val W64 l1) (val W64 l2)))∧A4 w w':=by
 have H1:=C0P h1;have H2:=C0P h2;have Hd1:=C0P hd1;have Hd2:=C0P hd2;obtain⟨n,hn⟩:∃n,n=l1.length:=⟨_,rfl⟩
 rw[←hl,←hn];rw[←hn]at hm;have Hn1:=C0P hn;have Hn2:=C0P (hn.trans hl);clear h1 h2 hd1 hd2 hl hn;go_enter Tryz.func175,Tryz.ntmps175;go_wp2_with fail;go_loopw [5] (fun s wr=>∃k:Nat,k≤n∧s = .int .i64 ((k:Int)-1)∧l1.drop k=l2.drop k∧A4 w wr) (fun s _=>(intOf s+1).toNat)
 case atStart=>exact⟨n,B9z _,rfl,by rw[C0j (C01 Hn1.out.symm),C0j (C01 Hn2.out.symm)],A4.refl _⟩
 case round =>
  obtain⟨k,hk,rfl,hd,hG⟩:=hrel;have Hd:=C0P hd;clear hd;rcases C0J k with rfl|hpos
  ·have hc:decide ((0:Int)≤((0:Nat):Int)-1)=false:=by decide
   go_wp2_with fail;go_ret;refine⟨N7 ?_,hG⟩;have:=Hd.out;simp only[List.drop_zero]at this;rw[this,A2R rfl]
  ·obtain⟨j,rfl⟩:∃j,k=j+1:=⟨k-1,by omega⟩
   have e1:((j+1:Nat):Int)-1=(j:Nat):=by omega
   rw[e1];have hj1:j<l1.length:=by have:=Hn1.out;omega
   have hj2:j<l2.length:=by have:=Hn2.out;omega
   have hc1:=(H1.out.grow hG).cell hj1;have hc2:=(H2.out.grow hG).cell hj2;rw[←E6 hj1]at hc1;rw[←E6 hj2]at hc2;obtain⟨p,hp⟩:∃p,p=dg l1 j:=⟨_,rfl⟩
   obtain⟨q,hq⟩:∃q,q=dg l2 j:=⟨_,rfl⟩
   rw[←hp]at hc1;rw[←hq]at hc2;have Hp:=C0P hp;have Hq:=C0P hq;clear hp hq e1;have hc0:decide ((0:Int)≤(j:Int))=true:=by simp
   rcases C02 p q with hlt|heq|hgt
   ·have hb1:((p:Int) != (q:Int))=true:=by simp;omega
    have hb2:decide ((p:Int)<(q:Int))=true:=by simp;omega
    go_wp2_with fail;go_quiet (fail);go_wp2_with fail;go_quiet (fail);go_wp2_with fail;go_ret;refine⟨N7 ?_,hG.trans ((U7 _ _).trans (U7 _ _))⟩;have h1:=A3R Hd1.out (Hn1.out.symm.trans Hn2.out) hj1 Hd.out (by rw[←Hp.out,←Hq.out];exact hlt);rw[W9 h1]
   ·subst heq;go_wp2_with fail;go_quiet (fail);go_wp2_with fail;exact⟨⟨j,by omega,rfl,by rw[A1l hj1,A1l hj2,Hd.out,←Hp.out,←Hq.out],hG.trans (U7 _ _)⟩,by simp[intOf]⟩
   ·have hb1:((p:Int) != (q:Int))=true:=by simp;omega
    have hb2:decide ((p:Int)<(q:Int))=false:=by simp;omega
    go_wp2_with fail;go_quiet (fail);go_wp2_with fail;go_quiet (fail);go_wp2_with fail;go_ret;refine⟨N7 ?_,hG.trans ((U7 _ _).trans (U7 _ _))⟩;have h1:=A3R Hd2.out (Hn2.out.symm.trans Hn1.out) hj2 Hd.out.symm (by rw[←Hp.out,←Hq.out];exact hgt);rw[A0l h1]
theorem B6k(b1 o1 b2 o2:Nat)(l1 l2:List Nat)(c1 c2:Nat)(w:World)(h1:Wds w b1 o1 l1)(h2:Wds w b2 o2 l2)(hd1:Dig W64 l1)(hd2:Dig W64 l2)(ht1:X8 l1)(ht2:X8 l2)(hm:l1.length≤34359738368) :
  Calls Tryz.prog 175 #[.slice (some ⟨b1,o1,none⟩) l1.length c1,.slice (some ⟨b2,o2,none⟩) l2.length c2] w fun e w'=>e = .returned (.int .i64 (H3 (val W64 l1) (val W64 l2)))∧A4 w w':=by
 rcases C02 l1.length l2.length with h|h|h
 ·rw[W9 (A47 E3 hd1 ht2 hd2 h)];generalize l1.length=x at *;generalize l2.length=y at *;clear h1 h2 hd1 hd2 ht1 ht2;have hb:((x:Int) != (y:Int))=true:=by simp;omega
  have hb2:decide ((x:Int)<(y:Int))=true:=by simp;omega
  go_enter Tryz.func175,Tryz.ntmps175;go_wp2_with fail;go_ret;exact⟨rfl,A4.refl _⟩
 ·exact B5Y b1 o1 b2 o2 l1 l2 c1 c2 w h1 h2 hd1 hd2 h hm
 ·rw[A0l (A47 E3 hd2 ht1 hd1 h)];generalize l1.length=x at *;generalize l2.length=y at *;clear h1 h2 hd1 hd2 ht1 ht2;have hb:((x:Int) != (y:Int))=true:=by simp;omega
  have hb2:decide ((x:Int)<(y:Int))=false:=by simp;omega
  go_enter Tryz.func175,Tryz.ntmps175;go_wp2_with fail;go_ret;exact⟨rfl,A4.refl _⟩
theorem B55(b1 o1 b2 o2:Nat)(lx ly:List Nat)(c1 c2:Nat)(w0 w:World)(h1:Wds w b1 o1 lx)(h2:Wds w b2 o2 ly)(hne:b1≠b2)(hdx:Dig W64 lx)(hdy:Dig W64 ly)(hl:ly.length≤lx.length)(hle:val W64 ly≤val W64 lx)(hm:lx.length≤34359738368)
  (hc:lx.length≤c1) (hcm:c1≤9223372036854775807) (hg0:A4 w0 w) (hb0:w0.heap.size≤b1) :
  Calls Tryz.prog 176 #[.slice (some ⟨b1,o1,none⟩) lx.length c1,.slice (some ⟨b2,o2,none⟩) ly.length c2] w fun e w'=>∃zs:List Nat,e = .returned (.slice (some ⟨b1,o1,none⟩) (D8 zs).length c1)∧(Wds w' b1 o1 zs∧zs.length=lx.length∧Dig W64 zs∧val W64 zs=val W64 lx-val W64 ly∧Wds w' b2 o2 ly)∧A4 w0 w':=by
 obtain⟨n,hn⟩:∃n,n=lx.length:=⟨_,rfl⟩
 obtain⟨m,hmm⟩:∃n,n=ly.length:=⟨_,rfl⟩
 rw[←hn]at hm hc;rw[←hn,←hmm];have hmn:m≤n:=by omega
 have Hs0:=C0P (SbI.start W64 ly hdx);have H1:=C0P h1;have H2:=C0P h2;have Hdx:=C0P hdx;have Hdy:=C0P hdy;have Hn:=C0P hn;have Hmm:=C0P hmm;have Hl:=C0P hl;have Hle:=C0P hle;have Hg0:=C0P hg0;clear h1 h2 hdx hdy hn hmm hl hle hg0;go_enter Tryz.func176,Tryz.ntmps176;go_wp2_with fail;go_loopw [5,10] (fun r i wr=>∃(k br:Nat) (zs:List Nat),k≤n∧i = .int .i64 k∧r = .int .u64 br∧SbI W64 lx ly k br zs∧Wds wr b1 o1 zs∧Wds wr b2 o2 ly∧A4 w0 wr) (fun _ i _=>n-(intOf i).toNat)
 case atStart=>exact⟨0,0,lx,by omega,rfl,rfl,Hs0.out,H1.out,H2.out,Hg0.out⟩
 case round =>
  clear Hs0 H1 H2 Hg0;obtain⟨k,br,zs,hk,rfl,rfl,hI,hR,hR2,hG⟩:=hrel;have hbr:br≤1:=hI.2.2.1;have HI:=C0P hI;have HG:=C0P hG;have HR:=C0P hR;have HR2:=C0P hR2;clear hI hG hR hR2;rcases B90 k n with hkn|hkn
  ·have hkl:k<lx.length:=by rw[←Hn.out];exact hkn
   have hkz:k<zs.length:=by rw[HI.out.1];exact hkl
   have hc1:=HR.out.cell hkz;have hf1:=HR.out.frozen (o1+k);rw[←E6 hkz,HI.out.2.2.2.1 k (B9z _)]at hc1;have hnx:=HI.out.next C2 Hdx.out Hdy.out hkl;obtain⟨x,hx⟩:∃x,x=dg lx k:=⟨_,rfl⟩
   obtain⟨o,ho⟩:∃o,o=dg ly k:=⟨_,rfl⟩
   rw[←hx,←ho]at hnx;rw[←hx]at hc1;obtain⟨sm,hsm⟩:∃sm,sm=(x+W64-o-br)%W64:=⟨_,rfl⟩
   obtain⟨t,ht⟩:∃t,t=(if x<o+br then 1 else 0):=⟨_,rfl⟩
   rw[←hsm,←ht]at hnx;have Hnx:=C0P hnx;have Hset:=C0P (HR.out.set k sm hkz);have Hfar:=C0P (HR2.out.far (p:=⟨b1,o1+k,none⟩) (fun e=>hne e.symm) (.int .u64 (sm:Nat)));clear hnx hkz;have hdk:decide ((k:Int)<(n:Int))=true:=by simp;omega
   by_cases hky:k<m
   ·have hc2:=HR2.out.cell (i:=k) (by rw[←Hmm.out];exact hky);rw[←E6 (by rw[←Hmm.out];exact hky),←ho]at hc2;have hadd:=A3I x o br hbr (x:Int) (o:Int) (br:Int) rfl rfl rfl;rw[show(x+18446744073709551616-o-br)%18446744073709551616=sm from hsm.symm,show(if x<o+br then 1 else 0)=t from ht.symm]at hadd;clear hsm ht hx ho;go_wp2;go_roundw
    case rel=>exact⟨k+1,t,_,by omega,by go_num,rfl,Hnx.out,Hset.out,Hfar.out,HG.out.setCell (p:=⟨b1,o1+k,none⟩) hb0 _⟩
    case measure=>simp[intOf];omega
   ·have hz:o=0:=by rw[ho];exact A1H (by rw[←Hmm.out];omega)
    have hadd:=A3I x o br hbr (x:Int) 0 (br:Int) rfl (by rw[hz];rfl) rfl;rw[show(x+18446744073709551616-o-br)%18446744073709551616=sm from hsm.symm,show(if x<o+br then 1 else 0)=t from ht.symm]at hadd;clear hsm ht hx ho hz;go_wp2;go_roundw
    case rel=>exact⟨k+1,t,_,by omega,by go_num,rfl,Hnx.out,Hset.out,Hfar.out,HG.out.setCell (p:=⟨b1,o1+k,none⟩) hb0 _⟩
    case measure=>simp[intOf];omega
  ·obtain rfl:n=k:=by omega
   have htr:Calls Tryz.prog 204 #[.slice (some ⟨b1,o1,none⟩) n c1] wr fun e w'=>e = .returned (.slice (some ⟨b1,o1,none⟩) (D8 zs).length c1)∧wr=w':=by
    have hl:=HI.out.1;rw[←Hn.out]at hl;have:=B0b (some ⟨b1,o1,none⟩) zs c1 wr (fun _=>⟨_,_,rfl,HR.out⟩) (by omega) hcm;rw[hl]at this;exact this
   have Htr:=C0P htr;clear htr;have hdk:decide ((n:Int)<(n:Int))=false:=by simp
   go_wp2_with (go_at_call 204;((with_reducible refine(Htr.out).mono ?_);rintro e w1 ⟨rfl,rfl⟩));go_ret;exact⟨zs,rfl,⟨HR.out,by rw[HI.out.1,Hn.out],HI.out.2.1,HI.out.done Hn.out Hl.out Hle.out,HR2.out⟩,HG.out⟩
def A04(z:Int):Int:=-z
def A3N(a b:Int):Int:=a+b
def A7I(a b:Int):Int:=a*b
def ztd(a:Int)(b:Nat):Int:=a.tdiv b
def ztm(a:Int)(b:Nat):Int:=a*b
def sgn(neg:Bool)(a:Nat):Int:=if neg then -(a:Int)else a
theorem A1J(neg:Bool)(a:Nat):(sgn neg a).natAbs=a:=by unfold sgn;split<;>omega
theorem B1o(a:Nat):sgn false a=a:=rfl
theorem B46(a:Nat):sgn true a = -(a:Int):=rfl
theorem B1X(neg:Bool)(a:Nat):E5 (sgn neg a)=(neg&&decide (a≠0)):=by
 unfold E5 sgn;cases neg
 ·simp
 ·rw[Bool.eq_iff_iff];simp;omega
theorem A8p(neg:Bool)(a:Nat):E7 (sgn neg a) = .agg #[.bool (neg&&decide (a≠0)),.int .u64 (B9 a),.string (B6 a)]:=by
 unfold E7;rw[B1X,A1J]
theorem A1v(z:Int):sgn (E5 z) z.natAbs=z:=by
 unfold sgn E5;split
 ·rename_i h;have:=C03 h;omega
 ·rename_i h;have:¬z<0:=fun h'=>h (C04 h');omega
theorem B6f(a:Nat)(w:World):Calls Tryz.prog 66 #[.bool false,B4 a] w fun e w'=>e = .returned (E7 (sgn false a))∧A4 w w':=by
 rw[A8p,Bool.false_and];go_enter Tryz.func66,Tryz.ntmps66;refine en2 ?_;intro u hG b4 b3 hB hF;refine C0K (rdC A8 [] [(0,0),(0,1),(0,2),(0,6),(1,3),(0,4),(0,5),(0,7)] hB hG fun K L hN hL=>?_);refine gs ?_
 first|refine gmw (C:=fun v=>R8 _ (by assumption) _) ?_|refine L0 ?_
 refine gs ?_;refine geC hL ?_;clear hB hG hL L;rintro u ⟨-,hB,hG,-⟩;refine gtT ?_;clear hN K;refine st hB hF hG 1 0 [_,_,_] ?_;clear hB hG;intro u hB hG;refine rt Tryz.results66 ?_;exact⟨rfl,hG⟩
theorem B33(a:Nat)(ha:bl a≤1099511627776)(w:World):Calls Tryz.prog 66 #[.bool true,B4 a] w fun e w'=>e = .returned (E7 (sgn true a))∧A4 w w':=by
 rw[A8p,Bool.true_and];have hd:decide (a≠0)=decide (0<bl a):=by
  have:=@W7 a;rw[decide_eq_decide];exact this.symm
 rw[hd];clear hd;go_enter Tryz.func66,Tryz.ntmps66;refine en2 ?_;intro u hG b4 b3 hB hF;refine C0K (rdC A8 [] [(0,0),(0,1),(0,2),(0,6),(1,3),(0,4),(0,5),(0,7)] hB hG fun K L hN hL=>?_);refine gs ?_
 first|refine gmw (C:=fun v=>R8 _ (by assumption) _) ?_|refine L0 ?_
 refine gs ?_;refine geC hL ?_;clear hB hG hL L;rintro u ⟨-,hB,hG,-⟩;refine gtT ?_;clear hN K;refine st hB hF hG 1 0 [_,_,_] ?_;clear hB hG;intro u hB hG;refine rt Tryz.results66 ?_;exact⟨rfl,hG⟩
theorem U8(neg:Bool)(a:Nat)(ha:bl a≤1099511627776)(w:World):Calls Tryz.prog 66 #[.bool neg,B4 a] w fun e w'=>e = .returned (E7 (sgn neg a))∧A4 w w':=by
 cases neg
 ·exact B6f a w
 ·exact B33 a ha w
theorem A3J(z:Int)(w:World):Calls Tryz.prog 124 #[E7 z] w fun e w'=>e = .returned (B4 z.natAbs)∧A4 w w':=by
 go_enter Tryz.func124,Tryz.ntmps124;refine en2 ?_;intro u hG b2 b1 hB hF;refine r0T ?_;refine st hB hF hG 1 0 [_,_] ?_;clear hB hG;intro u hB hG;refine rt Tryz.results124 ?_;exact⟨rfl,hG⟩
theorem A2j{x y:Int}(h:x=y):Ending.returned (E7 x) = .returned (E7 y):=by rw[h]
theorem B8z(n:Int)(h0:n<0)(h1 : -9223372036854775808≤n)(w:World):Calls Tryz.prog 114 #[.int .i64 n] w fun e w'=>e = .returned (E7 n)∧A4 w w':=by
 have hw1:IntKind.u64.wrap n=n+18446744073709551616:=by
  simp[IntKind.wrap,IntKind.signed,IntKind.bits];omega
 have hw2:IntKind.u64.wrap (-(n+18446744073709551616))=(n.natAbs:Nat):=by
  simp[IntKind.wrap,IntKind.signed,IntKind.bits];omega
 have hlt:n.natAbs<W64:=by unfold W64;omega
 have hd:decide (n<0)=true:=by simpa using h0
 have hn:E5 n=true:=by unfold E5;exact hd
 go_enter Tryz.func114,Tryz.ntmps114;refine en1 ?_;intro u hG b2 hB hF;refine C0K ?_;refine r0T ?_;refine C0S (rfl) ?_;refine C0K (rsC A8 [0,0,0,1,0] hB hG fun K L hN hL=>?_);refine gs ?_;refine gmw (C:=fun v=>A4C _ (by assumption) _) ?_;refine gs ?_;refine geC hL ?_;clear hB hG hL L;rintro u ⟨-,hB,hG,-⟩;refine gtT ?_;clear hN K;refine st hB hF hG 0 0 [_,_,_] ?_;clear hB hG;intro u hB hG;refine rt Tryz.results114 ?_;exact⟨by rw[E7,hn],hG⟩
theorem B5I(n:Int)(h0:0≤n)(h1:n≤9223372036854775807)(w:World):Calls Tryz.prog 114 #[.int .i64 n] w fun e w'=>e = .returned (E7 n)∧A4 w w':=by
 have hw1:IntKind.u64.wrap n=(n.natAbs:Nat):=by
  simp[IntKind.wrap,IntKind.signed,IntKind.bits];omega
 have hlt:n.natAbs<W64:=by unfold W64;omega
 have hd:decide (n<0)=false:=by simpa using h0
 have hn:E5 n=false:=by unfold E5;exact hd
 go_enter Tryz.func114,Tryz.ntmps114;refine en1 ?_;intro u hG b2 hB hF;refine C0K ?_;refine r0T ?_;refine C0Q (rfl) ?_;refine C0R ?_;refine A6 ?_;refine C0K (rsC A8 [0,0,1,0] hB hG fun K L hN hL=>?_);refine gs ?_;refine gmw (C:=fun v=>A4C _ (by assumption) _) ?_;refine gs ?_;refine geC hL ?_;clear hB hG hL L;rintro u ⟨-,hB,hG,-⟩;refine gtT ?_;clear hN K;refine st hB hF hG 0 0 [_,_,_] ?_;clear hB hG;intro u hB hG;refine rt Tryz.results114 ?_;exact⟨by rw[E7,hn],hG⟩
theorem B27(n:Int)(h0 : -9223372036854775808≤n)(h1:n≤9223372036854775807)(w:World):Calls Tryz.prog 114 #[.int .i64 n] w fun e w'=>e = .returned (E7 n)∧A4 w w':=by
 by_cases h:n<0
 ·exact B8z n h h0 w
 ·exact B5I n (by omega) h1 w
theorem A3s(z:Int)(ha:bl z.natAbs≤1099511627776)(w:World):Calls Tryz.prog 99 #[E7 z] w fun e w'=>e = .returned (.int .i64 z.sign)∧A4 w w':=by
 go_enter Tryz.func99,Tryz.ntmps99;refine en1 ?_;intro u hG b1 hB hF;refine C0K ?_;refine C0s ?_;refine r0T ?_;refine C05 rfl ?_ ?_
 ·intro ht;have ht3:=ht;refine r0T ?_;refine rt Tryz.results99 ?_;have h:z<0:=C03 ht;exact⟨N7 (C06 h).symm,hG⟩
 ·intro ht;have ht3:=ht;refine C0K (rsE A8 [0,0,1,0,0] hB hG fun L hL=>?_);refine gs ?_;refine gmw (C:=fun v=>R8 _ (by assumption) _) ?_;refine gs ?_;refine geT hL ?_;clear hB hG hL L;rintro u ⟨-,hB,hG,-⟩;refine C05 rfl ?_ ?_
  ·intro ht;have ht6:=ht;refine r0T ?_;refine rt Tryz.results99 ?_;have h:¬z<0:=C07 ht3;have h2:0<bl z.natAbs:=by simpa using ht
   have h3:=W7.1 h2;exact⟨N7 (C08 (by omega)).symm,hG⟩
  ·intro ht;have ht6:=ht;refine C0R ?_;refine C4 ?_;refine A6 ?_;refine r0T ?_;refine rt Tryz.results99 ?_;have h:¬z<0:=C07 ht3;have h2:¬0<bl z.natAbs:=by simpa using ht
   have h3:z=0:=by have:=@W7 z.natAbs;omega
   exact⟨N7 (by rw[h3];rfl),hG⟩
theorem B1l(z:Int):sgn (!E5 z) z.natAbs = -z:=by
 unfold sgn E5;by_cases h:z<0<;>simp[h]<;>omega
theorem B0O(z:Int)(ha:bl z.natAbs≤1099511627776)(w:World):Calls Tryz.prog 129 #[E7 z] w fun e w'=>e = .returned (E7 (A04 z))∧A4 w w':=by
 go_enter Tryz.func129,Tryz.ntmps129;refine en2 ?_;intro u hG b2 b1 hB hF;refine C0K (rsC A8 [0,0,0,0,0,1] hB hG fun K L hN hL=>?_);refine gs ?_;refine gmw (C:=fun v=>U8 _ _ (by assumption) _) ?_;refine geC hL ?_;clear hB hG hL L;rintro u ⟨-,hB,hG,-⟩;refine gtT ?_;clear hN K;refine st hB hF hG 1 0 [_,_,_] ?_;clear hB hG;intro u hB hG;refine rt Tryz.results129 ?_;exact⟨A2j (B1l z),hG⟩
theorem B3i(a b:Int):sgn (E5 a != E5 b) (a.natAbs*b.natAbs)=a*b:=by
 have h1:=A1v a;have h2:=A1v b;revert h1 h2;generalize E5 a=p;generalize E5 b=q;generalize a.natAbs=x;generalize b.natAbs=y;rintro rfl rfl;cases p<;>cases q<;>simp[sgn,Int.neg_mul,Int.mul_neg]
theorem A6K(a b:Int)(hab:bl a.natAbs+bl b.natAbs≤1099511627776)(w:World):Calls Tryz.prog 82 #[E7 a,E7 b] w fun e w'=>e = .returned (E7 (A7I a b))∧A4 w w':=by
 have h1:bl a.natAbs≤1099511627776:=by omega
 have h2:bl b.natAbs≤1099511627776:=by omega
 have h3:bl (a.natAbs*b.natAbs)≤1099511627776:=C0H (W8 _ _) hab;go_enter Tryz.func82,Tryz.ntmps82;refine en3 ?_;intro u hG b4 b3 b2 hB hF;refine C0K (rdC A8 [] [(0,0),(0,1),(0,2),(0,3),(0,4),(0,5),(0,6),(0,7),(0,8),(1,9),(1,10)] hB hG fun K L hN hL=>?_);refine gs ?_;refine gmw (C:=fun v=>A6Z _ _ (by assumption) (by assumption) _) ?_;refine gmw (C:=fun v=>U8 _ _ (by assumption) _) ?_;refine geC hL ?_;clear hB hG hL L;rintro u ⟨-,hB,hG,-⟩;refine gtT ?_;clear hN K;refine st hB hF hG 2 0 [_,_,_] ?_;clear hB hG;intro u hB hG;refine rt Tryz.results82 ?_;exact⟨A2j (B3i a b),hG⟩
def W6(a b:Int):Int:=if a<b then -1 else if b<a then 1 else 0
theorem B69{a b:Int}(ha:a<0)(hb:b<0):H3 b.natAbs a.natAbs=W6 a b:=by
 unfold H3 W6;split<;>split<;>first|rfl|omega|skip
 all_goals split<;>(try split)<;>omega
theorem B4V{a b:Int}(ha:¬a<0)(hb:¬b<0):H3 a.natAbs b.natAbs=W6 a b:=by
 unfold H3 W6;split<;>split<;>first|rfl|omega|skip
 all_goals split<;>(try split)<;>omega
theorem B38(a b:Int)(hb:bl b.natAbs≤1099511627776)(n1:a<0)(w:World):Calls Tryz.prog 89 #[E7 a,E7 b] w fun e w'=>e = .returned (.int .i64 (W6 a b))∧A4 w w':=by
 have g1:E5 a=true:=C04 n1;go_enter Tryz.func89,Tryz.ntmps89;refine en2 ?_;intro u hG b3 b2 hB hF;refine C0K ?_;refine C0s ?_;refine r0T ?_;refine C05 rfl ?_ ?_
 ·intro ht;have ht5:=ht;refine C0K (rsE A8 [0,0,0,0,1,0] hB hG fun L hL=>?_);refine gs ?_;refine gmw (C:=fun v=>A0f _ _ (by assumption) _) ?_;refine gs ?_;refine geT hL ?_;clear hB hG hL L;rintro u ⟨-,hB,hG,-⟩;refine rt Tryz.results89 ?_;exact⟨N7 (B69 n1 (C03 ht)),hG⟩
 ·intro ht;have ht5:=ht;refine r0T ?_;refine C0S (rfl) ?_;refine r0T ?_;refine rt Tryz.results89 ?_;have n2:¬b<0:=C07 ht5;exact⟨N7 (by unfold W6;rw[if_pos (by omega)]),hG⟩
theorem B9t(a b:Int)(ha:bl a.natAbs≤1099511627776)(n1:¬a<0)(w:World):Calls Tryz.prog 89 #[E7 a,E7 b] w fun e w'=>e = .returned (.int .i64 (W6 a b))∧A4 w w':=by
 have g1:E5 a=false:=C09 n1;replace n1:=Int.not_lt.1 n1;go_enter Tryz.func89,Tryz.ntmps89;refine en2 ?_;intro u hG b3 b2 hB hF;refine C0K ?_;refine C0s ?_;refine r0T ?_;refine C0Q (rfl) ?_;refine r0T ?_;refine C0Q (rfl) ?_;refine r0T ?_;refine C05 rfl ?_ ?_
 ·intro ht;have ht20:=ht;refine r0T ?_;refine rt Tryz.results89 ?_;have n2:b<0:=C03 ht;exact⟨N7 (by unfold W6;rw[if_neg (by omega),if_pos (by omega)]),hG⟩
 ·intro ht;have ht20:=ht;refine C0R ?_;refine C4 ?_;refine A6 ?_;refine C0K (rsE A8 [0,0,0,0,1,0] hB hG fun L hL=>?_);refine gs ?_;refine gmw (C:=fun v=>A0f _ _ (by assumption) _) ?_;refine gs ?_;refine geT hL ?_;clear hB hG hL L;rintro u ⟨-,hB,hG,-⟩;refine rt Tryz.results89 ?_;exact⟨N7 (B4V (by omega) (C07 ht20)),hG⟩
theorem A3v(a b:Int)(ha:bl a.natAbs≤1099511627776)(hb:bl b.natAbs≤1099511627776)(w:World):Calls Tryz.prog 89 #[E7 a,E7 b] w fun e w'=>e = .returned (.int .i64 (W6 a b))∧A4 w w':=by
 by_cases h:a<0
 ·exact B38 a b hb h w
 ·exact B9t a b ha h w
theorem B1a(a b:Nat)(ha:bl a≤1099511627776)(w:World):Calls Tryz.prog 185 #[B4 a,B4 b] w fun e w'=>e = .returned (.tuple #[B4 (a-b),.bool (decide (b≤a))])∧A4 w w':=by
 by_cases h:b≤a
 ·rw[C04 h];exact B7x a b ha h w
 ·rw[C09 h,Nat.sub_eq_zero_of_le (by omega)];exact B3a a b ha (by omega) w
theorem B7w{a b:Int}(h:E5 a=E5 b):sgn (E5 a) (a.natAbs+b.natAbs)=a+b:=by
 have h1:=A1v a;have h2:=A1v b;rw[←h]at h2;revert h1 h2;clear h;generalize E5 a=p;generalize a.natAbs=x;generalize b.natAbs=y;rintro rfl rfl;cases p<;>simp[sgn]<;>omega
theorem A9A{a b:Int}(h:¬E5 a=E5 b)(hle:b.natAbs≤a.natAbs):sgn (E5 a) (a.natAbs-b.natAbs)=a+b:=by
 have h1:=A1v a;have h2:=A1v b;revert h1 h2 h hle;generalize E5 a=p;generalize E5 b=q;generalize a.natAbs=x;generalize b.natAbs=y;intro h hle;rintro rfl rfl;revert h;cases p<;>cases q<;>simp[sgn]<;>omega
theorem B54{a b:Int}(h:¬E5 a=E5 b)(hle:¬b.natAbs≤a.natAbs):sgn (E5 b) (b.natAbs-a.natAbs)=a+b:=by
 rw[A9A (a:=b) (b:=a) (fun e=>h e.symm) (by omega),Int.add_comm]
theorem B06(a b:Int)(ha:bl a.natAbs<1099511627776)(hb:bl b.natAbs<1099511627776)(w:World):Calls Tryz.prog 149 #[E7 a,E7 b] w fun e w'=>e = .returned (E7 (A3N a b))∧A4 w w':=by
 have h1:bl a.natAbs≤1099511627776:=by omega
 have h2:bl b.natAbs≤1099511627776:=by omega
 have h3:bl (a.natAbs+b.natAbs)≤1099511627776:=C0H (A87 _ _) (by omega);have h4:bl (a.natAbs-b.natAbs)≤1099511627776:=C0H (B1x _ _) h1;have h5:bl (b.natAbs-a.natAbs)≤1099511627776:=C0H (B1x _ _) h2;go_enter Tryz.func149,Tryz.ntmps149;refine en3 ?_;intro u hG b4 b3 b2 hB hF;refine C0K ?_;refine r0T ?_;refine C05 rfl ?_ ?_
 ·intro ht;have ht13:=ht;refine C0K (rdC A8 [] [(0,0),(0,1),(0,2),(0,3),(0,4),(0,5),(1,6),(1,7)] hB hG fun K L hN hL=>?_);refine gs ?_;refine gmw (C:=fun v=>B8c _ _ (by assumption) (by assumption) _) ?_;refine gmw (C:=fun v=>U8 _ _ (by assumption) _) ?_;refine geC hL ?_;clear hB hG hL L;rintro u ⟨-,hB,hG,-⟩;refine gtT ?_;clear hN K;refine st hB hF hG 2 0 [_,_,_] ?_;clear hB hG;intro u hB hG;refine rt Tryz.results149 ?_;exact⟨A2j (B7w (by simpa using ht)),hG⟩
 ·intro ht;have ht13:=ht;refine C0R ?_;refine A6 ?_;refine C0K ?_;refine C0K (rsC A8 [0,0,0,0,1,0,0,0,2] hB hG fun K L hN hL=>?_);refine gs ?_;refine gmw (C:=fun v=>B1a _ _ (by assumption) _) ?_;refine gs ?_;refine gaa (M9 _ _ _ _ _) fun b5 hb5 hn5=>?_;replace hF:=hF.n1 [] hB hG hb5 hn5;refine geC hL ?_;clear hB hG hL L;rintro u ⟨⟨-,hB,hG,-⟩,h5⟩;replace hB:=hB.cons' h5;clear h5;clear hb5 hn5;refine gtT ?_;clear hN K;refine st hB hF hG 0 0 [_,_] ?_;clear hB hG;intro u hB hG;refine r0T ?_;refine C05 rfl ?_ ?_
  ·intro ht;have ht30:=ht;refine C0K (rsC A8 [0,0,0,1] hB hG fun K L hN hL=>?_);refine gs ?_;refine gmw (C:=fun v=>U8 _ _ (by assumption) _) ?_;refine geC hL ?_;clear hB hG hL L;rintro u ⟨-,hB,hG,-⟩;refine gtT ?_;clear hN K;refine st hB hF hG 3 0 [_,_,_] ?_;clear hB hG;intro u hB hG;refine rt Tryz.results149 ?_;exact⟨A2j (A9A (by simpa using ht13) (by simpa using ht)),hG⟩
  ·intro ht;have ht30:=ht;refine C0R ?_;refine A6 ?_;refine C0K (rsC A8 [0,0,0,0,1,0,0,0,2] hB hG fun K L hN hL=>?_);refine gs ?_;refine gmw (C:=fun v=>B1a _ _ (by assumption) _) ?_;refine gs ?_;refine gaa (M9 _ _ _ _ _) fun b7 hb7 hn7=>?_;replace hF:=hF.n1 [] hB hG hb7 hn7;refine geC hL ?_;clear hB hG hL L;rintro u ⟨⟨-,hB,hG,-⟩,h7⟩;replace hB:=hB.cons' h7;clear h7;clear hb7 hn7;refine gtT ?_;clear hN K;refine st hB hF hG 0 0 [_,_] ?_;clear hB hG;intro u hB hG;refine C0K (rsC A8 [0,0,0,1] hB hG fun K L hN hL=>?_);refine gs ?_;refine gmw (C:=fun v=>U8 _ _ (by assumption) _) ?_;refine geC hL ?_;clear hB hG hL L;rintro u ⟨-,hB,hG,-⟩;refine gtT ?_;clear hN K;refine st hB hF hG 4 0 [_,_,_] ?_;clear hB hG;intro u hB hG;refine rt Tryz.results149 ?_;exact⟨A2j (B54 (by simpa using ht13) (by simpa using ht)),hG⟩
def Oth(b:Nat)(w w':World):Prop:=∀b2 o2 l2,b2≠b→Wds w b2 o2 l2→Wds w' b2 o2 l2
theorem Oth.set{b:Nat}{w w':World}(h:Oth b w w')(i:Nat)(v:Value):Oth b w (w'.setCell ⟨b,i,none⟩ v):=fun b2 o2 l2 hn hw=>(h b2 o2 l2 hn hw).far (p:=⟨b,i,none⟩) hn v
theorem Oth.grow{b:Nat}{w w' w'':World}(h:Oth b w w')(hg:A4 w' w''):Oth b w w'':=fun b2 o2 l2 hn hw=>(h b2 o2 l2 hn hw).grow hg
theorem Oth.refl(b:Nat)(w:World):Oth b w w:=fun _ _ _ _ h=>h
theorem Oth.trans{b:Nat}{w w' w'':World}(h:Oth b w w')(k:Oth b w' w''):Oth b w w'':=fun b2 o2 l2 hn hw=>k b2 o2 l2 hn (h b2 o2 l2 hn hw)
theorem B6N{l zs:List Nat}{z:Nat}(hz:Tz (val W64 l) z)(hd:Dig W64 l)(h:val W64 zs=val W64 (l.drop (z/64))/2^(z%64)):val W64 l=2^z*val W64 zs∧val W64 zs%2=1:=by
 obtain⟨m,hm⟩:=hz;rw[h,A5F C2 hd,C0T,show W64^(z/64)*2^(z%64)=2^z from A7d z,hm,Nat.mul_div_cancel_left _ (Nat.two_pow_pos z)];exact⟨rfl,by omega⟩
theorem B9d(b off:Nat)(l:List Nat)(c:Nat)(w0 w:World)(h:Wds w b off l)(hd:Dig W64 l)(hv:val W64 l≠0)(hm:l.length≤34359738368)(hc:l.length≤c)(hcm:c≤1099511627776)(hT:Tab w0)(hg0:A4 w0 w)(hb0:w0.heap.size≤b) :
  Calls Tryz.prog 174 #[.slice (some ⟨b,off,none⟩) l.length c] w fun e w'=>∃(o' c':Nat) (zs:List Nat),e = .returned (.slice (some ⟨b,o',none⟩) (D8 zs).length c')∧(Wds w' b o' zs∧Dig W64 zs∧zs.length≤l.length∧zs.length≤c'∧c'≤c∧(∃z,Tz (val W64 l) z∧val W64 l=2^z*val W64 zs)∧val W64 zs%2=1∧Oth b w w')∧A4 w0 w':=by
 have hzs:=A6a b off l c hd hv hm w h (hT.grow hg0);obtain⟨n,hn⟩:∃n,n=l.length:=⟨_,rfl⟩
 rw[←hn]at hm hc hzs;rw[←hn];have H:=C0P h;have Hzs:=C0P hzs;have Hn:=C0P hn;have Hd:=C0P hd;have Hg0:=C0P hg0;clear h hzs hn hd hg0 hT hv;go_enter Tryz.func174,Tryz.ntmps174;go_wp2_with (go_at_call 173;((with_reducible refine(Hzs.out).mono ?_);rintro e w1 ⟨z,rfl,htz,hzn,rfl⟩;have Htz:=C0P htz;clear htz;obtain⟨wh,hwh⟩:∃q,q=z/64:=⟨_,rfl⟩;obtain⟨p,hp⟩:∃q,q=z%64:=⟨_,rfl⟩;have hp64:p<64:=(by omega);have q1:(z:Int).tdiv 64=(wh:Nat):=(by rw[C0N (by omega)];omega);have q2:(z:Int).tmod 64=(p:Nat):=(by rw[C0O (by omega)];omega);have q3:(z:Int)/64=(wh:Nat):=(by omega);have q4:(z:Int)%64=(p:Nat):=(by omega);have hwn:wh<n:=(by omega);have Hwh:=C0P hwh;have Hp:=C0P hp;clear hwh hp hzn));obtain⟨m,hmm⟩:∃m,m=n-wh:=⟨_,rfl⟩
 obtain⟨O,hO⟩:∃O,O=off+wh:=⟨_,rfl⟩
 obtain⟨C,hC⟩:∃C,C=c-wh:=⟨_,rfl⟩
 obtain⟨l',hl'⟩:∃l',l'=l.drop wh:=⟨_,rfl⟩
 rw[←hmm,←hO,←hC];have hW:Wds w1 b O l':=by rw[hO,hl'];exact H.out.drop wh
 have hl'n:m=l'.length:=by rw[hl',C1A,hmm,Hn.out]
 have hd':Dig W64 l':=fun x hx=>Hd.out x (by rw[hl']at hx;exact C1B hx);obtain⟨t,ht⟩:∃t,t=64-p:=⟨_,rfl⟩
 have hpw:W64=2^p*2^t:=by rw[←C0X,show p+t=64 by omega];rfl
 have fsm:min p 64=p:=by omega
 have ftm:min t 64=t:=by omega
 have ft:(64-(p:Int))=(t:Nat):=by omega
 have ft2:IntKind.i64.wrap (64-(p:Int))=(t:Nat):=by rw[ft];exact C0g _ (by omega)
 have ft3:IntKind.i64.wrap (t:Int)=(t:Nat):=C0g _ (by omega);have hm2:m≤34359738368:=by omega
 have hCm:m≤C:=by omega
 have hCc:C≤c:=by omega
 have HW:=C0P hW;have Hl'n:=C0P hl'n;have Hl':=C0P hl';have Hd':=C0P hd';have Hpw:=C0P hpw;have Hmm:=C0P hmm;clear hW hl'n hl' hd' hpw hmm hO hC ht q1 q2 q3 q4 H Hzs;go_loopw [16] (fun i wr=>∃(k:Nat) (zs:List Nat),k≤m∧i = .int .i64 k∧DnI (2^p) (2^t) l' k zs∧Wds wr b O zs∧Oth b w1 wr∧A4 w0 wr) (fun i _=>m-(intOf i).toNat)
 case atStart=>exact⟨0,l',by omega,rfl,DnI.start _ _ _,HW.out,Oth.refl _ _,Hg0.out⟩
 case round =>
  obtain⟨k,zs,hk,rfl,hI,hR,hO,hG⟩:=hrel;have HI:=C0P hI;have HG:=C0P hG;have HR:=C0P hR;have HO:=C0P hO;clear hI hG hR hO;rcases B90 k m with hkm|hkm
  ·have hkl:k<l'.length:=by rw[←Hl'n.out];exact hkm
   have hkz:k<zs.length:=by rw[HI.out.1];exact hkl
   have hc1:=HR.out.cell hkz;have hf1:=HR.out.frozen (O+k);rw[←E6 hkz,HI.out.2.2 k (B9z _)]at hc1;have hnx:=HI.out.next hkl;have hxW:=C7 C2 Hd'.out k;have hyW:=C7 C2 Hd'.out (k+1);have hy1:=HI.out.2.2 (k+1) (by omega);obtain⟨x,hx⟩:∃x,x=dg l' k:=⟨_,rfl⟩
   obtain⟨y,hy⟩:∃x,x=dg l' (k+1):=⟨_,rfl⟩
   rw[←hx]at hc1 hnx hxW;rw[←hy]at hnx hyW hy1;obtain⟨q,hq⟩:∃q,q=x/2^p:=⟨_,rfl⟩
   obtain⟨L,hL⟩:∃q,q=y%2^p*2^t:=⟨_,rfl⟩
   have hdd:=A2o (y:=y) Hpw.out (Nat.two_pow_pos _) hxW;rw[←hq,←hL]at hnx hdd;have fq:(x:Int)/2^p=(q:Nat):=by rw[hq];simp
   have hdj:decide ((k:Int)<(m:Int))=true:=by simp;omega
   rcases B90 (k+1) m with hin|hin
   ·obtain⟨S,hS⟩:∃S,S=q+L:=⟨_,rfl⟩
    rw[←hS]at hnx;have fL:IntKind.u64.wrap ((y:Int)*2^t)=(L:Nat):=by
     have e:=(A43 y W64 (2^t) (Nat.two_pow_pos _) (2^p) (by rw[C0q];exact Hpw.out) (Nat.two_pow_pos _)).2;rw[show((y:Int)*2^t)=((y*2^t:Nat):Int)by simp,hL,←e];exact A39
    have fo:bits .or .u64 (q:Int) (L:Int)=(S:Nat):=by
     rw[hS];have hyW:q<18446744073709551616:=by have:=hdd.1;unfold W64 at this;omega
     rw[C0t _ _ hyW (by have:=hdd.1;unfold W64 at this;omega),A3M hdd.2 (by rw[hL];exact C1C _ _),C1D]
    have hset1:=HR.out.set k q hkz;have hc2:=hset1.cell (i:=k) (by rw[C0o];exact hkz);have hf2:=hset1.frozen (O+k);rw[List.getElem_set_self]at hc2;have hk1z:k+1<(zs.set k q).length:=by rw[C0o,HI.out.1,←Hl'n.out];exact hin
    have hc3:=hset1.cell hk1z;rw[←E6 hk1z,S7 _ _ (by omega),hy1]at hc3;have hset2:=hset1.set k S (by rw[C0o];exact hkz);rw[List.set_set]at hset2;have Hset2:=C0P hset2;have Hnx:=C0P hnx;have hO1:=HO.out.set (O+k) (.int .u64 (q:Nat));have hG1:=HG.out.setCell (p:=⟨b,O+k,none⟩) hb0 (.int .u64 (q:Nat));have hc9:decide ((k:Int)+1<(m:Int))=true:=by simp;omega
    have HO1:=C0P hO1;have HG1:=C0P hG1;clear hS hset1 hset2 hnx hdd hx hy hq hL hkz hk1z hy1 hO1 hG1;go_wp2_with fail;have hset2:=Hset2.out;have hO1:=HO1.out;have hG1:=HG1.out;clear Hset2 HO1 HG1;generalize wr.setCell ⟨b,O+k,none⟩ (.int .u64 q)=w2 at hc2 hf2 hc3 hset2 hG1 hO1⊢;have Hset2:=C0P hset2;have HG1:=C0P hG1;have HO1:=C0P hO1;clear hset2 hG1 hO1 hc1 hf1 hc9 hdj;obtain⟨K1,hK1⟩:∃K,K=k+1:=⟨_,rfl⟩
    have f1:IntKind.i64.wrap ((k:Int)+1)=(K1:Nat):=by rw[show((k:Int)+1)=(K1:Nat)by omega];exact C0g _ (by omega)
    have hK1m:K1<m:=by omega
    rw[←hK1]at hc3;have HK1:=C0P hK1;clear hK1 hin hkl;go_still_tail 13,(by kernel_rfl)
    go_wp2_with fail;go_roundw
    case rel=>exact⟨K1,_,by omega,rfl,by rw[HK1.out];exact Hnx.out,Hset2.out.grow (A4.drew _),(HO1.out.set (O+k) _).grow (A4.drew _),(HG1.out.setCell (p:=⟨b,O+k,none⟩) hb0 _).trans (A4.drew _)⟩
    case measure=>have:=HK1.out;simp[intOf];omega
   ·have hy0:y=0:=by rw[hy];exact A1H (by rw[←Hl'n.out];exact hin)
    have hL0:L=0:=by rw[hL,hy0,Nat.zero_mod,C0p]
    rw[hL0,Nat.add_zero]at hnx;have Hset1:=C0P (HR.out.set k q hkz);have Hnx:=C0P hnx;have hc9:decide ((k:Int)+1<(m:Int))=false:=by simp;omega
    clear hnx hdd hx hy hq hL hkz hy0 hL0 hy1;go_wp2_with fail;go_roundw
    case rel=>exact⟨k+1,_,by omega,by go_num,Hnx.out,Hset1.out,HO.out.set (O+k) _,HG.out.setCell (p:=⟨b,O+k,none⟩) hb0 _⟩
    case measure=>simp[intOf];omega
  ·obtain rfl:m=k:=by omega
   have hdn:=HI.out;rw[Hl'n.out]at hdn;obtain⟨hv1,hd1⟩:=hdn.done Hpw.out (Nat.two_pow_pos _) C2 Hd'.out;have hzl:zs.length=m:=by rw[HI.out.1,Hl'n.out]
   have htr:Calls Tryz.prog 204 #[.slice (some ⟨b,O,none⟩) m C] wr fun e w'=>e = .returned (.slice (some ⟨b,O,none⟩) (D8 zs).length C)∧wr=w':=by
    have:=B0b (some ⟨b,O,none⟩) zs C wr (fun _=>⟨_,_,rfl,HR.out⟩) (by omega) (by omega);rw[hzl]at this;exact this
   have hvv:=B6N Htz.out Hd.out (zs:=zs) (by rw[←Hwh.out,←Hp.out,←Hl'.out];exact hv1);have Htr:=C0P htr;have Hvv:=C0P hvv;have Hd1:=C0P hd1;have Hzl:=C0P hzl;clear hdn hv1 hd1 htr hvv hzl;have hdj:decide ((m:Int)<(m:Int))=false:=by simp
   go_wp2_with (go_at_call 204;((with_reducible refine(Htr.out).mono ?_);rintro e w1 ⟨rfl,rfl⟩));go_ret;exact⟨O,C,zs,rfl,⟨HR.out,Hd1.out,by rw[Hzl.out,Hmm.out];omega,by rw[Hzl.out];exact hCm,hCc,⟨z,Htz.out,Hvv.out.1⟩,Hvv.out.2,HO.out⟩,HG.out⟩
end Go.Proofs.YtgpglgbcobeogaaGreatDoor
