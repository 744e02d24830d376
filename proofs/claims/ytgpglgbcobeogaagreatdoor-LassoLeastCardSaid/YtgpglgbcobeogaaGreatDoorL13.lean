import Derived.Test.YtgpglgbcobeogaaGreatDoorL12
set_option linter.unusedSimpArgs false
set_option linter.unusedVariables false
set_option maxHeartbeats 2000000
set_option maxRecDepth 100000
namespace Go.Proofs.YtgpglgbcobeogaaGreatDoor
open Go.RowKit
def E9{X:Type}(f:X->Value)(T:X->World->Prop)(w:World)(e:Ending)(w':World):Prop:=∃x,e = .returned (f x)/\T x w'/\A4 w w'
theorem B0j{l:List Nat}{i:Nat}(h:i<l.length):dg l.reverse i=dg l (l.length-1-i):=by
 rw[E8 (by simpa using h),E8 (by omega),List.getElem_reverse]
def A0R(m:Nat)(l:List Nat)(i:Nat)(zs:List Nat):Prop:=zs.length=m/\Dig W64 zs/\val W64 zs=val 256 (l.reverse.take i)
theorem A0R.start(m:Nat)(l:List Nat):A0R m l 0 (List.replicate m 0) :=
 ⟨by simp,λz hz=>(by rw[(List.mem_replicate.1 hz).2];exact C6),by rw[A1S];rfl⟩
theorem A0R.next{m:Nat}{l zs:List Nat}{i:Nat}(h:A0R m l i zs)(hd:Dig 256 l)(hi:i<l.length)(hm:l.length<=8*m) :
  dg zs (i/8) ||| dg l (l.length-1-i)*2^(8*(i%8))=dg zs (i/8)+dg l (l.length-1-i)*2^(8*(i%8))/\dg zs (i/8)+dg l (l.length-1-i)*2^(8*(i%8))<W64 /\
  A0R m l (i+1) (zs.set (i/8) (dg zs (i/8)+dg l (l.length-1-i)*2^(8*(i%8)))):=by
 obtain⟨h1,h2,h3⟩:=h;have hdr:Dig 256 l.reverse:=λx hx=>hd x (List.mem_reverse.1 hx);have hv:val W64 zs<256^i:=by rw[h3];exact A5o (by omega) hdr i
 obtain⟨e1,e2,e3⟩:=B6a (zs:=zs) (i:=i) (y:=dg l (l.length-1-i)) (by omega) hv (D1 (by omega) hd _);refine⟨e1,e2,by rw[B8r];exact h1,S7 h2 _ e2,?_⟩;rw[e3,N2,<-h3,B0j hi,B8t]
theorem A0R.done{m:Nat}{l zs:List Nat}{i:Nat}(h:A0R m l i zs)(hi:i=l.length):val W64 zs=val 256 l.reverse:=by
 rw[h.2.2,B8u (by simp;omega)]
theorem A8J(A:Option Addr)(l:List Nat)(c:Nat)(hd:Dig 256 l)(hm:l.length<=137438953471)(w:World)(hA:By w A l) :
  Calls Tryz.prog 132 #[.slice A l.length c] w λe w'=>e = .returned (B5 (val 256 l.reverse))/\A4 w w':=by
 obtain⟨n,hn⟩:∃n,n=l.length:=⟨_,rfl⟩
 obtain⟨m,hmm⟩:∃m,m=(n+7)/8:=⟨_,rfl⟩
 have hmi:((n:Int)+7)/8=(m:Int):=by omega
 have hmt:((n:Int)+7).tdiv 8=(m:Int):=by rw[B8Q (by omega)];exact hmi
 rw[<-hn];rw[<-hn]at hm;have hw0:IntKind.i64.wrap ((n:Int)+7)=(n:Int)+7:=B8j _ (by omega);have hmk:=A1X m (by omega) (m:Int) rfl;have hmb:m<=34359738368:=by omega
 have hn8:n<=8*m:=by omega
 have HA:=B8S hA;have Hn:=B8S hn;have Hd:=B8S hd;clear hA hn hd hmm;go_enter Tryz.func132,Tryz.ntmps132;refine en1 ?_;intro u hG b2 hB hF;refine r0T ?_;have hbo:=Blk.new u 42 (D3 (List.replicate m 0));have hF3:=Fr.new (tk:=[]) hF hB hG (K2 u.heap.size) (by simp);have hB3:=Bx.cons hbo (hB.grow (A4.alloc u (.cells (D3 (List.replicate m 0)) 42)));have hG3:=hG.trans (A4.alloc u (.cells (D3 (List.replicate m 0)) 42));simp only[List.cons_append,List.nil_append,List.map_cons,List.map_nil]at hF3;clear hB hF hG hbo;generalize World.alloc u _=v at  hB3 hG3⊢;generalize u.heap.size=b3 at hB3 hF3⊢;have hB:=hB3;have hF:=hF3;have hG:=hG3;clear hB3 hF3 hG3;obtain⟨u,rfl⟩:=exQ v;refine B8N ?_;refine r0T ?_;refine B8v ?_;go_loopw [12] (λs0 wr=>∃(i:Nat) (zs:List Nat),i<=n/\s0 = .int .i64 i/\(A0R m l i zs)/\Bx wr [(b3,42,D3 zs),(b2,44,#[.int .u64 0,.string ⟨#[]⟩])]/\A4 w wr) (λs0 _=>n-(intOf s0).toNat)
 case atStart=>exact⟨0,List.replicate m 0,B8k _,rfl,A0R.start m l,hB,hG⟩
 case round =>
  clear hB hG;obtain⟨i,zs,hi,rfl,hrel0,hB,hG⟩:=hrel;obtain⟨u,rfl⟩:=exQ wr;have H0:=B8S hrel0;clear hrel0;rcases B73 i n with hlt0|hge0
  ·have hdec:decide ((i:Int)<(n:Int))=true:=by simp;omega
   obtain⟨l1,l2,l3⟩:=H0.out.next Hd.out (by rw[<-Hn.out];exact hlt0) (by rw[<-Hn.out];exact hn8);obtain⟨k,hk⟩:∃k,k=n-1-i:=⟨_,rfl⟩
   rw[<-Hn.out,<-hk]at l1 l2 l3;have hbk:=D1 (by omega) Hd.out k;have hkl:k<l.length:=by rw[<-Hn.out];omega
   have hki:(n:Int)-1-(i:Int)=(k:Int):=by omega
   have hqz:i/8<zs.length:=by rw[H0.out.1];omega
   have hzl:=D1 C6 H0.out.2.1 (i/8);obtain⟨q,hq⟩:∃q,q=i/8:=⟨_,rfl⟩
   obtain⟨p,hr⟩:∃r,r=i%8:=⟨_,rfl⟩
   obtain⟨y,hy⟩:∃y,y=dg l k:=⟨_,rfl⟩
   obtain⟨x,hx⟩:∃x,x=dg zs (i/8):=⟨_,rfl⟩
   obtain⟨z,hz⟩:∃z,z=y*2^(8*p):=⟨_,rfl⟩
   obtain⟨s,hs⟩:∃s,s=x+z:=⟨_,rfl⟩
   have hr8:p<8:=by omega
   have hqm:q<m:=by omega
   rw[<-hx,<-hr,<-hy,<-hz,<-hs]at l1 l2 l3;rw[<-hq]at l3 hqz;rw[<-hx]at hzl;rw[<-hy]at hbk;unfold W64 at hzl;have hz64:z<18446744073709551616:=by unfold W64 at l2;omega
   have g1:(D3 zs)[q]?=some (.int .u64 (x:Nat)):=by rw[A0N,B8i hqz,hx,<-hq,E8 hqz];rfl
   have G2:=B8S (A2Z zs q s);obtain⟨b1,o1,hAe,-⟩:=HA.out.cell hkl;have hby:∀W,A4 w W->W.cell? ⟨b1,o1+k,none⟩=some (.int .u8 (y:Nat)):=λW hg=>by
    obtain⟨b',o',e,hc⟩:=(HA.out.grow hg).cell hkl;rw[hAe]at e;cases e;rw[hy];exact hc
   have Hby:=B8S hby
   subst hAe;have L3:=B8S l3;have f1:(i:Int).tdiv 8=(q:Int):=by rw[B8Q (by omega)];omega
   have f2:(i:Int).tmod 8=(p:Int):=by rw[B8R (by omega)];omega
   have f3:(i:Int)/8=(q:Int):=by omega
   have f4:(i:Int)%8=(p:Int):=by omega
   have f5:IntKind.u64.wrap ((y:Int)*2^(8*p))=(z:Int):=by
    rw[show((y:Int)*2^(8*p))=((z:Nat):Int)by rw[hz];simp];exact D4 hz64
   have f6:bits BinOp.or IntKind.u64 (x:Int) (z:Int)=(s:Nat):=by rw[B8w x z hzl hz64,l1]
   have f7:(8*(p:Int)).toNat=8*p:=by omega
   have f8:min (8*p) 64=8*p:=by omega
   have f9:IntKind.u64.wrap (y:Int)=(y:Int):=D4 (by omega);have f10:IntKind.i64.wrap (q:Int)=(q:Int):=B8j _ (by omega);have f11:IntKind.i64.wrap (p:Int)=(p:Int):=B8j _ (by omega);have f12:IntKind.i64.wrap (8*(p:Int))=8*(p:Int):=B8j _ (by omega);have f13:IntKind.i64.wrap ((n:Int)-1)=(n:Int)-1:=B8j _ (by omega);have f14:IntKind.i64.wrap (k:Int)=(k:Int):=B8j _ (by omega);have f15:k<n:=by omega
   clear l1 l2 l3 hq hr hy hx hz hs hk hkl hqz hby
   refine r0T ?_;refine B8N ?_;refine B8V (rfl) ?_;refine B8U ?_;refine A6 ?_;refine B8N ?_;refine B8v ?_;refine r0T ?_;refine rdC A8 [] [(0,0),(0,1),(0,2),(0,3),(0,4),(0,5),(0,6),(0,7),(0,8),(0,9),(0,10),(0,11),(0,12),(0,13),(0,14),(0,15),(0,16),(0,17),(0,18),(0,19)] hB hG λK L hN hL=>?_
   repeat first|refine gya ?_|refine gyr ?_|refine gna ?_|refine gyb (by(rintro v ⟨hgu,hB,hG,-⟩ N hN;have r:=hB.r;simp only[BxR]at r;have hcb:=Hby.out v hG;go_simp;exact hN)) ?_
   refine geC hL ?_;clear hB hG hL L;rintro u ⟨-,hB,hG,-⟩;refine gt ?_;clear hN K;generalize hu0:World.setCell u _ _=u0;have hBG:=hB.over hF hG 0 rfl q [_] hu0;clear hB hG;simp only[List.modify_succ_cons,List.modify_zero_cons,I3,G2.out]at hBG;obtain⟨hB,hG⟩:=hBG;clear hu0;obtain⟨u,rfl⟩:=exQ u0;refine C8 ?_;refine A6 ?_;refine r0E ?_;refine A6 ?_;go_roundw
   case rel=>exact⟨i+1,zs.set q s,by omega,by go_num,L3.out,hB,hG⟩
   case measure=>simp[intOf];try omega
  ·obtain rfl:n=i:=by omega
   have hdec:decide ((n:Int)<(n:Int))=false:=by simp
   have hfw:∀W,A4 w W->Blk W b3 42 (D3 zs)->Calls Tryz.prog 146 #[.slice (some ⟨b3,0,none⟩) m m] W λe w'=>e = .returned (B5 (val 256 l.reverse))/\A4 W w':=λW hg hw=>by
    have:=A0D (some ⟨b3,0,none⟩) zs m W (λ_=>⟨b3,0,rfl,D8.wds hw⟩) H0.out.2.1 (by rw[H0.out.1];exact K2 _) (by rw[H0.out.1];exact hmb) (by omega);rw[H0.out.done Hn.out,H0.out.1]at this;exact this
   have Hfw:=B8S hfw;clear hfw;refine r0T ?_;refine B8N ?_;refine B8T (rfl) ?_;refine B8x ?_;refine B7 ?_;refine B7 ?_;refine D0 ?_;refine A6 ?_;refine B8N (rsC A8 [0,1] hB hG λK L hN hL=>?_);refine gs ?_;refine gmd (C:=λv ⟨hgu,hB,hG,_⟩=>Hfw.out _ hG hB.head) ?_;refine geC hL ?_;clear hB hG hL L;rintro u ⟨-,hB,hG,-⟩;refine gtT ?_;clear hN K;refine st hB hF hG 1 0 [_,_] ?_;clear hB hG;intro u hB hG;refine rt Tryz.results132 ?_;exact⟨rfl,hG⟩
theorem B7n(a:Nat)(ha:bl a<=1099511627520)(w:World) :
  Calls Tryz.prog 172 #[B5 a] w λe w'=>∃(b:Nat) (zs:List Nat),e = .returned (.slice (some ⟨b,0,none⟩) zs.length zs.length)/\(w.heap.size<=b/\D8 w' b zs/\Dig W64 zs/\val W64 zs=a/\zs.length<=17179869180)/\A4 w w':=by
 obtain⟨l,hl⟩:∃l,l=(byt a).reverse:=⟨_,rfl⟩
 obtain⟨n,hn⟩:∃n,n=l.length:=⟨_,rfl⟩
 have hd:Dig 256 l:=λx hx=>by rw[hl]at hx;exact A2k a x (List.mem_reverse.1 hx)
 have hnb:n=(byt a).length:=by rw[hn,hl,B8y]
 have hm:l.length<=137438953440:=by rw[<-hn,hnb,A2i];omega
 have hlv:val 256 l.reverse=a:=by rw[hl,List.reverse_reverse];exact E3 (by omega) a
 have hbytes:∀W,Calls Tryz.prog 187 #[B5 a] W (E9 (λA:Option Addr=>.slice A n n) (λA W=>By W A l) W):=λW =>
  (A7S a (by omega) W).mono λe w' ⟨A,he,hb,hg⟩=>⟨A,by rw[he,hnb],by rw[hl];exact hb,hg⟩
 obtain⟨m,hmm⟩:∃m,m=(n+7)/8:=⟨_,rfl⟩
 have hmi:((n:Int)+7)/8=(m:Int):=by omega
 have hmt:((n:Int)+7).tdiv 8=(m:Int):=by rw[B8Q (by omega)];exact hmi
 rw[<-hn]at hm;have hw0:IntKind.i64.wrap ((n:Int)+7)=(n:Int)+7:=B8j _ (by omega);have hmk:=A1X m (by omega) (m:Int) rfl;have hmb:m<=17179869180:=by omega
 have hn8:n<=8*m:=by omega
 have Hbytes:=B8S hbytes;have Hlv:=B8S hlv;have Hn:=B8S hn;have Hd:=B8S hd;clear hbytes hn hd hmm hl hnb hlv ha;go_enter Tryz.func172,Tryz.ntmps172;refine en1 ?_;intro u hG b1 hB hF;refine B8N (rsE A8 [0,1,0] hB hG λL hL=>?_);refine gs ?_;refine gxd (X:=Option Addr) (λA=>.slice A n n) (λA W=>By W A l) (λ_ _ _ hg h=>h.grow hg) (λx7=>?_) (C:=λv _=>Hbytes.out _);refine gs ?_;refine geT hL ?_;clear hB hG hL L;rintro u ⟨⟨-,hB,hG,-⟩,hx7⟩;have HG0:=B8S hG;clear hB hF hG;obtain⟨w0,rfl⟩:=exQ w;obtain⟨w,hwu⟩:=exQ u;rw[<-hwu]at HG0 hx7;have hB:=Bx.nil u;have hF:=Fr.nil w;have hG:A4 w u:=hwu ▸ A4.refl u;clear hwu;obtain⟨A,rfl⟩:∃A,A=x7:=⟨_,rfl⟩
 have HA:=B8S hx7;clear hx7;refine r0T ?_;have hbo:=Blk.new u 42 (D3 (List.replicate m 0));have hF3:=Fr.new (tk:=[]) hF hB hG (K2 u.heap.size) (by simp);have hB3:=Bx.cons hbo (hB.grow (A4.alloc u (.cells (D3 (List.replicate m 0)) 42)));have hG3:=hG.trans (A4.alloc u (.cells (D3 (List.replicate m 0)) 42));simp only[List.cons_append,List.nil_append,List.map_cons,List.map_nil]at hF3;clear hB hF hG hbo;generalize World.alloc u _=v at  hB3 hG3⊢;generalize u.heap.size=b4 at hB3 hF3⊢;have hB:=hB3;have hF:=hF3;have hG:=hG3;clear hB3 hF3 hG3;obtain⟨u,rfl⟩:=exQ v;refine B8N ?_;refine r0T ?_;refine B8v ?_;go_loopw [15] (λs0 wr=>∃(i:Nat) (zs:List Nat),i<=n/\s0 = .int .i64 i/\(A0R m l i zs)/\Bx wr [(b4,42,D3 zs)]/\A4 w wr) (λs0 _=>n-(intOf s0).toNat)
 case atStart=>exact⟨0,List.replicate m 0,B8k _,rfl,A0R.start m l,hB,hG⟩
 case round =>
  clear hB hG;obtain⟨i,zs,hi,rfl,hrel0,hB,hG⟩:=hrel;obtain⟨u,rfl⟩:=exQ wr;have H0:=B8S hrel0;clear hrel0;rcases B73 i n with hlt0|hge0
  ·have hdec:decide ((i:Int)<(n:Int))=true:=by simp;omega
   obtain⟨l1,l2,l3⟩:=H0.out.next Hd.out (by rw[<-Hn.out];exact hlt0) (by rw[<-Hn.out];exact hn8);obtain⟨k,hk⟩:∃k,k=n-1-i:=⟨_,rfl⟩
   rw[<-Hn.out,<-hk]at l1 l2 l3;have hbk:=D1 (by omega) Hd.out k;have hkl:k<l.length:=by rw[<-Hn.out];omega
   have hki:(n:Int)-1-(i:Int)=(k:Int):=by omega
   have hqz:i/8<zs.length:=by rw[H0.out.1];omega
   have hzl:=D1 C6 H0.out.2.1 (i/8);obtain⟨q,hq⟩:∃q,q=i/8:=⟨_,rfl⟩
   obtain⟨p,hr⟩:∃r,r=i%8:=⟨_,rfl⟩
   obtain⟨y,hy⟩:∃y,y=dg l k:=⟨_,rfl⟩
   obtain⟨x,hx⟩:∃x,x=dg zs (i/8):=⟨_,rfl⟩
   obtain⟨z,hz⟩:∃z,z=y*2^(8*p):=⟨_,rfl⟩
   obtain⟨s,hs⟩:∃s,s=x+z:=⟨_,rfl⟩
   have hr8:p<8:=by omega
   have hqm:q<m:=by omega
   rw[<-hx,<-hr,<-hy,<-hz,<-hs]at l1 l2 l3;rw[<-hq]at l3 hqz;rw[<-hx]at hzl;rw[<-hy]at hbk;unfold W64 at hzl;have hz64:z<18446744073709551616:=by unfold W64 at l2;omega
   have g1:(D3 zs)[q]?=some (.int .u64 (x:Nat)):=by rw[A0N,B8i hqz,hx,<-hq,E8 hqz];rfl
   have G2:=B8S (A2Z zs q s);obtain⟨b1,o1,hAe,-⟩:=HA.out.cell hkl;have hby:∀W,A4 w W->W.cell? ⟨b1,o1+k,none⟩=some (.int .u8 (y:Nat)):=λW hg=>by
    obtain⟨b',o',e,hc⟩:=(HA.out.grow hg).cell hkl;rw[hAe]at e;cases e;rw[hy];exact hc
   have Hby:=B8S hby
   subst hAe;have L3:=B8S l3;have f1:(i:Int).tdiv 8=(q:Int):=by rw[B8Q (by omega)];omega
   have f2:(i:Int).tmod 8=(p:Int):=by rw[B8R (by omega)];omega
   have f3:(i:Int)/8=(q:Int):=by omega
   have f4:(i:Int)%8=(p:Int):=by omega
   have f5:IntKind.u64.wrap ((y:Int)*2^(8*p))=(z:Int):=by
    rw[show((y:Int)*2^(8*p))=((z:Nat):Int)by rw[hz];simp];exact D4 hz64
   have f6:bits BinOp.or IntKind.u64 (x:Int) (z:Int)=(s:Nat):=by rw[B8w x z hzl hz64,l1]
   have f7:(8*(p:Int)).toNat=8*p:=by omega
   have f8:min (8*p) 64=8*p:=by omega
   have f9:IntKind.u64.wrap (y:Int)=(y:Int):=D4 (by omega);have f10:IntKind.i64.wrap (q:Int)=(q:Int):=B8j _ (by omega);have f11:IntKind.i64.wrap (p:Int)=(p:Int):=B8j _ (by omega);have f12:IntKind.i64.wrap (8*(p:Int))=8*(p:Int):=B8j _ (by omega);have f13:IntKind.i64.wrap ((n:Int)-1)=(n:Int)-1:=B8j _ (by omega);have f14:IntKind.i64.wrap (k:Int)=(k:Int):=B8j _ (by omega);have f15:k<n:=by omega
   clear l1 l2 l3 hq hr hy hx hz hs hk hkl hqz hby
   refine r0T ?_;refine B8N ?_;refine B8V (rfl) ?_;refine B8U ?_;refine A6 ?_;refine B8N ?_;refine B8v ?_;refine r0T ?_;refine rdC A8 [] [(0,0),(0,1),(0,2),(0,3),(0,4),(0,5),(0,6),(0,7),(0,8),(0,9),(0,10),(0,11),(0,12),(0,13),(0,14),(0,15),(0,16),(0,17),(0,18),(0,19)] hB hG λK L hN hL=>?_
   repeat first|refine gya ?_|refine gyr ?_|refine gna ?_|refine gyb (by(rintro v ⟨hgu,hB,hG,-⟩ N hN;have r:=hB.r;simp only[BxR]at r;have hcb:=Hby.out v hG;go_simp;exact hN)) ?_
   refine geC hL ?_;clear hB hG hL L;rintro u ⟨-,hB,hG,-⟩;refine gt ?_;clear hN K;generalize hu0:World.setCell u _ _=u0;have hBG:=hB.over hF hG 0 rfl q [_] hu0;clear hB hG;simp only[List.modify_succ_cons,List.modify_zero_cons,I3,G2.out]at hBG;obtain⟨hB,hG⟩:=hBG;clear hu0;obtain⟨u,rfl⟩:=exQ u0;refine C8 ?_;refine A6 ?_;refine r0E ?_;refine A6 ?_;go_roundw
   case rel=>exact⟨i+1,zs.set q s,by omega,by go_num,L3.out,hB,hG⟩
   case measure=>simp[intOf];try omega
  ·obtain rfl:n=i:=by omega
   have hdec:decide ((n:Int)<(n:Int))=false:=by simp
   skip
   refine r0T ?_;refine B8N ?_;refine B8T (rfl) ?_;refine B8x ?_;refine B7 ?_;refine B7 ?_;refine D0 ?_;refine A6 ?_;refine r0T ?_;refine rt Tryz.results172 ?_;exact⟨b4,zs,by rw[H0.out.1],⟨B8K HG0.out.size (hF.1 b4 (by simp)),hB.head,H0.out.2.1,by rw[H0.out.done Hn.out];exact Hlv.out,by rw[H0.out.1];exact hmb⟩,HG0.out.trans hG⟩
theorem A6t(a:Nat)(ha:bl a<=1099511627776)(n:Nat)(hn:n=(B4 W64 a).length)(w:World):Calls Tryz.prog 148 #[B5 a] w (E9 (λA:Option Addr=>.slice A n n) (λA W=>Rd W A (B4 W64 a)) w) :=
 (A01 a ha w).mono λe w' ⟨A,he,ho,hg⟩=>⟨A,by rw[he,hn],ho.rd,hg⟩
theorem B4q(a b:Nat)(ha:bl a<=1099511627776)(hb:bl b<=1099511627776)(hs:¬(a<W64/\b<W64))(hlt:a<b)(w:World):Calls Tryz.prog 141 #[B5 a,B5 b] w λe w'=>e = .returned (.tuple #[B5 (a/b),B5 (a%b),.bool true])/\A4 w w':=by
 have hT:∃b1 b2:Bool,(B8 a).toList.isEmpty=b1/\(B8 b).toList.isEmpty=b2/\(b1&&b2)=false:=by
  refine⟨_,_,rfl,rfl,?_⟩;rw[Q4,Q4,B8z,decide_eq_false_iff_not,decide_eq_false_iff_not];omega
 obtain⟨b1,b2,hb1,hb2,hb12⟩:=hT;have hbits:∀W:World,Calls Tryz.prog 131 #[B5 b] W λe w'=>e = .returned (.int .i64 (bl b))/\A4 W w':=λW=>Q6 b hb W;have hcmp:∀W:World,Calls Tryz.prog 140 #[B5 a,B5 b] W λe w'=>e = .returned (.int .i64 (-1))/\A4 W w':=λW=>by
  have:=A0G a b ha W;rw[V4 hlt]at this;exact this
 have hne:((bl b:Int) == 0)=false:=by have:=U9.2 (show b≠0 by omega);simp;omega
 have Hq:=B8S (And.intro (B80 hlt) (Nat.mod_eq_of_lt hlt));have Hbits:=B8S hbits;have Hcmp:=B8S hcmp;clear hbits hcmp hs ha hb hlt;cases b1<;>cases b2<;>first|(exact absurd hb12 (by decide))|skip
 all_goals clear hb12
 all_goals
  go_enter Tryz.func141,Tryz.ntmps141;refine en4 ?_;intro u hG b5 b4 b3 b2 hB hF;refine B8N ?_;refine B8N (rsE A8 [0,1,0] hB hG λL hL=>?_);refine gs ?_;refine gmw (C:=λv=>Hbits.out _) ?_;refine gs ?_;refine geT hL ?_;clear hB hG hL L;rintro u ⟨-,hB,hG,-⟩;refine B8T (rfl) ?_;refine B8U ?_;refine A6 ?_;refine B8N ?_;refine r0T ?_;refine B8T (rfl) ?_;refine B8U ?_;refine A6 ?_;refine B8N ?_;refine B8N (rsE A8 [0,0,1,0] hB hG λL hL=>?_);refine gs ?_;refine gmw (C:=λv=>Hcmp.out _) ?_;refine gs ?_;refine geT hL ?_;clear hB hG hL L;rintro u ⟨-,hB,hG,-⟩;refine B8V (rfl) ?_;refine B8N ?_;refine B8A NoP.up ?_;have r:=hB.r;simp only[BxR]at r;have hD:b2≠b4/\b2≠b5/\b3≠b4/\b3≠b5/\b4≠b2/\b4≠b3/\b4≠b5/\b5≠b2/\b5≠b3/\b5≠b4:=⟨hF.ne 0 2 rfl rfl (by decide),hF.ne 0 3 rfl rfl (by decide),hF.ne 1 2 rfl rfl (by decide),hF.ne 1 3 rfl rfl (by decide),hF.ne 2 0 rfl rfl (by decide),hF.ne 2 1 rfl rfl (by decide),hF.ne 2 3 rfl rfl (by decide),hF.ne 3 0 rfl rfl (by decide),hF.ne 3 1 rfl rfl (by decide),hF.ne 3 2 rfl rfl (by decide)⟩
  go_region;clear r hD;generalize hu0:World.setCell (World.setCell u _ _) _ _=u0;have hBG:=X9 hB hF hG 2 rfl 0 [_,_] hu0;clear hB hG hu0;obtain⟨hB,hG⟩:=hBG;clear u;generalize hu1:World.setCell (World.setCell u0 _ _) _ _=u1;have hBG:=X9 hB hF hG 3 rfl 0 [_,_] hu1;clear hB hG hu1;obtain⟨hB,hG⟩:=hBG;clear u0;obtain⟨u,rfl⟩:=exQ u1;replace hB:=hB.grow (A4.drew u);replace hG:=hG.trans (A4.drew u);obtain⟨u,rfl⟩:=exQ u.drew;refine NoP.norm ?_;refine A6 ?_;refine rt Tryz.results141 ?_;refine And.intro ?_ hG;rw[Hq.out.1,Hq.out.2];rfl
theorem B6z{w2:World}{b1 q:Nat}{zs:List Nat}(hz1:D8 w2 b1 zs)(hz3:Dig W64 zs)(hz4:val W64 zs=q)(hl:zs.length<=34359738368) :
  ∀W,A4 w2 W->Calls Tryz.prog 146 #[.slice (some ⟨b1,0,none⟩) (E4 zs).length zs.length] W λe w'=>e = .returned (B5 q)/\A4 W w':=λW hg=>by
 have:=A0D (some ⟨b1,0,none⟩) (E4 zs) zs.length W (λ_=>⟨b1,0,rfl,by rw[A2X];exact((hz1.grow hg).wds).take _⟩) (A1K hz3) (A2p _) (B8K (A2p _) (by omega)) (by omega);rw[A00,hz4]at this;exact this
theorem B5w(a b:Nat)(ha:bl a<=1099511627776)(haW:¬a<W64)(hbW:b<W64)(h0:b≠0)(w:World):Calls Tryz.prog 141 #[B5 a,B5 b] w λe w'=>e = .returned (.tuple #[B5 (a/b),B5 (a%b),.bool true])/\A4 w w':=by
 have hE1:(B8 a).toList.isEmpty=false:=by rw[Q4];simpa using haW
 have hE2:(B8 b).toList.isEmpty=true:=by rw[Q4];simpa using hbW
 have hbits:∀W:World,Calls Tryz.prog 131 #[B5 b] W λe w'=>e = .returned (.int .i64 (bl b))/\A4 W w':=λW=>Q6 b (B8K (A0T hbW) (by omega)) W
 obtain⟨c,hcd,hcmp⟩:∃c:Int,decide (c<0)=false/\∀W:World,Calls Tryz.prog 140 #[B5 a,B5 b] W λe w'=>e = .returned (.int .i64 c)/\A4 W w':=⟨G4 a b,by
  unfold G4;rw[if_neg (by omega)];split<;>rfl,λW=>A0G a b ha W⟩
 have hne:((bl b:Int) == 0)=false:=by have:=U9.2 h0;simp;omega
 obtain⟨n,hn⟩:∃n,n=(B4 W64 a).length:=⟨_,rfl⟩
 have hn0:(B4 W64 a)≠[]:=λh=>by
  have:=E3 E5 a;rw[h]at this;have h1:a=0:=this.symm;exact haW (h1 ▸ C6)
 have hnl:n<=34359738360:=by rw[hn];have:=A09 (a:=a) (k:=17179869184) (by omega);omega
 have hwords:∀W:World,Calls Tryz.prog 148 #[B5 a] W λe w'=>∃b1,e = .returned (.slice (some ⟨b1,0,none⟩) n n)/\W.heap.size<=b1/\D8 w' b1 (B4 W64 a)/\A4 W w':=λW =>
  (A01 a ha W).mono λe w' ⟨A,he,ho,hg⟩=>by
   obtain⟨b1,h1,rfl,h3⟩:=ho hn0;exact⟨b1,by rw[he,hn],h1,h3,hg⟩
 have hdw:∀(W0 W:World) (b1:Nat),A4 W0 W->W0.heap.size<=b1->D8 W b1 (B4 W64 a)->Calls Tryz.prog 170 #[.slice (some ⟨b1,0,none⟩) n n,.int .u64 (C4 b)] W λe w'=>∃zs:List Nat,e = .returned (.tuple #[.slice (some ⟨b1,0,none⟩) (E4 zs).length zs.length,.int .u64 (C4 (a%b))])/\D8 w' b1 zs/\zs.length=n/\Dig W64 zs/\val W64 zs=a/b/\A4 W0 w':=λW0 W b1 hg hb1 hr=>by
  have:=B3O b1 (B4 W64 a) b W0 W hr (G5 E5 a) (by omega) hbW (by omega) hg hb1;rw[<-hn,E3 E5]at this;rw[N9 hbW,N9 (B8o (B8b a (B81 h0)) hbW)];exact this
 have hmo:=A2Y (B8o (B8b a (B81 h0)) hbW);have Hbits:=B8S hbits;have Hcmp:=B8S hcmp;have Hwords:=B8S hwords;have Hdw:=B8S hdw;have Hmo:=B8S hmo;clear hbits hcmp hwords hdw ha haW hbW hn hn0 hmo;go_enter Tryz.func141,Tryz.ntmps141;refine en4 ?_;intro u hG b5 b4 b3 b2 hB hF;refine B8N ?_;refine B8N (rsE A8 [0,1,0] hB hG λL hL=>?_);refine gs ?_;refine gmw (C:=λv=>Hbits.out _) ?_;refine gs ?_;refine geT hL ?_;clear hB hG hL L;rintro u ⟨-,hB,hG,-⟩;refine B8T (rfl) ?_;refine B8U ?_;refine A6 ?_;refine B8N ?_;refine r0T ?_;refine B8T (rfl) ?_;refine B8U ?_;refine A6 ?_;refine B8N ?_;refine B8N (rsE A8 [0,0,1,0] hB hG λL hL=>?_);refine gs ?_;refine gmw (C:=λv=>Hcmp.out _) ?_;refine gs ?_;refine geT hL ?_;clear hB hG hL L;rintro u ⟨-,hB,hG,-⟩;refine B8T (rfl) ?_;refine B8U ?_;refine A6 ?_;refine B8N ?_;refine r0T ?_;refine B8V (rfl) ?_;refine B8N ?_;refine B8A NoP.up ?_;have r:=hB.r;simp only[BxR]at r
 go_region_with (first
  | (go_at_call 148;((with_reducible refine(Hwords.out _).mono ?_);rintro e w1 ⟨b1,rfl,hb1,hr1,hg1⟩;have r1:=(hB.grow hg1).r;simp only[BxR]at r1))
  | (go_at_call 170;((with_reducible refine(Hdw.out _ _ _ hg1 hb1 hr1).mono ?_);rintro e w2 ⟨zs,rfl,hz⟩;have Hz:=B8S hz;clear hz)))
 all_goals clear r r1
 all_goals obtain⟨hz1,hz2,hz3,hz4,hz5⟩:=Hz.out
 all_goals have hfw:=B6z hz1 hz3 hz4 (by omega)
 all_goals have Hfw:=B8S hfw
 all_goals replace hB:=hB.grow ((A4.drew u).trans hz5)
 all_goals replace hG:=hG.trans ((A4.drew u).trans hz5)
 all_goals clear hfw Hz hz1 hz2 hz3 hz4 hz5 hr1 hg1 hb1
 all_goals obtain⟨u,rfl⟩:=exQ w2
 all_goals refine NoP.norm ?_
 all_goals
  refine A6 ?_;refine B8N (rsC A8 [0,1,0,0] hB hG λK L hN hL=>?_);refine gs ?_;refine gmd (C:=λv ⟨hgu,hB,hG,_⟩=>Hfw.out _ hgu) ?_;refine gs ?_;refine geC hL ?_;clear hB hG hL L;rintro u ⟨-,hB,hG,-⟩;have hD:b4≠b5/\b5≠b4:=⟨hF.ne 2 3 rfl rfl (by decide),hF.ne 3 2 rfl rfl (by decide)⟩
  refine gtT ?_;clear hN K;clear hD;refine st2 hB hF hG 2 0 [_,_] 3 0 [_,_] ?_;clear hB hG;intro u hB hG;refine rt Tryz.results141 ?_;refine And.intro ?_ hG;rw[show B5 (a%b) = .agg #[.int .u64 (C4 (a%b)),.string ⟨#[]⟩]by show Value.agg #[_,.string (B8 (a%b))]=_;rw[Hmo.out]]
abbrev DW:=Nat×Nat×List Nat×List Nat
def dwV(x:DW):Value:=.tuple #[.slice (some ⟨x.1,0,none⟩) x.2.2.1.length x.2.2.1.length,.slice (some ⟨x.2.1,0,none⟩) x.2.2.2.length x.2.2.2.length]
def DWT(a b m:Nat)(x:DW)(W:World):Prop:=D8 W x.1 x.2.2.1/\D8 W x.2.1 x.2.2.2/\Dig W64 x.2.2.1/\Dig W64 x.2.2.2/\x.2.2.1.length<=m/\x.2.2.2.length<=m/\val W64 x.2.2.1=a/b/\val W64 x.2.2.2=a%b
theorem DWT.grow{a b m:Nat}{x:DW}{W W':World}(hg:A4 W W')(h:DWT a b m x W):DWT a b m x W':=⟨h.1.grow hg,h.2.1.grow hg,h.2.2⟩
theorem B0k(a b:Nat)(ha:bl a<=1099511627776)(hbW:¬b<W64)(hle:b<=a)(w:World):Calls Tryz.prog 141 #[B5 a,B5 b] w λe w'=>e = .returned (.tuple #[B5 (a/b),B5 (a%b),.bool true])/\A4 w w':=by
 have hb:bl b<=1099511627776:=B8K (S8 hle) ha;have hE1:(B8 a).toList.isEmpty=false:=by rw[Q4];simp;omega
 have hE2:(B8 b).toList.isEmpty=false:=by rw[Q4];simpa using hbW
 have hbits:∀W:World,Calls Tryz.prog 131 #[B5 b] W λe w'=>e = .returned (.int .i64 (bl b))/\A4 W w':=λW=>Q6 b hb W
 obtain⟨c,hcd,hcmp⟩:∃c:Int,decide (c<0)=false/\∀W:World,Calls Tryz.prog 140 #[B5 a,B5 b] W λe w'=>e = .returned (.int .i64 c)/\A4 W w':=⟨G4 a b,by
  unfold G4;rw[if_neg (by omega)];split<;>rfl,λW=>A0G a b ha W⟩
 have h0:b≠0:=λh=>hbW (h ▸ C6);have ha0:a≠0:=by omega
 have hne:((bl b:Int) == 0)=false:=by have:=U9.2 h0;simp;omega
 obtain⟨n,hn⟩:∃n,n=(B4 W64 a).length:=⟨_,rfl⟩
 obtain⟨m,hm⟩:∃m,m=(B4 W64 b).length:=⟨_,rfl⟩
 have hnl:n<=34359738360:=by rw[hn];have:=A09 (a:=a) (k:=17179869184) (by omega);omega
 have hm2:2<=m:=by
  rw[hm];exact A49 (n:=1) E5 (by rw[Nat.pow_one];omega)
 have hmn:m<=n:=by
  rw[hm,hn];rcases B73 (B4 W64 a).length (B4 W64 b).length with h|h
  ·have h1:=K6 (G5 E5 a);rw[E3 E5]at h1;have h2:=(A40 (G5 E5 b)).1 (A2F E5 b);rw[E3 E5]at h2;rcases h2 with h2|h2
   ·rw[h2]at h;simp at h
   ·have h3:W64^(B4 W64 a).length<=W64^((B4 W64 b).length-1):=B8Z C6 (by omega);omega
  ·exact h
 have htop:dg (B4 W64 b) (m-1)≠0:=by
  have ht:=A2F E5 b;have hl:m-1<(B4 W64 b).length:=by omega
  rcases ht with ht|ht
  ·rw[ht]at hm;simp at hm;omega
  ·rw[E8 hl];intro h;apply ht;rw[B82,<-hm,B8i hl,h]
 have hdw:∀(W:World) (A1 A2:Option Addr),Rd W A1 (B4 W64 a)->Rd W A2 (B4 W64 b)->Calls Tryz.prog 171 #[.slice A1 n n,.slice A2 m m] W (E9 dwV (DWT a b n) W):=λW A1 A2 h1 h2=>by
  have:=B3P A1 A2 (B4 W64 a) (B4 W64 b) n m (G5 E5 a) (G5 E5 b) (by omega) (by omega) (by rw[<-hm];exact htop) (by omega) W h1 h2;rw[<-hn,<-hm,E3 E5,E3 E5]at this;refine this.mono λe w' ⟨bq,br,qs,rs,he,k1,k2,k3,k4,k5,k6,k7,k8,k9⟩=>⟨(bq,br,qs,rs),he,⟨k1,k2,k3,k4,k5,k6,k7,k8⟩,k9⟩
 have Hw1:=B8S (A6t a ha n hn);have Hw2:=B8S (A6t b hb m hm);have Hbits:=B8S hbits;have Hcmp:=B8S hcmp;have Hdw:=B8S hdw;clear hbits hcmp hdw ha hb hbW hn hm htop ha0 hle;go_enter Tryz.func141,Tryz.ntmps141;refine en4 ?_;intro u hG b5 b4 b3 b2 hB hF;refine B8N ?_;refine B8N (rsE A8 [0,1,0] hB hG λL hL=>?_);refine gs ?_;refine gmw (C:=λv=>Hbits.out _) ?_
 repeat first|refine gya ?_|refine gyr ?_|refine gna ?_|refine gyb (by(rintro v-N hN;(try unfold dwV);go_simp;exact hN)) ?_
 refine geT hL ?_;clear hB hG hL L;rintro u ⟨-,hB,hG,-⟩;refine B8T (rfl) ?_;refine B8U ?_;refine A6 ?_;refine B8N ?_;refine r0T ?_;refine B8T (rfl) ?_;refine B8U ?_;refine A6 ?_;refine B8N ?_;refine B8N (rsE A8 [0,0,1,0] hB hG λL hL=>?_);refine gs ?_;refine gmw (C:=λv=>Hcmp.out _) ?_
 repeat first|refine gya ?_|refine gyr ?_|refine gna ?_|refine gyb (by(rintro v-N hN;(try unfold dwV);go_simp;exact hN)) ?_
 refine geT hL ?_;clear hB hG hL L;rintro u ⟨-,hB,hG,-⟩;refine B8T (rfl) ?_;refine B8U ?_;refine A6 ?_;refine B8N ?_;refine r0T ?_;refine B8T (rfl) ?_;refine B8U ?_;refine A6 ?_;refine B8N (rdC A8 [] [(0,0),(0,2),(1,1),(1,3),(1,4),(0,5),(0,6),(0,7),(0,8)] hB hG λK L hN hL=>?_);refine gs ?_;refine gxd (X:=Option Addr) (λA=>.slice A n n) (λA W=>Rd W A (B4 W64 a)) (λ_ _ _ hg h=>h.grow hg) (λx59=>?_) (C:=λv _=>Hw1.out _);refine gxd (X:=Option Addr) (λA=>.slice A m m) (λA W=>Rd W A (B4 W64 b)) (λ_ _ _ hg h=>h.grow hg) (λx61=>?_) (C:=λv _=>Hw2.out _);refine gxd (X:=DW) (dwV) (DWT a b n) (λ_ _ _ hg h=>h.grow hg) (λx62=>?_) (C:=by(rintro v ⟨⟨⟨hgu,hB,hG,-⟩,hx59⟩,hx61⟩;exact Hdw.out _ _ _ hx59 hx61))
 repeat first|refine gya ?_|refine gyr ?_|refine gna ?_|refine gyb (by(rintro v-N hN;(try unfold dwV);go_simp;exact hN)) ?_
 refine geC hL ?_;clear hB hG hL L;rintro u ⟨⟨⟨⟨-,hB,hG,-⟩,hx59⟩,hx61⟩,hx62⟩;refine gtT ?_;clear hN K;obtain⟨bq,br,qs,rs⟩:=x62;obtain⟨k1,k2,k3,k4,k5,k6,k7,k8⟩:=hx62;dsimp only at k1 k2 k3 k4 k5 k6 k7 k8;have hfw1:∀W,A4 u W->Calls Tryz.prog 146 #[.slice (some ⟨bq,0,none⟩) qs.length qs.length] W λe w'=>e = .returned (B5 (a/b))/\A4 W w':=λW hg=>by
  have:=A0D (some ⟨bq,0,none⟩) qs qs.length W (λ_=>⟨bq,0,rfl,(k1.grow hg).wds⟩) k3 (K2 _) (by omega) (by omega);rw[k7]at this;exact this
 have hfw2:∀W,A4 u W->Calls Tryz.prog 146 #[.slice (some ⟨br,0,none⟩) rs.length rs.length] W λe w'=>e = .returned (B5 (a%b))/\A4 W w':=λW hg=>by
  have:=A0D (some ⟨br,0,none⟩) rs rs.length W (λ_=>⟨br,0,rfl,(k2.grow hg).wds⟩) k4 (K2 _) (by omega) (by omega);rw[k8]at this;exact this
 have Hfw1:=B8S hfw1;have Hfw2:=B8S hfw2;clear hfw1 hfw2 k1 k2 k3 k4 k7 k8 hx59 hx61;refine B8N (rsC A8 [0,1,0,1] hB hG λK L hN hL=>?_)
 repeat first|refine gya ?_|refine gyr ?_|refine gna ?_|refine gyb (by(rintro v-N hN;(try unfold dwV);go_simp;exact hN)) ?_
 refine gmd (C:=λv ⟨hgu,hB,hG,_⟩=>Hfw1.out _ hgu) ?_
 repeat first|refine gya ?_|refine gyr ?_|refine gna ?_|refine gyb (by(rintro v-N hN;(try unfold dwV);go_simp;exact hN)) ?_
 refine gmd (C:=λv ⟨hgu,hB,hG,_⟩=>Hfw2.out _ hgu) ?_;refine geC hL ?_;clear hB hG hL L;rintro u ⟨-,hB,hG,-⟩;have hD:b4≠b5/\b5≠b4:=⟨hF.ne 2 3 rfl rfl (by decide),hF.ne 3 2 rfl rfl (by decide)⟩
 refine gtT ?_;clear hN K;clear hD;refine st2 hB hF hG 2 0 [_,_] 3 0 [_,_] ?_;clear hB hG;intro u hB hG;refine rt Tryz.results141 ?_;exact⟨rfl,hG⟩
theorem A3l(a b:Nat)(ha:bl a<=BIG)(hb:bl b<=BIG)(h0:b≠0)(w:World):Calls Tryz.prog 141 #[B5 a,B5 b] w λe w'=>e = .returned (.tuple #[B5 (a/b),B5 (a%b),.bool true])/\A4 w w':=by
 have ha':=R7 ha;have hb':=R7 hb;by_cases hs:a<W64/\b<W64
 ·exact B7a a b hs.1 hs.2 h0 w
 ·by_cases hlt:a<b
  ·exact B4q a b ha' hb' hs hlt w
  ·by_cases hb1:b<W64
   ·exact B5w a b ha' (λh=>hs ⟨h,hb1⟩) hb1 h0 w
   ·exact B0k a b ha' hb1 (by omega) w
end Go.Proofs.YtgpglgbcobeogaaGreatDoor
