import Derived.Test.YtgpglgbcobeogaaGreatDoorL24
set_option linter.unusedSimpArgs false
set_option linter.unusedVariables false
set_option maxHeartbeats 1000000
set_option maxRecDepth 100000
namespace Go.Proofs.YtgpglgbcobeogaaGreatDoor
open Go.RowKit
theorem B69(zs:List Nat)(V k y:Nat)(hd:Dig W32 zs)(hk:k/4<zs.length)(hv:val W32 zs=V*256^(k+1))(hy:y<256) :
  dg zs (k/4) ||| y*2^(8*(k%4))=dg zs (k/4)+y*2^(8*(k%4))/\dg zs (k/4)+y*2^(8*(k%4))<W32/\val W32 (zs.set (k/4) (dg zs (k/4)+y*2^(8*(k%4))))=(V*256+y)*256^k:=by
 have e1:(256:Nat)^k=W32^(k/4)*2^(8*(k%4)):=by
  rw[show W32=2^32 from rfl,show(256:Nat)=2^8 from rfl,<-B8Y,<-B8Y,<-B8a];congr 1;omega
 have hdv:2^(8*(k%4)+8) ∣ dg zs (k/4):=by
  have h1:dg zs (k/4)=val W32 zs/W32^(k/4)%W32:=by
   have h2:=N2 W32 zs (k/4);have h3:val W32 zs=val W32 (zs.take (k/4+1))+W32^(k/4+1)*val W32 (zs.drop (k/4+1)):=by
    have:=A0O W32 (zs.take (k/4+1)) (zs.drop (k/4+1));rw[B8D,List.length_take,B83 (by omega)]at this;exact this
   have h4:val W32 (zs.take (k/4))<W32^(k/4):=by
    have:=K6 (B:=W32) (l:=zs.take (k/4)) (λx hx=>hd x (B8p hx))
    rwa [List.length_take,B83 (by omega)]at this
   have h5:=D1 F5 hd (k/4);rw[h3,h2,Nat.pow_succ,B9Q,B9g,<-B9o,B9k _ _ (B9t F5),B80 h4,Nat.zero_add,B9I,Nat.mod_eq_of_lt h5]
  rw[h1,hv];have e2:V*256^(k+1)=W32^(k/4)*(V*2^(8*(k%4)+8)):=by
   rw[Nat.pow_succ,e1,B8a];simp only[show(256:Nat)=2^8 from rfl];grind
  rw[e2,Nat.mul_div_cancel_left _ (B9t F5)];refine(Nat.dvd_mod_iff ?_).2 (B9F _ _);rw[show W32=2^32 from rfl];exact Nat.pow_dvd_pow 2 (by omega)
 have hlt:y*2^(8*(k%4))<2^(8*(k%4)+8):=by
  rw[B8a,B8t];exact Nat.mul_lt_mul_of_pos_left hy (Nat.two_pow_pos _)
 refine⟨A2s hlt hdv,?_,?_⟩
 ·obtain⟨c,hc⟩:=hdv;have h5:=D1 F5 hd (k/4);rw[hc]at h5⊢;have e3:W32=2^(8*(k%4)+8)*2^(24-8*(k%4)):=by
   rw[<-B8a,show W32=2^32 from rfl];congr 1;omega
  rw[e3]at h5⊢;have h6:=Nat.lt_of_mul_lt_mul_left h5
  calc 2^(8*(k%4)+8)*c+y*2^(8*(k%4))<2^(8*(k%4)+8)*c+2^(8*(k%4)+8):=by omega
   _=2^(8*(k%4)+8)*(c+1):=by rw[B9o,B9P]
   _<=_:=B9L _ h6
 ·have h7:=Y7 W32 zs (k/4) (dg zs (k/4)+y*2^(8*(k%4))) hk;rw[hv,B9o]at h7;have e4:(V*256+y)*256^k=V*256^(k+1)+W32^(k/4)*(y*2^(8*(k%4))):=by
   rw[B9h,Nat.pow_succ,e1];grind
  omega
theorem B6b(a b:Nat)(ha:a<4294967296)(hb:b<4294967296):bits .or .u32 (a:Int) (b:Int)=((a ||| b:Nat):Int):=by
 have hx:a ||| b<2^32:=Nat.or_lt_two_pow (by omega) (by omega)
 have h1:(BitVec.ofInt 32 (a:Int)).toNat=a:=by
  rw[BitVec.ofInt_natCast,BitVec.toNat_ofNat];exact Nat.mod_eq_of_lt (by omega)
 have h2:(BitVec.ofInt 32 (b:Int)).toNat=b:=by
  rw[BitVec.ofInt_natCast,BitVec.toNat_ofNat];exact Nat.mod_eq_of_lt (by omega)
 show IntKind.u32.wrap ((BitVec.ofInt 32 (a:Int) ||| BitVec.ofInt 32 (b:Int)).toNat:Int)=_;rw[BitVec.toNat_or,h1,h2];simp[IntKind.wrap,IntKind.signed,IntKind.bits];omega
theorem A9x(n:Nat)(h:n<4294967296):IntKind.u32.wrap (n:Int)=(n:Int):=by
 simp[IntKind.wrap,IntKind.signed,IntKind.bits];omega
theorem B00(A:Option Addr)(a:Nat)(w:World)(ha:bl a<=1099511627760)(hA:By w A (byt a).reverse):Calls Tryz.prog 186 #[.slice A (byt a).length (byt a).length] w (Ret (M3 a) w):=by
 obtain⟨n,hn⟩:∃n,n=(byt a).length:=⟨_,rfl⟩
 have hnb:n<=137438953471:=by rw[hn,A2i];omega
 obtain⟨m,hm⟩:∃m,m=(n+3)/4:=⟨_,rfl⟩
 have hmi:((n:Int)+3)/4=(m:Int):=by omega
 have hmt:((n:Int)+3).tdiv 4=(m:Int):=by rw[B8Q (by omega)];exact hmi
 have hmk:=A2L m (by omega) (m:Int) rfl;rw[<-hn];have HA:=B8S hA;have Hn:=B8S hn;have Hm:=B8S hm;have hmb:m<=34359738368:=by omega
 clear hA hn hm;go_enter Tryz.func186,Tryz.ntmps186;go_wp2_with fail;clear hmk hmi hmt;go_loopw [4] (λs wr=>∃(i:Nat) (zs:List Nat),i<=n/\s = .int .i64 i/\zs.length=m/\Dig W32 zs/\val W32 zs=a/256^(n-i)*256^(n-i)/\U8 wr w.heap.size zs/\A4 w wr) (λs _=>n-(intOf s).toNat)
 case atStart=>exact⟨0,List.replicate m 0,B8k _,rfl,by simp,λz hz=>(by rw[(List.mem_replicate.1 hz).2];exact F5),by
   rw[A1S,Nat.sub_zero,B80,B8s];have:=K6 (A2k a);rw[<-Hn.out]at this;unfold byt at this
   rwa [E3 (by omega)]at this,Blk.new w 193 _,A4.alloc _ _⟩
 case round =>
  obtain⟨i,zs,hi,rfl,hl,hd,hv,hR,hG⟩:=hrel;have HR:=B8S hR;have HG:=B8S hG;have Hd:=B8S hd;have Hv:=B8S hv;have Hl:=B8S hl;clear hl hd hv hR hG;rcases B73 i n with hlt|hge
  ·obtain⟨k,hk⟩:∃k,k=n-1-i:=⟨_,rfl⟩
   have hni:n-i=k+1:=by omega
   have hki:(n:Int)-1-(i:Int)=(k:Int):=by omega
   have hkq:k/4<zs.length:=by rw[Hl.out,Hm.out];omega
   obtain⟨b1,o1,rfl,hc1⟩:=(HA.out.grow HG.out).cell (i:=i) (by rw[B8y,<-Hn.out];exact hlt);rw[B0j (by rw[<-Hn.out];exact hlt),<-Hn.out,<-hk]at hc1;have hby:=D1 (by omega) (A2k a) k;have hv1:=Hv.out;rw[hni]at hv1;obtain⟨l1,l2,l3⟩:=B69 zs _ k _ Hd.out hkq hv1 hby
   have hc2:=HR.out.cell hkq;have hf2:=HR.out.frozen (k/4);have hzl:=D1 F5 Hd.out (k/4);have hkm:k/4<m:=by rw[<-Hl.out];exact hkq
   have hstep:a/256^(k+1)*256+dg (byt a) k=a/256^k:=by
    unfold byt;rw[A3C (by omega),Nat.pow_succ,<-B8W];omega
   rw[hstep]at l3;obtain⟨q,hq⟩:∃q,q=k/4:=⟨_,rfl⟩
   obtain⟨r,hr⟩:∃r,r=k%4:=⟨_,rfl⟩
   have hr8:r<4:=by omega
   have hqi:(k:Int)/4=(q:Int):=by omega
   have hri:(k:Int)%4=(r:Int):=by omega
   obtain⟨y,hy⟩:∃y,y=dg (byt a) k:=⟨_,rfl⟩
   obtain⟨x,hx⟩:∃x,x=dg zs (k/4):=⟨_,rfl⟩
   rw[<-hx]at hc2 l1 l2 l3 hzl;rw[<-hy]at hc1 hby l1 l2 l3;rw[<-hq]at hc2 hf2 hkm l3;rw[<-hr]at l1 l2 l3;have L1:=B8S l1;have L2:=B8S l2;have L3:=B8S l3;unfold W32 at hzl;have hw1:IntKind.i64.wrap (q:Int)=(q:Int):=B8j _ (by omega);have hw2:IntKind.i64.wrap (r:Int)=(r:Int):=B8j _ (by omega);have hw3:IntKind.i64.wrap (8*(r:Int))=8*(r:Int):=B8j _ (by omega);have hw4:IntKind.u64.wrap (8*(r:Int))=8*(r:Int):=u64_wrap_id (x:=8*(r:Int)) (by omega) (by omega);have hw5:(8*(r:Int)).toNat=8*r:=by omega
   have hw6:(k:Int).tmod 4=(r:Int):=by rw[B8R (by omega)];exact hri
   have hw7:=A9x y (by omega);have hw8:min (8*r) 32=8*r:=by omega
   obtain⟨z,hz⟩:∃z,z=y*2^(8*r):=⟨_,rfl⟩
   have hzlt:z<4294967296:=by unfold W32 at l2;omega
   have hw9:IntKind.u32.wrap ((y:Int)*2^(8*r))=(z:Int):=by
    rw[show((y:Int)*2^(8*r))=((z:Nat):Int)by rw[hz];simp];exact A9x z hzlt
   rw[<-hz]at l1 l2 l3;have hw10:bits BinOp.or IntKind.u32 (x:Int) (z:Int)=((x+z:Nat):Int):=by
    rw[B6b x z hzl hzlt,l1]
   obtain⟨s,hs⟩:∃s,s=x+z:=⟨_,rfl⟩
   rw[<-hs]at l2 l3 hw10;have L4:=B8S l3;have L5:=B8S l2;clear hk hni hstep hv1 l1 l2 l3 hx hy hq hr hkq hz hs L1 L2 L3;go_wp2_with fail;go_still_tail 19,(by kernel_rfl)
   go_wp2_with fail;have hnk:n-(i+1)=k:=by omega
   exact⟨⟨i+1,zs.set q s,by omega,by go_num,by rw[B8r];exact Hl.out,S7 Hd.out q L5.out,by rw[hnk];exact L4.out,(HR.out.set q s).grow (A4.drew _),(HG.out.setCell (p:=⟨w.heap.size,q,none⟩) (K2 _) _).trans (A4.drew _)⟩,by simp[intOf];omega⟩
  ·obtain rfl:i=n:=by omega
   have hva:val W32 zs=a:=by have:=Hv.out;simpa using this
   have htr:Calls Tryz.prog 139 #[.slice (some ⟨w.heap.size,0,none⟩) m m] wr λe w'=>e = .returned (.slice (some ⟨w.heap.size,0,none⟩) (ln a) m)/\Rn w' (some ⟨w.heap.size,0,none⟩,m) a/\A4 w w':=by
    have h1:=A19 (some ⟨w.heap.size,0,none⟩) zs m wr HR.out.lim (B84 Hl.out) (by omega);rw[Hl.out]at h1;refine h1.mono λe w' ⟨he,hg⟩=>?_;obtain⟨hr1,hlen⟩:=A3k (a:=a) (c:=m) (HR.out.lim.grow hg) Hd.out hva (B84 Hl.out) (by omega);rw[hlen]at he;exact⟨he,hr1,HG.out.trans hg⟩
   have Htr:=B8S htr;clear htr hva;go_wp2_with (go_at_call 139;((with_reducible refine(Htr.out).mono ?_);rintro e w1 ⟨rfl,hr1,hg⟩));go_ret;exact⟨(some ⟨w.heap.size,0,none⟩,m),rfl,hr1,hg⟩
def LIM:Nat:=1099511627760
theorem H4:∀t∈[44,46,48,31,33],R0 Tryz.prog t:=by
 intro t ht;simp only[List.mem_cons,List.not_mem_nil,or_false]at ht;rcases ht with rfl|rfl|rfl|rfl|rfl
 ·exact λ_ _ _ _ _ _=>by rw[M7];kernel_rfl
 ·exact λ_ _ _ _ _ _=>by rw[A25];kernel_rfl
 ·exact λ_ _ _ _ _ _=>by rw[Q3];kernel_rfl
 ·exact λ_ _ _ _ _ _=>by rw[B5A];kernel_rfl
 ·exact λ_ _ _ _ _ _=>by rw[A38];kernel_rfl
theorem A9c(a:Nat)(ha:bl a<=LIM)(w:World):Calls Tryz.prog 152 #[B5 a] w (Ret (M3 a) w):=by
 unfold LIM at ha;have hby:∀W,Calls Tryz.prog 187 #[B5 a] W λe w'=>∃A,e = .returned (.slice A (byt a).length (byt a).length)/\By w' A (byt a).reverse/\A4 W w':=λW=>A7S a ha W;have hfr:∀A W,By W A (byt a).reverse->Calls Tryz.prog 186 #[.slice A (byt a).length (byt a).length] W (Ret (M3 a) W):=λA W h=>B00 A a W ha h;obtain⟨n,hn⟩:∃n,n=(byt a).length:=⟨_,rfl⟩
 rw[<-hn]at hby hfr;have Hby:=B8S hby
 have Hfr:=B8S hfr;clear hby hfr hn;go_enter Tryz.func152,Tryz.ntmps152
 go_wp2_with (first
  | (go_at_call 187;((with_reducible refine(Hby.out _).mono ?_);rintro e w1 ⟨A,rfl,hA,hg1⟩))
  | (go_at_call 186;((with_reducible refine(Hfr.out _ _ hA).mono ?_);rintro e w2 ⟨x,rfl,hx,hg2⟩)))
 go_ret;exact⟨x,rfl,hx,(A4.alloc _ _).trans (hg1.trans hg2)⟩
theorem B5R(z:Int)(ha:bl z.natAbs<=LIM)(w:World):Calls Tryz.prog 150 #[F0 z] w (Ret (L9 z) w):=by
 have ha':bl z.natAbs<=1099511627776:=by unfold LIM at ha;omega
 go_enter Tryz.func150,Tryz.ntmps150;refine en2 ?_;intro u hG b2 b1 hB hF;refine B8N (rdC A8 [] [(0,0),(0,3),(1,1),(0,2),(1,4),(1,5),(1,6)] hB hG λK L hN hL=>?_);refine gs ?_;refine gmw (C:=λv=>A3q _ (by assumption) _) ?_;refine gs ?_;refine gmw (C:=λv=>A2d _ _) ?_;refine grd (M3 z.natAbs) (λ(x8:Ax)=>?_) (C:=λv _=>A9c z.natAbs ha _);refine gmd (C:=by(rintro v ⟨⟨hgu,hB,hG,-⟩,hx8⟩;have hx8:Rn v x8 _:=hx8;exact Z4 x8 _ z.natAbs _)) ?_;refine geC hL ?_;clear hB hG hL L;rintro u ⟨⟨-,hB,hG,-⟩,hx8⟩;replace hx8:Rn u x8 _:=hx8;refine gtT ?_;clear hN K;refine sv hB hF hG 1 0 [_,_] ?_;intro u hu hBG;replace hx8:=hx8.put hB 1 rfl (by first|decide|simp) _ _ hu;clear hB hG hu;obtain⟨hB,hG⟩:=hBG;refine rt Tryz.results150 ?_;exact⟨x8,B9d (λy:Int=>Ending.returned (riV x8 y)) (A1L z),hx8,hG⟩
theorem B1P(q:Rat)(ha:qs q<=LIM)(w:World):Calls Tryz.prog 100 #[qV q] w (Ret (F7 q) w):=by
 have h1:bl q.num.natAbs<=LIM:=B8K (G6 q) ha;have h2:bl q.den<=LIM:=B8K (H3 q) ha;have h3:bl q.den<=1099511627776:=by unfold LIM at h2;omega
 go_enter Tryz.func100,Tryz.ntmps100;refine en2 ?_;intro u hG b2 b1 hB hF;refine B8N (rdC A8 [] [(0,0),(0,3),(1,1),(1,2),(1,4),(1,5),(0,6)] hB hG λK L hN hL=>?_);refine gs ?_;refine gmw (C:=λv=>B5k _ _) ?_;refine grd (L9 q.num) (λ(x5:Ax)=>?_) (C:=λv _=>B5R q.num h1 _);refine gmd (C:=by(rintro v ⟨⟨hgu,hB,hG,-⟩,hx5⟩;have hx5:Rn v x5 _:=hx5;exact W4 _ (by assumption) _)) ?_;refine grd (M3 q.den) (λ(x8:Ax)=>?_) (C:=by(rintro v ⟨⟨hgu,hB,hG,-⟩,hx5⟩;have hx5:Rn v x5 _:=hx5;exact A9c q.den h2 _));refine gs ?_;refine geC hL ?_;clear hB hG hL L;rintro u ⟨⟨⟨-,hB,hG,-⟩,hx5⟩,hx8⟩;replace hx5:Rn u x5 _:=hx5;replace hx8:Rn u x8 _:=hx8;refine gtT ?_;clear hN K;refine sv hB hF hG 1 0 [_,_,_] ?_;intro u hu hBG;replace hx5:=hx5.put hB 1 rfl (by first|decide|simp) _ _ hu;replace hx8:=hx8.put hB 1 rfl (by first|decide|simp) _ _ hu;clear hB hG hu;obtain⟨hB,hG⟩:=hBG;refine rt Tryz.results100 ?_;exact⟨(x5,x8),rfl,⟨hx5,hx8⟩,hG⟩
theorem A7c(x y:Ax)(a:Nat)(w:World)(hx:Rn w x a)(hy:Rn w y a):Calls Tryz.prog 101 #[nvV x a,nvV y a] w λe w'=>e = .returned (.int .i64 0)/\A4 w w':=by
 have:=A3Q x y a a w hx hy;rw[A13 rfl]at this;exact this
theorem A85(q:Rat)(x y:Ax)(ha:qs q<=LIM)(w:World)(hx:Rn w x q.num.natAbs)(hy:Rn w y q.den):Calls Tryz.prog 37 #[qV q,rqV x y q] w λe w'=>e = .returned (.bool true)/\A4 w w':=by
 have hl:0<ln q.den:=A2G.2 q.den_nz;have hlb:((ln q.den:Int) == 0)=false:=by simp;omega
 go_enter Tryz.func37,Tryz.ntmps37;refine en2 ?_;intro u hG b3 b2 hB hF;replace hx:=hx.grow hG;replace hy:=hy.grow hG;refine B8N (rsC H4 [0,1,2] hB hG λK L hN hL=>?_);refine gs ?_;refine grd (F7 q) (λ(x7:Ax×Ax)=>?_) (C:=λv _=>B1P q ha _);refine gaa (A38 _ _ _ _ _) λb5 hb5 hn5=>?_;replace hF:=hF.n1 [] hB hG hb5 hn5;refine geC hL ?_;clear hB hG hL L;rintro u ⟨⟨⟨hgu,hB,hG,-⟩,hx7⟩,h5⟩;replace hB:=hB.cons' h5;clear h5;replace hx:=hx.grow hgu;replace hy:=hy.grow hgu;obtain⟨hx7a,hx7b⟩:Rn u x7.1 _/\Rn u x7.2 _:=hx7;clear hb5 hn5;clear hgu;refine gtT ?_;clear hN K;refine sv hB hF hG 0 0 [_,_,_] ?_;intro u hu hBG;replace hx:=hx.put hB 0 rfl (by first|decide|simp) _ _ hu;replace hy:=hy.put hB 0 rfl (by first|decide|simp) _ _ hu;replace hx7a:=hx7a.put hB 0 rfl (by first|decide|simp) _ _ hu;replace hx7b:=hx7b.put hB 0 rfl (by first|decide|simp) _ _ hu;clear hB hG hu;obtain⟨hB,hG⟩:=hBG;refine B8N ?_;refine r0T ?_;refine B8T (rfl) ?_;refine B8U ?_;refine A6 ?_;refine B8N (rsE H4 [0,0,0,0,0,0,1,0,0,0,0,0,0,0,0,0,0,0,0,0,0,0,1,0,0,0] hB hG λL hL=>?_);refine gs ?_;refine gmd (C:=λv ⟨hgu,hB,hG,_⟩=>A7c x7.1 x q.num.natAbs _ (hx7a.grow hgu) (hx.grow hgu)) ?_;refine gs ?_
 first|refine gmd (C:=λv ⟨hgu,hB,hG,_⟩=>A7c x7.2 y q.den _ (hx7b.grow hgu) (hy.grow hgu)) ?_|refine J6 ?_
 refine gs ?_;refine geT hL ?_;clear hB hG hL L;rintro u ⟨hgu,hB,hG,-⟩;replace hx:=hx.grow hgu;replace hy:=hy.grow hgu;replace hx7a:=hx7a.grow hgu;replace hx7b:=hx7b.grow hgu;clear hgu;refine rt Tryz.results37 ?_;exact⟨rfl,hG⟩
theorem B7i(n d:Int)(h0 : -9223372036854775808<=n)(h1:n<=9223372036854775807)(h2 : -9223372036854775808<=d)(h3:d<=9223372036854775807)(hd:d≠0)(ha:qs (I0 n d)<=LIM)(w:World):Calls Tryz.prog 52 #[qV (I0 n d),.int .i64 n,.int .i64 d] w λe w'=>e = .returned (.bool true)/\A4 w w':=by
 go_enter Tryz.func52,Tryz.ntmps52;refine en1 ?_;intro u hG b3 hB hF;refine B8N (rdC A8 [] [(0,0),(0,1),(0,2),(1,3),(1,4)] hB hG λK L hN hL=>?_);refine gs ?_;refine grd (F7 (I0 n d)) (λ(x10:Ax×Ax)=>?_) (C:=λv _=>A7H n d h0 h1 h2 h3 hd _);refine gmd (C:=by(rintro v ⟨⟨hgu,hB,hG,-⟩,hx10⟩;obtain⟨hx10a,hx10b⟩:Rn v x10.1 _/\Rn v x10.2 _:=hx10;exact A85 (I0 n d) x10.1 x10.2 ha _ hx10a hx10b)) ?_;refine geC hL ?_;clear hB hG hL L;rintro u ⟨⟨-,hB,hG,-⟩,hx10⟩;obtain⟨hx10a,hx10b⟩:Rn u x10.1 _/\Rn u x10.2 _:=hx10;refine gtT ?_;clear hN K;refine rt Tryz.results52 ?_;exact⟨rfl,hG⟩
def K9(n m:Int):Int:=n%m
theorem A1z(n:Int){m:Int}(h:0<m):0<=K9 n m/\K9 n m<m:=⟨Int.emod_nonneg _ (by omega),Int.emod_lt_of_pos _ h⟩
theorem B5j(n m:Int)(hm:0<m)(hm2:m<=9223372036854775807)(w:World):Calls Tryz.prog 24 #[.int .i64 n,.int .i64 m] w λe w'=>e = .returned (.int .i64 (K9 n m))/\w=w':=by
 have h0:¬m=0:=by omega
 obtain⟨t,ht⟩:∃t,t=n.tmod m:=⟨_,rfl⟩
 have hp:K9 n m=if t<0 then t+m else t:=by
  rw[ht];unfold K9;have h1:=Int.emod_nonneg n (show m≠0 by omega);have h2:=Int.emod_lt_of_pos n hm;rw[Int.tmod_eq_emod];split<;>split<;>omega
 have hb : -m<t/\t<m:=by
  rw[ht];have h1:=Int.emod_nonneg n (show m≠0 by omega);have h2:=Int.emod_lt_of_pos n hm;rw[Int.tmod_eq_emod];split<;>omega
 have htm:n.tmod m=t:=ht.symm;have hw1:IntKind.i64.wrap t=t:=B8j _ (by omega);clear ht;by_cases hneg:t<0
 ·rw[if_pos hneg]at hp;have hw2:IntKind.i64.wrap (t+m)=t+m:=B8j _ (by omega);have Hp:=B8S hp;clear hp;go_enter Tryz.func24,Tryz.ntmps24;go_wp2_with fail;go_ret;exact⟨M5 Hp.out.symm,rfl⟩
 ·rw[if_neg hneg]at hp;have Hp:=B8S hp;clear hp;go_enter Tryz.func24,Tryz.ntmps24;go_wp2_with fail;go_ret;exact⟨M5 Hp.out.symm,rfl⟩
theorem B2w(a k:Nat):dg (B4 W32 a) (k/4)/2^(8*(k%4))%256=dg (byt a) k:=by
 unfold byt;rw[A3C D6,A3C (by omega)];have e1:(256:Nat)^k=W32^(k/4)*2^(8*(k%4)):=by
  rw[show W32=2^32 from rfl,show(256:Nat)=2^8 from rfl,<-B8Y,<-B8Y,<-B8a];congr 1;omega
 rw[e1,<-B8W];generalize a/W32^(k/4)=x;have hr:k%4<4:=B8b _ (by omega);generalize k%4=r at hr;have e2:W32=2^(8*r)*(256*2^(24-8*r)):=by
  rw[show W32=2^32 from rfl,show(256:Nat)=2^8 from rfl,<-B8a,<-B8a];congr 1;omega
 rw[e2,B8c,Nat.mod_mul_right_mod]
theorem B3J(x:Ax)(a:Nat)(w:World)(hx:Rn w x a)(ha:bl a<=LIM):Calls Tryz.prog 133 #[nvV x a] w λe w'=>∃b:Nat,e = .returned (.slice (some ⟨b,0,none⟩) (byt a).length (byt a).length)/\By w' (some ⟨b,0,none⟩) (byt a).reverse/\A4 w w':=by
 unfold LIM at ha;obtain⟨A,c⟩:=x;obtain⟨n,hn⟩:∃n,n=(byt a).length:=⟨_,rfl⟩
 obtain⟨m,hm⟩:∃m,m=ln a:=⟨_,rfl⟩
 have hnb:n=(bl a+7)/8:=by rw[hn,A2i]
 have hmk:=A5m n (by omega) (n:Int) rfl;have hbits:=λW (hg:A4 w W)=>A9J (A,c) a W (hx.grow hg) (by omega);show Calls Tryz.prog 133 #[.slice A (ln a) c] w _;change ∀W,A4 w W->Calls Tryz.prog 166 #[.slice A (ln a) c] W _ at hbits;rw[<-hm]at hbits;rw[<-hm,<-hn];have Hx:=B8S hx.1;obtain⟨B,hB⟩:∃B,B=bl a:=⟨_,rfl⟩
 rw[<-hB]at hbits hnb ha;have hb1:IntKind.i64.wrap ((B:Int)+7)=(B:Int)+7:=B8j _ (by omega);have hdv:((B:Int)+7).tdiv 8=(n:Int):=by rw[B8Q (by omega)];omega
 have hdv2:((B:Int)+7)/8=(n:Int):=by omega
 have hnB:n<=137438953471:=by omega
 have fnw:IntKind.i64.wrap (n:Int)=(n:Int):=B8j _ (by omega);have Hbits:=B8S hbits;have Hn:=B8S hn;have Hm:=B8S hm;have Hnb:=B8S (hnb.trans (by rw[hB]));clear hbits hn hm hx ha hB hnb;go_enter Tryz.func133,Tryz.ntmps133;refine en0 ?_;intro u hG hB hF;refine B8N (rsE A8 [0,1,0,0,0] hB hG λL hL=>?_);refine gs ?_;refine gmd (C:=λv ⟨hgu,hB,hG,_⟩=>Hbits.out _ hG) ?_;refine gs ?_;refine geT hL ?_;clear hB hG hL L;rintro u ⟨-,hB,hG,-⟩;refine r0T ?_;have hbo:=Blk.new u 5 (L7 (List.replicate n 0));have hF3:=Fr.new (tk:=[]) hF hB hG (K2 u.heap.size) (by simp);have hB3:=Bx.cons hbo (hB.grow (A4.alloc u (.cells (L7 (List.replicate n 0)) 5)));have hG3:=hG.trans (A4.alloc u (.cells (L7 (List.replicate n 0)) 5));simp only[List.cons_append,List.nil_append,List.map_cons,List.map_nil]at hF3;clear hB hF hG hbo;generalize World.alloc u _=v at  hB3 hG3⊢;generalize u.heap.size=b11 at hB3 hF3⊢;have hB:=hB3;have hF:=hF3;have hG:=hG3;clear hB3 hF3 hG3;obtain⟨u,rfl⟩:=exQ v;refine B8N ?_;refine r0T ?_;refine B8v ?_;go_loopw [5] (λs0 wr=>∃(k:Nat) (zs:List Nat),k<=n/\s0 = .int .i64 k/\(zs=O1 (byt a) k)/\Bx wr [(b11,5,L7 zs)]/\A4 w wr) (λs0 _=>n-(intOf s0).toNat)
 case atStart=>exact⟨0,List.replicate n 0,B8k _,rfl,by unfold O1;rw[<-Hn.out];simp,hB,hG⟩
 case round =>
  clear hB hG;obtain⟨k,zs,hk,rfl,hrel0,hB,hG⟩:=hrel;obtain⟨u,rfl⟩:=exQ wr;have H0:=B8S hrel0;clear hrel0;rcases B73 k n with hlt0|hge0
  ·have hdec:decide ((k:Int)<(n:Int))=true:=by simp;omega
   have hkl:k<(byt a).length:=by rw[<-Hn.out];exact hlt0
   have hwk:k/4<(B4 W32 a).length:=by
    refine A49 D6 ?_;have h1:k<(bl a+7)/8:=by rw[<-Hnb.out];exact hlt0
    rw[show W32=2^32 from rfl,<-B8Y];exact A05.1 (by omega)
   obtain⟨ba,oa,hAe,-⟩:=Hx.out.cell hwk;have hcl:∀W,A4 w W->W.cell? ⟨ba,oa+k/4,none⟩=some (.int .u32 (dg (B4 W32 a) (k/4):Nat)):=λW hg=>by
    obtain⟨b',o',e,hc⟩:=(Hx.out.grow hg).cell hwk;rw[hAe]at e;cases e;exact hc
   have hby:=B2w a k;have hbl:=D1 (by omega) (A2k a) k;have hst:=A6d (byt a) hkl;have hxl:=dgl a (k/4);have hwm:k/4<m:=by rw[Hm.out];exact hwk
   have hzl:zs.length=n:=by rw[H0.out,A6W _ (by omega),<-Hn.out]
   rw[<-Hn.out,<-H0.out]at hst;obtain⟨q,hq⟩:∃q,q=k/4:=⟨_,rfl⟩
   obtain⟨r,hr⟩:∃r,r=k%4:=⟨_,rfl⟩
   have hr8:r<4:=by omega
   rw[<-hq]at hwm hxl hby
   rw[<-hr]at hby
   simp only[<-hq]at hcl;obtain⟨X,hX⟩:∃x,x=dg (B4 W32 a) q:=⟨_,rfl⟩
   obtain⟨y,hy⟩:∃y,y=dg (byt a) k:=⟨_,rfl⟩
   rw[<-hX]at hby hxl;simp only[<-hX]at hcl;rw[<-hy]at hby hbl hst;obtain⟨t,ht⟩:∃t,t=n-1-k:=⟨_,rfl⟩
   rw[<-ht]at hst;have f1:(n:Int)-1-(k:Int)=(t:Int):=by omega
   have f1':(n:Int)-1=(t:Int)+(k:Int):=by omega
   have f1w:IntKind.i64.wrap ((t:Int)+(k:Int))=(t:Int)+(k:Int):=B8j _ (by omega);have htn:t<n:=by omega
   have q1:(k:Int).tdiv 4=(q:Int):=by rw[B8Q (by omega)];omega
   have q2:(k:Int).tmod 4=(r:Int):=by rw[B8R (by omega)];omega
   have q3:(k:Int)/4=(q:Int):=by omega
   have q4:(k:Int)%4=(r:Int):=by omega
   have q5:IntKind.i64.wrap (8*(r:Int))=8*(r:Int):=B8j _ (by omega);have q6:IntKind.u64.wrap (8*(r:Int))=8*(r:Int):=u64_wrap_id (x:=8*(r:Int)) (by omega) (by omega);have q7:(8*(r:Int)).toNat=8*r:=by omega
   have q8:min (8*r) 32=8*r:=by omega
   obtain⟨s,hs⟩:∃s,s=X/2^(8*r):=⟨_,rfl⟩
   rw[<-hs]at hby
   have q9:(X:Int)/2^(8*r)=(s:Int):=by rw[hs];simp
   have q10:IntKind.u8.wrap (s:Int)=(y:Int):=by rw[<-hby];simp[IntKind.wrap,IntKind.signed,IntKind.bits]
   have q11:(s:Int)%256=(y:Int):=by omega
   have g1:∃old,(L7 zs)[t]?=some old:=by rw[A4h,B8i (by omega)];exact⟨_,rfl⟩
   obtain⟨old,g1⟩:=g1;have G2:=B8S (A5g zs t y);have Hcl:=B8S hcl;have Hst:=B8S hst;subst hAe;clear hcl hst hby hq hr hX hy hs ht hkl hwk hzl;refine B8N ?_;refine r0T ?_;refine B8V (rfl) ?_;refine B8U ?_;refine A6 ?_;refine B8N ?_;refine B8v ?_;have hcb:=Hcl.out u hG;refine r0E ?_;generalize hu0:World.setCell u _ _=u0;have hBG:=hB.over hF hG 0 rfl t [_] hu0;clear hB hG;simp only[List.modify_succ_cons,List.modify_zero_cons,I3,G2.out]at hBG;obtain⟨hB,hG⟩:=hBG;clear hu0;obtain⟨u,rfl⟩:=exQ u0;refine C8 ?_;refine A6 ?_;refine r0E ?_;refine A6 ?_;go_roundw
   case rel=>exact⟨k+1,zs.set t y,by omega,by go_num,Hst.out,hB,hG⟩
   case measure=>simp[intOf];try omega
  ·obtain rfl:n=k:=by omega
   have hdec:decide ((n:Int)<(n:Int))=false:=by simp
   skip
   refine B8N ?_;refine r0T ?_;refine B8T (rfl) ?_;refine B8x ?_;refine B7 ?_;refine B7 ?_;refine D0 ?_;refine A6 ?_;refine r0T ?_;refine rt Tryz.results133 ?_;exact⟨b11,rfl,by have:=By.of hB.head;rw[H0.out,Hn.out,A6e]at this;exact this,hG⟩
theorem B0O(x:Ax)(a:Nat)(w:World)(hx:Rn w x a)(ha:bl a<=LIM):Calls Tryz.prog 67 #[nvV x a] w λe w'=>e = .returned (B5 a)/\A4 w w':=by
 have hby:=λW (hg:A4 w W)=>B3J x a W (hx.grow hg) ha;have hfr:∀b W,By W (some ⟨b,0,none⟩) (byt a).reverse->Calls Tryz.prog 132 #[.slice (some ⟨b,0,none⟩) (byt a).length (byt a).length] W λe w'=>e = .returned (B5 a)/\A4 W w':=λb W h=>by
  have h1:=A8J (some ⟨b,0,none⟩) (byt a).reverse (byt a).length (λy hy=>A2k a y (List.mem_reverse.1 hy)) (by rw[B8y,A2i];unfold LIM at ha;omega) W h;rw[B8y,List.reverse_reverse,show val 256 (byt a)=a from E3 (by omega) a]at h1;exact h1
 obtain⟨n,hn⟩:∃n,n=(byt a).length:=⟨_,rfl⟩
 rw[<-hn]at hby hfr;have Hby:=B8S hby
 have Hfr:=B8S hfr;clear hby hfr hn hx ha;go_enter Tryz.func67,Tryz.ntmps67;refine en1 ?_;intro u hG b2 hB hF;refine B8N (rsC A8 [0,1,1] hB hG λK L hN hL=>?_);refine gs ?_;refine gxd (X:=Nat) (λb:Nat=>.slice (some ⟨b,0,none⟩) n n) (λb W=>By W (some ⟨b,0,none⟩) (byt a).reverse) (λb u u' hg h=>By.grow h hg) (λx4=>?_) (C:=by(rintro v ⟨hgu,hB,hG,-⟩;exact Hby.out _ hG));refine gmd (C:=λv ⟨⟨hgu,hB,hG,_⟩,hx4⟩=>Hfr.out x4 _ hx4) ?_;refine geC hL ?_;clear hB hG hL L;rintro u ⟨⟨hgu,hB,hG,-⟩,hx4⟩;clear hx4;clear hgu;refine gtT ?_;clear hN K;refine st hB hF hG 0 0 [_,_] ?_;clear hB hG;intro u hB hG;refine rt Tryz.results67 ?_;exact⟨rfl,hG⟩
theorem B7W(x:Ax)(z:Int)(w:World)(hx:Rn w x z.natAbs)(ha:bl z.natAbs<=LIM):Calls Tryz.prog 65 #[riV x z] w λe w'=>e = .returned (F0 z)/\A4 w w':=by
 have ha':bl z.natAbs<=1099511627776:=by unfold LIM at ha;omega
 go_enter Tryz.func65,Tryz.ntmps65;refine en2 ?_;intro u hG b2 b1 hB hF;replace hx:=hx.grow hG;refine B8N (rdC A8 [] [(0,0),(0,1),(0,2),(0,3),(1,4),(1,5)] hB hG λK L hN hL=>?_);refine gs ?_;refine gmd (C:=λv ⟨hgu,hB,hG,_⟩=>B0O x z.natAbs _ (hx.grow hgu) ha) ?_;refine gmw (C:=λv=>T8 _ _ (by assumption) _) ?_;refine geC hL ?_;clear hB hG hL L;rintro u ⟨hgu,hB,hG,-⟩;replace hx:=hx.grow hgu;clear hgu;refine gtT ?_;clear hN K;refine sv hB hF hG 1 0 [_,_,_] ?_;intro u hu hBG;replace hx:=hx.put hB 1 rfl (by first|decide|simp) _ _ hu;clear hB hG hu;obtain⟨hB,hG⟩:=hBG;refine rt Tryz.results65 ?_;exact⟨A1l (A1L z),hG⟩
theorem A8n(x y:Ax)(q:Rat)(w:World)(h1:Rn w x q.num.natAbs)(h2:Rn w y q.den)(ha:qs q<=BIG)(HT:Tab w):Calls Tryz.prog 17 #[rqV x y q] w λe w'=>e = .returned (qV q)/\A4 w w':=by
 have z1:=G6 q;have z2:=H3 q;have hBl:BIG<=LIM:=by unfold BIG LIM;omega
 have hBm:=I6;have hmk:=λW (hT:Tab W)=>B1I q.num (sgn false q.den) (by omega) (by rw[Q7];omega) W hT;have hq:I0 q.num (sgn false q.den)=q:=A2K q;rw[hq]at hmk;have z3:bl q.den<=1099511627776:=by omega
 go_enter Tryz.func17,Tryz.ntmps17;refine en2 ?_;intro u hG b2 b1 hB hF;replace h1:=h1.grow hG;replace h2:=h2.grow hG;refine B8N (rdC A8 [10] [(0,0),(0,1),(0,3),(0,4),(1,2),(1,5),(1,6),(1,7),(0,8),(0,9),(0,10),(2,11)] hB hG λK L hN hL=>?_);refine gs ?_;refine gmd (C:=λv ⟨hgu,hB,hG,_⟩=>B7W x q.num _ (h1.grow hgu) (by omega)) ?_;refine gmd (C:=λv ⟨hgu,hB,hG,_⟩=>B0O y q.den _ (h2.grow hgu) (by omega)) ?_;refine gmw (C:=λv=>T8 false q.den z3 _) ?_;refine gmd (C:=λv ⟨hgu,hB,hG,_⟩=>hmk _ (HT.grow hG)) ?_;refine gs ?_;refine gaa (Q3 _ _ _ _ _) λb3 hb3 hn3=>?_;replace hF:=hF.n1 [] hB hG hb3 hn3;refine geC hL ?_;clear hB hG hL L;rintro u ⟨⟨hgu,hB,hG,-⟩,h3⟩;replace hB:=hB.cons' h3;clear h3;replace h1:=h1.grow hgu;replace h2:=h2.grow hgu;clear hb3 hn3;clear hgu;refine gtT ?_;clear hN K;refine sv hB hF hG 0 0 [_,_,_,_,_] ?_;intro u hu hBG;replace h1:=h1.put hB 0 rfl (by first|decide|simp) _ _ hu;replace h2:=h2.put hB 0 rfl (by first|decide|simp) _ _ hu;clear hB hG hu;obtain⟨hB,hG⟩:=hBG;refine r0T ?_;refine sv hB hF hG 2 0 [_,_,_,_,_] ?_;intro u hu hBG;replace h1:=h1.put hB 2 rfl (by first|decide|simp) _ _ hu;replace h2:=h2.put hB 2 rfl (by first|decide|simp) _ _ hu;clear hB hG hu;obtain⟨hB,hG⟩:=hBG;refine rt Tryz.results17 ?_;exact⟨rfl,hG⟩
end Go.Proofs.YtgpglgbcobeogaaGreatDoor
