import Derived.Test.YtgpglgbcobeogaaGreatDoorL18
set_option linter.unusedSimpArgs false
set_option linter.unusedVariables false
set_option maxHeartbeats 1000000
set_option maxRecDepth 100000
namespace Go.Proofs.YtgpglgbcobeogaaGreatDoor
open Go.RowKit
def D5(l:List Nat):Array Value:=(l.map λx=>Value.int .u32 (x:Nat)).toArray
theorem A1g(l:List Nat)(i:Nat):(D5 l)[i]?=(l[i]?).map λx=>Value.int .u32 (x:Nat):=by
 unfold D5;simp
theorem A17(l:List Nat)(i y:Nat):(D5 l).setIfInBounds i (.int .u32 (y:Nat))=D5 (l.set i y):=by
 unfold D5;rw[List.setIfInBounds_toArray,List.map_set]
def U8(u:World)(b:Nat)(l:List Nat):Prop:=Blk u b 193 (D5 l)
theorem U8.grow{u u':World}{b:Nat}{l:List Nat}(hg:A4 u u')(h:U8 u b l):U8 u' b l:=Blk.grow hg h
theorem U8.cell{u:World}{b:Nat}{l:List Nat}(h:U8 u b l){i:Nat}(hi:i<l.length):u.cell? ⟨b,i,none⟩=some (.int .u32 (dg l i:Nat)):=by
 rw[Blk.cell h,A1g,B8i hi,E8 hi];rfl
theorem U8.frozen{u:World}{b:Nat}{l:List Nat}(h:U8 u b l)(i:Nat):u.frozen? ⟨b,i,none⟩=false:=Blk.frozen h i
theorem U8.set{u:World}{b:Nat}{l:List Nat}(h:U8 u b l)(i y:Nat):U8 (u.setCell ⟨b,i,none⟩ (.int .u32 (y:Nat))) b (l.set i y):=by
 have:=Blk.set_ h i (.int .u32 (y:Nat));rw[A17]at this;exact this
theorem U8.lim{u:World}{b:Nat}{l:List Nat}(h:U8 u b l):Lim u (some ⟨b,0,none⟩) l:=λ_ =>
 ⟨b,0,D5 l,(0,0),rfl,h,λi x hi=>by rw[Nat.zero_add,A1g,hi];rfl⟩
theorem B1e:(Tryz.prog.info? 193).map (λi=>(i.zero,i.size,i.bytes))=some (some (.int .u32 0),1,4):=by kernel_rfl
theorem B4u(n:Nat):madeCells (Value.int .u32 0).cells (n*1)=D5 (List.replicate n 0):=by
 unfold D5 madeCells;refine Array.ext (by simp) λi h1 h2=>?_;simp[Value.cells,Nat.mod_one]
theorem A2L(n:Nat)(hn:n<=1099511627776)(x:Int)(hx:x=n)(W:World):(Instr.makeSlice 29 (.int .i64 x) (.int .i64 x)).run Tryz.prog W =
  .ok (.slice (some ⟨W.heap.size,0,none⟩) n n) (W.alloc (.cells (D5 (List.replicate n 0)) 193)):=by
 obtain⟨i0,hi0,hz0,hz1,hz2⟩:=B8d B1e;have hr:=run_make (P:=Tryz.prog) W 29 193 i0 (.int .u32 0) Tryz.underlying29 hi0 hz0 .i64 .i64 n n (by omega) (by omega) (by rw[hz2];omega) (by omega);rw[hx];rw[hr,hz1];simp only[Int.toNat_natCast];rw[B4u]
def A4m(W d:Nat)(l:List Nat)(k r:Nat)(zs:List Nat):Prop :=
 zs.length=l.length/\Dig W zs/\r<d/\val W (zs.drop k)*d+r=val W (l.drop k)
theorem A4m.next{W d:Nat}{l:List Nat}{k r:Nat}{zs:List Nat}(h:A4m W d l (k+1) r zs)(hk:k<l.length)(hd:Dig W l)(hW:0<W) :
  A4m W d l k ((r*W+dg l k)%d) (zs.set k ((r*W+dg l k)/d)):=by
 obtain⟨h1,h2,h4,h5⟩:=h;have hk':k<zs.length:=by rw[h1];exact hk
 have hx:=D1 hW hd k;refine⟨by rw[B8r,h1],S7 h2 _ (A3x h4 hx),B8b _ (by omega),?_⟩;rw[A1O (l:=zs.set k _) (by rw[B8r];exact hk'),A7g hk',A1O hk,O7,O7,List.drop_set_of_lt (by omega),<-h5];have e:=B9c (r*W+dg l k) d;generalize (r*W+dg l k)/d=q at *;generalize (r*W+dg l k)%d=m at *;generalize val W (zs.drop (k+1))=V at *;grind
theorem B6A(x:Ax)(a d:Nat)(w:World)(hx:Rn w x a)(hd0:0<d)(hdW:d<W32) :
  Calls Tryz.prog 167 #[nvV x a,.int .u32 d] w λe w'=>∃y:Ax,e = .returned (.tuple #[nvV y (a/d),.int .u32 (a%d:Nat)])/\Rn w' y (a/d)/\A4 w w':=by
 obtain⟨A,c⟩:=x;obtain⟨n,hn⟩:∃n,n=ln a:=⟨_,rfl⟩
 have hm:n<=1099511627776:=by rw[hn];exact hx.2.2.2
 show Calls Tryz.prog 167 #[.slice A (ln a) c,.int .u32 d] w _;rw[<-hn];have Hx:=B8S hx.1;have Hn:=B8S hn;have hmk:=A2L n hm (n:Int) rfl;clear hx hn;unfold W32 at hdW;go_enter Tryz.func167,Tryz.ntmps167;go_wp2_with fail;clear hmk;go_loopw [7,8] (λr i wr=>∃(k r':Nat) (zs:List Nat),k<=n/\i = .int .i64 ((k:Int)-1)/\r = .int .u64 r'/\A4m W32 d (B4 W32 a) k r' zs/\U8 wr w.heap.size zs/\A4 w wr) (λ_ i _=>(intOf i+1).toNat)
 case atStart=>exact⟨n,0,List.replicate n 0,K2 _,rfl,rfl,⟨by rw[B8f];exact Hn.out,λz hz=>(by rw[(List.mem_replicate.1 hz).2];exact F5),hd0,by rw[B8m (by simp),B8m (B84 Hn.out.symm)];simp[val]⟩,Blk.new w 193 _,A4.alloc _ _⟩
 case round =>
  obtain⟨k,r',zs,hk,rfl,rfl,hI,hR,hG⟩:=hrel;have HI:=B8S hI;have HG:=B8S hG;have HR:=B8S hR;clear hI hG hR;rcases B8M k with rfl|hpos
  ·have hval:val W32 zs*d+r'=a:=by have:=HI.out.2.2.2;rw[List.drop_zero,List.drop_zero,E3 D6]at this;exact this
   have hr:=HI.out.2.2.1;have hres:a%d=r'/\a/d=val W32 zs:=by
    rw[<-hval,B8t,Nat.mul_add_mod,Nat.mod_eq_of_lt hr,Nat.mul_add_div hd0,B80 hr];simp
   have hzl:zs.length=n:=by rw[HI.out.1];exact Hn.out.symm
   have htr:Calls Tryz.prog 139 #[.slice (some ⟨w.heap.size,0,none⟩) n n] wr λe w'=>e = .returned (.slice (some ⟨w.heap.size,0,none⟩) (ln (a/d)) n)/\Rn w' (some ⟨w.heap.size,0,none⟩,n) (a/d)/\A4 w w':=by
    have h1:=A19 (some ⟨w.heap.size,0,none⟩) zs n wr HR.out.lim (B84 hzl) (by omega);rw[hzl]at h1;refine h1.mono λe w' ⟨he,hg⟩=>?_;obtain⟨hr1,hlen⟩:=A3k (a:=a/d) (c:=n) (HR.out.lim.grow hg) HI.out.2.1 hres.2.symm (B84 hzl) hm;rw[hlen]at he;exact⟨he,hr1,HG.out.trans hg⟩
   have Htr:=B8S htr;have Hres:=B8S hres;clear hval hres hzl htr;have hc:decide ((0:Int)<=((0:Nat):Int)-1)=false:=by decide
   have hwr:((r':Int))%4294967296=(r':Int):=by omega
   go_wp2_with (go_at_call 139;((with_reducible refine(Htr.out).mono ?_);rintro e w1 ⟨rfl,hr1,hg⟩));go_ret2;exact⟨(some ⟨w.heap.size,0,none⟩,n),B9d (λz:Nat=>Ending.returned (.tuple #[.slice (some ⟨w.heap.size,0,none⟩) (ln (a/d)) n,.int .u32 (z:Nat)])) Hres.out.1.symm,hr1,hg⟩
  ·obtain⟨j,rfl⟩:∃j,k=j+1:=⟨k-1,by omega⟩
   have e1:((j+1:Nat):Int)-1=(j:Nat):=by omega
   rw[e1];have hjl:j<(B4 W32 a).length:=by have:=Hn.out;unfold ln at this;omega
   have hnx:=HI.out.next hjl (G5 D6 a) F5;obtain⟨b1,o1,rfl,hc1⟩:=(Hx.out.grow HG.out).cell hjl;have hjz:j<zs.length:=by rw[HI.out.1];exact hjl
   have hc2:=HR.out.cell hjz;have hf2:=HR.out.frozen j;have hxl:=D1 F5 (G5 D6 a) j;obtain⟨p,hp⟩:∃p,p=dg (B4 W32 a) j:=⟨_,rfl⟩
   rw[<-hp]at hc1 hnx hxl;have hr:=HI.out.2.2.1;have Hp:=B8S hp;have Hnx:=B8S hnx;clear hp hnx e1;have hc0:decide ((0:Int)<=(j:Int))=true:=by simp
   unfold W32 at hxl;obtain⟨X,hX⟩:∃X,X=r'*W32+p:=⟨_,rfl⟩
   have hXl:X<18446744073709551616:=by rw[hX];unfold W32;omega
   have hqW:X/d<4294967296:=by rw[hX];exact A3x hr (by unfold W32;exact hxl)
   have hmW:X%d<d:=B8b _ hd0;have hor:bits BinOp.or IntKind.u64 ((r':Int)*4294967296) (p:Int)=(X:Nat):=by
    have e2:((r':Int)*4294967296)=((r'*4294967296:Nat):Int):=by omega
    rw[e2,bits_or_u64_nat _ _ (by omega) (by omega),hX];unfold W32;rw[A2s (s:=32) (by omega) (by omega)]
   have htm:((X:Nat):Int).tmod (d:Int)=((X%d:Nat):Int):=rfl;have htd:((X:Nat):Int).tdiv (d:Int)=((X/d:Nat):Int):=rfl;rw[<-hX]at Hnx;have HX:=B8S hX;obtain⟨q,hq⟩:∃q,q=X/d:=⟨_,rfl⟩
   obtain⟨m,hm'⟩:∃q,q=X%d:=⟨_,rfl⟩
   rw[<-hq]at Hnx htd hqW;rw[<-hm']at Hnx htm hmW;clear hX hq hm';have hwq:((q:Int))%4294967296=(q:Int):=by omega
   go_wp2_with fail;exact⟨⟨j,m,zs.set j q,by omega,rfl,rfl,Hnx.out,HR.out.set j q,HG.out.setCell (p:=⟨w.heap.size,j,none⟩) (K2 _) _⟩,by simp[intOf]⟩
theorem B7L{b:Nat}(h0:b≠0)(h:b<W32):ln b=1/\B4 W32 b=[b]:=by
 have e:B4 W32 b=[b]:=by
  rw[A08 D6 h0,Nat.mod_eq_of_lt h,B80 h];rfl
 exact⟨by unfold ln;rw[e];rfl,e⟩
theorem Rn.nil(u:World):Rn u (none,0) 0:=⟨Lim.nil _ _,K2 _,by omega,by decide⟩
theorem Ret.nn{a b:Nat}{w:World}{P:Program}{f:FuncId}{args:Array Value}{W:World}(h:Calls P f args W (Ret (nnR a b) w)):Calls P f args W λe w'=>∃x y:Ax,e = .returned (.tuple #[.slice x.1 (ln a) x.2,.slice y.1 (ln b) y.2])/\Rn w' x a/\Rn w' y b/\A4 w w' :=
 h.mono λ_ _ ⟨x,he,ht,hg⟩=>⟨x.1,x.2,he,ht.1,ht.2,hg⟩
theorem A7f(x y:Ax)(a b:Nat)(w:World)(hx:Rn w x a)(hy:Rn w y b)(hlt:a<b):Calls Tryz.prog 138 #[nvV x a,nvV y b] w (Ret (nnR (a/b) (a%b)) w):=by
 have hcmp:=A3Q x y a b w hx hy;rw[V4 hlt]at hcmp;have Hcmp:=B8S hcmp;have Hx:=B8S hx;clear hcmp hx hy;rw[B80 hlt,Nat.mod_eq_of_lt hlt];go_enter Tryz.func138,Tryz.ntmps138;go_wp2_with (go_at_call 101;((with_reducible refine(Hcmp.out).mono ?_);rintro e w1 ⟨rfl,hg⟩));go_ret2;exact⟨((none,0),x),rfl,⟨Rn.nil _,Hx.out.grow hg⟩,hg⟩
theorem B31(x y:Ax)(a b:Nat)(w:World)(hx:Rn w x a)(hy:Rn w y b)(h0:b≠0)(hs:b<W32):Calls Tryz.prog 138 #[nvV x a,nvV y b] w (Ret (nnR (a/b) (a%b)) w):=by
 by_cases hlt:a<b
 ·exact A7f x y a b w hx hy hlt
 ·have hcmp:=A3Q x y a b w hx hy;have hcz:decide (G4 a b<0)=false:=by unfold G4;rw[if_neg hlt];split<;>rfl
  obtain⟨hl1,hdg⟩:=B7L h0 hs;obtain⟨A2,c2⟩:=y;have hcell:=hy.1.cell (i:=0) (by rw[hdg];simp);rw[hdg]at hcell;obtain⟨b2,o2,rfl,hc2⟩:=hcell;have hc2':∀W,A4 w W->W.cell? ⟨b2,o2,none⟩=some (.int .u32 (b:Nat)):=λW hg=>by
   have h1:=(hy.1.grow hg).cell (i:=0) (by rw[hdg];simp);rw[hdg]at h1;obtain⟨b3,o3,e3,h3⟩:=h1;injection e3 with e3;injection e3 with e4 e5;subst e4;subst e5;exact h3
  have hone:∀W,A4 w W->Calls Tryz.prog 167 #[nvV x a,.int .u32 b] W λe w'=>∃y:Ax,e = .returned (.tuple #[nvV y (a/b),.int .u32 (a%b:Nat)])/\Rn w' y (a/b)/\A4 W w':=λW hg=>B6A x a b W (hx.grow hg) (B81 h0) hs;have hmod:a%b<W64:=B8X (B8b _ (B81 h0)) (B8B (B8X hs (by unfold W32 W64;omega)));have hof:=A4T (a%b) hmod;obtain⟨m,hme⟩:∃m,m=a%b:=⟨_,rfl⟩
  rw[<-hme]at hone hof hmod⊢;unfold W64 at hmod;show Calls Tryz.prog 138 #[nvV x a,.slice (some ⟨b2,o2,none⟩) (ln b) c2] w _;rw[hl1];have hcmp':Calls Tryz.prog 101 #[nvV x a,.slice (some ⟨b2,o2,none⟩) 1 c2] w λe w'=>e = .returned (.int .i64 (G4 a b))/\A4 w w':=by
   rw[<-hl1];exact hcmp
  have Hcmp:=B8S hcmp';have Hone:=B8S hone;have Hof:=B8S hof;have Hc2:=B8S hc2';clear hcmp hcmp' hone hof hc2' hc2 hy hx hdg hl1 hs hme;go_enter Tryz.func138,Tryz.ntmps138
  go_wp2_with (first
   | (go_at_call 101;((with_reducible refine(Hcmp.out).mono ?_);rintro e w1 ⟨rfl,hg1⟩;have hcc:=Hc2.out w1 hg1))
   | (go_at_call 167;((with_reducible refine(Hone.out w1 hg1).mono ?_);rintro e w2 ⟨y2,rfl,hy2,hg2⟩))
   | (go_at_call 109;((with_reducible refine(Hof.out _).mono ?_);rintro e w3 ⟨y3,rfl,hy3,hg3⟩)))
  go_ret2;exact⟨(y2,y3),rfl,⟨hy2.grow hg3,hy3⟩,hg1.trans (hg2.trans hg3)⟩
theorem A0p(a:Nat):ln a<=bl a/32+1:=by
 refine A3v D6 (B8X (A0Y a) ?_);rw[show W32=2^32 from rfl,<-B8Y];exact B8Z (by omega) (by omega)
theorem dgl(a k:Nat):dg (B4 W32 a) k<4294967296:=D1 F5 (G5 D6 a) k
theorem A3T(x:Ax)(a i:Nat)(w:World)(hx:Rn w x a):Calls Tryz.prog 196 #[nvV x a,.int .i64 i] w λe w'=>e = .returned (.int .u64 (dg (B4 W32 a) i:Nat))/\A4 w w':=by
 obtain⟨A,c⟩:=x;obtain⟨n,hn⟩:∃n,n=ln a:=⟨_,rfl⟩
 show Calls Tryz.prog 196 #[.slice A (ln a) c,.int .i64 i] w _;rw[<-hn];rcases B73 i n with h|h
 ·obtain⟨b,off,rfl,hc⟩:=hx.1.cell (i:=i) (by rw[hn]at h;exact h);have hl:=dgl a i;generalize dg (B4 W32 a) i=p at *;have hp:((p:Int))%18446744073709551616=(p:Int):=by omega
  clear hx hn;go_enter Tryz.func196,Tryz.ntmps196;go_wp2_with fail;go_ret;exact⟨rfl,A4.refl _⟩
 ·rw[A0u (l:=B4 W32 a) (by rw[hn]at h;exact h)];have h':¬i<n:=by omega
  clear hx hn;go_enter Tryz.func196,Tryz.ntmps196;go_wp2_with fail;go_ret;exact⟨rfl,A4.refl _⟩
def AdI(W N:Nat)(la lb:List Nat)(k c:Nat)(zs:List Nat):Prop:=zs.length=N/\Dig W zs/\c<=1/\val W (zs.take k)+c*W^k=val W (la.take k)+val W (lb.take k)
theorem AdI.start{W:Nat}(N:Nat)(la lb:List Nat)(hW:0<W):AdI W N la lb 0 0 (List.replicate N 0) :=
 ⟨by simp,λz hz=>by rw[(List.mem_replicate.1 hz).2];exact hW,by omega,by simp[val]⟩
theorem AdI.next{W N:Nat}{la lb zs:List Nat}{k c:Nat}(h:AdI W N la lb k c zs)(hW:2<=W)(ha:Dig W la)(hb:Dig W lb)(hk:k<N) :
  AdI W N la lb (k+1) ((dg la k+dg lb k+c)/W) (zs.set k ((dg la k+dg lb k+c)%W)):=by
 obtain⟨h1,h2,h3,h4⟩:=h;have e1:=D1 (by omega) ha k;have e2:=D1 (by omega) hb k;refine⟨by rw[B8r];exact h1,S7 h2 _ (B8b _ (by omega)),?_,?_⟩
 ·have:(dg la k+dg lb k+c)/W<2:=B9e (by omega);omega
 ·rw[A5j (by omega)];exact A9Q (by rw[List.length_take];omega) h4
theorem AdI.done{W N:Nat}{la lb zs:List Nat}{c:Nat}(h:AdI W N la lb N c zs)(hW:2<=W)(ha:Dig W la)(hb:Dig W lb)(hla:la.length<N)(hlb:lb.length<N):val W zs=val W la+val W lb:=by
 obtain⟨h1,h2,h3,h4⟩:=h;rw[B8u (by omega),B8u (by omega),B8u (by omega)]at h4;have e1:=B8X (K6 ha) (B8Z (by omega) (show la.length<=N-1 by omega));have e2:=B8X (K6 hb) (B8Z (by omega) (show lb.length<=N-1 by omega));have e3:2*W^(N-1)<=W^N:=by
  obtain⟨m,rfl⟩:∃m,N=m+1:=⟨N-1,by omega⟩
  rw[Nat.add_sub_cancel,Nat.pow_succ,B8t];exact B9L _ hW
 rcases B8M c with rfl|hc
 ·omega
 ·obtain rfl:c=1:=by omega
  omega
theorem A4k{w u:World}{b N a:Nat}{zs:List Nat}(hG:A4 w u)(hR:Blk u b 193 (D5 zs))(hl:zs.length=N)(hd:Dig W32 zs)(hv:val W32 zs=a)(hN:N<=1099511627776) :
  ∀W,A4 u W->Calls Tryz.prog 139 #[.slice (some ⟨b,0,none⟩) N N] W λe w'=>e = .returned (.slice (some ⟨b,0,none⟩) (ln a) N)/\A4 W w':=λW hg=>by
 have hL:Lim W (some ⟨b,0,none⟩) zs:=(U8.lim hR).grow hg;have h1:=A19 (some ⟨b,0,none⟩) zs N W hL (B84 hl) (by omega);obtain⟨-,hlen⟩:=A3k (a:=a) (c:=N) hL hd hv (B84 hl) hN;rw[hl,hlen]at h1;exact h1
theorem A4a{u:World}{b N a:Nat}{zs:List Nat}(hR:Blk u b 193 (D5 zs))(hl:zs.length=N)(hd:Dig W32 zs)(hv:val W32 zs=a)(hN:N<=1099511627776):Rn u (some ⟨b,0,none⟩,N) a :=
 (A3k (a:=a) (c:=N) (U8.lim hR) hd hv (B84 hl) hN).1
theorem B3Q(x y:Ax)(a b:Nat)(w:World)(hx:Rn w x a)(hy:Rn w y b)(ha:bl a<=1099511627776)(hb:bl b<=1099511627776):Calls Tryz.prog 189 #[nvV x a,nvV y b] w (Ret (M3 (a+b)) w):=by
 have hat1:∀i W,A4 w W->Calls Tryz.prog 196 #[nvV x a,.int .i64 (i:Nat)] W λe w'=>e = .returned (.int .u64 (dg (B4 W32 a) i:Nat))/\A4 W w':=λi W hg=>A3T x a i W (hx.grow hg);have hat2:∀i W,A4 w W->Calls Tryz.prog 196 #[nvV y b,.int .i64 (i:Nat)] W λe w'=>e = .returned (.int .u64 (dg (B4 W32 b) i:Nat))/\A4 W w':=λi W hg=>A3T y b i W (hy.grow hg);obtain⟨p,hp⟩:∃n,n=ln a:=⟨_,rfl⟩
 obtain⟨q,hq⟩:∃n,n=ln b:=⟨_,rfl⟩
 obtain⟨A1,c1⟩:=x;obtain⟨A2,c2⟩:=y;have hpl:=A0p a;have hql:=A0p b;rw[<-hp]at hpl;rw[<-hq]at hql;obtain⟨n,hn⟩:∃n,n=max p q:=⟨_,rfl⟩
 have f0:max (p:Int) (q:Int)=(n:Int):=by omega
 obtain⟨N,hN⟩:∃N,N=n+1:=⟨_,rfl⟩
 have fN:(n:Int)+1=(N:Int):=by omega
 have fN2:IntKind.i64.wrap ((n:Int)+1)=(N:Int):=by rw[fN];exact B8j _ (by omega)
 have hmk:=A2L N (by omega) (N:Int) rfl;have hNb:N<=34359738400:=by omega
 have hpN:p<N:=by omega
 have hqN:q<N:=by omega
 have hnN1:n+1<=N:=by omega
 have hnN2:N<=n+1:=by omega
 show Calls Tryz.prog 189 #[.slice A1 (ln a) c1,.slice A2 (ln b) c2] w _;rw[<-hp,<-hq];change ∀i W,A4 w W->Calls Tryz.prog 196 #[.slice A1 (ln a) c1,.int .i64 (i:Nat)] W _ at hat1;change ∀i W,A4 w W->Calls Tryz.prog 196 #[.slice A2 (ln b) c2,.int .i64 (i:Nat)] W _ at hat2;rw[<-hp]at hat1;rw[<-hq]at hat2;have Hat1:=B8S hat1;have Hat2:=B8S hat2;have Hp:=B8S hp;have Hq:=B8S hq;clear hat1 hat2 hp hq hx hy hn hN hpl hql ha hb;go_enter Tryz.func189,Tryz.ntmps189;refine en0 ?_;intro u hG hB hF;refine r0T ?_;refine r0T ?_;have hbo:=Blk.new u 193 (D5 (List.replicate N 0));have hF3:=Fr.new (tk:=[]) hF hB hG (K2 u.heap.size) (by simp);have hB3:=Bx.cons hbo (hB.grow (A4.alloc u (.cells (D5 (List.replicate N 0)) 193)));have hG3:=hG.trans (A4.alloc u (.cells (D5 (List.replicate N 0)) 193));simp only[List.cons_append,List.nil_append,List.map_cons,List.map_nil]at hF3;clear hB hF hG hbo;generalize World.alloc u _=v at  hB3 hG3⊢;generalize u.heap.size=b6 at hB3 hF3⊢;have hB:=hB3;have hF:=hF3;have hG:=hG3;clear hB3 hF3 hG3;obtain⟨u,rfl⟩:=exQ v;refine r0T ?_;refine B8N ?_;refine r0T ?_;refine B8v ?_;go_loopw [8,7] (λs0 s1 wr=>∃(i:Nat) (c:Nat) (zs:List Nat),i<=N/\s0 = .int .i64 i/\s1 = .int .u64 (c:Nat)/\(AdI W32 N (B4 W32 a) (B4 W32 b) i c zs)/\Bx wr [(b6,193,D5 zs)]/\A4 w wr) (λs0 _ _=>N-(intOf s0).toNat)
 case atStart=>exact⟨0,0,List.replicate N 0,B8k _,rfl,rfl,AdI.start N _ _ F5,hB,hG⟩
 case round =>
  clear hB hG;obtain⟨i,c,zs,hi,rfl,rfl,hrel0,hB,hG⟩:=hrel;obtain⟨u,rfl⟩:=exQ wr;have H0:=B8S hrel0;clear hrel0;rcases B73 i N with hlt0|hge0
  ·have hdec:decide ((i:Int)<(N:Int))=true:=by simp;omega
   have hin:i<=n:=by omega
   have hc1:=H0.out.2.2.1;have hnx:=H0.out.next D6 (G5 D6 a) (G5 D6 b) hlt0;have hz:=H0.out.1;have e1:=dgl a i;have e2:=dgl b i;have ha1:=Hat1.out i;have ha2:=Hat2.out i;obtain⟨X,hX⟩:∃X,X=dg (B4 W32 a) i:=⟨_,rfl⟩
   obtain⟨Y,hY⟩:∃X,X=dg (B4 W32 b) i:=⟨_,rfl⟩
   rw[<-hX]at e1 hnx;rw[<-hY]at e2 hnx;simp only[<-hX]at ha1;simp only[<-hY]at ha2;obtain⟨s1,hs1⟩:∃s,s=c+X:=⟨_,rfl⟩
   obtain⟨s2,hs2⟩:∃s,s=c+X+Y:=⟨_,rfl⟩
   obtain⟨d,hd⟩:∃d,d=s2%4294967296:=⟨_,rfl⟩
   obtain⟨c',hc'⟩:∃d,d=s2/4294967296:=⟨_,rfl⟩
   have hnx2:AdI W32 N (B4 W32 a) (B4 W32 b) (i+1) c' (zs.set i d):=by
    rw[hc',hd,hs2,show c+X+Y=X+Y+c by omega];exact hnx
   have f1:IntKind.u64.wrap ((c:Int)+(X:Int))=(s1:Int):=by rw[show(c:Int)+(X:Int)=((s1:Nat):Int)by omega];exact D4 (by omega)
   have f2:IntKind.u64.wrap ((s1:Int)+(Y:Int))=(s2:Int):=by rw[show(s1:Int)+(Y:Int)=((s2:Nat):Int)by omega];exact D4 (by omega)
   have f3:(s2:Int)%4294967296=(d:Int):=by omega
   have f3':IntKind.u32.wrap (s2:Int)=(d:Int):=by rw[<-f3];simp[IntKind.wrap,IntKind.signed,IntKind.bits]
   have f4:(s2:Int)/4294967296=(c':Int):=by omega
   have g1:∃old,(D5 zs)[i]?=some old:=by rw[A1g,B8i (by rw[hz];exact hlt0)];exact⟨_,rfl⟩
   obtain⟨old,g1⟩:=g1;have G2:=B8S (A17 zs i d);have Ha1:=B8S ha1;have Ha2:=B8S ha2;have Hnx:=B8S hnx2;clear hnx hnx2 ha1 ha2 hX hY hs1 hs2 hd hc' hz hc1;refine B8N ?_;refine r0T ?_;refine B8V (rfl) ?_;refine B8U ?_;refine A6 ?_;refine B8N ?_;refine B8v ?_;refine B8N (rsE A8 [0,0,0,1,0,0,0,1,0,0] hB hG λL hL=>?_);refine gs ?_;refine gmd (C:=λv ⟨hgu,hB,hG,_⟩=>Ha1.out _ hG) ?_;refine gs ?_;refine gmd (C:=λv ⟨hgu,hB,hG,_⟩=>Ha2.out _ hG) ?_;refine gs ?_;refine geT hL ?_;clear hB hG hL L;rintro u ⟨-,hB,hG,-⟩;refine r0T ?_;generalize hu0:World.setCell u _ _=u0;have hBG:=hB.over hF hG 0 rfl i [_] hu0;clear hB hG;simp only[List.modify_succ_cons,List.modify_zero_cons,I3,G2.out]at hBG;obtain⟨hB,hG⟩:=hBG;clear hu0;obtain⟨u,rfl⟩:=exQ u0;refine r0E ?_;refine C8 ?_;refine A6 ?_;refine r0E ?_;refine A6 ?_;go_roundw
   case rel=>exact⟨i+1,c',zs.set i d,by omega,by go_num,rfl,Hnx.out,hB,hG⟩
   case measure=>simp[intOf];try omega
  ·obtain rfl:N=i:=by omega
   have hdec:decide ((N:Int)<(N:Int))=false:=by simp
   have hnin:¬(N<=n):=by omega
   have hvv:=H0.out.done D6 (G5 D6 a) (G5 D6 b) (by rw[show(B4 W32 a).length=p from Hp.out.symm];exact hpN) (by rw[show(B4 W32 b).length=q from Hq.out.symm];exact hqN);rw[E3 D6,E3 D6]at hvv;have Htr:=B8S (A4k hG hB.head H0.out.1 H0.out.2.1 hvv (by omega));have Hvv:=B8S hvv;clear hvv;refine B8N ?_;refine r0T ?_;refine B8T (rfl) ?_;refine B8x ?_;refine B7 ?_;refine B7 ?_;refine D0 ?_;refine A6 ?_;refine B8N ?_;obtain⟨V,hV⟩:∃V,V=a+b:=⟨_,rfl⟩
   rw[<-hV]at Htr;have HV:=B8S hV;clear hV;refine rsE A8 [0,1,0] hB hG λL hL=>?_;refine gs ?_;refine gmd (C:=λv ⟨hgu,hB,hG,_⟩=>Htr.out _ hgu) ?_;refine gs ?_;refine geT hL ?_;clear hB hG hL L;rintro u ⟨-,hB,hG,-⟩;refine rt Tryz.results189 ?_;exact⟨(some ⟨b6,0,none⟩,N),by rw[<-HV.out];rfl,A4a hB.head H0.out.1 H0.out.2.1 Hvv.out (by omega),hG⟩
structure EI(T e:TypeId)(size bytes:Nat):Prop where
 und:Tryz.prog.underlying T=some (.slice e)
 ex:∃i z,Tryz.prog.info? e=some i/\i.zero=some z/\i.size=size/\i.bytes=bytes/\z.cells.size=size
 pos:0<size
theorem A03{T e:TypeId}{size bytes:Nat}(h1:Tryz.prog.underlying T=some (.slice e))(h2:(Tryz.prog.info? e).map (λi=>(i.zero.map λz=>z.cells.size,i.size,i.bytes))=some (some size,size,bytes))(h3:0<size):EI T e size bytes:=by
 refine⟨h1,?_,h3⟩
 cases hi:Tryz.prog.info? e with
 | none=>rw[hi]at h2;cases h2
 | some i =>
  rw[hi]at h2;simp only[Option.map_some,Option.some.injEq,Prod.mk.injEq]at h2;obtain⟨h4,h5,h6⟩:=h2
  cases hz:i.zero with
  | none=>rw[hz]at h4;cases h4
  | some z =>
   rw[hz]at h4;simp only[Option.map_some,Option.some.injEq]at h4;exact⟨i,z,rfl,hz,h5,h6,h4⟩
theorem B3Y{P:Program}{o:Oper}{a:Act}{w w':World}{K:Act->World->Prop}{Q:Exit->Act->World->Prop}{v:Value}(h:(execOp a.eval o).run P w = .ok (.value v) w')(hk:K (a.put o.dst v) w'):o.wp P a w K Q:=by
 unfold Oper.wp;rw[h];exact hk
theorem B12{P:Program}{a:Act}{w w':World}{d:Option Tmp}{T:TypeId}{n:Nat}{x:Operand}{t:TypeId}{p:String}{f:Array Edge}{v:Value}(h:(Instr.buildSlice T n #[(0,a.eval x)]).run P w = .ok v w'):(execOp a.eval ⟨d,.buildSlice T n #[(0,x)],t,p,f,none⟩).run P w = .ok (.value v) w':=by
 unfold execOp;simp only[List.map_toArray,List.map_cons,List.map_nil,Sem.run_bind];rw[h];rfl
theorem L6{ops:Array Oper}{a:Act}{u:World}{K:Act->World->Prop}{d1 d2 d3:Option Nat}{x s z q:Operand}{t1 t2 t3:TypeId}{p1 p2 p3:String}{f1 f2 f3:Array Edge}{T e:TypeId}{size bytes:Nat}(hE:EI T e size bytes)
  (B:Nat) (v:Value) (n:Nat) (xs:List Value) (xv:Value) (ys:List Value) (hy:ys.length=size) (h1:(ys.all λy=>y.oneCell')=true) (hb:(Instr.buildSlice T 1 #[(0,xv)]).run Tryz.prog u = .ok (.slice (some ⟨u.heap.size,0,none⟩) 1 1) (u.alloc (.cells ys.toArray e)))
  (hx:a.eval x=xv) (hs:∀p,(a.put d1 p).eval s=v) (hz:∀p,(a.put d1 p).eval z=p) (hq:∀p p',((a.put d1 p).put d2 p').eval q=p')
  (hown:u.ownsRow B e size v n xs) (hl:n+1<=1099511627776) (hl2:(n+1)*bytes<=140737488355328) (hB:B<=u.heap.size)
  (h:∀p v' w',w'.ownsRow B e size v' (n+1) (xs++ys)->(u.alloc (.cells ys.toArray e)).grownBy w' v.ownBlock->(v'.ownBlock=v.ownBlock\/v'.ownBlock=some (u.heap.size+1))->NoK K .normal (((a.put d1 p).put d2 v').put d3 v') w') :
  wpList Tryz.prog ops (NoK K) [⟨d1,.buildSlice T 1 #[(0,x)],t1,p1,f1,none⟩,⟨d2,.call { callee:=.builtin .append,args:=#[s,z],argTypes:=#[T,T] },t2,p2,f2,none⟩,⟨d3,.assign q,t3,p3,f3,none⟩] a u:=by
 obtain⟨hund,⟨i0,z0,hi0,hz0,hz1,hz2,hz3⟩,hpos⟩:=hE;refine wpList_plain rfl λK1 hK1=>?_;have hb1:(Instr.buildSlice T 1 #[(0,a.eval x)]).run Tryz.prog u = .ok (.slice (some ⟨u.heap.size,0,none⟩) 1 1) (u.alloc (.cells ys.toArray e)):=by rw[hx];exact hb
 have hb2:=B12 (d:=d1) (t:=t1) (p:=p1) (f:=f1) hb1;unfold Oper.wp;rw[hb2];refine hK1 _ _ ?_;show wpList Tryz.prog ops (NoK K) _ (a.put d1 _) _;have hs1:=hs (.slice (some ⟨u.heap.size,0,none⟩) 1 1);have hz1':=hz (.slice (some ⟨u.heap.size,0,none⟩) 1 1);have hq1:=hq (.slice (some ⟨u.heap.size,0,none⟩) 1 1);have hh:=h (.slice (some ⟨u.heap.size,0,none⟩) 1 1);have ho:=hown.alloc (.cells ys.toArray e);generalize a.put d1 (.slice (some ⟨u.heap.size,0,none⟩) 1 1)=a1 at hs1 hz1' hq1 hh;refine wpList_append_own_at (u.alloc (.cells ys.toArray e)) (a:=a1) (Q:=NoK K) rfl s z T rfl B e i0 z0 size bytes hund hi0 hz0 hz1 hz2 hz3 hpos v n xs hs1 ho ⟨u.heap.size,0,none⟩ 1 1 ys hz1' (by rw[hy];omega) ?_ (λy hy=>List.all_eq_true.1 h1 y hy) (by unfold maxLen;omega) hl2 (by rw[I7];omega) λv' w' g1 g2 _ g4=>?_
 ·intro j y hj;rw[B8l,Nat.zero_add,Blk.cell (Blk.new u e ys.toArray) j,List.getElem?_toArray];exact hj
 ·rw[I7]at g4;refine wpList_plain rfl λK2 hK2=>?_;refine B3Y (v:=v') (w':=w') ?_ (hK2 _ _ (wpList_nil ?_))
  ·have e1:(execOp ((a1.put d2 v').eval) ⟨d3,.assign q,t3,p3,f3,none⟩).run Tryz.prog w' = .ok (.value ((a1.put d2 v').eval q)) w':=rfl;rw[hq1]at e1;exact e1
  ·exact hh v' w' g1 g2 g4
theorem A9z{u w':World}{B:Nat}{e:TypeId}{size n:Nat}{v:Value}{xs:List Value}{o:Obj}{l:List (Nat×TypeId×Array Value)}(h:u.ownsRow B e size v n xs)(hB:Bx u l)(ht:∀x∈l,x.2.1≠e)(hg:(u.alloc o).grownBy w' v.ownBlock):Bx w' l:=by
 refine(hB.grow (A4.alloc u o)).grown_ hg λx hx hxe=>?_;obtain⟨_,h|⟨g,cap,cur,rfl,hb,hh,hn,hc,hs,ht2⟩⟩:=h
 ·rw[h.1]at hxe;cases hxe
 ·have h1:x.1=g:=B78 hxe;have h2:=hB x hx;unfold Blk at h2;rw[h1,hh]at h2;injection h2 with h2;injection h2 with _ h3 _;exact ht x hx h3.symm
theorem K3{w u w':World}{e:TypeId}{size n:Nat}{v:Value}{xs:List Value}{o:Obj}(h:u.ownsRow w.heap.size e size v n xs)(hG:A4 w u)(hg:(u.alloc o).grownBy w' v.ownBlock):A4 w w' :=
 (hG.trans (A4.alloc u o)).grown hg λk hk=>(h.lt k hk).1
theorem C5{u u':World}{B:Nat}{e:TypeId}{s:Nat}{v:Value}{n:Nat}{xs:List Value}(h:u.ownsRow B e s v n xs)(hg:A4 u u'):u'.ownsRow B e s v n xs:=by
 obtain⟨h0,h|⟨g,cap,cur,rfl,hb,hh,hn,hc,hs,ht⟩⟩:=h
 ·exact⟨h0,.inl h⟩
 ·exact⟨h0,.inr ⟨g,cap,cur,rfl,hb,(hg.block g (N7 hh)).trans hh,hn,hc,hs,ht⟩⟩
theorem Lim.own{u w':World}{B:Nat}{e:TypeId}{size n:Nat}{v:Value}{xs:List Value}{o:Obj}{A:Option Addr}{l:List Nat}(hl:Lim u A l)(h:u.ownsRow B e size v n xs)(ht:e≠193)(hg:(u.alloc o).grownBy w' v.ownBlock):Lim w' A l:=λhne=>by
 obtain⟨b,off,cs,fr,e1,hb,hc⟩:=hl hne;refine⟨b,off,cs,fr,e1,?_,hc⟩;have hlt:=N7 hb;have h2:(u.alloc o).heap[b]?=u.heap[b]?:=(A4.alloc u o).block b hlt;refine(hg.block b (by rw[I7];omega) λhxe=>?_).trans (h2.trans hb);obtain⟨_,h|⟨g,cap,cur,rfl,hb',hh,hn,hc',hs,ht2⟩⟩:=h
 ·rw[h.1]at hxe;cases hxe
 ·have h1:b=g:=B78 hxe;rw[h1,hh]at hb;injection hb with hb;injection hb with _ h3 _;exact ht h3
theorem Rn.own{u w':World}{B:Nat}{e:TypeId}{size n:Nat}{v:Value}{xs:List Value}{o:Obj}{x:Ax}{a:Nat}(hl:Rn u x a)(h:u.ownsRow B e size v n xs)(ht:e≠193)(hg:(u.alloc o).grownBy w' v.ownBlock):Rn w' x a:=⟨hl.1.own h ht hg,hl.2⟩
theorem A7q(y:Int)(w:World):(Instr.buildSlice 29 1 #[(0,.int .u32 y)]).run Tryz.prog w = .ok (.slice (some ⟨w.heap.size,0,none⟩) 1 1) (w.alloc (.cells #[.int .u32 y] 193)):=by
 go_simp
theorem A4c(q:Rat)(w:World):(Instr.buildSlice 35 1 #[(0,qV q)]).run Tryz.prog w = .ok (.slice (some ⟨w.heap.size,0,none⟩) 1 1) (w.alloc (.cells #[.bool (F9 q.num),.int .u64 (C4 q.num.natAbs),.string (B8 q.num.natAbs),.int .u64 (C4 (U5 q.den)),.string (B8 (U5 q.den))] 48)):=by
 go_simp
theorem A0m(x y:Ax)(q:Rat)(w:World):(Instr.buildSlice 25 1 #[(0,rqV x y q)]).run Tryz.prog w = .ok (.slice (some ⟨w.heap.size,0,none⟩) 1 1) (w.alloc (.cells #[.bool (F9 q.num),.slice x.1 (ln q.num.natAbs) x.2,.slice y.1 (ln q.den) y.2] 33)):=by
 go_simp
abbrev A1D(l:List Nat):List Value:=l.map λx=>Value.int .u32 (x:Nat)
theorem B1u{u:World}{B b:Nat}{l:List Nat}(h:Blk u b 193 (D5 l))(hb:B<=b)(hl:l.length<=maxLen):u.ownsRow B 193 1 (.slice (some ⟨b,0,none⟩) l.length l.length) l.length (A1D l) :=
 ⟨by simp,.inr ⟨b,l.length,D5 l,rfl,hb,h,K2 _,hl,by unfold D5;simp,by unfold D5;rw[B9P,B8u (by simp)]⟩⟩
theorem A70{u:World}{B n:Nat}{v:Value}{l:List Nat}(h:u.ownsRow B 193 1 v n (A1D l)):∃A c,v = .slice A n c/\n<=c/\c<=maxLen/\Lim u A l/\n=l.length:=by
 have hn:n=l.length:=by have:=h.1;simp at this;omega
 obtain⟨_,h|⟨g,cap,cur,rfl,hb,hh,hn',hc,hs,ht⟩⟩:=h
 ·obtain⟨rfl,h0⟩:=h;exact⟨none,0,by rw[h0],by omega,by unfold maxLen;omega,λhne=>absurd (B76 (by omega)) hne,hn⟩
 ·refine⟨_,cap,rfl,hn',hc,λ_=>⟨g,0,cur,(0,0),rfl,hh,λi x hi=>?_⟩,hn⟩;have hil:i<l.length:=(List.getElem?_eq_some_iff.1 hi).1;have h1:(cur.toList.take (n*1))[i]?=some (.int .u32 (x:Nat)):=by rw[ht,List.getElem?_map,hi];rfl
  rw[B9b,if_pos (by omega)]at h1;rw[Nat.zero_add]
  simpa using h1
theorem A5n:EI 29 193 1 4:=A03 (by kernel_rfl) (by kernel_rfl) (by omega)
theorem A3S:EI 35 48 5 56:=A03 (by kernel_rfl) (by kernel_rfl) (by omega)
theorem X4:EI 25 33 3 56:=A03 (by kernel_rfl) (by kernel_rfl) (by omega)
end Go.Proofs.YtgpglgbcobeogaaGreatDoor
