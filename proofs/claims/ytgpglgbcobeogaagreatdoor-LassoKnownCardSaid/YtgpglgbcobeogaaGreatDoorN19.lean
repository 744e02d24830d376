import Derived.Test.YtgpglgbcobeogaaGreatDoorN18
set_option linter.unusedSimpArgs false
set_option linter.unusedVariables false
set_option maxHeartbeats 1000000
set_option maxRecDepth 100000
namespace Go.Proofs.YtgpglgbcobeogaaGreatDoor
open Go.RowKit
def W32:Nat:=4294967296
theorem G0:2<=W32:=by unfold W32;omega
theorem F9:0<W32:=by unfold W32;omega
def ln(a:Nat):Nat:=(B5 W32 a).length
theorem A6e:ln 0=0:=rfl
theorem A6V{a:Nat}:ln a=0↔a=0:=by
 constructor
 ·intro h;have h1:=E6 G0 a;rw[B8w h]at h1;exact h1.symm
 ·rintro rfl;rfl
theorem A1l{a:Nat}:0<ln a↔a≠0:=by have:=@A6V a;omega
def Lim(u:World)(A:Option Addr)(l:List Nat):Prop :=
 l≠[]->∃b off cs fr,A=some ⟨b,off,none⟩/\u.heap[b]?=some (.cells cs 193 fr)/\∀i x,l[i]?=some x->cs[off+i]?=some (.int .u32 (x:Nat))
theorem Lim.nil(u:World)(A:Option Addr):Lim u A []:=λh=>absurd rfl h
theorem Lim.grow{u u':World}{A:Option Addr}{l:List Nat}(h:Lim u A l)(hg:A4 u u'):Lim u' A l:=λhn=>by
 obtain⟨b,off,cs,fr,e,hb,hc⟩:=h hn;exact⟨b,off,cs,fr,e,(hg.block b (L7 hb)).trans hb,hc⟩
theorem Lim.take{u:World}{A:Option Addr}{l:List Nat}(h:Lim u A l)(n:Nat):Lim u A (l.take n):=λhn=>by
 obtain⟨b,off,cs,fr,e,hb,hc⟩:=h (λh0=>hn (by rw[h0];simp));refine⟨b,off,cs,fr,e,hb,λi x hi=>hc i x ?_⟩;rw[C0R]at hi;split at hi
 ·exact hi
 ·cases hi
theorem Lim.cell{u:World}{A:Option Addr}{l:List Nat}(h:Lim u A l){i:Nat}(hi:i<l.length):∃b off,A=some ⟨b,off,none⟩/\u.cell? ⟨b,off+i,none⟩=some (.int .u32 (dg l i:Nat)):=by
 obtain⟨b,off,cs,fr,e,hb,hc⟩:=h (λh0=>by rw[h0]at hi;cases hi);refine⟨b,off,e,?_⟩;rw[E3 hi,<-hc i _ (B9Y hi)];exact B84 u b (off+i) cs 193 fr hb
theorem Lim.put{u u':World}{A:Option Addr}{l:List Nat}(h:Lim u A l){bl:List (Nat×TypeId×Array Value)}(hB:Bx u bl)(k:Nat){b:Nat}{t:TypeId}{cs:Array Value}(hk:bl[k]?=some (b,t,cs))(ht:t≠193)(i:Nat)(vs:List Value)(hu:C2 u b i vs=u'):Lim u' A l:=λhn=>by
 obtain⟨b',off,cs',fr,e,hb,hc⟩:=h hn;refine⟨b',off,cs',fr,e,?_,hc⟩;have hbk:Blk u b t cs:=hB (b,t,cs) (B89 hk);have hne:b'≠b:=λe=>by
  subst e;have:=hbk.symm.trans hb;injection this with this;injection this with _ h2 _;exact ht h2
 clear hbk hB hk hc h;subst hu
 induction vs generalizing u i with
 | nil=>exact hb
 | cons v vs ih=>exact ih _ ((B85 u ⟨b,i,none⟩ v b' hne).trans hb)
theorem A19(A:Option Addr)(l:List Nat)(c:Nat)(w:World)(h:Lim w A l)(hc:l.length<=c)(hm:c<=9223372036854775807) :
  Calls Tryz.prog 139 #[.slice A l.length c] w λe w'=>e = .returned (.slice A (D6 l).length c)/\A4 w w':=by
 have H:=B9I h;clear h;obtain⟨n,hn⟩:∃n,n=l.length:=⟨_,rfl⟩
 rw[<-hn];rw[<-hn]at hc;have Hn:=B9I hn;clear hn;go_enter Tryz.func139,Tryz.ntmps139;go_wp2;go_loop [3] (λs=>∃k:Nat,k<=n/\s = .int .i64 k/\D6 (l.take k)=D6 l) (λs=>(intOf s).toNat)
 case atStart=>exact⟨n,B8s _,rfl,by rw[B9k (by rw[Hn.out];exact B8s _)]⟩
 case round =>
  obtain⟨k,hk,rfl,ht⟩:=hrel;have Ht:=B9I ht;clear ht;rcases B9C k with rfl|hpos
  ·go_wp2;go_ret;refine⟨?_,A4.refl _⟩;have:D6 l=[]:=by rw[<-Ht.out];rfl
   rw[this];rfl
  ·have hkl:k-1<l.length:=by rw[<-Hn.out];omega
   obtain⟨b,off,rfl,hcell⟩:=H.out.cell hkl;have hsn:l.take k=l.take (k-1)++[dg l (k-1)]:=by
    have:=B9X hkl;rw[show k-1+1=k by omega]at this;rw[E3 hkl];exact this
   have Hsn:=B9I hsn;clear hsn;obtain⟨x,hx⟩:∃x,x=dg l (k-1):=⟨_,rfl⟩
   rw[<-hx]at hcell;have Hx:=B9I hx;clear hx;have hidx:(0:Int)<=(k:Int)-1:=by omega
   by_cases h0:x=0
   ·subst h0;go_wp2;go_round
    case rel=>exact⟨k-1,by omega,by go_num,by rw[<-Ht.out,Hsn.out,<-Hx.out,A5a]⟩
    case measure=>simp[intOf];omega
   ·have hb:((x:Int) == 0)=false:=by simpa using h0
    go_wp2;go_ret;refine⟨?_,A4.refl _⟩;have:D6 l=l.take k:=by rw[<-Ht.out,Hsn.out,A5j _ (by rw[<-Hx.out];exact h0)]
    rw[this,List.length_take,B9t (by omega)];rfl
abbrev Ax:=Option Addr×Nat
def Rn(u:World)(x:Ax)(a:Nat):Prop:=Lim u x.1 (B5 W32 a)/\ln a<=x.2/\x.2<=9223372036854775807/\ln a<=1099511627776
theorem Rn.grow{u u':World}{x:Ax}{a:Nat}(h:Rn u x a)(hg:A4 u u'):Rn u' x a:=⟨h.1.grow hg,h.2⟩
theorem Rn.put{u u':World}{x:Ax}{a:Nat}(h:Rn u x a){bl:List (Nat×TypeId×Array Value)}(hB:Bx u bl)(k:Nat){b:Nat}{t:TypeId}{cs:Array Value}(hk:bl[k]?=some (b,t,cs))(ht:t≠193)(i:Nat)(vs:List Value)(hu:C2 u b i vs=u'):Rn u' x a:=⟨h.1.put hB k hk ht i vs hu,h.2⟩
abbrev nvV(x:Ax)(a:Nat):Value:=.slice x.1 (ln a) x.2
abbrev riV(x:Ax)(z:Int):Value:=.agg #[.bool (E0 z),.slice x.1 (ln z.natAbs) x.2]
abbrev rqV(x y:Ax)(q:Rat):Value:=.agg #[.bool (E0 q.num),.slice x.1 (ln q.num.natAbs) x.2,.slice y.1 (ln q.den) y.2]
structure Rp where
 X:Type
 f:X->Value
 T:X->World->Prop
 mono:∀x w w',A4 w w'->T x w->T x w'
def W7(a:Nat):Rp:=⟨Ax,λx=>nvV x a,λx v=>Rn v x a,λ_ _ _ hg h=>h.grow hg⟩
def A1g(z:Int):Rp:=⟨Ax,λx=>riV x z,λx v=>Rn v x z.natAbs,λ_ _ _ hg h=>h.grow hg⟩
def A1s(q:Rat):Rp:=⟨Ax×Ax,λx=>rqV x.1 x.2 q,λx v=>Rn v x.1 q.num.natAbs/\Rn v x.2 q.den,λ_ _ _ hg h=>⟨h.1.grow hg,h.2.grow hg⟩⟩
def nnR(a b:Nat):Rp:=⟨Ax×Ax,λx=>.tuple #[nvV x.1 a,nvV x.2 b],λx v=>Rn v x.1 a/\Rn v x.2 b,λ_ _ _ hg h=>⟨h.1.grow hg,h.2.grow hg⟩⟩
def Ret(R:Rp)(w:World)(e:Ending)(w':World):Prop:=∃x,e = .returned (R.f x)/\R.T x w'/\A4 w w'
theorem gr{P:Program}{ops:Array Oper}{L:Act->World->Prop}{o:Oper}{r:List (Nat×Oper)}{B:Nat}{tk:List Nat}{a:Act}{F:World->Prop}(R:Rp)(hw:Region.wanted o (yielded ops a.tmps)=true)
  (h:∀w,F w->∀N:Value->World->Prop,(∀x w',R.T x w'->A4 w w'->N (R.f x) w')->Move P o a w N) (hr:∀x,OKs P ops L B r tk (a.put o.dst (R.f x)) (λw=>F w/\R.T x w)):OKs P ops L B ((1,o)::r) tk a F :=
 gx R.X R.f R.T R.mono hw h hr
theorem grd{P:Program}{ops:Array Oper}{L:Act->World->Prop}{o:Oper}{r:List (Nat×Oper)}{B:Nat}{tk:List Nat}{a:Act}{F:World->Prop}(R:Rp){a':R.X->Act}{g:FuncId}{args:Array Value}(hr:∀x,OKs P ops L B r tk (a' x) (λw=>F w/\R.T x w))
  (hw:Region.wanted o (yielded ops a.tmps)=true:=by exact rfl) (hs:∀w (N:Value->World->Prop),(Calls P g args w λe w''=>∃u,e = .returned u/\N u w'')->Move P o a w N:=by(intro w N h;go_simp<;>with_reducible exact h))
  (hp:∀x,a.put o.dst (R.f x)=a' x:=by(intro x;simp only[W7,A1g,A1s,nnR,Act.put,List.setIfInBounds_toArray,List.set_cons_succ,List.set_cons_zero];exact rfl)) (C:∀w,F w->Calls P g args w (Ret R w)):OKs P ops L B ((1,o)::r) tk a F :=
 gxd R.f R.T R.mono hr hw hs hp C
theorem B8Z(w:World)(o:Obj):(w.alloc o).heap[w.heap.size]?=some o:=by
 show(w.heap.push _)[w.heap.size]?=_;simp
theorem B2p(w:World)(l:List Nat):Lim (w.alloc (.cells (l.map λx=>Value.int .u32 (x:Nat)).toArray 193)) (some ⟨w.heap.size,0,none⟩) l:=λ_ =>
 ⟨w.heap.size,0,(l.map λx=>Value.int .u32 (x:Nat)).toArray,(0,0),rfl,B8Z w _,λi x hi=>by simp[hi]⟩
theorem A40{u:World}{A:Option Addr}{l:List Nat}{c:Nat}{a:Nat}(h:Lim u A l)(hd:Dig W32 l)(hv:val W32 l=a)(hc:l.length<=c)(hm:c<=9223372036854775807)(hl:l.length<=1099511627776):Rn u (A,c) a/\(D6 l).length=ln a:=by
 have e:D6 l=B5 W32 a:=by rw[<-hv];exact A56 G0 hd
 have h1:ln a<=l.length:=by
  unfold ln;rw[<-e];exact A2T l
 refine⟨⟨?_,B9A h1 hc,hm,B9A h1 hl⟩,by rw[e];rfl⟩;rw[<-e,A21];exact h.take _
theorem A29{u:World}{A:Option Addr}{l:List Nat}{c:Nat}{a:Nat}(h:Lim u A l)(hd:Dig W32 l)(hv:val W32 l=a)(hc:l.length<=c)(hm:c<=1099511627776):Rn u (A,c) a/\(D6 l).length=ln a :=
 A40 h hd hv hc (by omega) (by omega)
theorem A5S(n:Nat)(hn:n<W64)(w:World):Calls Tryz.prog 109 #[.int .u64 n] w (Ret (W7 n) w):=by
 have h1:n%4294967296<4294967296:=B9R _ (by omega);have h2:n/4294967296<4294967296:=by unfold W64 at hn;omega
 have htr:Calls Tryz.prog 139 #[.slice (some ⟨w.heap.size,0,none⟩) 2 2] (w.alloc (.cells #[.int .u32 ((n:Int)%4294967296),.int .u32 ((n:Int)/4294967296)] 193)) λe w'=>e = .returned (.slice (some ⟨w.heap.size,0,none⟩) (ln n) 2)/\Rn w' (some ⟨w.heap.size,0,none⟩,2) n/\A4 w w':=by
  have hl:=B2p w [n%4294967296,n/4294967296];have e1:((n%4294967296:Nat):Int)=(n:Int)%4294967296:=by omega
  have e2:((n/4294967296:Nat):Int)=(n:Int)/4294967296:=by omega
  simp only[List.map_cons,List.map_nil,e1,e2]at hl;refine(A19 _ _ 2 _ hl (B8s _) (by omega)).mono λe w' ⟨he,hg⟩=>?_
  obtain⟨hr,hlen⟩:=A29 (a:=n) (c:=2) (hl.grow hg) (λx hx=>by
   simp only[List.mem_cons,List.not_mem_nil,or_false]at hx;unfold W32
   omega) (by simp[val,W32];omega) (B8s _) (by omega)
  rw[hlen]at he;exact⟨he,hr,(A4.alloc _ _).trans hg⟩
 have Htr:=B9I htr;clear htr;go_enter Tryz.func109,Tryz.ntmps109;go_wp2_with (go_at_call 139;((with_reducible refine(Htr.out).mono ?_);rintro e w1 ⟨rfl,hr,hg⟩));go_ret;exact⟨(some ⟨w.heap.size,0,none⟩,2),rfl,hr,hg⟩
theorem A5F{a b:Nat}(h:ln a<ln b):a<b:=by
 have:=A45 G0 (H8 G0 a) (A1z G0 b) (H8 G0 b) h
 rwa [E6 G0,E6 G0]at this
theorem A69{a b:Nat}(h:a<=b):ln a<=ln b:=by
 rcases B8t (ln b) (ln a)with h'|h'
 ·have:=A5F h';omega
 ·exact h'
theorem B71(x y:Ax)(a b:Nat)(w:World)(hx:Rn w x a)(hy:Rn w y b)(hl:ln a=ln b) :
  Calls Tryz.prog 101 #[nvV x a,nvV y b] w λe w'=>e = .returned (.int .i64 (G8 a b))/\A4 w w':=by
 obtain⟨A1,c1⟩:=x;obtain⟨A2,c2⟩:=y;have Hx:=B9I hx.1;have Hy:=B9I hy.1;have hm:=hx.2;simp only at hm;obtain⟨n,hn⟩:∃n,n=ln a:=⟨_,rfl⟩
 rw[<-hn]at hm;show Calls Tryz.prog 101 #[.slice A1 (ln a) c1,.slice A2 (ln b) c2] w _;rw[<-hl,<-hn];have Hn1:=B9I hn;have Hn2:=B9I (hn.trans hl);clear hx hy hl hn;go_enter Tryz.func101,Tryz.ntmps101;go_wp2_with fail;go_loopw [5] (λs wr=>∃k:Nat,k<=n/\s = .int .i64 ((k:Int)-1)/\(B5 W32 a).drop k=(B5 W32 b).drop k/\A4 w wr) (λs _=>(intOf s+1).toNat)
 case atStart=>exact⟨n,B8s _,rfl,by rw[B9c (B9u Hn1.out.symm),B9c (B9u Hn2.out.symm)],A4.refl _⟩
 case round =>
  obtain⟨k,hk,rfl,hd,hG⟩:=hrel;have Hd:=B9I hd;clear hd;rcases B9C k with rfl|hpos
  ·have hc:decide ((0:Int)<=((0:Nat):Int)-1)=false:=by decide
   go_wp2_with fail;go_ret;refine⟨N0 ?_,hG⟩;have:=Hd.out;simp only[List.drop_zero]at this;rw[A14 (B24 G0 this)]
  ·obtain⟨j,rfl⟩:∃j,k=j+1:=⟨k-1,by omega⟩
   have e1:((j+1:Nat):Int)-1=(j:Nat):=by omega
   rw[e1];have hj1:j<(B5 W32 a).length:=by have:=Hn1.out;unfold ln at this;omega
   have hj2:j<(B5 W32 b).length:=by have:=Hn2.out;unfold ln at this;omega
   obtain⟨b1,o1,rfl,hc1⟩:=(Hx.out.grow hG).cell hj1;obtain⟨b2,o2,rfl,hc2⟩:=(Hy.out.grow hG).cell hj2;obtain⟨p,hp⟩:∃p,p=dg (B5 W32 a) j:=⟨_,rfl⟩
   obtain⟨q,hq⟩:∃q,q=dg (B5 W32 b) j:=⟨_,rfl⟩
   rw[<-hp]at hc1;rw[<-hq]at hc2;have Hp:=B9I hp;have Hq:=B9I hq;clear hp hq e1;have hc0:decide ((0:Int)<=(j:Int))=true:=by simp
   rcases B9v p q with hlt|heq|hgt
   ·have hb1:((p:Int) != (q:Int))=true:=by simp;omega
    have hb2:decide ((p:Int)<(q:Int))=true:=by simp;omega
    go_wp2_with fail;go_quiet (fail);go_wp2_with fail;go_quiet (fail);go_wp2_with fail;go_ret;refine⟨N0 ?_,hG.trans ((R5 _ _).trans (R5 _ _))⟩;have h1:=A2b (H8 G0 a) (Hn1.out.symm.trans Hn2.out) hj1 Hd.out (by rw[<-Hp.out,<-Hq.out];exact hlt);rw[E6 G0,E6 G0]at h1;rw[T8 h1]
   ·subst heq;go_wp2_with fail;go_quiet (fail);go_wp2_with fail;exact⟨⟨j,by omega,rfl,by rw[A1h hj1,A1h hj2,Hd.out,<-Hp.out,<-Hq.out],hG.trans (R5 _ _)⟩,by simp[intOf]⟩
   ·have hb1:((p:Int) != (q:Int))=true:=by simp;omega
    have hb2:decide ((p:Int)<(q:Int))=false:=by simp;omega
    go_wp2_with fail;go_quiet (fail);go_wp2_with fail;go_quiet (fail);go_wp2_with fail;go_ret;refine⟨N0 ?_,hG.trans ((R5 _ _).trans (R5 _ _))⟩;have h1:=A2b (H8 G0 b) (Hn2.out.symm.trans Hn1.out) hj2 Hd.out.symm (by rw[<-Hp.out,<-Hq.out];exact hgt);rw[E6 G0,E6 G0]at h1;rw[A0V h1]
theorem B2g(x y:Ax)(a b:Nat)(w:World)(hl:ln a≠ln b) :
  Calls Tryz.prog 101 #[nvV x a,nvV y b] w λe w'=>e = .returned (.int .i64 (G8 a b))/\A4 w w':=by
 rcases B87 hl with h|h
 ·rw[T8 (A5F h)];go_enter Tryz.func101,Tryz.ntmps101;go_wp2_with fail;go_ret;exact⟨rfl,A4.refl _⟩
 ·rw[A0V (A5F h)];have h':¬ln a<ln b:=by omega
  go_enter Tryz.func101,Tryz.ntmps101;go_wp2_with fail;go_ret;exact⟨rfl,A4.refl _⟩
theorem A4G(x y:Ax)(a b:Nat)(w:World)(hx:Rn w x a)(hy:Rn w y b) :
  Calls Tryz.prog 101 #[nvV x a,nvV y b] w λe w'=>e = .returned (.int .i64 (G8 a b))/\A4 w w':=by
 by_cases hl:ln a=ln b
 ·exact B71 x y a b w hx hy hl
 ·exact B2g x y a b w hl
def F7(l:List Nat):Array Value:=(l.map λx=>Value.int .u32 (x:Nat)).toArray
theorem A41(l:List Nat)(i:Nat):(F7 l)[i]?=(l[i]?).map λx=>Value.int .u32 (x:Nat):=by
 unfold F7;simp
theorem A5P(l:List Nat)(i y:Nat):(F7 l).setIfInBounds i (.int .u32 (y:Nat))=F7 (l.set i y):=by
 unfold F7;rw[List.setIfInBounds_toArray,List.map_set]
def T4(u:World)(b:Nat)(l:List Nat):Prop:=Blk u b 193 (F7 l)
theorem T4.grow{u u':World}{b:Nat}{l:List Nat}(hg:A4 u u')(h:T4 u b l):T4 u' b l:=Blk.grow hg h
theorem T4.cell{u:World}{b:Nat}{l:List Nat}(h:T4 u b l){i:Nat}(hi:i<l.length):u.cell? ⟨b,i,none⟩=some (.int .u32 (dg l i:Nat)):=by
 rw[Blk.cell h,A41,B9Y hi,E3 hi];rfl
theorem T4.frozen{u:World}{b:Nat}{l:List Nat}(h:T4 u b l)(i:Nat):u.frozen? ⟨b,i,none⟩=false:=Blk.frozen h i
theorem T4.set{u:World}{b:Nat}{l:List Nat}(h:T4 u b l)(i y:Nat):T4 (u.setCell ⟨b,i,none⟩ (.int .u32 (y:Nat))) b (l.set i y):=by
 have:=Blk.set_ h i (.int .u32 (y:Nat));rw[A5P]at this;exact this
theorem T4.lim{u:World}{b:Nat}{l:List Nat}(h:T4 u b l):Lim u (some ⟨b,0,none⟩) l:=λ_ =>
 ⟨b,0,F7 l,(0,0),rfl,h,λi x hi=>by rw[Nat.zero_add,A41,hi];rfl⟩
theorem B7d:(Tryz.prog.info? 193).map (λi=>(i.zero,i.size,i.bytes))=some (some (.int .u32 0),1,4):=by kernel_rfl
theorem B1n(n:Nat):madeCells (Value.int .u32 0).cells (n*1)=F7 (List.replicate n 0):=by
 unfold F7 madeCells;refine Array.ext (by simp) λi h1 h2=>?_;simp[Value.cells,Nat.mod_one]
theorem A4l(n:Nat)(hn:n<=1099511627776)(x:Int)(hx:x=n)(W:World):(Instr.makeSlice 29 (.int .i64 x) (.int .i64 x)).run Tryz.prog W =
  .ok (.slice (some ⟨W.heap.size,0,none⟩) n n) (W.alloc (.cells (F7 (List.replicate n 0)) 193)):=by
 obtain⟨i0,hi0,hz0,hz1,hz2⟩:=B9T B7d;have hr:=run_make (P:=Tryz.prog) W 29 193 i0 (.int .u32 0) Tryz.underlying29 hi0 hz0 .i64 .i64 n n (by omega) (by omega) (by rw[hz2];omega) (by omega);rw[hx];rw[hr,hz1];simp only[Int.toNat_natCast];rw[B1n]
def A4t(W d:Nat)(l:List Nat)(k r:Nat)(zs:List Nat):Prop :=
 zs.length=l.length/\Dig W zs/\r<d/\val W (zs.drop k)*d+r=val W (l.drop k)
theorem A4t.next{W d:Nat}{l:List Nat}{k r:Nat}{zs:List Nat}(h:A4t W d l (k+1) r zs)(hk:k<l.length)(hd:Dig W l)(hW:0<W) :
  A4t W d l k ((r*W+dg l k)%d) (zs.set k ((r*W+dg l k)/d)):=by
 obtain⟨h1,h2,h4,h5⟩:=h;have hk':k<zs.length:=by rw[h1];exact hk
 have hx:=C6 hW hd k;refine⟨by rw[B9h,h1],Q6 h2 _ (A3Z h4 hx),B9R _ (by omega),?_⟩;rw[A1h (l:=zs.set k _) (by rw[B9h];exact hk'),B0T hk',A1h hk,O7,O7,List.drop_set_of_lt (by omega),<-h5];have e:=C0S (r*W+dg l k) d;generalize (r*W+dg l k)/d=q at *;generalize (r*W+dg l k)%d=m at *;generalize val W (zs.drop (k+1))=V at *;grind
theorem B50(x:Ax)(a d:Nat)(w:World)(hx:Rn w x a)(hd0:0<d)(hdW:d<W32) :
  Calls Tryz.prog 167 #[nvV x a,.int .u32 d] w λe w'=>∃y:Ax,e = .returned (.tuple #[nvV y (a/d),.int .u32 (a%d:Nat)])/\Rn w' y (a/d)/\A4 w w':=by
 obtain⟨A,c⟩:=x;obtain⟨n,hn⟩:∃n,n=ln a:=⟨_,rfl⟩
 have hm:n<=1099511627776:=by rw[hn];exact hx.2.2.2
 show Calls Tryz.prog 167 #[.slice A (ln a) c,.int .u32 d] w _;rw[<-hn];have Hx:=B9I hx.1;have Hn:=B9I hn;have hmk:=A4l n hm (n:Int) rfl;clear hx hn;unfold W32 at hdW;go_enter Tryz.func167,Tryz.ntmps167;go_wp2_with fail;clear hmk;go_loopw [7,8] (λr i wr=>∃(k r':Nat) (zs:List Nat),k<=n/\i = .int .i64 ((k:Int)-1)/\r = .int .u64 r'/\A4t W32 d (B5 W32 a) k r' zs/\T4 wr w.heap.size zs/\A4 w wr) (λ_ i _=>(intOf i+1).toNat)
 case atStart=>exact⟨n,0,List.replicate n 0,B8s _,rfl,rfl,⟨by rw[B9V];exact Hn.out,λz hz=>(by rw[(List.mem_replicate.1 hz).2];exact F9),hd0,by rw[B9c (by simp),B9c (B9u Hn.out.symm)];simp[val]⟩,Blk.new w 193 _,A4.alloc _ _⟩
 case round =>
  obtain⟨k,r',zs,hk,rfl,rfl,hI,hR,hG⟩:=hrel;have HI:=B9I hI;have HG:=B9I hG;have HR:=B9I hR;clear hI hG hR;rcases B9C k with rfl|hpos
  ·have hval:val W32 zs*d+r'=a:=by have:=HI.out.2.2.2;rw[List.drop_zero,List.drop_zero,E6 G0]at this;exact this
   have hr:=HI.out.2.2.1;have hres:a%d=r'/\a/d=val W32 zs:=by
    rw[<-hval,B9j,Nat.mul_add_mod,Nat.mod_eq_of_lt hr,Nat.mul_add_div hd0,B9q hr];simp
   have hzl:zs.length=n:=by rw[HI.out.1];exact Hn.out.symm
   have htr:Calls Tryz.prog 139 #[.slice (some ⟨w.heap.size,0,none⟩) n n] wr λe w'=>e = .returned (.slice (some ⟨w.heap.size,0,none⟩) (ln (a/d)) n)/\Rn w' (some ⟨w.heap.size,0,none⟩,n) (a/d)/\A4 w w':=by
    have h1:=A19 (some ⟨w.heap.size,0,none⟩) zs n wr HR.out.lim (B9u hzl) (by omega);rw[hzl]at h1;refine h1.mono λe w' ⟨he,hg⟩=>?_;obtain⟨hr1,hlen⟩:=A29 (a:=a/d) (c:=n) (HR.out.lim.grow hg) HI.out.2.1 hres.2.symm (B9u hzl) hm;rw[hlen]at he;exact⟨he,hr1,HG.out.trans hg⟩
   have Htr:=B9I htr;have Hres:=B9I hres;clear hval hres hzl htr;have hc:decide ((0:Int)<=((0:Nat):Int)-1)=false:=by decide
   have hwr:((r':Int))%4294967296=(r':Int):=by omega
   go_wp2_with (go_at_call 139;((with_reducible refine(Htr.out).mono ?_);rintro e w1 ⟨rfl,hr1,hg⟩));go_ret2;exact⟨(some ⟨w.heap.size,0,none⟩,n),C0T (λz:Nat=>Ending.returned (.tuple #[.slice (some ⟨w.heap.size,0,none⟩) (ln (a/d)) n,.int .u32 (z:Nat)])) Hres.out.1.symm,hr1,hg⟩
  ·obtain⟨j,rfl⟩:∃j,k=j+1:=⟨k-1,by omega⟩
   have e1:((j+1:Nat):Int)-1=(j:Nat):=by omega
   rw[e1];have hjl:j<(B5 W32 a).length:=by have:=Hn.out;unfold ln at this;omega
   have hnx:=HI.out.next hjl (H8 G0 a) F9;obtain⟨b1,o1,rfl,hc1⟩:=(Hx.out.grow HG.out).cell hjl;have hjz:j<zs.length:=by rw[HI.out.1];exact hjl
   have hc2:=HR.out.cell hjz;have hf2:=HR.out.frozen j;have hxl:=C6 F9 (H8 G0 a) j;obtain⟨p,hp⟩:∃p,p=dg (B5 W32 a) j:=⟨_,rfl⟩
   rw[<-hp]at hc1 hnx hxl;have hr:=HI.out.2.2.1;have Hp:=B9I hp;have Hnx:=B9I hnx;clear hp hnx e1;have hc0:decide ((0:Int)<=(j:Int))=true:=by simp
   unfold W32 at hxl;obtain⟨X,hX⟩:∃X,X=r'*W32+p:=⟨_,rfl⟩
   have hXl:X<18446744073709551616:=by rw[hX];unfold W32;omega
   have hqW:X/d<4294967296:=by rw[hX];exact A3Z hr (by unfold W32;exact hxl)
   have hmW:X%d<d:=B9R _ hd0;have hor:bits BinOp.or IntKind.u64 ((r':Int)*4294967296) (p:Int)=(X:Nat):=by
    have e2:((r':Int)*4294967296)=((r'*4294967296:Nat):Int):=by omega
    rw[e2,bits_or_u64_nat _ _ (by omega) (by omega),hX];unfold W32;rw[A2g (s:=32) (by omega) (by omega)]
   have htm:((X:Nat):Int).tmod (d:Int)=((X%d:Nat):Int):=rfl;have htd:((X:Nat):Int).tdiv (d:Int)=((X/d:Nat):Int):=rfl;rw[<-hX]at Hnx;have HX:=B9I hX;obtain⟨q,hq⟩:∃q,q=X/d:=⟨_,rfl⟩
   obtain⟨m,hm'⟩:∃q,q=X%d:=⟨_,rfl⟩
   rw[<-hq]at Hnx htd hqW;rw[<-hm']at Hnx htm hmW;clear hX hq hm';have hwq:((q:Int))%4294967296=(q:Int):=by omega
   go_wp2_with fail;exact⟨⟨j,m,zs.set j q,by omega,rfl,rfl,Hnx.out,HR.out.set j q,HG.out.setCell (p:=⟨w.heap.size,j,none⟩) (B8s _) _⟩,by simp[intOf]⟩
theorem B17{b:Nat}(h0:b≠0)(h:b<W32):ln b=1/\B5 W32 b=[b]:=by
 have e:B5 W32 b=[b]:=by
  rw[A07 G0 h0,Nat.mod_eq_of_lt h,B9q h];rfl
 exact⟨by unfold ln;rw[e];rfl,e⟩
theorem Rn.nil(u:World):Rn u (none,0) 0:=⟨Lim.nil _ _,B8s _,by omega,by decide⟩
theorem Ret.nn{a b:Nat}{w:World}{P:Program}{f:FuncId}{args:Array Value}{W:World}(h:Calls P f args W (Ret (nnR a b) w)):Calls P f args W λe w'=>∃x y:Ax,e = .returned (.tuple #[.slice x.1 (ln a) x.2,.slice y.1 (ln b) y.2])/\Rn w' x a/\Rn w' y b/\A4 w w' :=
 h.mono λ_ _ ⟨x,he,ht,hg⟩=>⟨x.1,x.2,he,ht.1,ht.2,hg⟩
theorem A9T(x y:Ax)(a b:Nat)(w:World)(hx:Rn w x a)(hy:Rn w y b)(hlt:a<b):Calls Tryz.prog 138 #[nvV x a,nvV y b] w (Ret (nnR (a/b) (a%b)) w):=by
 have hcmp:=A4G x y a b w hx hy;rw[T8 hlt]at hcmp;have Hcmp:=B9I hcmp;have Hx:=B9I hx;clear hcmp hx hy;rw[B9q hlt,Nat.mod_eq_of_lt hlt];go_enter Tryz.func138,Tryz.ntmps138;go_wp2_with (go_at_call 101;((with_reducible refine(Hcmp.out).mono ?_);rintro e w1 ⟨rfl,hg⟩));go_ret2;exact⟨((none,0),x),rfl,⟨Rn.nil _,Hx.out.grow hg⟩,hg⟩
theorem B76(x y:Ax)(a b:Nat)(w:World)(hx:Rn w x a)(hy:Rn w y b)(h0:b≠0)(hs:b<W32):Calls Tryz.prog 138 #[nvV x a,nvV y b] w (Ret (nnR (a/b) (a%b)) w):=by
 by_cases hlt:a<b
 ·exact A9T x y a b w hx hy hlt
 ·have hcmp:=A4G x y a b w hx hy;have hcz:decide (G8 a b<0)=false:=by unfold G8;rw[if_neg hlt];split<;>rfl
  obtain⟨hl1,hdg⟩:=B17 h0 hs;obtain⟨A2,c2⟩:=y;have hcell:=hy.1.cell (i:=0) (by rw[hdg];simp);rw[hdg]at hcell;obtain⟨b2,o2,rfl,hc2⟩:=hcell;have hc2':∀W,A4 w W->W.cell? ⟨b2,o2,none⟩=some (.int .u32 (b:Nat)):=λW hg=>by
   have h1:=(hy.1.grow hg).cell (i:=0) (by rw[hdg];simp);rw[hdg]at h1;obtain⟨b3,o3,e3,h3⟩:=h1;injection e3 with e3;injection e3 with e4 e5;subst e4;subst e5;exact h3
  have hone:∀W,A4 w W->Calls Tryz.prog 167 #[nvV x a,.int .u32 b] W λe w'=>∃y:Ax,e = .returned (.tuple #[nvV y (a/b),.int .u32 (a%b:Nat)])/\Rn w' y (a/b)/\A4 W w':=λW hg=>B50 x a b W (hx.grow hg) (B9r h0) hs;have hmod:a%b<W64:=B9N (B9R _ (B9r h0)) (B81 (B9N hs (by unfold W32 W64;omega)));have hof:=A5S (a%b) hmod;obtain⟨m,hme⟩:∃m,m=a%b:=⟨_,rfl⟩
  rw[<-hme]at hone hof hmod⊢;unfold W64 at hmod;show Calls Tryz.prog 138 #[nvV x a,.slice (some ⟨b2,o2,none⟩) (ln b) c2] w _;rw[hl1];have hcmp':Calls Tryz.prog 101 #[nvV x a,.slice (some ⟨b2,o2,none⟩) 1 c2] w λe w'=>e = .returned (.int .i64 (G8 a b))/\A4 w w':=by
   rw[<-hl1];exact hcmp
  have Hcmp:=B9I hcmp';have Hone:=B9I hone;have Hof:=B9I hof;have Hc2:=B9I hc2';clear hcmp hcmp' hone hof hc2' hc2 hy hx hdg hl1 hs hme;go_enter Tryz.func138,Tryz.ntmps138
  go_wp2_with (first
   | (go_at_call 101;((with_reducible refine(Hcmp.out).mono ?_);rintro e w1 ⟨rfl,hg1⟩;have hcc:=Hc2.out w1 hg1))
   | (go_at_call 167;((with_reducible refine(Hone.out w1 hg1).mono ?_);rintro e w2 ⟨y2,rfl,hy2,hg2⟩))
   | (go_at_call 109;((with_reducible refine(Hof.out _).mono ?_);rintro e w3 ⟨y3,rfl,hy3,hg3⟩)))
  go_ret2;exact⟨(y2,y3),rfl,⟨hy2.grow hg3,hy3⟩,hg1.trans (hg2.trans hg3)⟩
theorem A3b(a:Nat):ln a<=bl a/32+1:=by
 refine A3P G0 (B9N (A0i a) ?_);rw[show W32=2^32 from rfl,<-B9O];exact B9P (by omega) (by omega)
theorem dgl(a k:Nat):dg (B5 W32 a) k<4294967296:=C6 F9 (H8 G0 a) k
theorem A64(x:Ax)(a i:Nat)(w:World)(hx:Rn w x a):Calls Tryz.prog 196 #[nvV x a,.int .i64 i] w λe w'=>e = .returned (.int .u64 (dg (B5 W32 a) i:Nat))/\A4 w w':=by
 obtain⟨A,c⟩:=x;obtain⟨n,hn⟩:∃n,n=ln a:=⟨_,rfl⟩
 show Calls Tryz.prog 196 #[.slice A (ln a) c,.int .i64 i] w _;rw[<-hn];rcases B8t i n with h|h
 ·obtain⟨b,off,rfl,hc⟩:=hx.1.cell (i:=i) (by rw[hn]at h;exact h);have hl:=dgl a i;generalize dg (B5 W32 a) i=p at *;have hp:((p:Int))%18446744073709551616=(p:Int):=by omega
  clear hx hn;go_enter Tryz.func196,Tryz.ntmps196;go_wp2_with fail;go_ret;exact⟨rfl,A4.refl _⟩
 ·rw[A0p (l:=B5 W32 a) (by rw[hn]at h;exact h)];have h':¬i<n:=by omega
  clear hx hn;go_enter Tryz.func196,Tryz.ntmps196;go_wp2_with fail;go_ret;exact⟨rfl,A4.refl _⟩
def AdI(W N:Nat)(la lb:List Nat)(k c:Nat)(zs:List Nat):Prop:=zs.length=N/\Dig W zs/\c<=1/\val W (zs.take k)+c*W^k=val W (la.take k)+val W (lb.take k)
theorem AdI.start{W:Nat}(N:Nat)(la lb:List Nat)(hW:0<W):AdI W N la lb 0 0 (List.replicate N 0) :=
 ⟨by simp,λz hz=>by rw[(List.mem_replicate.1 hz).2];exact hW,by omega,by simp[val]⟩
theorem AdI.next{W N:Nat}{la lb zs:List Nat}{k c:Nat}(h:AdI W N la lb k c zs)(hW:2<=W)(ha:Dig W la)(hb:Dig W lb)(hk:k<N) :
  AdI W N la lb (k+1) ((dg la k+dg lb k+c)/W) (zs.set k ((dg la k+dg lb k+c)%W)):=by
 obtain⟨h1,h2,h3,h4⟩:=h;have e1:=C6 (by omega) ha k;have e2:=C6 (by omega) hb k;refine⟨by rw[B9h];exact h1,Q6 h2 _ (B9R _ (by omega)),?_,?_⟩
 ·have:(dg la k+dg lb k+c)/W<2:=C0U (by omega);omega
 ·rw[A6W (by omega)];exact A9t (by rw[List.length_take];omega) h4
theorem AdI.done{W N:Nat}{la lb zs:List Nat}{c:Nat}(h:AdI W N la lb N c zs)(hW:2<=W)(ha:Dig W la)(hb:Dig W lb)(hla:la.length<N)(hlb:lb.length<N):val W zs=val W la+val W lb:=by
 obtain⟨h1,h2,h3,h4⟩:=h;rw[B9k (by omega),B9k (by omega),B9k (by omega)]at h4;have e1:=B9N (K4 ha) (B9P (by omega) (show la.length<=N-1 by omega));have e2:=B9N (K4 hb) (B9P (by omega) (show lb.length<=N-1 by omega));have e3:2*W^(N-1)<=W^N:=by
  obtain⟨m,rfl⟩:∃m,N=m+1:=⟨N-1,by omega⟩
  rw[Nat.add_sub_cancel,Nat.pow_succ,B9j];exact C0B _ hW
 rcases B9C c with rfl|hc
 ·omega
 ·obtain rfl:c=1:=by omega
  omega
theorem B05{w u:World}{b N a:Nat}{zs:List Nat}(hG:A4 w u)(hR:Blk u b 193 (F7 zs))(hl:zs.length=N)(hd:Dig W32 zs)(hv:val W32 zs=a)(hN:N<=1099511627776) :
  ∀W,A4 u W->Calls Tryz.prog 139 #[.slice (some ⟨b,0,none⟩) N N] W λe w'=>e = .returned (.slice (some ⟨b,0,none⟩) (ln a) N)/\A4 W w':=λW hg=>by
 have hL:Lim W (some ⟨b,0,none⟩) zs:=(T4.lim hR).grow hg;have h1:=A19 (some ⟨b,0,none⟩) zs N W hL (B9u hl) (by omega);obtain⟨-,hlen⟩:=A29 (a:=a) (c:=N) hL hd hv (B9u hl) hN;rw[hl,hlen]at h1;exact h1
theorem B4b{u:World}{b N a:Nat}{zs:List Nat}(hR:Blk u b 193 (F7 zs))(hl:zs.length=N)(hd:Dig W32 zs)(hv:val W32 zs=a)(hN:N<=1099511627776):Rn u (some ⟨b,0,none⟩,N) a :=
 (A29 (a:=a) (c:=N) (T4.lim hR) hd hv (B9u hl) hN).1
def SdI(W N:Nat)(la lb:List Nat)(k br:Nat)(zs:List Nat):Prop:=zs.length=N/\Dig W zs/\br<=1/\val W (zs.take k)+val W (lb.take k)=val W (la.take k)+br*W^k
theorem SdI.start{W:Nat}(N:Nat)(la lb:List Nat)(hW:0<W):SdI W N la lb 0 0 (List.replicate N 0) :=
 ⟨by simp,λz hz=>by rw[(List.mem_replicate.1 hz).2];exact hW,by omega,by simp[val]⟩
theorem SdI.next{W N:Nat}{la lb zs:List Nat}{k br:Nat}(h:SdI W N la lb k br zs)(hW:0<W)(ha:Dig W la)(hb:Dig W lb)(hk:k<N) :
  SdI W N la lb (k+1) (if dg la k<dg lb k+br then 1 else 0) (zs.set k ((dg la k+W-dg lb k-br)%W)):=by
 obtain⟨h1,h2,h3,h4⟩:=h;refine⟨by rw[B9h];exact h1,Q6 h2 _ (B9R _ hW),by split<;>omega,?_⟩;rw[A6W (by omega)];exact A54 h3 (C6 hW ha k) (C6 hW hb k) (by rw[List.length_take];omega) h4
theorem SdI.done{W N:Nat}{la lb zs:List Nat}{br:Nat}(h:SdI W N la lb N br zs)(hla:la.length=N)(hlb:lb.length<=N)(hle:val W lb<=val W la):val W zs=val W la-val W lb:=by
 obtain⟨h1,h2,h3,h4⟩:=h;rw[B9k (by omega),B9k (by omega),B9k (by omega)]at h4;have h6:=K4 h2;rw[h1]at h6;rcases B9C br with rfl|hc
 ·omega
 ·obtain rfl:br=1:=by omega
  omega
def MlI(W N:Nat)(l1 l2:List Nat)(i:Nat)(zs:List Nat):Prop :=
 zs.length=N/\Dig W zs/\val W zs=val W (l1.take i)*val W l2/\∀t,i+l2.length<=t->dg zs t=0
def MlJ(W N:Nat)(l1 l2:List Nat)(i j c:Nat)(zs:List Nat):Prop :=
 zs.length=N/\Dig W zs/\c<W/\val W zs+c*W^(i+j)=val W (l1.take i)*val W l2+W^i*(dg l1 i*val W (l2.take j))/\∀t,i+l2.length<=t->dg zs t=0
theorem MlI.start{W:Nat}(N:Nat)(l1 l2:List Nat)(hW:0<W):MlI W N l1 l2 0 (List.replicate N 0) :=
 ⟨by simp,λz hz=>by rw[(List.mem_replicate.1 hz).2];exact hW,by simp[A1V,val],λt _=>by unfold dg;rw[C0V];split<;>rfl⟩
theorem MlI.inner{W N:Nat}{l1 l2:List Nat}{i:Nat}{zs:List Nat}(h:MlI W N l1 l2 i zs)(hW:0<W):MlJ W N l1 l2 i 0 0 zs :=
 ⟨h.1,h.2.1,hW,by rw[h.2.2.1];simp[val],h.2.2.2⟩
theorem MlJ.next{W N:Nat}{l1 l2:List Nat}{i j c:Nat}{zs:List Nat}(h:MlJ W N l1 l2 i j c zs)(hN:N=l1.length+l2.length)(h1:Dig W l1)(h2:Dig W l2)(hW:0<W)(hi:i<l1.length)(hj:j<l2.length) :
  MlJ W N l1 l2 i (j+1) ((dg l1 i*dg l2 j+dg zs (i+j)+c)/W) (zs.set (i+j) ((dg l1 i*dg l2 j+dg zs (i+j)+c)%W)):=by
 obtain⟨hl,hd,hc,hv,hz⟩:=h;refine⟨by rw[B9h,hl],Q6 hd _ (B9R _ hW),(A6S (C6 hW h1 i) (C6 hW h2 j) (C6 hW hd _) hc).2.2,?_,λt ht=>?_⟩
 ·rw[<-C0W];exact A7z (by rw[hl];omega) hv
 ·rw[P6 _ _ (by omega)];exact hz t ht
theorem MlJ.outer{W N:Nat}{l1 l2:List Nat}{i c:Nat}{zs:List Nat}(h:MlJ W N l1 l2 i l2.length c zs)(hN:N=l1.length+l2.length)(hi:i<l1.length):MlI W N l1 l2 (i+1) (zs.set (i+l2.length) c):=by
 obtain⟨hl,hd,hc,hv,hz⟩:=h;have hlt:i+l2.length<zs.length:=by rw[hl];omega
 refine⟨by rw[B9h,hl],Q6 hd _ hc,?_,λt ht=>?_⟩
 ·have h1:=X9 W zs (i+l2.length) c hlt;rw[hz _ (B8s _),C0D,Nat.add_zero]at h1;rw[A0T W l2 _ (B8s _)]at hv;rw[h1,N1,C0X,B9j (W^(i+l2.length)) c,hv];grind
 ·rw[P6 _ _ (by omega)];exact hz t (by omega)
end Go.Proofs.YtgpglgbcobeogaaGreatDoor
