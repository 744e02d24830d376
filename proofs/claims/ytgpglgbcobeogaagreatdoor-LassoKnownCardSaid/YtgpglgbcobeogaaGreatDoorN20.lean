import Derived.Test.YtgpglgbcobeogaaGreatDoorN19
set_option linter.unusedSimpArgs false
set_option linter.unusedVariables false
set_option maxHeartbeats 1000000
set_option maxRecDepth 100000
namespace Go.Proofs.YtgpglgbcobeogaaGreatDoor
open Go.RowKit
structure EI(T e:TypeId)(size bytes:Nat):Prop where
 und:Tryz.prog.underlying T=some (.slice e)
 ex:∃i z,Tryz.prog.info? e=some i/\i.zero=some z/\i.size=size/\i.bytes=bytes/\z.cells.size=size
 pos:0<size
theorem A10{T e:TypeId}{size bytes:Nat}(h1:Tryz.prog.underlying T=some (.slice e))(h2:(Tryz.prog.info? e).map (λi=>(i.zero.map λz=>z.cells.size,i.size,i.bytes))=some (some size,size,bytes))(h3:0<size):EI T e size bytes:=by
 refine⟨h1,?_,h3⟩
 cases hi:Tryz.prog.info? e with
 | none=>rw[hi]at h2;cases h2
 | some i =>
  rw[hi]at h2;simp only[Option.map_some,Option.some.injEq,Prod.mk.injEq]at h2;obtain⟨h4,h5,h6⟩:=h2
  cases hz:i.zero with
  | none=>rw[hz]at h4;cases h4
  | some z =>
   rw[hz]at h4;simp only[Option.map_some,Option.some.injEq]at h4;exact⟨i,z,rfl,hz,h5,h6,h4⟩
theorem B6V{P:Program}{o:Oper}{a:Act}{w w':World}{K:Act->World->Prop}{Q:Exit->Act->World->Prop}{v:Value}(h:(execOp a.eval o).run P w = .ok (.value v) w')(hk:K (a.put o.dst v) w'):o.wp P a w K Q:=by
 unfold Oper.wp;rw[h];exact hk
theorem B8A{P:Program}{a:Act}{w w':World}{d:Option Tmp}{T:TypeId}{n:Nat}{x:Operand}{t:TypeId}{p:String}{f:Array Edge}{v:Value}(h:(Instr.buildSlice T n #[(0,a.eval x)]).run P w = .ok v w'):(execOp a.eval ⟨d,.buildSlice T n #[(0,x)],t,p,f,none⟩).run P w = .ok (.value v) w':=by
 unfold execOp;simp only[List.map_toArray,List.map_cons,List.map_nil,Sem.run_bind];rw[h];rfl
theorem A0E{ops:Array Oper}{a:Act}{u:World}{K:Act->World->Prop}{d1 d2 d3:Option Nat}{x s z q:Operand}{t1 t2 t3:TypeId}{p1 p2 p3:String}{f1 f2 f3:Array Edge}{T e:TypeId}{size bytes:Nat}(hE:EI T e size bytes)
  (B:Nat) (v:Value) (n:Nat) (xs:List Value) (xv:Value) (ys:List Value) (hy:ys.length=size) (h1:(ys.all λy=>y.oneCell')=true) (hb:(Instr.buildSlice T 1 #[(0,xv)]).run Tryz.prog u = .ok (.slice (some ⟨u.heap.size,0,none⟩) 1 1) (u.alloc (.cells ys.toArray e)))
  (hx:a.eval x=xv) (hs:∀p,(a.put d1 p).eval s=v) (hz:∀p,(a.put d1 p).eval z=p) (hq:∀p p',((a.put d1 p).put d2 p').eval q=p')
  (hown:u.ownsRow B e size v n xs) (hl:n+1<=1099511627776) (hl2:(n+1)*bytes<=140737488355328) (hB:B<=u.heap.size)
  (h:∀p v' w',w'.ownsRow B e size v' (n+1) (xs++ys)->(u.alloc (.cells ys.toArray e)).grownBy w' v.ownBlock->(v'.ownBlock=v.ownBlock\/v'.ownBlock=some (u.heap.size+1))->NoK K .normal (((a.put d1 p).put d2 v').put d3 v') w') :
  wpList Tryz.prog ops (NoK K) [⟨d1,.buildSlice T 1 #[(0,x)],t1,p1,f1,none⟩,⟨d2,.call { callee:=.builtin .append,args:=#[s,z],argTypes:=#[T,T] },t2,p2,f2,none⟩,⟨d3,.assign q,t3,p3,f3,none⟩] a u:=by
 obtain⟨hund,⟨i0,z0,hi0,hz0,hz1,hz2,hz3⟩,hpos⟩:=hE;refine wpList_plain rfl λK1 hK1=>?_;have hb1:(Instr.buildSlice T 1 #[(0,a.eval x)]).run Tryz.prog u = .ok (.slice (some ⟨u.heap.size,0,none⟩) 1 1) (u.alloc (.cells ys.toArray e)):=by rw[hx];exact hb
 have hb2:=B8A (d:=d1) (t:=t1) (p:=p1) (f:=f1) hb1;unfold Oper.wp;rw[hb2];refine hK1 _ _ ?_;show wpList Tryz.prog ops (NoK K) _ (a.put d1 _) _;have hs1:=hs (.slice (some ⟨u.heap.size,0,none⟩) 1 1);have hz1':=hz (.slice (some ⟨u.heap.size,0,none⟩) 1 1);have hq1:=hq (.slice (some ⟨u.heap.size,0,none⟩) 1 1);have hh:=h (.slice (some ⟨u.heap.size,0,none⟩) 1 1);have ho:=hown.alloc (.cells ys.toArray e);generalize a.put d1 (.slice (some ⟨u.heap.size,0,none⟩) 1 1)=a1 at hs1 hz1' hq1 hh;refine wpList_append_own_at (u.alloc (.cells ys.toArray e)) (a:=a1) (Q:=NoK K) rfl s z T rfl B e i0 z0 size bytes hund hi0 hz0 hz1 hz2 hz3 hpos v n xs hs1 ho ⟨u.heap.size,0,none⟩ 1 1 ys hz1' (by rw[hy];omega) ?_ (λy hy=>List.all_eq_true.1 h1 y hy) (by unfold maxLen;omega) hl2 (by rw[I9];omega) λv' w' g1 g2 _ g4=>?_
 ·intro j y hj;rw[B9b,Nat.zero_add,Blk.cell (Blk.new u e ys.toArray) j,List.getElem?_toArray];exact hj
 ·rw[I9]at g4;refine wpList_plain rfl λK2 hK2=>?_;refine B6V (v:=v') (w':=w') ?_ (hK2 _ _ (wpList_nil ?_))
  ·have e1:(execOp ((a1.put d2 v').eval) ⟨d3,.assign q,t3,p3,f3,none⟩).run Tryz.prog w' = .ok (.value ((a1.put d2 v').eval q)) w':=rfl;rw[hq1]at e1;exact e1
  ·exact hh v' w' g1 g2 g4
theorem A6n{u w':World}{B:Nat}{e:TypeId}{size n:Nat}{v:Value}{xs:List Value}{o:Obj}{l:List (Nat×TypeId×Array Value)}(h:u.ownsRow B e size v n xs)(hB:Bx u l)(ht:∀x∈l,x.2.1≠e)(hg:(u.alloc o).grownBy w' v.ownBlock):Bx w' l:=by
 refine(hB.grow (A4.alloc u o)).grown_ hg λx hx hxe=>?_;obtain⟨_,h|⟨g,cap,cur,rfl,hb,hh,hn,hc,hs,ht2⟩⟩:=h
 ·rw[h.1]at hxe;cases hxe
 ·have h1:x.1=g:=B8y hxe;have h2:=hB x hx;unfold Blk at h2;rw[h1,hh]at h2;injection h2 with h2;injection h2 with _ h3 _;exact ht x hx h3.symm
theorem A0N{w u w':World}{e:TypeId}{size n:Nat}{v:Value}{xs:List Value}{o:Obj}(h:u.ownsRow w.heap.size e size v n xs)(hG:A4 w u)(hg:(u.alloc o).grownBy w' v.ownBlock):A4 w w' :=
 (hG.trans (A4.alloc u o)).grown hg λk hk=>(h.lt k hk).1
theorem C0{u u':World}{B:Nat}{e:TypeId}{s:Nat}{v:Value}{n:Nat}{xs:List Value}(h:u.ownsRow B e s v n xs)(hg:A4 u u'):u'.ownsRow B e s v n xs:=by
 obtain⟨h0,h|⟨g,cap,cur,rfl,hb,hh,hn,hc,hs,ht⟩⟩:=h
 ·exact⟨h0,.inl h⟩
 ·exact⟨h0,.inr ⟨g,cap,cur,rfl,hb,(hg.block g (L7 hh)).trans hh,hn,hc,hs,ht⟩⟩
theorem Lim.own{u w':World}{B:Nat}{e:TypeId}{size n:Nat}{v:Value}{xs:List Value}{o:Obj}{A:Option Addr}{l:List Nat}(hl:Lim u A l)(h:u.ownsRow B e size v n xs)(ht:e≠193)(hg:(u.alloc o).grownBy w' v.ownBlock):Lim w' A l:=λhne=>by
 obtain⟨b,off,cs,fr,e1,hb,hc⟩:=hl hne;refine⟨b,off,cs,fr,e1,?_,hc⟩;have hlt:=L7 hb;have h2:(u.alloc o).heap[b]?=u.heap[b]?:=(A4.alloc u o).block b hlt;refine(hg.block b (by rw[I9];omega) λhxe=>?_).trans (h2.trans hb);obtain⟨_,h|⟨g,cap,cur,rfl,hb',hh,hn,hc',hs,ht2⟩⟩:=h
 ·rw[h.1]at hxe;cases hxe
 ·have h1:b=g:=B8y hxe;rw[h1,hh]at hb;injection hb with hb;injection hb with _ h3 _;exact ht h3
theorem Rn.own{u w':World}{B:Nat}{e:TypeId}{size n:Nat}{v:Value}{xs:List Value}{o:Obj}{x:Ax}{a:Nat}(hl:Rn u x a)(h:u.ownsRow B e size v n xs)(ht:e≠193)(hg:(u.alloc o).grownBy w' v.ownBlock):Rn w' x a:=⟨hl.1.own h ht hg,hl.2⟩
theorem A7k(y:Int)(w:World):(Instr.buildSlice 29 1 #[(0,.int .u32 y)]).run Tryz.prog w = .ok (.slice (some ⟨w.heap.size,0,none⟩) 1 1) (w.alloc (.cells #[.int .u32 y] 193)):=by
 go_simp
theorem A5Y(q:Rat)(w:World):(Instr.buildSlice 35 1 #[(0,qV q)]).run Tryz.prog w = .ok (.slice (some ⟨w.heap.size,0,none⟩) 1 1) (w.alloc (.cells #[.bool (E0 q.num),.int .u64 (B8 q.num.natAbs),.string (B6 q.num.natAbs),.int .u64 (B8 (H6 q.den)),.string (B6 (H6 q.den))] 48)):=by
 go_simp
abbrev A0y(l:List Nat):List Value:=l.map λx=>Value.int .u32 (x:Nat)
theorem B4a{u:World}{B b:Nat}{l:List Nat}(h:Blk u b 193 (F7 l))(hb:B<=b)(hl:l.length<=maxLen):u.ownsRow B 193 1 (.slice (some ⟨b,0,none⟩) l.length l.length) l.length (A0y l) :=
 ⟨by simp,.inr ⟨b,l.length,F7 l,rfl,hb,h,B8s _,hl,by unfold F7;simp,by unfold F7;rw[C0F,B9k (by simp)]⟩⟩
theorem A9z{u:World}{B n:Nat}{v:Value}{l:List Nat}(h:u.ownsRow B 193 1 v n (A0y l)):∃A c,v = .slice A n c/\n<=c/\c<=maxLen/\Lim u A l/\n=l.length:=by
 have hn:n=l.length:=by have:=h.1;simp at this;omega
 obtain⟨_,h|⟨g,cap,cur,rfl,hb,hh,hn',hc,hs,ht⟩⟩:=h
 ·obtain⟨rfl,h0⟩:=h;exact⟨none,0,by rw[h0],by omega,by unfold maxLen;omega,λhne=>absurd (B8w (by omega)) hne,hn⟩
 ·refine⟨_,cap,rfl,hn',hc,λ_=>⟨g,0,cur,(0,0),rfl,hh,λi x hi=>?_⟩,hn⟩;have hil:i<l.length:=(List.getElem?_eq_some_iff.1 hi).1;have h1:(cur.toList.take (n*1))[i]?=some (.int .u32 (x:Nat)):=by rw[ht,List.getElem?_map,hi];rfl
  rw[C0R,if_pos (by omega)]at h1;rw[Nat.zero_add]
  simpa using h1
theorem A5O:EI 29 193 1 4:=A10 (by kernel_rfl) (by kernel_rfl) (by omega)
theorem A3N:EI 35 48 5 56:=A10 (by kernel_rfl) (by kernel_rfl) (by omega)
theorem B70{y:Nat}(h:y≠0):bl y=bl (y/2)+1:=by
 by_cases h1:y/2=0
 ·obtain rfl:y=1:=by omega
  rfl
 ·have:=A3t (x:=y%2) (y:=y/2) (k:=1) (by omega) h1;rw[show y%2+2^1*(y/2)=y by omega]at this;omega
theorem A7s{l:List Nat}(hd:Dig W32 l)(hn:0<l.length)(h0:dg l (l.length-1)≠0):bl (val W32 l)=32*(l.length-1)+bl (dg l (l.length-1)):=by
 have h1:=N1 W32 l (l.length-1);rw[show l.length-1+1=l.length by omega,C0h]at h1;have h2:=A6U F9 hd (l.length-1);rw[show W32=2^32 from rfl,<-B9O]at h2;rw[h1,show W32^(l.length-1)=2^(32*(l.length-1))by rw[show W32=2^32 from rfl,<-B9O]];exact A3t h2 h0
theorem A4u{a:Nat}(h:a≠0):dg (B5 W32 a) (ln a-1)≠0:=by
 have ht:=A1z G0 a;have hp:=A1l.2 h;have hl:ln a-1<(B5 W32 a).length:=by unfold ln at *;omega
 rcases ht with ht|ht
 ·rw[ht]at hl;cases hl
 ·rw[E3 hl];intro e;apply ht;rw[B9s,show(B5 W32 a).length-1=ln a-1 from rfl,B9Y hl,e]
theorem B2S(x:Ax)(a:Nat)(w:World)(hx:Rn w x a)(ha:bl a<=1099511627776):Calls Tryz.prog 166 #[nvV x a] w λe w'=>e = .returned (.int .i64 (bl a))/\A4 w w':=by
 obtain⟨A,c⟩:=x;by_cases h0:a=0
 ·subst h0;show Calls Tryz.prog 166 #[.slice A 0 c] w _;clear hx ha;go_enter Tryz.func166,Tryz.ntmps166;go_wp2_with fail;go_ret;exact⟨rfl,A4.refl _⟩
 ·have hp:=A1l.2 h0;have ht:=A4u h0;have hb:=A7s (H8 G0 a) hp ht;rw[E6 G0]at hb;have hl:ln a-1<(B5 W32 a).length:=by unfold ln at *;omega
  obtain⟨b1,o1,rfl,hc⟩:=hx.1.cell hl;have hnl:=A3b a;have htl:=dgl a (ln a-1);show Calls Tryz.prog 166 #[.slice (some ⟨b1,o1,none⟩) (ln a) c] w _;change bl a=32*(ln a-1)+bl (dg (B5 W32 a) (ln a-1))at hb;obtain⟨n,hn⟩:∃n,ln a=n+1:=⟨ln a-1,by omega⟩
  rw[hn,Nat.add_sub_cancel]at hb hc ht htl;rw[hn];obtain⟨T,hT⟩:∃T,T=dg (B5 W32 a) n:=⟨_,rfl⟩
  rw[<-hT]at hb hc ht htl;have f1:((n+1:Nat):Int)-1=(n:Int):=by omega
  have f2:((n+1:Nat):Int)=(n:Int)+1:=by omega
  obtain⟨m,hm⟩:∃m,m=32*n:=⟨_,rfl⟩
  have f3:IntKind.i64.wrap (32*(n:Int))=(m:Int):=by rw[show 32*(n:Int)=((m:Nat):Int)by omega];exact B9Z _ (by omega)
  have f4:32*(n:Int)=(m:Int):=by omega
  have fw:IntKind.i64.wrap (m:Int)=(m:Int):=B9Z _ (by omega);have hb2:m+bl T=bl a:=by omega
  have Hb2:=B9I hb2;have hmm:m<=1099511627776:=by omega
  have hTb:bl T<=32:=T9.2 (by omega);have hz0:((n:Int)+1 == 0)=false:=by simp;omega
  clear hb hx hp hnl hn hT hm hb2 h0 hl;go_enter Tryz.func166,Tryz.ntmps166;go_wp2_with fail;go_loopw [3,4] (λs t wr=>∃(k y:Nat),s = .int .i64 k/\t = .int .u32 y/\k+bl y=bl a/\y<4294967296/\k<=1099511627776+32/\wr=w) (λ_ t _=>(intOf t).toNat)
  case atStart=>exact⟨m,T,rfl,rfl,Hb2.out,htl,by omega,rfl⟩
  case round =>
   obtain⟨k,y,rfl,rfl,hk,hy,hkb,rfl⟩:=hrel;rcases B9C y with rfl|hpos
   ·have Hk:=B9I hk;clear hk;go_wp2_with fail;go_ret;have:=Hk.out;rw[A0w,Nat.add_zero]at this;exact⟨by rw[this];rfl,A4.refl _⟩
   ·have hh:=B70 (y:=y) (by omega);have hk2:k+1+bl (y/2)=bl a:=by omega
    have Hk:=B9I hk2;have hc1:decide ((0:Int)<(y:Int))=true:=by simp;omega
    obtain⟨z,hz⟩:∃z,z=y/2:=⟨_,rfl⟩
    have f5:(y:Int)/2=(z:Int):=by omega
    have hk1:k+1<=1099511627776+32:=by have:=Hk.out;omega
    have hzy:z<y:=by omega
    rw[<-hz]at Hk;clear hk hk2 hh hz;go_wp2_with fail;go_roundw
    case rel=>exact⟨k+1,z,by go_num,rfl,Hk.out,by omega,hk1,by first|rfl|trivial⟩
    case measure=>simp[intOf];omega
def UpI(k r:Nat)(l:List Nat)(i c:Nat)(zs:List Nat):Prop:=zs.length=k+i/\Dig W32 zs/\c<2^r/\val W32 zs+c*W32^(k+i)=val W32 (l.take i)*2^r*W32^k
theorem UpI.start(k r:Nat)(l:List Nat):UpI k r l 0 0 (List.replicate k 0) :=
 ⟨by simp,λz hz=>by rw[(List.mem_replicate.1 hz).2];exact F9,Nat.two_pow_pos r,by rw[A1V];simp[val]⟩
theorem UpI.next{k r:Nat}{l zs:List Nat}{i c:Nat}(h:UpI k r l i c zs)(hd:Dig W32 l):UpI k r l (i+1) ((c+dg l i*2^r)/W32) (zs++[(c+dg l i*2^r)%W32]):=by
 obtain⟨h1,h2,h3,h4⟩:=h;have hx:=C6 F9 hd i;refine⟨by simp[h1];omega,λz hz=>?_,?_,?_⟩
 ·rcases List.mem_append.1 hz with hz|hz
  ·exact h2 z hz
  ·simp at hz;rw[hz];exact B9R _ F9
 ·refine C0U ?_;have:(dg l i+1)*2^r<=W32*2^r:=B9g _ hx;rw[C0X,C0O]at this;omega
 ·rw[A0o,h1,N1];have e1:=A6c W32 (W32^(k+i)) (c+dg l i*2^r);have e2:W32^(k+i)*(c+dg l i*2^r)=c*W32^(k+i)+W32^i*dg l i*2^r*W32^k:=by rw[B9Q];grind
  have e3:(val W32 (l.take i)+W32^i*dg l i)*2^r*W32^k=val W32 (l.take i)*2^r*W32^k+W32^i*dg l i*2^r*W32^k:=by grind
  rw[show k+(i+1)=k+i+1 by omega,Nat.pow_succ,e3,<-h4];omega
theorem UpI.done{k r:Nat}{l zs:List Nat}{c:Nat}(h:UpI k r l (l.length+1) c zs)(hd:Dig W32 l)(hr:r<=32):val W32 zs=val W32 l*2^r*W32^k:=by
 obtain⟨h1,h2,h3,h4⟩:=h;rw[B9k (by omega)]at h4;have e1:=K4 hd;have e2:2^r<=W32:=by rw[show W32=2^32 from rfl];exact B9P (by omega) hr
 rcases B9C c with rfl|hc
 ·omega
 ·exfalso;have e3:val W32 l*2^r*W32^k<W32^l.length*W32*W32^k:=by
   refine C0i ?_ (C0j F9);exact B9N (C0i e1 (Nat.two_pow_pos r)) (C0B _ e2)
  have e4:W32^l.length*W32*W32^k=W32^(k+(l.length+1)):=by rw[B9Q,Nat.pow_succ];grind
  have e5:W32^(k+(l.length+1))<=c*W32^(k+(l.length+1)):=Nat.le_mul_of_pos_left _ hc;omega
theorem A6H(x:Ax)(a n:Nat)(w:World)(hx:Rn w x a)(ha:bl a<=1099511627776)(hn:n<=1099511627776):Calls Tryz.prog 168 #[nvV x a,.int .i64 n] w (Ret (W7 (a*2^n)) w):=by
 have hat:∀i W,A4 w W->Calls Tryz.prog 196 #[nvV x a,.int .i64 (i:Nat)] W λe w'=>e = .returned (.int .u64 (dg (B5 W32 a) i:Nat))/\A4 W w':=λi W hg=>A64 x a i W (hx.grow hg);obtain⟨p,hp⟩:∃p,p=ln a:=⟨_,rfl⟩
 obtain⟨A,c⟩:=x;have hpl:=A3b a;rw[<-hp]at hpl;change ∀i W,A4 w W->Calls Tryz.prog 196 #[.slice A (ln a) c,.int .i64 (i:Nat)] W _ at hat;show Calls Tryz.prog 168 #[.slice A (ln a) c,.int .i64 n] w _;rw[<-hp]at hat;rw[<-hp];obtain⟨k,hk⟩:∃k,k=n/32:=⟨_,rfl⟩
 obtain⟨r,hr⟩:∃r,r=n%32:=⟨_,rfl⟩
 have hr32:r<32:=by omega
 have q1:(n:Int).tdiv 32=(k:Nat):=by rw[B9G (by omega)];omega
 have q2:(n:Int).tmod 32=(r:Nat):=by rw[B9H (by omega)];omega
 have q3:(n:Int)/32=(k:Nat):=by omega
 have q4:(n:Int)%32=(r:Nat):=by omega
 have q5:IntKind.i64.wrap (k:Int)=(k:Int):=B9Z _ (by omega);have q6:IntKind.i64.wrap (r:Int)=(r:Int):=B9Z _ (by omega);have q7:IntKind.u64.wrap (r:Int)=(r:Int):=D7 (by omega);have q8:min r 64=r:=by omega
 have hpw:2^r*W32^k=2^n:=by
  rw[show W32=2^32 from rfl,<-B9O,<-B9Q];congr 1;omega
 have hmk:=A4l k (by omega) (k:Int) rfl;have hnn:decide ((0:Int)<=(n:Int))=true:=by simp
 obtain⟨N,hN⟩:∃N,N=p+1:=⟨_,rfl⟩
 have hN1:N<=p+1:=by omega
 have hN2:p+1<=N:=by omega
 have hkb:k<=34359738400:=by omega
 have hpb:p<=34359738400:=by omega
 have Hat:=B9I hat;have Hp:=B9I hp;have Hpw:=B9I hpw;clear hat hp hx hk hr hpl ha hpw hN;go_enter Tryz.func168,Tryz.ntmps168;refine en0 ?_;intro u hG hB hF;refine B9D ?_;refine r0T ?_;refine B9L (rfl) ?_;refine r0T ?_;have hbo:=Blk.new u 193 (F7 (List.replicate k 0));have hF3:=Fr.new (tk:=[]) hF hB hG (B8s u.heap.size) (by simp);have hB3:=Bx.cons hbo (hB.grow (A4.alloc u (.cells (F7 (List.replicate k 0)) 193)));have hG3:=hG.trans (A4.alloc u (.cells (F7 (List.replicate k 0)) 193));simp only[List.cons_append,List.nil_append,List.map_cons,List.map_nil]at hF3;clear hB hF hG hbo;generalize World.alloc u _=v at  hB3 hG3⊢;generalize u.heap.size=b5 at hB3 hF3⊢;have hB:=hB3;have hF:=hF3;have hG:=hG3;clear hB3 hF3 hG3;obtain⟨u,rfl⟩:=exQ v;refine r0T ?_;refine B9D ?_;refine r0T ?_;refine B9l ?_;have hown:u.ownsRow w.heap.size 193 1 (.slice (some ⟨b5,0,none⟩) k k) k (A0y (List.replicate k 0)):=by
  have:=B4a hB.head (hF.1 b5 (by simp)) (by rw[B9V];unfold maxLen;omega);rw[B9V]at this;exact this
 have Hown:=B9I hown;clear hown hB hF;go_loopw [7,6,5] (λs0 s1 s2 wr=>∃(i c:Nat) (zs:List Nat),i<=N/\s0 = .int .i64 i/\s1 = .int .u64 (c:Nat)/\UpI k r (B5 W32 a) i c zs/\wr.ownsRow w.heap.size 193 1 s2 (k+i) (A0y zs)/\A4 w wr) (λs0 _ _ _=>N-(intOf s0).toNat)
 case atStart=>exact⟨0,0,List.replicate k 0,B9a _,rfl,rfl,UpI.start k r _,Hown.out,hG⟩
 case round =>
  clear hG Hown;obtain⟨i,c,zs,hi,rfl,rfl,hI,ho,hG⟩:=hrel;obtain⟨u,rfl⟩:=exQ wr;have hB:=Bx.nil u;have hF:=Fr.nil w;have HI:=B9I hI;have Ho:=B9I ho;clear hI ho;rcases B8t i N with hlt|hge
  ·have hip:i<=p:=by omega
   have e1:=dgl a i;have hnx:=HI.out.next (H8 G0 a);have hcr:=HI.out.2.2.1;have hat:=Hat.out i;obtain⟨X,hX⟩:∃X,X=dg (B5 W32 a) i:=⟨_,rfl⟩
   rw[<-hX]at e1 hnx;simp only[<-hX]at hat;obtain⟨m,hm⟩:∃m,m=X*2^r:=⟨_,rfl⟩
   rw[<-hm]at hnx;have h31:(2:Nat)^r<=2147483648:=by rw[show(2147483648:Nat)=2^31 from rfl];exact B9P (by omega) (by omega)
   have hmb:m<=4294967295*2147483648:=by rw[hm];exact C0f (by omega) h31
   obtain⟨s,hs⟩:∃s,s=c+m:=⟨_,rfl⟩
   rw[<-hs]at hnx;have f1:IntKind.u64.wrap ((X:Int)*2^r)=(m:Int):=by rw[show(X:Int)*2^r=((m:Nat):Int)by rw[hm];simp];exact D7 (by omega)
   have f2:bits BinOp.or IntKind.u64 (c:Int) (m:Int)=(s:Nat):=by rw[B9m c m (by omega) (by omega),A20 hcr (by rw[hm];exact B95 _ _),hs,B96]
   obtain⟨d,hd⟩:∃d,d=s%4294967296:=⟨_,rfl⟩
   obtain⟨c',hc'⟩:∃d,d=s/4294967296:=⟨_,rfl⟩
   have hnx2:UpI k r (B5 W32 a) (i+1) c' (zs++[d]):=by rw[hc',hd];exact hnx
   have f3:(s:Int)%4294967296=(d:Int):=by omega
   have f3':IntKind.u32.wrap (s:Int)=(d:Int):=by rw[<-f3];simp[IntKind.wrap,IntKind.signed,IntKind.bits]
   have f4:(s:Int)/4294967296=(c':Int):=by omega
   have Hat2:=B9I hat;have Hnx:=B9I hnx2;clear hnx hnx2 hat hX hm hs hd hc' hcr h31;refine B9D ?_;refine r0T ?_;refine B9L (rfl) ?_;refine B9K ?_;refine A6 ?_;refine B9D ?_;refine B9l ?_;refine B9D (rsE A8 [0,0,0,1,0,0,0,0,0,0] hB hG λL hL=>?_);refine gs ?_;refine gmd (C:=λv ⟨hgu,hB,hG,_⟩=>Hat2.out _ hG) ?_;refine gs ?_;refine geT hL ?_;clear hB hG hL L;rintro u ⟨hgu,hB,hG,-⟩;have Hon:=B9I (C0 Ho.out hgu);clear Ho;have Ho:=Hon;clear Hon;clear hgu;refine B9D ?_;refine Z4 (w:=w) A8 3 [0,0,0] (by kernel_rfl) (by simp only[List.drop_succ_cons,List.drop_zero];exact rfl) (λ_=>True) noG hB hG trivial ?_;intro K L hN hL;simp only[List.zip_cons_cons,List.zip_nil_left];refine gs ?_;refine I8 ?_;rintro v ⟨hgu,hB1,hG1,-⟩;have ROWn:=B9I (C0 Ho.out hgu);clear Ho;have Ho:=ROWn;clear ROWn;clear hB hG;have hB:=hB1;have hG:=hG1;clear hB1 hG1;refine hL _ _ ?_;clear hL L hgu;obtain⟨u,rfl⟩:=exQ v;refine A0E A5O w.heap.size _ _ _ _ [.int .u32 (d:Nat)] rfl rfl (A7k d u) rfl (λ_=>rfl) (λ_=>rfl) (λ_ _=>rfl) Ho.out (by omega) (by omega) hG.sz λp v' w' g1 g2 g3=>?_;have hBn:=Bx.nil w';have hGn:=A0N Ho.out hG g2;clear Ho hB hG;have Ho:=B9I g1;have hB:=hBn;have hG:=hGn;clear g1 g2 g3 hBn hGn;obtain⟨u,rfl⟩:=exQ w';simp only[Act.put,List.setIfInBounds_toArray,List.set_cons_succ,List.set_cons_zero];refine NoK.norm (hN _ _ ?_);clear hN K;refine A6 ?_;refine r0E ?_;refine C5 ?_;refine A6 ?_;refine r0E ?_;refine A6 ?_;go_roundw
   case rel=>exact⟨i+1,c',zs++[d],by omega,by go_num,rfl,Hnx.out,by have:=Ho.out;rw[show k+(i+1)=k+i+1 by omega];simpa using this,hG⟩
   case measure=>simp[intOf];omega
  ·obtain rfl:N=i:=by omega
   have hnp:¬(N<=p):=by omega
   have hvv:=HI.out;have hNp:N=(B5 W32 a).length+1:=by rw[show(B5 W32 a).length=p from Hp.out.symm];omega
   rw[hNp]at hvv;have hv2:=hvv.done (H8 G0 a) (by omega);rw[E6 G0,C0G,Hpw.out]at hv2;obtain⟨A',cc,rfl,hcc1,hcc2,hL,hkl⟩:=A9z Ho.out;have htr:∀W,A4 u W->Calls Tryz.prog 139 #[.slice A' (k+N) cc] W λe w'=>e = .returned (.slice A' (ln (a*2^n)) cc)/\A4 W w':=λW hg=>by
    have h1:=A19 A' zs cc W (hL.grow hg) (by omega) (by unfold maxLen at hcc2;omega);have e:D6 zs=B5 W32 (a*2^n):=by rw[<-hv2];exact A56 G0 HI.out.2.1
    rw[e,<-hkl]at h1;exact h1
   have Htr:=B9I htr;have HL:=B9I hL;have Hv2:=B9I hv2;have Hkl:=B9I hkl;clear htr hL hv2 hvv hNp hkl;refine B9D ?_;refine r0T ?_;refine B9J (rfl) ?_;refine B9n ?_;refine B9 ?_;refine B9 ?_;refine E4 ?_;refine A6 ?_;refine B9D ?_;obtain⟨V,hV⟩:∃V,V=a*2^n:=⟨_,rfl⟩
   rw[<-hV]at Htr Hv2;have HV:=B9I hV;clear hV;refine rsE A8 [0,1,0] hB hG λL hL=>?_;refine gs ?_;refine gmd (C:=λv ⟨hgu,hB,hG,_⟩=>Htr.out _ hgu) ?_;refine gs ?_;refine geT hL ?_;clear hB hG hL L;rintro u ⟨hgu,hB,hG,-⟩;have hgf:=hgu;clear hgu;refine rt Tryz.results168 ?_;exact⟨(A',cc),by rw[<-HV.out];rfl,by rw[<-HV.out];exact(A40 HL.out HI.out.2.1 Hv2.out (by have:=Hkl.out;omega) (by unfold maxLen at hcc2;omega) (by have:=Hkl.out;omega)).1.grow hgf,hG⟩
end Go.Proofs.YtgpglgbcobeogaaGreatDoor
