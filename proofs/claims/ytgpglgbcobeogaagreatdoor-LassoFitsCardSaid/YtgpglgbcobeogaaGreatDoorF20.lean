import Derived.Test.YtgpglgbcobeogaaGreatDoorF19
set_option linter.unusedSimpArgs false
set_option linter.unusedVariables false
set_option maxHeartbeats 1000000
set_option maxRecDepth 100000
namespace Go.Proofs.YtgpglgbcobeogaaGreatDoor
open Go.RowKit
structure EI(T e:TypeId)(size bytes:Nat):Prop where
 und:Tryz.prog.underlying T=some (.slice e)
 ex:∃i z,Tryz.prog.info? e=some i∧i.zero=some z∧i.size=size∧i.bytes=bytes∧z.cells.size=size
 pos:0<size
theorem A1G{T e:TypeId}{size bytes:Nat}(h1:Tryz.prog.underlying T=some (.slice e))(h2:(Tryz.prog.info? e).map (fun i=>(i.zero.map fun z=>z.cells.size,i.size,i.bytes))=some (some size,size,bytes))(h3:0<size):EI T e size bytes:=by
 refine⟨h1,?_,h3⟩
 cases hi:Tryz.prog.info? e with
 | none=>rw[hi]at h2;cases h2
 | some i =>
  rw[hi]at h2;simp only[Option.map_some,Option.some.injEq,Prod.mk.injEq]at h2;obtain⟨h4,h5,h6⟩:=h2
  cases hz:i.zero with
  | none=>rw[hz]at h4;cases h4
  | some z =>
   rw[hz]at h4;simp only[Option.map_some,Option.some.injEq]at h4;exact⟨i,z,rfl,hz,h5,h6,h4⟩
theorem B3r{P:Program}{o:Oper}{a:Act}{w w':World}{K:Act→World→Prop}{Q:Exit→Act→World→Prop}{v:Value}(h:(execOp a.eval o).run P w = .ok (.value v) w')(hk:K (a.put o.dst v) w'):o.wp P a w K Q:=by
 unfold Oper.wp;rw[h];exact hk
theorem B6E{P:Program}{a:Act}{w w':World}{d:Option Tmp}{T:TypeId}{n:Nat}{x:Operand}{t:TypeId}{p:String}{f:Array Edge}{v:Value}(h:(Instr.buildSlice T n #[(0,a.eval x)]).run P w = .ok v w'):(execOp a.eval ⟨d,.buildSlice T n #[(0,x)],t,p,f,none⟩).run P w = .ok (.value v) w':=by
 unfold execOp;simp only[List.map_toArray,List.map_cons,List.map_nil,Sem.run_bind];rw[h];rfl
theorem V8{ops:Array Oper}{a:Act}{u:World}{K:Act→World→Prop}{d1 d2 d3:Option Nat}{x s z q:Operand}{t1 t2 t3:TypeId}{p1 p2 p3:String}{f1 f2 f3:Array Edge}{T e:TypeId}{size bytes:Nat}(hE:EI T e size bytes)
  (B:Nat) (v:Value) (n:Nat) (xs:List Value) (xv:Value) (ys:List Value) (hy:ys.length=size) (h1:(ys.all fun y=>y.oneCell')=true) (hb:(Instr.buildSlice T 1 #[(0,xv)]).run Tryz.prog u = .ok (.slice (some ⟨u.heap.size,0,none⟩) 1 1) (u.alloc (.cells ys.toArray e)))
  (hx:a.eval x=xv) (hs:∀p,(a.put d1 p).eval s=v) (hz:∀p,(a.put d1 p).eval z=p) (hq:∀p p',((a.put d1 p).put d2 p').eval q=p')
  (hown:u.ownsRow B e size v n xs) (hl:n+1≤1099511627776) (hl2:(n+1)*bytes≤140737488355328) (hB:B≤u.heap.size)
  (h:∀p v' w',w'.ownsRow B e size v' (n+1) (xs++ys)→(u.alloc (.cells ys.toArray e)).grownBy w' v.ownBlock→(v'.ownBlock=v.ownBlock∨v'.ownBlock=some (u.heap.size+1))→NoK K .normal (((a.put d1 p).put d2 v').put d3 v') w') :
  wpList Tryz.prog ops (NoK K) [⟨d1,.buildSlice T 1 #[(0,x)],t1,p1,f1,none⟩,⟨d2,.call { callee:=.builtin .append,args:=#[s,z],argTypes:=#[T,T] },t2,p2,f2,none⟩,⟨d3,.assign q,t3,p3,f3,none⟩] a u:=by
 obtain⟨hund,⟨i0,z0,hi0,hz0,hz1,hz2,hz3⟩,hpos⟩:=hE;refine wpList_plain rfl fun K1 hK1=>?_;have hb1:(Instr.buildSlice T 1 #[(0,a.eval x)]).run Tryz.prog u = .ok (.slice (some ⟨u.heap.size,0,none⟩) 1 1) (u.alloc (.cells ys.toArray e)):=by rw[hx];exact hb
 have hb2:=B6E (d:=d1) (t:=t1) (p:=p1) (f:=f1) hb1;unfold Oper.wp;rw[hb2];refine hK1 _ _ ?_;show wpList Tryz.prog ops (NoK K) _ (a.put d1 _) _;have hs1:=hs (.slice (some ⟨u.heap.size,0,none⟩) 1 1);have hz1':=hz (.slice (some ⟨u.heap.size,0,none⟩) 1 1);have hq1:=hq (.slice (some ⟨u.heap.size,0,none⟩) 1 1);have hh:=h (.slice (some ⟨u.heap.size,0,none⟩) 1 1);have ho:=hown.alloc (.cells ys.toArray e);generalize a.put d1 (.slice (some ⟨u.heap.size,0,none⟩) 1 1)=a1 at hs1 hz1' hq1 hh;refine wpList_append_own_at (u.alloc (.cells ys.toArray e)) (a:=a1) (Q:=NoK K) rfl s z T rfl B e i0 z0 size bytes hund hi0 hz0 hz1 hz2 hz3 hpos v n xs hs1 ho ⟨u.heap.size,0,none⟩ 1 1 ys hz1' (by rw[hy];omega) ?_ (fun y hy=>List.all_eq_true.1 h1 y hy) (by unfold maxLen;omega) hl2 (by rw[K9];omega) fun v' w' g1 g2 _ g4=>?_
 ·intro j y hj;rw[C0i,Nat.zero_add,Blk.cell (Blk.new u e ys.toArray) j,List.getElem?_toArray];exact hj
 ·rw[K9]at g4;refine wpList_plain rfl fun K2 hK2=>?_;refine B3r (v:=v') (w':=w') ?_ (hK2 _ _ (wpList_nil ?_))
  ·have e1:(execOp ((a1.put d2 v').eval) ⟨d3,.assign q,t3,p3,f3,none⟩).run Tryz.prog w' = .ok (.value ((a1.put d2 v').eval q)) w':=rfl;rw[hq1]at e1;exact e1
  ·exact hh v' w' g1 g2 g4
theorem A7M{u w':World}{B:Nat}{e:TypeId}{size n:Nat}{v:Value}{xs:List Value}{o:Obj}{l:List (Nat×TypeId×Array Value)}(h:u.ownsRow B e size v n xs)(hB:Bx u l)(ht:∀x∈l,x.2.1≠e)(hg:(u.alloc o).grownBy w' v.ownBlock):Bx w' l:=by
 refine(hB.grow (A4.alloc u o)).grown_ hg fun x hx hxe=>?_;obtain⟨_,h|⟨g,cap,cur,rfl,hb,hh,hn,hc,hs,ht2⟩⟩:=h
 ·rw[h.1]at hxe;cases hxe
 ·have h1:x.1=g:=B95 hxe;have h2:=hB x hx;unfold Blk at h2;rw[h1,hh]at h2;injection h2 with h2;injection h2 with _ h3 _;exact ht x hx h3.symm
theorem U9{w u w':World}{e:TypeId}{size n:Nat}{v:Value}{xs:List Value}{o:Obj}(h:u.ownsRow w.heap.size e size v n xs)(hG:A4 w u)(hg:(u.alloc o).grownBy w' v.ownBlock):A4 w w' :=
 (hG.trans (A4.alloc u o)).grown hg fun k hk=>(h.lt k hk).1
theorem C0{u u':World}{B:Nat}{e:TypeId}{s:Nat}{v:Value}{n:Nat}{xs:List Value}(h:u.ownsRow B e s v n xs)(hg:A4 u u'):u'.ownsRow B e s v n xs:=by
 obtain⟨h0,h|⟨g,cap,cur,rfl,hb,hh,hn,hc,hs,ht⟩⟩:=h
 ·exact⟨h0,.inl h⟩
 ·exact⟨h0,.inr ⟨g,cap,cur,rfl,hb,(hg.block g (M3 hh)).trans hh,hn,hc,hs,ht⟩⟩
theorem Lim.own{u w':World}{B:Nat}{e:TypeId}{size n:Nat}{v:Value}{xs:List Value}{o:Obj}{A:Option Addr}{l:List Nat}(hl:Lim u A l)(h:u.ownsRow B e size v n xs)(ht:e≠193)(hg:(u.alloc o).grownBy w' v.ownBlock):Lim w' A l:=fun hne=>by
 obtain⟨b,off,cs,fr,e1,hb,hc⟩:=hl hne;refine⟨b,off,cs,fr,e1,?_,hc⟩;have hlt:=M3 hb;have h2:(u.alloc o).heap[b]?=u.heap[b]?:=(A4.alloc u o).block b hlt;refine(hg.block b (by rw[K9];omega) fun hxe=>?_).trans (h2.trans hb);obtain⟨_,h|⟨g,cap,cur,rfl,hb',hh,hn,hc',hs,ht2⟩⟩:=h
 ·rw[h.1]at hxe;cases hxe
 ·have h1:b=g:=B95 hxe;rw[h1,hh]at hb;injection hb with hb;injection hb with _ h3 _;exact ht h3
theorem Rn.own{u w':World}{B:Nat}{e:TypeId}{size n:Nat}{v:Value}{xs:List Value}{o:Obj}{x:Ax}{a:Nat}(hl:Rn u x a)(h:u.ownsRow B e size v n xs)(ht:e≠193)(hg:(u.alloc o).grownBy w' v.ownBlock):Rn w' x a:=⟨hl.1.own h ht hg,hl.2⟩
theorem A9m(y:Int)(w:World):(Instr.buildSlice 29 1 #[(0,.int .u32 y)]).run Tryz.prog w = .ok (.slice (some ⟨w.heap.size,0,none⟩) 1 1) (w.alloc (.cells #[.int .u32 y] 193)):=by
 go_simp
theorem A5a(q:Rat)(w:World):(Instr.buildSlice 35 1 #[(0,qV q)]).run Tryz.prog w = .ok (.slice (some ⟨w.heap.size,0,none⟩) 1 1) (w.alloc (.cells #[.bool (E5 q.num),.int .u64 (B9 q.num.natAbs),.string (B6 q.num.natAbs),.int .u64 (B9 (I3 q.den)),.string (B6 (I3 q.den))] 48)):=by
 go_simp
theorem A7x(x y:Ax)(q:Rat)(w:World):(Instr.buildSlice 25 1 #[(0,rqV x y q)]).run Tryz.prog w = .ok (.slice (some ⟨w.heap.size,0,none⟩) 1 1) (w.alloc (.cells #[.bool (E5 q.num),.slice x.1 (ln q.num.natAbs) x.2,.slice y.1 (ln q.den) y.2] 33)):=by
 go_simp
abbrev A1b(l:List Nat):List Value:=l.map fun x=>Value.int .u32 (x:Nat)
theorem B5A{u:World}{B b:Nat}{l:List Nat}(h:Blk u b 193 (F7 l))(hb:B≤b)(hl:l.length≤maxLen):u.ownsRow B 193 1 (.slice (some ⟨b,0,none⟩) l.length l.length) l.length (A1b l) :=
 ⟨by simp,.inr ⟨b,l.length,F7 l,rfl,hb,h,B9z _,hl,by unfold F7;simp,by unfold F7;rw[C1M,C0r (by simp)]⟩⟩
theorem B12{u:World}{B n:Nat}{v:Value}{l:List Nat}(h:u.ownsRow B 193 1 v n (A1b l)):∃A c,v = .slice A n c∧n≤c∧c≤maxLen∧Lim u A l∧n=l.length:=by
 have hn:n=l.length:=by have:=h.1;simp at this;omega
 obtain⟨_,h|⟨g,cap,cur,rfl,hb,hh,hn',hc,hs,ht⟩⟩:=h
 ·obtain⟨rfl,h0⟩:=h;exact⟨none,0,by rw[h0],by omega,by unfold maxLen;omega,fun hne=>absurd (B93 (by omega)) hne,hn⟩
 ·refine⟨_,cap,rfl,hn',hc,fun _=>⟨g,0,cur,(0,0),rfl,hh,fun i x hi=>?_⟩,hn⟩;have hil:i<l.length:=(List.getElem?_eq_some_iff.1 hi).1;have h1:(cur.toList.take (n*1))[i]?=some (.int .u32 (x:Nat)):=by rw[ht,List.getElem?_map,hi];rfl
  rw[C1Y,if_pos (by omega)]at h1;rw[Nat.zero_add]
  simpa using h1
theorem A6w:EI 29 193 1 4:=A1G (by kernel_rfl) (by kernel_rfl) (by omega)
theorem A3T:EI 35 48 5 56:=A1G (by kernel_rfl) (by kernel_rfl) (by omega)
theorem A71:EI 25 33 3 56:=A1G (by kernel_rfl) (by kernel_rfl) (by omega)
theorem B6M{y:Nat}(h:y≠0):bl y=bl (y/2)+1:=by
 by_cases h1:y/2=0
 ·obtain rfl:y=1:=by omega
  rfl
 ·have:=A5j (x:=y%2) (y:=y/2) (k:=1) (by omega) h1;rw[show y%2+2^1*(y/2)=y by omega]at this;omega
theorem B0F{l:List Nat}(hd:Dig W32 l)(hn:0<l.length)(h0:dg l (l.length-1)≠0):bl (val W32 l)=32*(l.length-1)+bl (dg l (l.length-1)):=by
 have h1:=N9 W32 l (l.length-1);rw[show l.length-1+1=l.length by omega,C1o]at h1;have h2:=A7K G0 hd (l.length-1);rw[show W32=2^32 from rfl,←C0V]at h2;rw[h1,show W32^(l.length-1)=2^(32*(l.length-1))by rw[show W32=2^32 from rfl,←C0V]];exact A5j h2 h0
theorem A4W{a:Nat}(h:a≠0):dg (B5 W32 a) (ln a-1)≠0:=by
 have ht:=A2h F8 a;have hp:=A2S.2 h;have hl:ln a-1<(B5 W32 a).length:=by unfold ln at *;omega
 rcases ht with ht|ht
 ·rw[ht]at hl;cases hl
 ·rw[E6 hl];intro e;apply ht;rw[C0z,show(B5 W32 a).length-1=ln a-1 from rfl,C0f hl,e]
theorem B0i(x:Ax)(a:Nat)(w:World)(hx:Rn w x a)(ha:bl a≤1099511627776):Calls Tryz.prog 166 #[nvV x a] w fun e w'=>e = .returned (.int .i64 (bl a))∧A4 w w':=by
 obtain⟨A,c⟩:=x;by_cases h0:a=0
 ·subst h0;show Calls Tryz.prog 166 #[.slice A 0 c] w _;clear hx ha;go_enter Tryz.func166,Tryz.ntmps166;go_wp2_with fail;go_ret;exact⟨rfl,A4.refl _⟩
 ·have hp:=A2S.2 h0;have ht:=A4W h0;have hb:=B0F (I1 F8 a) hp ht;rw[E8 F8]at hb;have hl:ln a-1<(B5 W32 a).length:=by unfold ln at *;omega
  obtain⟨b1,o1,rfl,hc⟩:=hx.1.cell hl;have hnl:=A3w a;have htl:=dgl a (ln a-1);show Calls Tryz.prog 166 #[.slice (some ⟨b1,o1,none⟩) (ln a) c] w _;change bl a=32*(ln a-1)+bl (dg (B5 W32 a) (ln a-1))at hb;obtain⟨n,hn⟩:∃n,ln a=n+1:=⟨ln a-1,by omega⟩
  rw[hn,Nat.add_sub_cancel]at hb hc ht htl;rw[hn];obtain⟨T,hT⟩:∃T,T=dg (B5 W32 a) n:=⟨_,rfl⟩
  rw[←hT]at hb hc ht htl;have f1:((n+1:Nat):Int)-1=(n:Int):=by omega
  have f2:((n+1:Nat):Int)=(n:Int)+1:=by omega
  obtain⟨m,hm⟩:∃m,m=32*n:=⟨_,rfl⟩
  have f3:IntKind.i64.wrap (32*(n:Int))=(m:Int):=by rw[show 32*(n:Int)=((m:Nat):Int)by omega];exact C0g _ (by omega)
  have f4:32*(n:Int)=(m:Int):=by omega
  have fw:IntKind.i64.wrap (m:Int)=(m:Int):=C0g _ (by omega);have hb2:m+bl T=bl a:=by omega
  have Hb2:=C0P hb2;have hmm:m≤1099511627776:=by omega
  have hTb:bl T≤32:=S9.2 (by omega);have hz0:((n:Int)+1 == 0)=false:=by simp;omega
  clear hb hx hp hnl hn hT hm hb2 h0 hl;go_enter Tryz.func166,Tryz.ntmps166;go_wp2_with fail;go_loopw [3,4] (fun s t wr=>∃(k y:Nat),s = .int .i64 k∧t = .int .u32 y∧k+bl y=bl a∧y<4294967296∧k≤1099511627776+32∧wr=w) (fun _ t _=>(intOf t).toNat)
  case atStart=>exact⟨m,T,rfl,rfl,Hb2.out,htl,by omega,rfl⟩
  case round =>
   obtain⟨k,y,rfl,rfl,hk,hy,hkb,rfl⟩:=hrel;rcases C0J y with rfl|hpos
   ·have Hk:=C0P hk;clear hk;go_wp2_with fail;go_ret;have:=Hk.out;rw[A1C,Nat.add_zero]at this;exact⟨by rw[this];rfl,A4.refl _⟩
   ·have hh:=B6M (y:=y) (by omega);have hk2:k+1+bl (y/2)=bl a:=by omega
    have Hk:=C0P hk2;have hc1:decide ((0:Int)<(y:Int))=true:=by simp;omega
    obtain⟨z,hz⟩:∃z,z=y/2:=⟨_,rfl⟩
    have f5:(y:Int)/2=(z:Int):=by omega
    have hk1:k+1≤1099511627776+32:=by have:=Hk.out;omega
    have hzy:z<y:=by omega
    rw[←hz]at Hk;clear hk hk2 hh hz;go_wp2_with fail;go_roundw
    case rel=>exact⟨k+1,z,by go_num,rfl,Hk.out,by omega,hk1,by first|rfl|trivial⟩
    case measure=>simp[intOf];omega
def UpI(k r:Nat)(l:List Nat)(i c:Nat)(zs:List Nat):Prop:=zs.length=k+i∧Dig W32 zs∧c<2^r∧val W32 zs+c*W32^(k+i)=val W32 (l.take i)*2^r*W32^k
theorem UpI.start(k r:Nat)(l:List Nat):UpI k r l 0 0 (List.replicate k 0) :=
 ⟨by simp,fun z hz=>by rw[(List.mem_replicate.1 hz).2];exact G0,Nat.two_pow_pos r,by rw[A1w];simp[val]⟩
theorem UpI.next{k r:Nat}{l zs:List Nat}{i c:Nat}(h:UpI k r l i c zs)(hd:Dig W32 l):UpI k r l (i+1) ((c+dg l i*2^r)/W32) (zs++[(c+dg l i*2^r)%W32]):=by
 obtain⟨h1,h2,h3,h4⟩:=h;have hx:=C7 G0 hd i;refine⟨by simp[h1];omega,fun z hz=>?_,?_,?_⟩
 ·rcases List.mem_append.1 hz with hz|hz
  ·exact h2 z hz
  ·simp at hz;rw[hz];exact C0Y _ G0
 ·refine C1b ?_;have:(dg l i+1)*2^r≤W32*2^r:=C0n _ hx;rw[C1e,C1V]at this;omega
 ·rw[A1E,h1,N9];have e1:=A7b W32 (W32^(k+i)) (c+dg l i*2^r);have e2:W32^(k+i)*(c+dg l i*2^r)=c*W32^(k+i)+W32^i*dg l i*2^r*W32^k:=by rw[C0X];grind
  have e3:(val W32 (l.take i)+W32^i*dg l i)*2^r*W32^k=val W32 (l.take i)*2^r*W32^k+W32^i*dg l i*2^r*W32^k:=by grind
  rw[show k+(i+1)=k+i+1 by omega,Nat.pow_succ,e3,←h4];omega
theorem UpI.done{k r:Nat}{l zs:List Nat}{c:Nat}(h:UpI k r l (l.length+1) c zs)(hd:Dig W32 l)(hr:r≤32):val W32 zs=val W32 l*2^r*W32^k:=by
 obtain⟨h1,h2,h3,h4⟩:=h;rw[C0r (by omega)]at h4;have e1:=M5 hd;have e2:2^r≤W32:=by rw[show W32=2^32 from rfl];exact C0W (by omega) hr
 rcases C0J c with rfl|hc
 ·omega
 ·exfalso;have e3:val W32 l*2^r*W32^k<W32^l.length*W32*W32^k:=by
   refine C1p ?_ (C1q G0);exact C0U (C1p e1 (Nat.two_pow_pos r)) (C1I _ e2)
  have e4:W32^l.length*W32*W32^k=W32^(k+(l.length+1)):=by rw[C0X,Nat.pow_succ];grind
  have e5:W32^(k+(l.length+1))≤c*W32^(k+(l.length+1)):=Nat.le_mul_of_pos_left _ hc;omega
theorem A7L(x:Ax)(a n:Nat)(w:World)(hx:Rn w x a)(ha:bl a≤1099511627776)(hn:n≤1099511627776):Calls Tryz.prog 168 #[nvV x a,.int .i64 n] w (Ret (X4 (a*2^n)) w):=by
 have hat:∀i W,A4 w W→Calls Tryz.prog 196 #[nvV x a,.int .i64 (i:Nat)] W fun e w'=>e = .returned (.int .u64 (dg (B5 W32 a) i:Nat))∧A4 W w':=fun i W hg=>A9s x a i W (hx.grow hg);obtain⟨p,hp⟩:∃p,p=ln a:=⟨_,rfl⟩
 obtain⟨A,c⟩:=x;have hpl:=A3w a;rw[←hp]at hpl;change ∀i W,A4 w W→Calls Tryz.prog 196 #[.slice A (ln a) c,.int .i64 (i:Nat)] W _ at hat;show Calls Tryz.prog 168 #[.slice A (ln a) c,.int .i64 n] w _;rw[←hp]at hat;rw[←hp];obtain⟨k,hk⟩:∃k,k=n/32:=⟨_,rfl⟩
 obtain⟨r,hr⟩:∃r,r=n%32:=⟨_,rfl⟩
 have hr32:r<32:=by omega
 have q1:(n:Int).tdiv 32=(k:Nat):=by rw[C0N (by omega)];omega
 have q2:(n:Int).tmod 32=(r:Nat):=by rw[C0O (by omega)];omega
 have q3:(n:Int)/32=(k:Nat):=by omega
 have q4:(n:Int)%32=(r:Nat):=by omega
 have q5:IntKind.i64.wrap (k:Int)=(k:Int):=C0g _ (by omega);have q6:IntKind.i64.wrap (r:Int)=(r:Int):=C0g _ (by omega);have q7:IntKind.u64.wrap (r:Int)=(r:Int):=D9 (by omega);have q8:min r 64=r:=by omega
 have hpw:2^r*W32^k=2^n:=by
  rw[show W32=2^32 from rfl,←C0V,←C0X];congr 1;omega
 have hmk:=A5n k (by omega) (k:Int) rfl;have hnn:decide ((0:Int)≤(n:Int))=true:=by simp
 obtain⟨N,hN⟩:∃N,N=p+1:=⟨_,rfl⟩
 have hN1:N≤p+1:=by omega
 have hN2:p+1≤N:=by omega
 have hkb:k≤34359738400:=by omega
 have hpb:p≤34359738400:=by omega
 have Hat:=C0P hat;have Hp:=C0P hp;have Hpw:=C0P hpw;clear hat hp hx hk hr hpl ha hpw hN;go_enter Tryz.func168,Tryz.ntmps168;refine en0 ?_;intro u hG hB hF;refine C0K ?_;refine r0T ?_;refine C0S (rfl) ?_;refine r0T ?_;have hbo:=Blk.new u 193 (F7 (List.replicate k 0));have hF3:=Fr.new (tk:=[]) hF hB hG (B9z u.heap.size) (by simp);have hB3:=Bx.cons hbo (hB.grow (A4.alloc u (.cells (F7 (List.replicate k 0)) 193)));have hG3:=hG.trans (A4.alloc u (.cells (F7 (List.replicate k 0)) 193));simp only[List.cons_append,List.nil_append,List.map_cons,List.map_nil]at hF3;clear hB hF hG hbo;generalize World.alloc u _=v at  hB3 hG3⊢;generalize u.heap.size=b5 at hB3 hF3⊢;have hB:=hB3;have hF:=hF3;have hG:=hG3;clear hB3 hF3 hG3;obtain⟨u,rfl⟩:=exQ v;refine r0T ?_;refine C0K ?_;refine r0T ?_;refine C0s ?_;have hown:u.ownsRow w.heap.size 193 1 (.slice (some ⟨b5,0,none⟩) k k) k (A1b (List.replicate k 0)):=by
  have:=B5A hB.head (hF.1 b5 (by simp)) (by rw[C0c];unfold maxLen;omega);rw[C0c]at this;exact this
 have Hown:=C0P hown;clear hown hB hF;go_loopw [7,6,5] (fun s0 s1 s2 wr=>∃(i c:Nat) (zs:List Nat),i≤N∧s0 = .int .i64 i∧s1 = .int .u64 (c:Nat)∧UpI k r (B5 W32 a) i c zs∧wr.ownsRow w.heap.size 193 1 s2 (k+i) (A1b zs)∧A4 w wr) (fun s0 _ _ _=>N-(intOf s0).toNat)
 case atStart=>exact⟨0,0,List.replicate k 0,C0h _,rfl,rfl,UpI.start k r _,Hown.out,hG⟩
 case round =>
  clear hG Hown;obtain⟨i,c,zs,hi,rfl,rfl,hI,ho,hG⟩:=hrel;obtain⟨u,rfl⟩:=exQ wr;have hB:=Bx.nil u;have hF:=Fr.nil w;have HI:=C0P hI;have Ho:=C0P ho;clear hI ho;rcases B90 i N with hlt|hge
  ·have hip:i≤p:=by omega
   have e1:=dgl a i;have hnx:=HI.out.next (I1 F8 a);have hcr:=HI.out.2.2.1;have hat:=Hat.out i;obtain⟨X,hX⟩:∃X,X=dg (B5 W32 a) i:=⟨_,rfl⟩
   rw[←hX]at e1 hnx;simp only[←hX]at hat;obtain⟨m,hm⟩:∃m,m=X*2^r:=⟨_,rfl⟩
   rw[←hm]at hnx;have h31:(2:Nat)^r≤2147483648:=by rw[show(2147483648:Nat)=2^31 from rfl];exact C0W (by omega) (by omega)
   have hmb:m≤4294967295*2147483648:=by rw[hm];exact C1m (by omega) h31
   obtain⟨s,hs⟩:∃s,s=c+m:=⟨_,rfl⟩
   rw[←hs]at hnx;have f1:IntKind.u64.wrap ((X:Int)*2^r)=(m:Int):=by rw[show(X:Int)*2^r=((m:Nat):Int)by rw[hm];simp];exact D9 (by omega)
   have f2:bits BinOp.or IntKind.u64 (c:Int) (m:Int)=(s:Nat):=by rw[C0t c m (by omega) (by omega),A3M hcr (by rw[hm];exact C1C _ _),hs,C1D]
   obtain⟨d,hd⟩:∃d,d=s%4294967296:=⟨_,rfl⟩
   obtain⟨c',hc'⟩:∃d,d=s/4294967296:=⟨_,rfl⟩
   have hnx2:UpI k r (B5 W32 a) (i+1) c' (zs++[d]):=by rw[hc',hd];exact hnx
   have f3:(s:Int)%4294967296=(d:Int):=by omega
   have f3':IntKind.u32.wrap (s:Int)=(d:Int):=by rw[←f3];simp[IntKind.wrap,IntKind.signed,IntKind.bits]
   have f4:(s:Int)/4294967296=(c':Int):=by omega
   have Hat2:=C0P hat;have Hnx:=C0P hnx2;clear hnx hnx2 hat hX hm hs hd hc' hcr h31;refine C0K ?_;refine r0T ?_;refine C0S (rfl) ?_;refine C0R ?_;refine A6 ?_;refine C0K ?_;refine C0s ?_;refine C0K (rsE A8 [0,0,0,1,0,0,0,0,0,0] hB hG fun L hL=>?_);refine gs ?_;refine gmd (C:=fun v ⟨hgu,hB,hG,_⟩=>Hat2.out _ hG) ?_;refine gs ?_;refine geT hL ?_;clear hB hG hL L;rintro u ⟨hgu,hB,hG,-⟩;have Hon:=C0P (C0 Ho.out hgu);clear Ho;have Ho:=Hon;clear Hon;clear hgu;refine C0K ?_;refine T0 (w:=w) A8 3 [0,0,0] (by kernel_rfl) (by simp only[List.drop_succ_cons,List.drop_zero];exact rfl) (fun _=>True) noG hB hG trivial ?_;intro K L hN hL;simp only[List.zip_cons_cons,List.zip_nil_left];refine gs ?_;refine I5 ?_;rintro v ⟨hgu,hB1,hG1,-⟩;have ROWn:=C0P (C0 Ho.out hgu);clear Ho;have Ho:=ROWn;clear ROWn;clear hB hG;have hB:=hB1;have hG:=hG1;clear hB1 hG1;refine hL _ _ ?_;clear hL L hgu;obtain⟨u,rfl⟩:=exQ v;refine V8 A6w w.heap.size _ _ _ _ [.int .u32 (d:Nat)] rfl rfl (A9m d u) rfl (fun _=>rfl) (fun _=>rfl) (fun _ _=>rfl) Ho.out (by omega) (by omega) hG.sz fun p v' w' g1 g2 g3=>?_;have hBn:=Bx.nil w';have hGn:=U9 Ho.out hG g2;clear Ho hB hG;have Ho:=C0P g1;have hB:=hBn;have hG:=hGn;clear g1 g2 g3 hBn hGn;obtain⟨u,rfl⟩:=exQ w';simp only[Act.put,List.setIfInBounds_toArray,List.set_cons_succ,List.set_cons_zero];refine NoK.norm (hN _ _ ?_);clear hN K;refine A6 ?_;refine r0E ?_;refine C4 ?_;refine A6 ?_;refine r0E ?_;refine A6 ?_;go_roundw
   case rel=>exact⟨i+1,c',zs++[d],by omega,by go_num,rfl,Hnx.out,by have:=Ho.out;rw[show k+(i+1)=k+i+1 by omega];simpa using this,hG⟩
   case measure=>simp[intOf];omega
  ·obtain rfl:N=i:=by omega
   have hnp:¬(N≤p):=by omega
   have hvv:=HI.out;have hNp:N=(B5 W32 a).length+1:=by rw[show(B5 W32 a).length=p from Hp.out.symm];omega
   rw[hNp]at hvv;have hv2:=hvv.done (I1 F8 a) (by omega);rw[E8 F8,C1N,Hpw.out]at hv2;obtain⟨A',cc,rfl,hcc1,hcc2,hL,hkl⟩:=B12 Ho.out;have htr:∀W,A4 u W→Calls Tryz.prog 139 #[.slice A' (k+N) cc] W fun e w'=>e = .returned (.slice A' (ln (a*2^n)) cc)∧A4 W w':=fun W hg=>by
    have h1:=A2P A' zs cc W (hL.grow hg) (by omega) (by unfold maxLen at hcc2;omega);have e:D8 zs=B5 W32 (a*2^n):=by rw[←hv2];exact A5z F8 HI.out.2.1
    rw[e,←hkl]at h1;exact h1
   have Htr:=C0P htr;have HL:=C0P hL;have Hv2:=C0P hv2;have Hkl:=C0P hkl;clear htr hL hv2 hvv hNp hkl;refine C0K ?_;refine r0T ?_;refine C0Q (rfl) ?_;refine C0u ?_;refine B8 ?_;refine B8 ?_;refine E0 ?_;refine A6 ?_;refine C0K ?_;obtain⟨V,hV⟩:∃V,V=a*2^n:=⟨_,rfl⟩
   rw[←hV]at Htr Hv2;have HV:=C0P hV;clear hV;refine rsE A8 [0,1,0] hB hG fun L hL=>?_;refine gs ?_;refine gmd (C:=fun v ⟨hgu,hB,hG,_⟩=>Htr.out _ hgu) ?_;refine gs ?_;refine geT hL ?_;clear hB hG hL L;rintro u ⟨hgu,hB,hG,-⟩;have hgf:=hgu;clear hgu;refine rt Tryz.results168 ?_;exact⟨(A',cc),by rw[←HV.out];rfl,by rw[←HV.out];exact(A5m HL.out HI.out.2.1 Hv2.out (by have:=Hkl.out;omega) (by unfold maxLen at hcc2;omega) (by have:=Hkl.out;omega)).1.grow hgf,hG⟩
def A3P(P R:Nat)(l:List Nat)(i:Nat)(zs:List Nat):Prop:=zs.length=i∧∀t,t<i→dg zs t=dg l t/P+dg l (t+1)%P*R
theorem A3P.next{P R:Nat}{l zs:List Nat}{i:Nat}(h:A3P P R l i zs):A3P P R l (i+1) (zs++[dg l i/P+dg l (i+1)%P*R]):=by
 refine⟨by simp[h.1],fun t ht=>?_⟩;unfold dg;rcases B90 t i with hlt|hge
 ·rw[C1r (by rw[h.1];exact hlt)];exact h.2 t hlt
 ·obtain rfl:t=i:=by omega
  rw[C1s (by rw[h.1];exact B9z _),h.1,C0d];rfl
theorem A3P.done{P R:Nat}{l zs:List Nat}(h:A3P P R l l.length zs)(hW:W32=P*R)(hP:0<P)(hd:Dig W32 l):val W32 zs=val W32 l/P∧Dig W32 zs :=
 ⟨A4l hW hP G0 l zs hd h.1 h.2,fun x hx=>by
  obtain⟨t,ht,rfl⟩:=C1t hx;rw[←E6 ht,h.2 t (by rw[←h.1];exact ht)]
  exact(A2o hW hP (C7 G0 hd _)).1⟩
theorem B2d{x y P R:Nat}(hW:W32=P*R)(hP:0<P)(hx:x<W32):(x+y*W32)/P%W32=x/P+y%P*R:=by
 have h1:(x+y*W32)/P=x/P+y*R:=by rw[hW,show y*(P*R)=P*(y*R)by grind,C1h _ _ hP]
 rw[h1];have h2:=(A2o (y:=y) hW hP hx).1;have h3:y*R=y%P*R+(y/P)*W32:=by
  have:=C1Z y P
  calc y*R=(P*(y/P)+y%P)*R:=by rw[this]
   _=y%P*R+(y/P)*W32:=by rw[hW];grind
 rw[h3,←C1d,Nat.add_mul_mod_self_right,Nat.mod_eq_of_lt h2]
theorem B4I(x:Ax)(a n:Nat)(w:World)(hx:Rn w x a)(ha:bl a≤1099511627776)(hn0:0<n)(hn:n<32):Calls Tryz.prog 168 #[nvV x a,.int .i64 (-(n:Int))] w (Ret (X4 (a/2^n)) w):=by
 have hat:∀i W,A4 w W→Calls Tryz.prog 196 #[nvV x a,.int .i64 (i:Nat)] W fun e w'=>e = .returned (.int .u64 (dg (B5 W32 a) i:Nat))∧A4 W w':=fun i W hg=>A9s x a i W (hx.grow hg);obtain⟨p,hp⟩:∃p,p=ln a:=⟨_,rfl⟩
 obtain⟨A,c⟩:=x;have hpl:=A3w a;rw[←hp]at hpl;change ∀i W,A4 w W→Calls Tryz.prog 196 #[.slice A (ln a) c,.int .i64 (i:Nat)] W _ at hat;show Calls Tryz.prog 168 #[.slice A (ln a) c,.int .i64 (-(n:Int))] w _;rw[←hp]at hat;rw[←hp];have q1:(n:Int).tdiv 32=0:=by rw[C0N (by omega)];omega
 have q2:(n:Int).tmod 32=(n:Nat):=by rw[C0O (by omega)];omega
 have q3:(n:Int)/32=0:=by omega
 have q4:(n:Int)%32=(n:Nat):=by omega
 have q5 : - (-(n:Int))=(n:Int):=by omega
 have q6:IntKind.i64.wrap (n:Int)=(n:Int):=C0g _ (by omega);have q7:IntKind.u64.wrap (n:Int)=(n:Int):=D9 (by omega);have q8:min n 64=n:=by omega
 have hnz:¬n=0:=by omega
 obtain⟨t,ht⟩:∃t,t=32-n:=⟨_,rfl⟩
 have hpw:W32=2^n*2^t:=by rw[←C0X,show n+t=32 by omega];rfl
 have hpb:p≤34359738400:=by omega
 have Hat:=C0P hat;have Hp:=C0P hp;have Hpw:=C0P hpw;clear hat hp hx hpl ha hpw ht;go_enter Tryz.func168,Tryz.ntmps168;refine en0 ?_;intro u hG hB hF;refine C0K ?_;refine r0T ?_;refine C0Q (rfl) ?_;refine C0R ?_;refine A6 ?_;refine r0T ?_;refine r0T ?_;refine C0K ?_;refine r0T ?_;refine C0s ?_;clear hB hF;go_loopw [9,8] (fun s0 s2 wr=>∃(i:Nat) (zs:List Nat),i≤p∧s0 = .int .i64 i∧A3P (2^n) (2^t) (B5 W32 a) i zs∧wr.ownsRow w.heap.size 193 1 s2 i (A1b zs)∧A4 w wr) (fun s0 _ _=>p-(intOf s0).toNat)
 case atStart=>exact⟨0,[],C0h _,rfl,⟨rfl,fun t ht=>by omega⟩,C1u _ _ _ _,hG⟩
 case round =>
  clear hG;obtain⟨i,zs,hi,rfl,hI,ho,hG⟩:=hrel;obtain⟨u,rfl⟩:=exQ wr;have hB:=Bx.nil u;have hF:=Fr.nil w;have HI:=C0P hI;have Ho:=C0P ho;clear hI ho;rcases B90 i p with hlt|hge
  ·have hdec:decide ((i:Int)<(p:Int))=true:=by simp;omega
   have e1:=dgl a i;have e2:=dgl a (i+1);have hnx:=HI.out.next;have hat:=Hat.out i;obtain⟨i1,hi1⟩:∃j,j=i+1:=⟨_,rfl⟩
   have hat1:=Hat.out i1;rw[←hi1]at e2 hnx;have fi:IntKind.i64.wrap ((i:Int)+1)=(i1:Int):=by rw[show(i:Int)+1=((i1:Nat):Int)by omega];exact C0g _ (by omega)
   obtain⟨X,hX⟩:∃X,X=dg (B5 W32 a) i:=⟨_,rfl⟩
   obtain⟨Y,hY⟩:∃X,X=dg (B5 W32 a) i1:=⟨_,rfl⟩
   rw[←hX]at e1 hnx;rw[←hY]at e2 hnx;simp only[←hX]at hat;simp only[←hY]at hat1;obtain⟨m,hm⟩:∃m,m=Y*4294967296:=⟨_,rfl⟩
   obtain⟨s,hs⟩:∃s,s=X+m:=⟨_,rfl⟩
   have f1:IntKind.u64.wrap ((Y:Int)*4294967296)=(m:Int):=by rw[show(Y:Int)*4294967296=((m:Nat):Int)by omega];exact D9 (by omega)
   have f1b:(Y:Int)*4294967296=(m:Int):=by omega
   have f1c:IntKind.u64.wrap (m:Int)=(m:Int):=D9 (by omega);have f2:bits BinOp.or IntKind.u64 (X:Int) (m:Int)=(s:Nat):=by rw[C0t X m (by omega) (by omega),A3M (s:=32) e1 (by rw[hm];exact C1C _ _),hs,C1D]
   obtain⟨g,hg⟩:∃g,g=s/2^n:=⟨_,rfl⟩
   have f3:(s:Int)/2^n=(g:Int):=by rw[hg];simp
   obtain⟨d,hd⟩:∃d,d=g%4294967296:=⟨_,rfl⟩
   have f4:(g:Int)%4294967296=(d:Int):=by omega
   have f4':IntKind.u32.wrap (g:Int)=(d:Int):=by rw[←f4];simp[IntKind.wrap,IntKind.signed,IntKind.bits]
   have hdl:X/2^n+Y%2^n*2^t=d:=by
    rw[hd,hg,hs,hm];exact(B2d (x:=X) (y:=Y) Hpw.out (Nat.two_pow_pos n) e1).symm
   rw[hdl,hi1]at hnx;have Hat0:=C0P hat;have Hat1:=C0P hat1;have Hnx:=C0P hnx;have Hi1:=C0P hi1;clear hnx hat hat1 hX hY hm hs hg hd hdl hi1;refine C0K ?_;refine r0T ?_;refine C0S (rfl) ?_;refine C0R ?_;refine A6 ?_;refine C0K ?_;refine C0s ?_;refine C0K (rsE A8 [0,0,1,0,0,0,1,0,0,0] hB hG fun L hL=>?_);refine gs ?_;refine gmd (C:=fun v ⟨hgu,hB,hG,_⟩=>Hat0.out _ hG) ?_;refine gs ?_;refine gmd (C:=fun v ⟨hgu,hB,hG,_⟩=>Hat1.out _ hG) ?_;refine gs ?_;refine geT hL ?_;clear hB hG hL L;rintro u ⟨hgu,hB,hG,-⟩;have Hon:=C0P (C0 Ho.out hgu);clear Ho;have Ho:=Hon;clear Hon;clear hgu;refine T0 (w:=w) A8 7 [0,0,0,0,0,0,0] (by kernel_rfl) (by simp only[List.drop_succ_cons,List.drop_zero];exact rfl) (fun _=>True) noG hB hG trivial ?_;intro K L hN hL;simp only[List.zip_cons_cons,List.zip_nil_left];refine gs ?_;refine I5 ?_;rintro v ⟨hgu,hB1,hG1,-⟩;have ROWn:=C0P (C0 Ho.out hgu);clear Ho;have Ho:=ROWn;clear ROWn;clear hB hG;have hB:=hB1;have hG:=hG1;clear hB1 hG1;refine hL _ _ ?_;clear hL L hgu;obtain⟨u,rfl⟩:=exQ v;refine V8 A6w w.heap.size _ _ _ _ [.int .u32 (d:Nat)] rfl rfl (A9m d u) rfl (fun _=>rfl) (fun _=>rfl) (fun _ _=>rfl) Ho.out (by omega) (by omega) hG.sz fun p v' w' g1 g2 g3=>?_;have hBn:=Bx.nil w';have hGn:=U9 Ho.out hG g2;clear Ho hB hG;have Ho:=C0P g1;have hB:=hBn;have hG:=hGn;clear g1 g2 g3 hBn hGn;obtain⟨u,rfl⟩:=exQ w';simp only[Act.put,List.setIfInBounds_toArray,List.set_cons_succ,List.set_cons_zero];refine NoK.norm (hN _ _ ?_);clear hN K;refine C4 ?_;refine A6 ?_;refine r0E ?_;refine A6 ?_;go_roundw
   case rel=>exact⟨i1,zs++[d],by have:=Hi1.out;omega,by first|rfl|go_num,by rw[Hi1.out];exact Hnx.out,by have:=Ho.out;rw[Hi1.out];simpa using this,hG⟩
   case measure=>have:=Hi1.out;simp[intOf];omega
  ·obtain rfl:p=i:=by omega
   have hdec:decide ((p:Int)<(p:Int))=false:=by simp
   have hvv:=HI.out;rw[show p=(B5 W32 a).length from Hp.out]at hvv;obtain⟨hv2,hdd⟩:=hvv.done Hpw.out (Nat.two_pow_pos n) (I1 F8 a);rw[E8 F8]at hv2;obtain⟨A',cc,rfl,hcc1,hcc2,hL,hkl⟩:=B12 Ho.out;have htr:∀W,A4 u W→Calls Tryz.prog 139 #[.slice A' p cc] W fun e w'=>e = .returned (.slice A' (ln (a/2^n)) cc)∧A4 W w':=fun W hg=>by
    have h1:=A2P A' zs cc W (hL.grow hg) (by omega) (by unfold maxLen at hcc2;omega);have e:D8 zs=B5 W32 (a/2^n):=by rw[←hv2];exact A5z F8 hdd
    rw[e,←hkl]at h1;exact h1
   have Htr:=C0P htr;have HL:=C0P hL;have Hv2:=C0P hv2;have Hkl:=C0P hkl;have Hdd:=C0P hdd;clear htr hL hv2 hvv hkl hdd;refine C0K ?_;refine r0T ?_;refine C0Q (rfl) ?_;refine C0u ?_;refine B8 ?_;refine B8 ?_;refine E0 ?_;refine A6 ?_;refine C0K ?_;obtain⟨V,hV⟩:∃V,V=a/2^n:=⟨_,rfl⟩
   rw[←hV]at Htr Hv2;have HV:=C0P hV;clear hV;refine rsE A8 [0,1,0] hB hG fun L hL=>?_;refine gs ?_;refine gmd (C:=fun v ⟨hgu,hB,hG,_⟩=>Htr.out _ hgu) ?_;refine gs ?_;refine geT hL ?_;clear hB hG hL L;rintro u ⟨hgu,hB,hG,-⟩;have hgf:=hgu;clear hgu;refine rt Tryz.results168 ?_;exact⟨(A',cc),by rw[←HV.out];rfl,by rw[←HV.out];exact(A5m HL.out Hdd.out Hv2.out (by have:=Hkl.out;omega) (by unfold maxLen at hcc2;omega) (by have:=Hkl.out;omega)).1.grow hgf,hG⟩
end Go.Proofs.YtgpglgbcobeogaaGreatDoor
namespace Go.Proofs.YtgpglgbcobeogaaGreatDoor
def GJ(W u2 u1 u0 v1 v0 g r:Nat):Prop:=g≤W+1∧r<W∧g*v1+r=u2*W+u1∧∀g',g'<W→g'*(v1*W+v0)≤(u2*W+u1)*W+u0→g'≤g
theorem GJ.start{W u2 u1 u0 v1 v0:Nat}(hW:0<W)(h:u2≤v1)(hv:W≤2*v1)(hvW:v1<W)(h1:u1<W)(h0:u0<W):GJ W u2 u1 u0 v1 v0 ((u2*W+u1)/v1) ((u2*W+u1)%v1):=by
 have hp:0<v1:=by omega
 have e1:u2*W≤v1*W:=C0n _ h;refine⟨?_,C0l (C0Y _ hp) hvW,by rw[C0q];exact C1Z _ _,fun g' _ hg=>?_⟩
 ·have:(u2*W+u1)/v1<W+2:=(C1n hp).2 (by rw[C1e,C0q W v1];omega);omega
 ·rw[C1v hp];have h2:g'*v1*W≤g'*(v1*W+v0):=by rw[C1l,C1N];omega
  have h3:g'*v1*W<(u2*W+u1+1)*W:=by rw[C1e (u2*W+u1),C1V];omega
  have:=C1i h3;omega
theorem GJ.small{W u2 u1 u0 v1 v0 g r:Nat}(h:GJ W u2 u1 u0 v1 v0 g r)(hg:g<W):GI W u2 u1 u0 v1 v0 g r:=⟨hg,h.2.2.1,h.2.2.2⟩
theorem GI.back{W u2 u1 u0 v1 v0 g r:Nat}(h:GI W u2 u1 u0 v1 v0 g r)(hr:r<W):GJ W u2 u1 u0 v1 v0 g r:=⟨by have:=h.1;omega,hr,h.2.1,h.2.2⟩
theorem GJ.big{W u2 u1 u0 v1 v0 g r:Nat}(h:GJ W u2 u1 u0 v1 v0 g r)(hg:W≤g)(hu:u2≤v1)(h1:u1<W)(h0:v0<W)(hW:0<W) :
  (W≤r+v1→GW W u2 u1 u0 v1 v0 (g-1))∧(r+v1<W→GJ W u2 u1 u0 v1 v0 (g-1) (r+v1)):=by
 obtain⟨k,rfl⟩:∃k,g=k+1:=⟨g-1,by omega⟩
 obtain⟨a1,a2,a3,a4⟩:=h;rw[Nat.add_sub_cancel];have e1:k*v1+(r+v1)=u2*W+u1:=by rw[C1e,C1V]at a3;omega
 refine⟨fun hr=>?_,fun hr=>⟨by omega,hr,e1,fun g' hg' _=>by omega⟩⟩;have hk:k<W:=by
  rcases B90 k W with h|h
  ·exact h
  ·exfalso;have e2:W*v1≤k*v1:=C0n _ h;have e3:u2*W≤v1*W:=C0n _ hu;rw[C0q v1]at e3;omega
 exact GI.over (r:=r+v1) ⟨hk,e1,fun g' hg' _=>by omega⟩ h0 hr
theorem GJ.less{W u2 u1 u0 v1 v0 g r:Nat}(h:GJ W u2 u1 u0 v1 v0 g r)(hg:g<W)(hs:¬g*v0≤r*W+u0)(h0:v0<W) :
  0<g∧(W≤r+v1→GW W u2 u1 u0 v1 v0 (g-1))∧(r+v1<W→GJ W u2 u1 u0 v1 v0 (g-1) (r+v1)):=by
 obtain⟨a1,a2⟩:=(h.small hg).next hs;exact⟨a1,fun hr=>a2.over h0 hr,fun hr=>a2.back hr⟩
theorem GJ.stop{W u2 u1 u0 v1 v0 g r:Nat}(h:GJ W u2 u1 u0 v1 v0 g r)(hg:g<W)(hs:g*v0≤r*W+u0):GW W u2 u1 u0 v1 v0 g:=(h.small hg).stop hs
theorem B8u{a n:Nat}(h1:W32^n≤a)(h2:a<W32^(n+1)):ln a=n+1:=by
 have e1:=M5 (I1 F8 a);rw[E8 F8]at e1;have hl:n<ln a:=by
  rcases B90 n (ln a)with h|h
  ·exact h
  ·exfalso;have:W32^ln a≤W32^n:=C0W G0 h;change a<W32^ln a at e1;omega
 rcases B90 (n+1) (ln a)with h|h
 ·exfalso;have h0:a≠0:=by
   have:0<W32^n:=C1q G0;omega
  have e3:=N9 W32 (B5 W32 a) (ln a-1);rw[show ln a-1+1=ln a by omega,show ln a=(B5 W32 a).length from rfl,C1o,E8 F8]at e3;have e4:=A4W h0;rw[show ln a=(B5 W32 a).length from rfl]at e4;have e5:W32^((B5 W32 a).length-1)*1≤W32^((B5 W32 a).length-1)*dg (B5 W32 a) ((B5 W32 a).length-1):=C1I _ (by omega);have e6:W32^(n+1)≤W32^((B5 W32 a).length-1):=C0W G0 (by change n+1<(B5 W32 a).length at h;omega);omega
 ·omega
theorem B8E{b n1 s:Nat}(hl:ln b=n1+1)(hs:s=32*ln b-bl b):s<32∧bl b+s=32*(n1+1)∧ln (b*2^s)=n1+1∧b*2^s<W32^(n1+1)∧W32^n1*2147483648≤b*2^s∧2147483648≤dg (B5 W32 (b*2^s)) n1:=by
 have h0:b≠0:=by intro e;rw[e,A58]at hl;omega
 have hb:=B0F (I1 F8 b) (by change 0<ln b;omega) (A4W h0);rw[E8 F8]at hb;change bl b=32*(ln b-1)+bl (dg (B5 W32 b) (ln b-1))at hb;have ht:=W7.2 (A4W h0);have hd:bl (dg (B5 W32 b) (ln b-1))≤32:=S9.2 (dgl b _);rw[hl]at hb hs ht hd;have e1:bl b+s=32*(n1+1):=by omega
 have e2:W32^(n1+1)=2^(32*(n1+1)):=by rw[show W32=2^32 from rfl,←C0V]
 have e3:b*2^s<W32^(n1+1):=by
  rw[e2,←e1,C0X];exact C1p (A02 b) (Nat.two_pow_pos s)
 have e4:W32^n1*2147483648≤b*2^s:=by
  have h1:2^(bl b-1)≤b:=A1U.1 (by omega);rw[show W32^n1=2^(32*n1)by rw[show W32=2^32 from rfl,←C0V],show 2147483648=2^31 from rfl,←C0X,show 32*n1+31=bl b-1+s by omega,C0X];exact C0n _ h1
 have e5:ln (b*2^s)=n1+1:=B8u (by have:W32^n1*1≤W32^n1*2147483648:=C1I _ (by omega);omega) e3;refine⟨by omega,e1,e5,e3,e4,?_⟩;have h3:=N9 W32 (B5 W32 (b*2^s)) n1;rw[show(B5 W32 (b*2^s)).take (n1+1)=B5 W32 (b*2^s)by rw[←e5];exact C1o,E8 F8]at h3;have h4:=A7K G0 (I1 F8 (b*2^s)) n1;rcases B90 (dg (B5 W32 (b*2^s)) n1) 2147483648 with h|h
 ·exfalso;have h5:W32^n1*(dg (B5 W32 (b*2^s)) n1+1)≤W32^n1*2147483648:=C1I _ h;rw[C1l,C1M]at h5;omega
 ·exact h
theorem B2g{a V n1 k0:Nat}(hV:W32^n1≤V)(hk:n1+1+k0=ln a+2):DvI W32 V a k0 (B5 W32 a++[0,0]) (List.replicate k0 0):=by
 have hv:val W32 (B5 W32 a++[0,0])=a:=by rw[A0V,E8 F8];simp[val]
 refine⟨fun x hx=>?_,fun x hx=>by rw[(List.mem_replicate.1 hx).2];exact G0,by rw[A1w,hv];simp,?_,fun t _=>by unfold dg;rw[C1c];split<;>rfl⟩
 ·rcases List.mem_append.1 hx with h|h
  ·exact I1 F8 a x h
  ·have:x=0:=by simpa using h
   rw[this];exact G0
 ·rw[hv];have e1:=M5 (I1 F8 a);rw[E8 F8]at e1;change a<W32^ln a at e1
  calc a<W32^ln a:=e1
   _≤W32^(n1+k0):=C0W G0 (by omega)
   _=W32^n1*W32^k0:=C0X _ _ _
   _≤V*W32^k0:=C0n _ hV
theorem DvI.top'{W X j n2:Nat}{us qs vs:List Nat}(hW:0<W)(h:DvI W (val W vs) X (j+1) us qs)(hv:Dig W vs)(hvW:val W vs<W^(n2+2)) :
  Dig W (us.drop j)∧(∀t,n2+3≤t→dg (us.drop j) t=0)∧(∀t,n2+2≤t→dg vs t=0)∧val W (us.drop j)<val W vs*W∧(∀t,j+n2+3≤t→dg us t=0):=by
 have hp:0<W^j:=C1q hW;have h1:val W us<W^(j+n2+3):=by
  refine C0U h.2.2.2.1 ?_
  calc val W vs*W^(j+1)≤W^(n2+2)*W^(j+1):=C0n _ (B98 hvW)
   _=W^(j+n2+3):=by rw[←C0X];congr 1;omega
 have h2:=A3e hW h.1 h1;refine⟨fun x hx=>h.1 x (C1B hx),fun t ht=>by rw[A1W];exact h2 _ (by omega),A3e hW hv hvW,?_,h2⟩;rw[←A4H hW h.1,C1n hp,C1N,C0q W,←Nat.pow_succ];exact h.2.2.2.1
theorem B2X{W g x cy:Nat}(hW:0<W):g*x/W+(g*x%W+cy)/W=(cy+g*x)/W∧(g*x%W+cy)%W=(cy+g*x)%W:=by
 have e1:=C1Z (g*x) W;constructor
 ·have:cy+g*x=g*x%W+cy+W*(g*x/W):=by omega
  rw[this,C1h _ _ hW];omega
 ·have:cy+g*x=g*x%W+cy+W*(g*x/W):=by omega
  rw[this,C1F]
end Go.Proofs.YtgpglgbcobeogaaGreatDoor
namespace Go.Proofs.YtgpglgbcobeogaaGreatDoor
open Go.RowKit
theorem B7Y{w w1 w2:World}{x:Ax}{X:Nat}(hX:X≠0)(hg1:A4 w w1)(hg2:A4 (w1.alloc (.cells #[] 193)) w2)(hx:Rn w2 x X)(hl:ln X≤34359738500) :
  ∃v1 w3,(Builtin.append_ #[29,29] 29 #[.slice (some ⟨w1.heap.size,0,none⟩) 0 0,.slice x.1 (ln X) x.2]).run Tryz.prog w2 = .ok v1 w3 ∧
  ∃(g cap:Nat) (J:Array Value) (w4:World),(Builtin.append_ #[29,29] 29 #[v1,.slice (some ⟨w3.heap.size,0,none⟩) 2 2]).run Tryz.prog (w3.alloc (.cells #[.int .u32 0,.int .u32 0] 193)) = .ok (.slice (some ⟨g,0,none⟩) (ln X+2) cap) w4 ∧
   ln X+2≤cap∧cap≤maxLen∧Blk w4 g 193 (F7 (B5 W32 X++[0,0])++J)∧A4 w w4∧w1.heap.size≤g∧g<w4.heap.size∧A4 w1 w4:=by
 obtain⟨A,c⟩:=x;obtain⟨hund,⟨i0,z0,hi0,hz0,hz1,hz2,hz3⟩,hpos⟩:=A6w;have hlp:=A2S.2 hX;obtain⟨b,o,hA,-⟩:=hx.1.cell (i:=0) hlp;have hA:A=some ⟨b,o,none⟩:=hA;subst hA
 have hown0:w2.ownsRow w1.heap.size 193 1 (.slice (some ⟨w1.heap.size,0,none⟩) 0 0) 0 [] :=
  ⟨rfl,.inr ⟨w1.heap.size,0,#[],rfl,B9z _,Blk.grow hg2 (Blk.new w1 193 #[]),B9z _,C0h _,rfl,rfl⟩⟩
 have hs2:=hg2.size;rw[K9]at hs2
 obtain⟨v1,w3,r1,o1,g1,-,k1⟩:=run_append_own_at (P:=Tryz.prog) (w:=w2) w1.heap.size 29 29 193 i0 z0 1 4 hund hi0 hz0 hz1 hz2 hz3 hpos _ 0 [] hown0 ⟨b,o,none⟩ (ln X) c (A1b (B5 W32 X)) (by simp[ln]) (fun j v hj=>by
  rw[List.getElem?_map]at hj;obtain⟨hjl,-⟩:∃h:j<(B5 W32 X).length,True:=by
   rcases B90 j (B5 W32 X).length with h|h
   ·exact⟨h,trivial⟩
   ·rw[C1k h]at hj;cases hj
  obtain⟨b',o',e,hc⟩:=hx.1.cell hjl;cases e;rw[C0i,hc,←hj,C0f hjl,E6 hjl];rfl) (fun v hv=>by
  obtain⟨y,_,rfl⟩:=List.mem_map.1 hv
  rfl) (by unfold maxLen;omega) (by omega) (by omega)
 have hG3:A4 w1 w3:=((A4.alloc w1 _).trans hg2).grown g1 fun k hk=>by
  cases hk;exact B9z _
 refine⟨v1,w3,r1,?_⟩;have o1':=o1.alloc (.cells #[.int .u32 0,.int .u32 0] 193)
 obtain⟨v2,w4,r2,o2,g2,n2,k2⟩:=run_append_own_at (P:=Tryz.prog) (w:=w3.alloc (.cells #[.int .u32 0,.int .u32 0] 193)) w1.heap.size 29 29 193 i0 z0 1 4 hund hi0 hz0 hz1 hz2 hz3 hpos v1 _ _ o1' ⟨w3.heap.size,0,none⟩ 2 2 (A1b [0,0]) rfl (fun j v hj=>by
  rw[C0i,Nat.zero_add,Blk.cell (Blk.new w3 193 #[.int .u32 0,.int .u32 0]) j];rw[←hj];simp[A1b]) (fun v hv=>by
  obtain⟨y,_,rfl⟩:=List.mem_map.1 hv
  rfl) (by unfold maxLen;omega) (by omega) (by have:=hG3.size;rw[K9];omega)
 have hG4:A4 w1 w4:=(hG3.trans (A4.alloc w3 _)).grown g2 fun k hk=>(o1.lt k hk).1;obtain⟨ol,h|⟨g,cap,cur,rfl,hb,hh,hn,hc,hsz,ht⟩⟩:=o2
 ·omega
 ·rw[Nat.zero_add]at r2 hn ht;refine⟨g,cap,(cur.toList.drop ((ln X+2)*1)).toArray,w4,r2,hn,hc,?_,hg1.trans hG4,hb,M3 hh,hG4⟩;have e:F7 (B5 W32 X++[0,0])++(cur.toList.drop ((ln X+2)*1)).toArray=cur:=by
   apply Array.toList_inj.1;rw[Array.toList_append,show(F7 (B5 W32 X++[0,0])).toList=cur.toList.take ((ln X+2)*1)by rw[ht];simp[F7,A1b]];simp
  rw[e];exact hh
end Go.Proofs.YtgpglgbcobeogaaGreatDoor
