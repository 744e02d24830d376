import Derived.Test.YtgpglgbcobeogaaGreatDoorN25
set_option linter.unusedSimpArgs false
set_option linter.unusedVariables false
set_option maxHeartbeats 2000000
set_option maxRecDepth 100000
namespace Go.Proofs.YtgpglgbcobeogaaGreatDoor
open Go Go.RowKit
def B7(rs:List (List Rat))(i:Nat):List Rat:=(rs[i]?).getD []
def E7(a b:List Rat)(n:Nat):Rat:=C8 (λi=>D5 (gq a i) (gq b i)) n
theorem B31(a b:List Rat)(n:Nat):E7 a b (n+1)=G5 (E7 a b n) (D5 (gq a n) (gq b n)):=rfl
theorem A7B(a b:List Rat)(n:Nat):E7 a b n=E7 b a n:=G7 λi _=>by unfold D5;exact Rat.mul_comm _ _
theorem A1m{a b:List Rat}{n s t:Nat}(ha:∀i,i<n->qs (gq a i)<=s)(hb:∀i,i<n->qs (gq b i)<=t):∀j,j<=n->qs (E7 a b j)<=j*(s+t+1)+1:=λj hj =>
 A6O _ (s+t) n (λi hi=>B9A (Z8 _ _) (Nat.add_le_add (ha i hi) (hb i hi))) j hj
theorem W5(f:Nat->Rat){n i:Nat}(h:i<n):gq ((List.range n).map f) i=f i:=by
 show((((List.range n).map f)[i]?).getD 0)=_;simp[h]
def Y7(X:List (List Rat))(y w:List Rat)(n L:Nat):List Rat:=(List.range n).map λi=>D9 (gq y i) (E7 w (B7 X i) L)
def J3(X:List (List Rat))(j n:Nat):List Rat:=(List.range n).map λi=>gq (B7 X i) j
def R3(X:List (List Rat))(y w:List Rat)(n L:Nat):List Rat:=(List.range L).map λj=>E7 (J3 X j n) (Y7 X y w n L) n
def A2M(w:List Rat)(L:Nat):Rat:=C8 (λj=>Q5 (gq w j)) L
def A4N(X:List (List Rat))(y w:List Rat)(n L:Nat)(a:Rat):Rat:=G5 (H9 (E7 (Y7 X y w n L) (Y7 X y w n L) n) (B4 2)) (D5 a (A2M w L))
def R9(a b:Rat):Rat:=if a<b then b else a
def U5(p:List Rat):Nat->Rat
 | 0=>0
 | n+1=>R9 (U5 p n) (Q5 (gq p n))
def S7(n:Nat):List Rat:=List.replicate n 0
def M5(X:List (List Rat))(y:List Rat)(n L:Nat):Rat:=U5 (R3 X y (S7 L) n L) L
def S8(p w a:Rat):Bool:=if 0<w then decide (p=a)else if w<0 then decide (p=I4 a)else decide (Q5 p<=a)
def W6(f:Nat->Bool):Nat->Nat->Nat
 | 0,i=>i
 | k+1,i=>if f i then W6 f k (i+1)else i
theorem A2e(f:Nat->Bool)(k i:Nat):i<=W6 f k i/\W6 f k i<=i+k/\(∀j,i<=j->j<W6 f k i->f j=true)/\(W6 f k i<i+k->f (W6 f k i)=false):=by
 induction k generalizing i with
 | zero=>exact⟨B8s _,B8s _,λj h1 h2=>absurd h2 (by simp[W6];omega),λh=>absurd h (by simp[W6])⟩
 | succ k ih =>
  unfold W6
  cases hf:f i with
  | true =>
   rw[if_pos rfl];obtain⟨h1,h2,h3,h4⟩:=ih (i+1);refine⟨by omega,by omega,λj h5 h6=>?_,λh5=>h4 (by omega)⟩;rcases C0x h5 with h|h
   ·rw[<-h];exact hf
   ·exact h3 j h h6
  | false =>
   rw[if_neg (by simp)];exact⟨B8s _,by omega,λj h5 h6=>absurd h6 (by omega),λ_=>hf⟩
def Y6(X:List (List Rat))(y w:List Rat)(n L:Nat)(a:Rat):Nat:=W6 (λj=>S8 (gq (R3 X y w n L) j) (gq w j) a) L 0
theorem B3z(X:List (List Rat))(y w:List Rat)(n L:Nat)(a:Rat):Y6 X y w n L a<=L/\(∀j,j<Y6 X y w n L a->S8 (gq (R3 X y w n L) j) (gq w j) a=true)/\(Y6 X y w n L a<L->S8 (gq (R3 X y w n L) (Y6 X y w n L a)) (gq w (Y6 X y w n L a)) a=false):=by
 obtain⟨h1,h2,h3,h4⟩:=A2e (λj=>S8 (gq (R3 X y w n L) j) (gq w j) a) L 0;exact⟨by unfold Y6;omega,λj hj=>h3 j (B9a _) hj,λh=>h4 (by unfold Y6 at h;omega)⟩
theorem A7p(X:List (List Rat))(y w:List Rat)(n L:Nat):(Y7 X y w n L).length=n:=by unfold Y7;simp
theorem B1e(X:List (List Rat))(j n:Nat):(J3 X j n).length=n:=by unfold J3;simp
theorem A8k(X:List (List Rat))(y w:List Rat)(n L:Nat):(R3 X y w n L).length=L:=by unfold R3;simp
theorem B0o(X:List (List Rat))(y w:List Rat)(n L:Nat){i:Nat}(h:i<n):gq (Y7 X y w n L) i=D9 (gq y i) (E7 w (B7 X i) L):=W5 _ h
theorem A3p(X:List (List Rat))(j n:Nat){i:Nat}(h:i<n):gq (J3 X j n) i=gq (B7 X i) j:=W5 _ h
theorem A8d(X:List (List Rat))(y w:List Rat)(n L:Nat){j:Nat}(h:j<L):gq (R3 X y w n L) j=E7 (J3 X j n) (Y7 X y w n L) n:=W5 _ h
theorem B0O(n i:Nat):gq (S7 n) i=0:=by
 unfold gq S7;rw[C0V];split<;>rfl
theorem A3c(a:Rat):qs (Q5 a)=qs a:=by
 unfold Q5 Rat.abs;split
 ·rfl
 ·exact A2X a
theorem A5N{X:List (List Rat)}{y w:List Rat}{n L s:Nat}(hn:n<=20)(hL:L<=20)(hs:s<=10000000)(hX:∀i,i<n->∀j,j<L->qs (gq (B7 X i) j)<=s)(hy:∀i,i<n->qs (gq y i)<=s)(hw:∀j,j<L->qs (gq w j)<=s):∀i,i<n->qs (gq (Y7 X y w n L) i)<=500000000:=λi hi=>by
 rw[B0o X y w n L hi];have h1:=A1m (a:=w) (b:=B7 X i) (n:=L) hw (hX i hi) L (B8s _);have h2:=A0G (gq y i) (E7 w (B7 X i) L);have h3:=hy i hi;have h4:L*(s+s+1)<=20*(s+s+1):=B9g _ hL;unfold D9;omega
theorem A7x{X:List (List Rat)}{y w:List Rat}{n L s:Nat}(hn:n<=20)(hL:L<=20)(hs:s<=10000000)(hX:∀i,i<n->∀j,j<L->qs (gq (B7 X i) j)<=s)(hy:∀i,i<n->qs (gq y i)<=s)(hw:∀j,j<L->qs (gq w j)<=s):∀j,j<L->qs (gq (R3 X y w n L) j)<=11000000000:=λj hj=>by
 rw[A8d X y w n L hj];have h0:=A5N hn hL hs hX hy hw;have h1:=A1m (a:=J3 X j n) (b:=Y7 X y w n L) (n:=n) (s:=s) (t:=500000000) (λi hi=>by rw[A3p X j n hi];exact hX i hi j hj) h0 n (B8s _);have h4:n*(s+500000000+1)<=20*(s+500000000+1):=B9g _ hn;omega
theorem B42{a b:Rat}{s:Nat}(h1:qs a<=s)(h2:qs b<=s):qs (R9 a b)<=s:=by unfold R9;split<;>assumption
theorem A5s{p:List Rat}{n s:Nat}(hs:1<=s)(h:∀j,j<n->qs (gq p j)<=s):∀j,j<=n->qs (U5 p j)<=s
 | 0,_=>by rw[U5,A3A];exact hs
 | j+1,hj=>B42 (A5s hs h j (by omega)) (by rw[A3c];exact h j (by omega))
theorem B4S{w:List Rat}{n s:Nat}(h:∀j,j<n->qs (gq w j)<=s):∀j,j<=n->qs (A2M w j)<=j*(s+1)+1:=λj hj=>A6O _ s n (λi hi=>by rw[A3c];exact h i hi) j hj
theorem A6w{a b:Rat}:(E9 a b == 0)=decide (a=b):=by
 unfold E9;by_cases h1:a<b
 ·rw[if_pos h1];have:¬a=b:=λh=>by rw[h]at h1;exact Rat.lt_irrefl h1
  simp[this]
 ·rw[if_neg h1];by_cases h2:b<a
  ·rw[if_pos h2];have:¬a=b:=λh=>by rw[h]at h2;exact Rat.lt_irrefl h2
   simp[this]
  ·rw[if_neg h2];have:a=b:=by grind
   simp[this]
theorem B7Z{a b:Rat}:decide (E9 a b<=0)=decide (a<=b):=by
 unfold E9;by_cases h1:a<b
 ·rw[if_pos h1];have:a<=b:=Rat.le_of_lt h1;simp[this]
 ·rw[if_neg h1];by_cases h2:b<a
  ·rw[if_pos h2];have:¬a<=b:=by grind
   simp[this]
  ·rw[if_neg h2];have:a<=b:=by grind
   simp[this]
theorem A8f{w:Rat}:w.num.sign=1↔0<w:=by
 rw[Int.sign_eq_one_iff_pos,Rat.lt_iff];simp
theorem A2C{w:Rat}:w.num.sign = -1↔w<0:=by
 rw[Int.sign_eq_neg_one_iff_neg,Rat.lt_iff];simp
theorem B04{p w a:Rat}(h:w.num.sign=1):S8 p w a=(E9 p a == 0):=by
 unfold S8;rw[if_pos (A8f.1 h),A6w]
theorem B6x{p w a:Rat}(h:w.num.sign = -1):S8 p w a=(E9 p (I4 a) == 0):=by
 have h1:=A2C.1 h;unfold S8;rw[if_neg (by grind),if_pos h1,A6w]
theorem B38{p w a:Rat}(h:w.num.sign=0):S8 p w a=decide (E9 (Q5 p) a<=0):=by
 have h0:w=0:=Rat.num_eq_zero.1 (Int.sign_eq_zero_iff_zero.1 h);unfold S8;rw[if_neg (by rw[h0];exact Rat.lt_irrefl),if_neg (by rw[h0];exact Rat.lt_irrefl),B7Z]
def A3d{V:Type}:List V->Nat->List V->List V
 | xs,_,[]=>xs
 | xs,i,v::vs=>A3d (xs.set i v) (i+1) vs
theorem A8c{V:Type}:∀(vs ys fa fb:List V),ys.length=vs.length->A3d (fa++(ys++fb)) fa.length vs=fa++(vs++fb)
 | [],ys,fa,fb,h=>by
  obtain rfl:ys=[]:=List.length_eq_zero_iff.1 h;rfl
 | v::vs,[],fa,fb,h=>by cases h
 | v::vs,y::ys,fa,fb,h=>by
  show A3d ((fa++(y::ys++fb)).set fa.length v) (fa.length+1) vs=_;have e:(fa++(y::ys++fb)).set fa.length v=(fa++[v])++(ys++fb):=by
   simp[List.set_append_right]
  rw[e,show fa.length+1=(fa++[v]).length by simp,A8c vs ys _ fb (by simpa using h)];simp
theorem A4V{V α:Type}{enc:α->List V}{size:Nat}(he:∀x,(enc x).length=size):∀ps:List α,(ps.flatMap enc).length=ps.length*size
 | []=>by simp
 | p::ps=>by rw[List.flatMap_cons,List.length_append,A4V he ps,he,List.length_cons,C0X];omega
theorem B4t{V α:Type}{enc:α->List V}{size:Nat}(he:∀x,(enc x).length=size)(ps:List α)(k:Nat)(z:α)(hk:k<ps.length):A3d (ps.flatMap enc) (k*size) (enc z)=(ps.set k z).flatMap enc:=by
 have e:ps=ps.take k++(ps[k]::ps.drop (k+1)):=by rw[<-B97 hk,B83]
 have e2:ps.set k z=ps.take k++(z::ps.drop (k+1)):=by
  rw[List.set_eq_take_append_cons_drop,if_pos hk]
 rw[e2]
 conv=>lhs;rw[e]
 rw[C0v,List.flatMap_cons,C0v,List.flatMap_cons];have hl:((ps.take k).flatMap enc).length=k*size:=by rw[A4V he,List.length_take,B9t (by omega)]
 have:=A8c (enc z) (enc ps[k]) ((ps.take k).flatMap enc) ((ps.drop (k+1)).flatMap enc) (by rw[he,he]);rw[hl]at this;exact this
theorem A8s{V α:Type}{enc:α->List V}{size:Nat}(he:∀x,(enc x).length=size)(ps:List α)(k j:Nat)(hk:k<ps.length)(hj:j<size):(ps.flatMap enc)[k*size+j]?=(enc ps[k])[j]?:=by
 have e:ps=ps.take k++(ps[k]::ps.drop (k+1)):=by rw[<-B97 hk,B83]
 have hl:((ps.take k).flatMap enc).length=k*size:=by rw[A4V he,List.length_take,B9t (by omega)]
 conv=>lhs;rw[e]
 rw[C0v,List.flatMap_cons,C0l (by omega),hl,Nat.add_sub_cancel_left,C0k (by rw[he];exact hj)]
theorem A3G{u u1 u2:World}{r:Option Nat}(h:u.grownBy u1 r)(h':u1.grownBy u2 r):u.grownBy u2 r:=by
 obtain⟨a1,a2,a3,a4,a5⟩:=h;obtain⟨b1,b2,b3,b4,b5⟩:=h';exact⟨b1.trans a1,b2.trans a2,b3.trans a3,B9A a4 b4,λk hk hr=>(b5 k (B9N hk a4) hr).trans (a5 k hk hr)⟩
theorem A7o{B:Nat}{e:TypeId}{size g cap n:Nat}:∀(vs:List Value) (i:Nat) (u:World) (xs:List Value),u.ownsRow B e size (.slice (some ⟨g,0,none⟩) n cap) n xs ->
  (C2 u g i vs).ownsRow B e size (.slice (some ⟨g,0,none⟩) n cap) n (A3d xs i vs)/\u.grownBy (C2 u g i vs) (some g)
 | [],i,u,xs,h=>⟨h,⟨rfl,rfl,rfl,B8s _,λ_ _ _=>rfl⟩⟩
 | v::vs,i,u,xs,h=>by
  obtain⟨h1,h2⟩:=h.stored i v;obtain⟨h3,h4⟩:=A7o vs (i+1) _ _ h1;exact⟨h3,A3G h2 h4⟩
theorem R4{α:Type}{enc:α->List Value}{B:Nat}{e:TypeId}{size g cap n:Nat}(he:∀x,(enc x).length=size){u:World}{ps:List α}(h:u.ownsRow B e size (.slice (some ⟨g,0,none⟩) n cap) n (ps.flatMap enc))(k:Nat)(z:α)(hk:k<ps.length) :
  (C2 u g (k*size) (enc z)).ownsRow B e size (.slice (some ⟨g,0,none⟩) n cap) n ((ps.set k z).flatMap enc)/\u.grownBy (C2 u g (k*size) (enc z)) (some g):=by
 have:=A7o (enc z) (k*size) u _ h;rw[B4t he ps k z hk]at this;exact this
theorem X6{α:Type}{enc:α->List Value}{B:Nat}{e:TypeId}{size g cap n:Nat}(he:∀x,(enc x).length=size){u:World}{ps:List α}(h:u.ownsRow B e size (.slice (some ⟨g,0,none⟩) n cap) n (ps.flatMap enc))(hn:n=ps.length)(k j:Nat)(hk:k<ps.length)(hj:j<size) :
  u.cell? ⟨g,k*size+j,none⟩=(enc ps[k])[j]?:=by
 have hlt:k*size+j<n*size:=by
  have:k*size+size<=ps.length*size:=by rw[<-Nat.succ_mul];exact B9g _ hk
  rw[hn];omega
 rw[h.cellAt (k*size+j) hlt,A8s he ps k j hk hj]
def R8(v v2:Value):Prop:=∀g,v.ownBlock=some g->v2.ownBlock=some g->False
theorem R8.symm{v v2:Value}(h:R8 v v2):R8 v2 v:=λg h1 h2=>h g h2 h1
theorem A0R{u:World}{B:Nat}{e:TypeId}{size n:Nat}{v:Value}{xs:List Value}(h:u.ownsRow B e size v n xs)(h0:0<n):∃g cap,v = .slice (some ⟨g,0,none⟩) n cap/\B<=g/\n<=cap:=by
 obtain⟨_,h|⟨g,cap,cur,rfl,hb',hh,hn,hc',hs,ht2⟩⟩:=h
 ·omega
 ·exact⟨g,cap,rfl,hb',hn⟩
theorem N7{u:World}{B B':Nat}{e e':TypeId}{s s':Nat}{v v':Value}{n n':Nat}{xs xs':List Value}(h:u.ownsRow B e s v n xs)(h':u.ownsRow B' e' s' v' n' xs')(hne:e≠e'):R8 v v':=λg h1 h2=>by
 obtain⟨_,h|⟨g1,cap,cur,rfl,hb,hh,hn,hc,hs,ht⟩⟩:=h
 ·rw[h.1]at h1;cases h1
 ·obtain⟨_,h'|⟨g2,cap',cur',rfl,hb',hh',hn',hc',hs',ht'⟩⟩:=h'
  ·rw[h'.1]at h2;cases h2
  ·have e1:g=g1:=B8y h1.symm;have e2:g=g2:=B8y h2.symm;rw[<-e1]at hh;rw[<-e2,hh]at hh';injection hh' with hh';injection hh' with _ h3 _;exact hne h3
theorem N4{w u u':World}{e:TypeId}{size n:Nat}{v:Value}{xs:List Value}(h:u.ownsRow w.heap.size e size v n xs)(hG:A4 w u)(hg:u.grownBy u' v.ownBlock):A4 w u':=hG.grown hg λk hk=>(h.lt k hk).1
theorem A91{ops:Array Oper}{a:Act}{u:World}{K:Act->World->Prop}{d2:Option Nat}{s z:Operand}{t2:TypeId}{p2:String}{f2:Array Edge}{rest:List Oper}{T e:TypeId}{size bytes:Nat}(hE:EI T e size bytes)
  (B:Nat) (v:Value) (n:Nat) (xs:List Value) (b:Nat) (ys:List Value) (hy:ys.length=size) (h1:(ys.all λy=>y.oneCell')=true) (hblk:Blk u b e ys.toArray)
  (hs:a.eval s=v) (hz:a.eval z = .slice (some ⟨b,0,none⟩) 1 1)
  (hown:u.ownsRow B e size v n xs) (hl:n+1<=1099511627776) (hl2:(n+1)*bytes<=140737488355328) (hB:B<=u.heap.size)
  (h:∀v' w',w'.ownsRow B e size v' (n+1) (xs++ys)->u.grownBy w' v.ownBlock->(v'.ownBlock=v.ownBlock\/v'.ownBlock=some u.heap.size)->wpList Tryz.prog ops (NoK K) rest (a.put d2 v') w') :
  wpList Tryz.prog ops (NoK K) (⟨d2,.call { callee:=.builtin .append,args:=#[s,z],argTypes:=#[T,T] },t2,p2,f2,none⟩::rest) a u:=by
 obtain⟨hund,⟨i0,z0,hi0,hz0,hz1,hz2,hz3⟩,hpos⟩:=hE;refine wpList_append_own_at u (a:=a) (Q:=NoK K) rfl s z T rfl B e i0 z0 size bytes hund hi0 hz0 hz1 hz2 hz3 hpos v n xs hs hown ⟨b,0,none⟩ 1 1 ys hz (by rw[hy];omega) ?_ (λy hy=>List.all_eq_true.1 h1 y hy) (by unfold maxLen;omega) hl2 hB λv' w' g1 g2 _ g4=>h v' w' g1 g2 g4;intro j y hj;rw[B9b,Nat.zero_add,Blk.cell hblk j,List.getElem?_toArray];exact hj
abbrev Zw:=Ax×List Zr
abbrev zwV(r:Zw):Value:=.slice r.1.1 r.2.length r.1.2
def A0r(B:Nat)(W:World)(rws:List Zw):Prop:=(∀r∈rws,R7 W r.2/\W.ownsRow B 33 3 (zwV r) r.2.length (r.2.flatMap zrL))/\rws.Pairwise (λa b=>R8 (zwV a) (zwV b))
theorem A0r.nil(B:Nat)(W:World):A0r B W []:=⟨λ_ h=>(by cases h),List.Pairwise.nil⟩
theorem A0r.grow{B:Nat}{u u':World}{rws:List Zw}(h:A0r B u rws)(hg:A4 u u'):A0r B u' rws:=⟨λr hr=>⟨(h.1 r hr).1.grow hg,C0 (h.1 r hr).2 hg⟩,h.2⟩
theorem A0r.own{B0:Nat}{u w':World}{B:Nat}{e:TypeId}{size n:Nat}{v:Value}{xs:List Value}{o:Obj}{rws:List Zw}(hl:A0r B0 u rws)(h:u.ownsRow B e size v n xs)(ht:e≠193/\e≠33)(hg:(u.alloc o).grownBy w' v.ownBlock):A0r B0 w' rws:=⟨λr hr=>⟨(hl.1 r hr).1.own h ht.1 hg,by
 have h2:=(hl.1 r hr).2;refine(h2.alloc o).kept hg ?_
 cases hb:(zwV r).ownBlock with
 | none=>exact .inl rfl
 | some g=>exact .inr λe1=>N7 h h2 ht.2 g e1.symm hb⟩,hl.2⟩
def A5X(B k:Nat)(q:List Rat)(x:Zw)(W:World):Prop:=(x.2.map (·.2)=q/\x.2.length=k)/\R7 W x.2/\W.ownsRow B 33 3 (zwV x) x.2.length (x.2.flatMap zrL)
theorem A5X.grow{B k:Nat}{q:List Rat}{x:Zw}{u u':World}(hg:A4 u u')(h:A5X B k q x u):A5X B k q x u':=⟨h.1,h.2.1.grow hg,C0 h.2.2 hg⟩
def Lrz(u:World)(A:Option Addr)(rs:List Rq):Prop :=
 rs≠[]->∃b off,A=some ⟨b,off,none⟩/\b<u.heap.size/\∀i r,rs[i]?=some r->u.cell? ⟨b,off+i,none⟩=some (.slice r.1 r.2.2.length r.2.1)/\Lz u r.1 r.2.2
theorem Lrz.grow{u u':World}{A:Option Addr}{rs:List Rq}(h:Lrz u A rs)(hg:A4 u u'):Lrz u' A rs:=λhn=>by
 obtain⟨b,off,e,hb,hc⟩:=h hn;exact⟨b,off,e,B9N hb hg.size,λi r hi=>⟨(hg.cell (p:=⟨b,off+i,none⟩) hb).trans (hc i r hi).1,(hc i r hi).2.grow hg⟩⟩
theorem Lrz.addr{u:World}{A:Option Addr}{rs:List Rq}(h:Lrz u A rs)(hl:0<rs.length):∃b off,A=some ⟨b,off,none⟩:=by
 obtain⟨b,off,e,_⟩:=h (λh0=>by rw[h0]at hl;cases hl);exact⟨b,off,e⟩
theorem Lrz.read{u:World}{b off:Nat}{rs:List Rq}(h:Lrz u (some ⟨b,off,none⟩) rs){i:Nat}{r:Rq}(hi:rs[i]?=some r):u.cell? ⟨b,off+i,none⟩=some (.slice r.1 r.2.2.length r.2.1)/\Lz u r.1 r.2.2:=by
 obtain⟨b',off',e,_,hc⟩:=h (λh0=>by rw[h0]at hi;simp at hi);cases e;exact hc i r hi
abbrev B0x(r:Rq):Value:=.slice r.1 r.2.2.length r.2.1
def A1P(B:Nat)(W:World)(rs:List Rq):Prop:=∀r∈rs,W.ownsRow B 48 5 (B0x r) r.2.2.length (r.2.2.flatMap qL)
theorem A1P.nil(B:Nat)(W:World):A1P B W []:=λ_ h=>by cases h
theorem A1P.grow{B:Nat}{u u':World}{rs:List Rq}(h:A1P B u rs)(hg:A4 u u'):A1P B u' rs:=λr hr=>C0 (h r hr) hg
theorem A1P.own{B0:Nat}{u w':World}{B:Nat}{e:TypeId}{size n:Nat}{v:Value}{xs:List Value}{o:Obj}{rs:List Rq}(hl:A1P B0 u rs)(h:u.ownsRow B e size v n xs)(ht:e≠48)(hg:(u.alloc o).grownBy w' v.ownBlock):A1P B0 w' rs:=λr hr=>by
 have h2:=hl r hr;refine(h2.alloc o).kept hg ?_
 cases hb:(B0x r).ownBlock with
 | none=>exact .inl rfl
 | some g=>exact .inr λe1=>N7 h h2 ht g e1.symm hb
def A61(B k:Nat)(q:List Rat)(x:Ax)(W:World):Prop:=q.length=k/\W.ownsRow B 48 5 (.slice x.1 k x.2) k (q.flatMap qL)
theorem A61.grow{B k:Nat}{q:List Rat}{x:Ax}{u u':World}(hg:A4 u u')(h:A61 B k q x u):A61 B k q x u':=⟨h.1,C0 h.2 hg⟩
theorem A0r.idx{B:Nat}{W:World}{rws:List Zw}(h:A0r B W rws):∀(i:Nat) (r:Zw),rws[i]?=some r->R7 W r.2/\W.ownsRow B 33 3 (zwV r) r.2.length (r.2.flatMap zrL):=λ_ r hi=>h.1 r (B89 hi)
theorem Z6{α:Type}{enc:α->List Value}{B:Nat}{e:TypeId}{g cap n:Nat}(he:∀x,(enc x).length=5){u:World}{ps:List α}(h:u.ownsRow B e 5 (.slice (some ⟨g,0,none⟩) n cap) n (ps.flatMap enc))(hn:n=ps.length)(k:Nat)(hk:k<ps.length) :
  ∃y0 y1 y2 y3 y4,u.cell? ⟨g,k*5,none⟩=some y0/\u.cell? ⟨g,k*5+1,none⟩=some y1/\u.cell? ⟨g,k*5+2,none⟩=some y2/\u.cell? ⟨g,k*5+3,none⟩=some y3/\u.cell? ⟨g,k*5+4,none⟩=some y4/\∀j,u.frozen? ⟨g,j,none⟩=false:=by
 have hl:=he ps[k];have h0:=X6 he h hn k 0 hk (by omega);have h1:=X6 he h hn k 1 hk (by omega);have h2:=X6 he h hn k 2 hk (by omega);have h3:=X6 he h hn k 3 hk (by omega);have h4:=X6 he h hn k 4 hk (by omega);rw[B9Y (by omega)]at h0 h1 h2 h3 h4;exact⟨_,_,_,_,_,h0,h1,h2,h3,h4,λj=>h.frozenAt j⟩
theorem V6(b:Nat):∀(vs:List Value) (i:Nat) (u:World),u.grownBy (C2 u b i vs) (some b)
 | [],_,_=>⟨rfl,rfl,rfl,B8s _,λ_ _ _=>rfl⟩
 | v::vs,i,u=>A3G (u1:=u.setCell ⟨b,i,none⟩ v) ⟨rfl,rfl,rfl,by simp[World.setCell],λk _ hk=>B85 _ _ _ _ (λe=>hk (by simp[e]))⟩ (V6 b vs (i+1) _)
theorem H5{u u':World}{B:Nat}{e:TypeId}{size n b i:Nat}{v:Value}{xs vs:List Value}(h:u.ownsRow B e size v n xs)(hb:v.ownBlock≠some b)(hu:C2 u b i vs=u'):u'.ownsRow B e size v n xs:=by
 subst hu;exact h.kept (V6 b vs i u) (.inr hb)
theorem A5y:(Tryz.prog.info? 48).map (λi=>(i.zero,i.size,i.bytes))=some (some (.agg (qL 0).toArray),5,56):=by kernel_rfl
theorem B1k(n:Nat):madeCells (Value.agg (qL 0).toArray).cells (n*5)=((List.replicate n (0:Rat)).flatMap qL).toArray:=by
 unfold madeCells;refine Array.ext (by simp[X8,show(qL 0).length=5 from rfl]) λi h1 h2=>?_;have h1':i<n*5:=by simpa using h1
 have hg:=A2L (List.replicate n (0:Rat)) (i:=i/5) (q:=0) (by rw[C0V,if_pos (by omega)]) (j:=i%5) (by omega);rw[show i/5*5+i%5=i by omega]at hg;have h3:((List.replicate n (0:Rat)).flatMap qL)[i]?=some ((List.replicate n (0:Rat)).flatMap qL)[i]:=B9Y _;rw[h3]at hg;have h4:(qL 0)[i%5]?=some ((qL 0)[i%5]'(by show i%5<5;omega)):=B9Y _;rw[h4]at hg;injection hg with hg;simp only[List.getElem_toArray,Value.cells,Array.getElem_ofFn];rw[hg];simp[show(qL 0).length=5 from rfl];rw[h4];rfl
theorem A1E(n:Nat)(hn:n<=1048576)(x:Int)(hx:x=n)(W:World):(Instr.makeSlice 35 (.int .i64 x) (.int .i64 x)).run Tryz.prog W =
  .ok (.slice (some ⟨W.heap.size,0,none⟩) n n) (W.alloc (.cells ((List.replicate n (0:Rat)).flatMap qL).toArray 48)):=by
 obtain⟨i0,hi0,hz0,hz1,hz2⟩:=B9T A5y;have hr:=run_make (P:=Tryz.prog) W 35 48 i0 (.agg (qL 0).toArray) Tryz.underlying35 hi0 hz0 .i64 .i64 n n (by omega) (by omega) (by rw[hz2];omega) (by omega);rw[hx];rw[hr,hz1];simp only[Int.toNat_natCast];rw[B1k]
theorem A0v{u v:World}{B n:Nat}(hB:B<=u.heap.size)(hn:n<=1048576)(hv:u.alloc (.cells ((List.replicate n (0:Rat)).flatMap qL).toArray 48)=v):v.ownsRow B 48 5 (.slice (some ⟨u.heap.size,0,none⟩) n n) n ((List.replicate n (0:Rat)).flatMap qL):=by
 subst hv;have h:=World.ownsRow_lit (base:=B) (e:=48) (size:=5) u ((List.replicate n (0:Rat)).flatMap qL).toArray n hB (by unfold maxLen;omega) (by simp[X8,show(qL 0).length=5 from rfl])
 simpa using h
theorem A0D(w:World)(l:List Rat):Lq (w.alloc (.cells (l.flatMap qL).toArray 48)) (some ⟨w.heap.size,0,none⟩) l:=λ_ =>
 ⟨w.heap.size,0,rfl,by rw[I9];omega,λi q hi j v hj=>by
  have hj5:j<5:=(List.getElem?_eq_some_iff.1 hj).1
  rw[Nat.zero_add,Blk.cell (Blk.new w 48 _),List.getElem?_toArray,A2L l hi hj5,hj]⟩
def K7(f:Nat->Rat)(n i:Nat):List Rat:=(List.range n).map λt=>if t<i then f t else 0
theorem N2(f:Nat->Rat)(n i:Nat):(K7 f n i).length=n:=by unfold K7;simp
theorem A2H(f:Nat->Rat)(n:Nat):K7 f n 0=List.replicate n 0:=by
 unfold K7;apply B88
 ·simp
 ·intro i h1 h2;simp
theorem A1n(f:Nat->Rat)(n:Nat):K7 f n n=(List.range n).map f:=by
 unfold K7;refine C0u λj hj=>?_;rw[if_pos (List.mem_range.1 hj)]
theorem A2A{f:Nat->Rat}{n i:Nat}(h:i<n):(K7 f n i).set i (f i)=K7 f n (i+1):=by
 unfold K7;apply B88
 ·simp
 ·intro j h1 h2;rw[C0t];simp only[List.getElem_map,List.getElem_range];by_cases e:i=j
  ·subst e;simp
  ·rw[if_neg e];by_cases hj:j<i
   ·rw[if_pos hj,if_pos (by omega)]
   ·rw[if_neg hj,if_neg (by omega)]
theorem A2v(A B:Option Addr)(l l':List Rat)(c d n:Nat)(hl:l.length=n)(hl':l'.length=n)(hm:n<=1048576)(s t:Nat)(hs:∀i,i<n->qs (gq l i)<=s)(hs':∀i,i<n->qs (gq l' i)<=t)(hBz:n*(s+t+1)+s+t+10<=BIG)(w:World)(h:Lq w A l)(h':Lq w B l')(HT:Tab w) :
  Calls Tryz.prog 93 #[.slice A n c,.slice B n d] w λe w'=>e = .returned (.tuple #[qV (E7 l l' n),.bool true])/\A4 w w':=by
 have hM:∀j,j<=n->qs (E7 l l' j)<=n*(s+t+1)+1:=λj hj=>B9A (A1m hs hs' j hj) (Nat.add_le_add_right (B9g _ hj) 1);have hne:((n:Int) != (n:Int))=false:=by simp
 have HM:=B9I hM;have Hs:=B9I hs;have Hs':=B9I hs';have H:=B9I h;have H':=B9I h';have Hl:=B9I hl;have Hl':=B9I hl';clear hM hs hs' h h' hl hl';go_enter Tryz.func93,Tryz.ntmps93;refine en1 ?_;intro u hG b4 hB hF;refine B9D ?_;refine r0T ?_;refine B9J (rfl) ?_;refine B9K ?_;refine A6 ?_;refine B9D (rsE A8 [2] hB hG λL hL=>?_);refine gaa (G6 _ _ _ _ _) λb6 hb6 hn6=>?_;replace hF:=hF.n1 [] hB hG hb6 hn6;refine geT hL ?_;clear hB hG hL L;rintro u ⟨⟨-,hB,hG,-⟩,h6⟩;replace hB:=hB.cons' h6;clear h6;clear hb6 hn6;refine B9D ?_;refine r0T ?_;refine B9l ?_;go_loopw [17] (λs0 wr=>∃(j:Nat) (S:Rat),j<=n/\s0 = .int .i64 j/\S=E7 l l' j/\Bx wr [(b6,48,L9 S),(b4,48,A3D)]/\A4 w wr) (λs0 _=>n-(intOf s0).toNat)
 case atStart=>exact⟨0,0,B9a _,rfl,rfl,hB,hG⟩
 case round =>
  clear hB hG;obtain⟨j,S,hj,rfl,hS,hB,hG⟩:=hrel;obtain⟨u,rfl⟩:=exQ wr;have z1:=HM.out j hj;rw[<-hS]at z1;rcases B8t j n with hlt|hge
  ·have hdec:decide ((j:Int)<(n:Int))=true:=by simp;omega
   have hjn:(j:Int)<(n:Int):=by omega
   have hjl:j<l.length:=by rw[Hl.out];exact hlt
   have hjl':j<l'.length:=by rw[Hl'.out];exact hlt
   obtain⟨ba,oa,rfl⟩:=H.out.addr (by omega);obtain⟨bb,ob,rfl⟩:=H'.out.addr (by omega);have hrd:∀W,A4 w W->Cq W ba (oa+j*5) (gq l j)/\Cq W bb (ob+j*5) (gq l' j):=λW hg=>⟨(H.out.grow hg).read hjl,(H'.out.grow hg).read hjl'⟩
   have z2:=Hs.out j hlt;have z3:=Hs'.out j hlt;have hnx:=B31 l l' j;rw[<-hS]at hnx;obtain⟨X,hX⟩:∃X,X=gq l j:=⟨_,rfl⟩
   obtain⟨Y,hY⟩:∃X,X=gq l' j:=⟨_,rfl⟩
   simp only[<-hX,<-hY]at hrd;rw[<-hX]at z2 hnx;rw[<-hY]at z3 hnx;have z4:=Z8 X Y;have hml:=λW hT=>A0q X Y W (by omega) hT;obtain⟨D,hD⟩:∃D,D=D5 X Y:=⟨_,rfl⟩
   rw[<-hD]at hnx hml;have z5:qs D<=s+t:=by rw[hD];unfold D5;omega
   have had:=λW hT=>A1M S D W (by omega) hT;have Hrd:=B9I hrd;have Hnx:=B9I hnx;have Hml:=B9I hml;have Had:=B9I had;clear hrd hnx hml had hX hY hD hjl hjl' hS z1 z2 z3 z4 z5;refine r0T ?_;refine B9D ?_;refine B9L (rfl) ?_;refine B9K ?_;refine A6 ?_;refine B9D ?_;refine B9l ?_;refine B9D (rsC A8 [0,0,0,2,0] hB hG λK L hN hL=>?_)
   repeat first|refine gya ?_|refine gyr ?_|refine gna ?_|refine gyb (by(rintro v ⟨hgu,hB,hG,-⟩ N hN;have r:=hB.r;simp only[BxR]at r;obtain⟨⟨q1,q2,q3,q4,q5⟩,⟨y1,y2,y3,y4,y5⟩⟩:=Hrd.out v hG;go_simp;exact hN)) ?_
   refine gaa (G6 _ _ _ _ _) λb8 hb8 hn8=>?_;refine gs ?_;replace hF:=hF.n1 [] hB hG hb8 hn8;refine geC hL ?_;clear hB hG hL L;rintro u ⟨⟨-,hB,hG,-⟩,h8⟩;replace hB:=hB.cons' h8;clear h8;clear hb8 hn8;refine gtT ?_;clear hN K;refine st hB hF hG 0 0 [_,_,_,_,_] ?_;clear hB hG;intro u hB hG;refine rdC A8 [] [(0,0),(0,1),(0,2),(0,3),(0,4),(0,5),(1,6),(1,7)] hB hG λK L hN hL=>?_
   repeat first|refine gya ?_|refine gyr ?_|refine gna ?_|refine gyb (by(rintro v ⟨hgu,hB,hG,-⟩ N hN;have r:=hB.r;simp only[BxR]at r;obtain⟨⟨q1,q2,q3,q4,q5⟩,⟨y1,y2,y3,y4,y5⟩⟩:=Hrd.out v hG;go_simp;exact hN)) ?_
   refine gmd (C:=λv ⟨hgu,hB,hG,_⟩=>Hml.out _ (HT.grow hG)) ?_;refine gmd (C:=λv ⟨hgu,hB,hG,_⟩=>Had.out _ (HT.grow hG)) ?_;refine geC hL ?_;clear hB hG hL L;rintro u ⟨-,hB,hG,-⟩;refine gt ?_;clear hN K;refine st hB hF hG 1 0 [_,_,_,_,_] ?_;clear hB hG;intro u hB hG;refine C5 ?_;refine A6 ?_;refine r0E ?_;refine A6 ?_;go_roundw
   case rel=>exact⟨j+1,G5 S D,by omega,by go_num,Hnx.out.symm,hB.tail,hG⟩
   case measure=>simp[intOf];omega
  ·obtain rfl:n=j:=by omega
   have hdec:decide ((n:Int)<(n:Int))=false:=by simp
   rw[<-hS];clear hS;refine r0T ?_;refine B9D ?_;refine B9J (rfl) ?_;refine B9n ?_;refine B9 ?_;refine B9 ?_;refine E4 ?_;refine A6 ?_;refine r0T ?_;refine st hB hF hG 1 0 [_,_,_,_,_] ?_;clear hB hG;intro u hB hG;refine rt Tryz.results93 ?_;exact⟨rfl,hG⟩
theorem B5b{a b:Rat}:decide (0<E9 a b)=decide (b<a):=by
 unfold E9;by_cases h1:a<b
 ·rw[if_pos h1];have:¬b<a:=by grind
  simp[this]
 ·rw[if_neg h1];by_cases h2:b<a
  ·rw[if_pos h2];simp[h2]
  ·rw[if_neg h2];simp[h2]
theorem B0k(a b:Rat)(h:qs a+qs b+1<=BIG)(w:World):Calls Tryz.prog 98 #[qV a,qV b] w λe w'=>e = .returned (qV (R9 a b))/\A4 w w':=by
 have hc:=λW=>W8 b a W (by omega);have hz:=@B5b b a;obtain⟨Z,hZ⟩:∃Z,Z=E9 b a:=⟨_,rfl⟩
 rw[<-hZ]at hz;simp only[<-hZ]at hc;have Hc:=B9I hc;clear hc hZ;by_cases hab:a<b
 ·have fZ:decide (0<Z)=true:=by rw[hz];exact B9x hab
  have e:R9 a b=b:=if_pos hab;rw[e];clear hab hz e;go_enter Tryz.func98,Tryz.ntmps98;refine en3 ?_;intro u hG b4 b3 b2 hB hF;refine B9D ?_;refine B9D (rsE A8 [0,0,1,0] hB hG λL hL=>?_);refine gs ?_;refine gmw (C:=λv=>Hc.out _) ?_;refine gs ?_;refine geT hL ?_;clear hB hG hL L;rintro u ⟨-,hB,hG,-⟩;refine B9L (rfl) ?_;refine r0T ?_;refine st hB hF hG 2 0 [_,_,_,_,_] ?_;clear hB hG;intro u hB hG;refine rt Tryz.results98 ?_;exact⟨rfl,hG⟩
 ·have fZ:decide (0<Z)=false:=by rw[hz];exact B92 hab
  have e:R9 a b=a:=if_neg hab;rw[e];clear hab hz e;go_enter Tryz.func98,Tryz.ntmps98;refine en3 ?_;intro u hG b4 b3 b2 hB hF;refine B9D ?_;refine B9D (rsE A8 [0,0,1,0] hB hG λL hL=>?_);refine gs ?_;refine gmw (C:=λv=>Hc.out _) ?_;refine gs ?_;refine geT hL ?_;clear hB hG hL L;rintro u ⟨-,hB,hG,-⟩;refine B9J (rfl) ?_;refine B9K ?_;refine A6 ?_;refine r0T ?_;refine st hB hF hG 2 0 [_,_,_,_,_] ?_;clear hB hG;intro u hB hG;refine rt Tryz.results98 ?_;exact⟨rfl,hG⟩
theorem B6B(A Y:Option Addr)(c N M d:Nat)(hN:1<=N)(hN2:N<=300)(hne:M≠N)(w:World):Calls Tryz.prog 57 #[.slice A N c,.slice Y M d] w λe w'=>e = .returned (.bool false)/\A4 w w':=by
 have f1:decide ((N:Int)<1)=false:=by simp;omega
 have f1n:decide (N=0)=false:=by simp;omega
 have f2:decide ((300:Int)<(N:Int))=false:=by simp;omega
 have f2n:decide (300<N)=false:=by simp;omega
 have f3:((M:Int) != (N:Int))=true:=by simp;omega
 clear hN hN2 hne;go_enter Tryz.func57,Tryz.ntmps57;refine en0 ?_;intro u hG hB hF;refine B9D ?_;refine r0T ?_;refine B9L (rfl) ?_;refine r0T ?_;refine rt Tryz.results57 ?_;exact⟨rfl,hG⟩
theorem A3l(A Y:Option Addr)(rs:List Rq)(N L c d:Nat)(hn:rs.length=N)(hN:1<=N)(hN2:N<=300)(hL1:1<=L)(hL2:L<=20)(hrl:∀r∈rs,r.2.2.length=L)(w:World)(h:Lrq w A rs) :
  Calls Tryz.prog 57 #[.slice A N c,.slice Y N d] w λe w'=>e = .returned (.bool true)/\A4 w w':=by
 obtain⟨bb,ob,rfl⟩:=h.addr (by omega);have hrow:∀i,i<N->∃(Ar:Option Addr) (cr:Nat),∀W,A4 w W->W.cell? ⟨bb,ob+i,none⟩=some (.slice Ar L cr):=λi hi=>by
  have hil:i<rs.length:=by omega
  refine⟨rs[i].1,rs[i].2.1,λW hg=>?_⟩;have h3:=((h.grow hg).read (B9Y hil)).1;rw[hrl _ (B86 hil)]at h3;exact h3
 obtain⟨A0,c0,hrow0⟩:=hrow 0 (by omega);rw[Nat.add_zero]at hrow0;have f1:decide ((N:Int)<1)=false:=by simp;omega
 have f1n:decide (N=0)=false:=by simp;omega
 have f2:decide ((300:Int)<(N:Int))=false:=by simp;omega
 have f2n:decide (300<N)=false:=by simp;omega
 have f3:((N:Int) != (N:Int))=false:=by simp
 have f4:decide ((L:Int)<1)=false:=by simp;omega
 have f4n:decide (L=0)=false:=by simp;omega
 have f5:decide ((20:Int)<(L:Int))=false:=by simp;omega
 have f5n:decide (20<L)=false:=by simp;omega
 have f6:((L:Int) != (L:Int))=false:=by simp
 have hni:(0:Int)<(N:Int):=by omega
 have hnp:0<N:=by omega
 have fn:decide ((0:Int)<(N:Int))=true:=by simp;omega
 have fnn:decide (0<N)=true:=by simp;omega
 have Hrow:=B9I hrow;have Hrow0:=B9I hrow0;clear hrow hrow0 h hrl hn;go_enter Tryz.func57,Tryz.ntmps57;refine en0 ?_;intro u hG hB hF;refine B9D ?_;refine r0T ?_;refine B9J (rfl) ?_;refine B9K ?_;refine A6 ?_;refine B9D ?_;have q0:=Hrow0.out u hG;refine r0N ?_;refine B9D ?_;refine r0T ?_;refine B9J (rfl) ?_;refine B9K ?_;refine A6 ?_;refine B9D ?_;refine r0T ?_;refine B9l ?_;clear hB hF;go_loopw [35] (λs0 wr=>∃i:Nat,i<=N/\s0 = .int .i64 i/\A4 w wr) (λs0 _=>N-(intOf s0).toNat)
 case atStart=>exact⟨0,B9a _,rfl,hG⟩
 case round =>
  clear hG;obtain⟨i,hi,rfl,hG⟩:=hrel;obtain⟨u,rfl⟩:=exQ wr;have hB:=Bx.nil u;have hF:=Fr.nil w;rcases B8t i N with hlt|hge
  ·have hdec:decide ((i:Int)<(N:Int))=true:=by simp;omega
   have hiN:(i:Int)<(N:Int):=by omega
   obtain⟨Ar,cr,hrw⟩:=Hrow.out i hlt;have Hrw:=B9I hrw;clear hrw;refine r0T ?_;refine B9D ?_;refine B9L (rfl) ?_;refine B9K ?_;refine A6 ?_;refine B9D ?_;refine B9l ?_;refine B9D ?_;have q0:=Hrow0.out u hG;have q1:=Hrw.out u hG;refine r0N ?_;refine r0T ?_;refine B9J (rfl) ?_;refine B9K ?_;refine C5 ?_;refine A6 ?_;refine r0E ?_;refine A6 ?_;go_roundw
   case rel=>exact⟨i+1,by omega,by go_num,hG⟩
   case measure=>simp[intOf];omega
  ·obtain rfl:N=i:=by omega
   have hdec:decide ((N:Int)<(N:Int))=false:=by simp
   refine r0T ?_;refine B9D ?_;refine B9J (rfl) ?_;refine B9n ?_;refine B9 ?_;refine B9 ?_;refine E4 ?_;refine A6 ?_;refine r0T ?_;refine rt Tryz.results57 ?_;exact⟨rfl,hG⟩
theorem A6L (A Y V : Option Addr) (rs : List Rq) (N L K c d k : Nat) (hn : rs.length = N) (hN : 1 ≤ N) (hN2 : N ≤ 300) (hL1 : 1 ≤ L) (hL2 : L ≤ 20) (hrl : ∀ r ∈ rs, r.2.2.length = L) (a : Rat) (ha : qs a ≤ 10000000) (w : World) (h : Lrq w A rs) :
    Calls Tryz.prog 91 #[.slice A N c,.slice Y N d,.slice V K k,qV a] w λe w'=>e = .returned (.int .i64 (if K≠L then 5 else if a<0 then 1 else 0))/\A4 w w':=by
  have hsh:=λW (hg:A4 w W)=>A3l A Y rs N L c d hn hN hN2 hL1 hL2 hrl W (h.grow hg);obtain⟨bb,ob,rfl⟩:=h.addr (by omega);have hrow0:∃(Ar:Option Addr) (cr:Nat),∀W,A4 w W->W.cell? ⟨bb,ob,none⟩=some (.slice Ar L cr):=by
    have hil:0<rs.length:=by omega
    refine⟨rs[0].1,rs[0].2.1,λW hg=>?_⟩;have h3:=((h.grow hg).read (B9Y hil)).1;rw[hrl _ (B86 hil),Nat.add_zero]at h3;exact h3
  obtain⟨A0,c0,hrow0⟩:=hrow0;have hni:(0:Int)<(N:Int):=by omega
  have hnp:0<N:=by omega
  have fn:decide ((0:Int)<(N:Int))=true:=by simp;omega
  have fnn:decide (0<N)=true:=by simp;omega
  have hsg:=λW=>M8 a (by have:=G3 a;omega) W;have hneg:=@A2C a
  have hrg : a.num.sign = -1 ∨ a.num.sign = 0 ∨ a.num.sign = 1 := by rcases C0M a.num 0 with h | h | h
                                                                     · exact .inl (Int.sign_eq_neg_one_iff_neg.2 h)
                                                                     · exact .inr (.inl (by rw[h];rfl))
                                                                     · exact .inr (.inr (Int.sign_eq_one_iff_pos.2 h))
  obtain⟨S,hS⟩:∃S,S=a.num.sign:=⟨_,rfl⟩
  simp only[<-hS]at hsg;rw[<-hS]at hneg hrg;have Hsh:=B9I hsh;have Hrow0:=B9I hrow0;have Hsg:=B9I hsg;clear hsh hrow0 h hrl hn hsg hS;by_cases hK:K=L
  · subst hK
    have f1:((K:Int) != (K:Int))=false:=by simp
    rw[if_neg (by simp)];by_cases h0:a<0
    · have f2:decide (S<0)=true:=by rw[hneg.2 h0];rfl
      rw[if_pos h0];clear hneg hrg h0;go_enter Tryz.func91,Tryz.ntmps91;refine en1 ?_;intro u hG b7 hB hF;refine B9D ?_;refine B9D (rsE A8 [0,0,1,0,0,0,0,0,0,0,0,0,0] hB hG λL hL=>?_);refine gs ?_;refine gmd (C:=λv ⟨hgu,hB,hG,_⟩=>Hsh.out _ hG) ?_
      repeat first|refine gya ?_|refine gyr ?_|refine gna ?_|refine gyb (by(rintro v ⟨hgu,hB,hG,-⟩ N hN;have r:=hB.r;simp only[BxR]at r;have q0:=Hrow0.out v hG;go_simp;exact hN)) ?_
      refine geT hL ?_;clear hB hG hL L;rintro u ⟨-,hB,hG,-⟩;refine B9J (rfl) ?_;refine B9K ?_;refine A6 ?_;refine B9D ?_;refine B9D (rsE A8 [0,1,0] hB hG λL hL=>?_)
      repeat first|refine gya ?_|refine gyr ?_|refine gna ?_|refine gyb (by(rintro v ⟨hgu,hB,hG,-⟩ N hN;have r:=hB.r;simp only[BxR]at r;have q0:=Hrow0.out v hG;go_simp;exact hN)) ?_
      refine gmw (C:=λv=>Hsg.out _) ?_;refine gs ?_;refine geT hL ?_;clear hB hG hL L;rintro u ⟨-,hB,hG,-⟩;refine B9L (rfl) ?_;refine r0T ?_;refine rt Tryz.results91 ?_;exact⟨rfl,hG⟩
    · have f2 : decide (S < 0) = false := by
        have:S ≠ -1:=λe=>h0 (hneg.1 e);simp;omega
      rw[if_neg h0];clear hneg hrg h0;go_enter Tryz.func91,Tryz.ntmps91;refine en1 ?_;intro u hG b7 hB hF;refine B9D ?_;refine B9D (rsE A8 [0,0,1,0,0,0,0,0,0,0,0,0,0] hB hG λL hL=>?_);refine gs ?_;refine gmd (C:=λv ⟨hgu,hB,hG,_⟩=>Hsh.out _ hG) ?_
      repeat first|refine gya ?_|refine gyr ?_|refine gna ?_|refine gyb (by(rintro v ⟨hgu,hB,hG,-⟩ N hN;have r:=hB.r;simp only[BxR]at r;have q0:=Hrow0.out v hG;go_simp;exact hN)) ?_
      refine geT hL ?_;clear hB hG hL L;rintro u ⟨-,hB,hG,-⟩;refine B9J (rfl) ?_;refine B9K ?_;refine A6 ?_;refine B9D ?_;refine B9D (rsE A8 [0,1,0] hB hG λL hL=>?_)
      repeat first|refine gya ?_|refine gyr ?_|refine gna ?_|refine gyb (by(rintro v ⟨hgu,hB,hG,-⟩ N hN;have r:=hB.r;simp only[BxR]at r;have q0:=Hrow0.out v hG;go_simp;exact hN)) ?_
      refine gmw (C:=λv=>Hsg.out _) ?_;refine gs ?_;refine geT hL ?_;clear hB hG hL L;rintro u ⟨-,hB,hG,-⟩;refine B9J (rfl) ?_;refine B9K ?_;refine A6 ?_;refine r0T ?_;refine rt Tryz.results91 ?_;exact⟨rfl,hG⟩
  · have f1:((K:Int) != (L:Int))=true:=by simp;omega
    rw[if_pos hK];clear hK hneg hrg;go_enter Tryz.func91,Tryz.ntmps91;refine en1 ?_;intro u hG b7 hB hF;refine B9D ?_;refine B9D (rsE A8 [0,0,1,0,0,0,0,0,0,0,0,0,0] hB hG λL hL=>?_);refine gs ?_;refine gmd (C:=λv ⟨hgu,hB,hG,_⟩=>Hsh.out _ hG) ?_
    repeat first|refine gya ?_|refine gyr ?_|refine gna ?_|refine gyb (by(rintro v ⟨hgu,hB,hG,-⟩ N hN;have r:=hB.r;simp only[BxR]at r;have q0:=Hrow0.out v hG;go_simp;exact hN)) ?_
    refine geT hL ?_;clear hB hG hL L;rintro u ⟨-,hB,hG,-⟩;refine B9L (rfl) ?_;refine r0T ?_;refine rt Tryz.results91 ?_;exact⟨rfl,hG⟩
end Go.Proofs.YtgpglgbcobeogaaGreatDoor
