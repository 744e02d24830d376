import Derived.Test.YtgpglgbcobeogaaGreatDoorW26
set_option linter.unusedSimpArgs false
set_option linter.unusedVariables false
set_option maxHeartbeats 2000000
set_option maxRecDepth 100000
namespace Go.Proofs.YtgpglgbcobeogaaGreatDoor
open Go Go.RowKit
def A3q{V:Type}:List V→Nat→List V→List V
 | xs,_,[]=>xs
 | xs,i,v::vs=>A3q (xs.set i v) (i+1) vs
theorem A9h{V:Type}:∀(vs ys fa fb:List V),ys.length=vs.length→A3q (fa++(ys++fb)) fa.length vs=fa++(vs++fb)
 | [],ys,fa,fb,h=>by
  obtain rfl:ys=[]:=List.length_eq_zero_iff.1 h;rfl
 | v::vs,[],fa,fb,h=>by cases h
 | v::vs,y::ys,fa,fb,h=>by
  show A3q ((fa++(y::ys++fb)).set fa.length v) (fa.length+1) vs=_;have e:(fa++(y::ys++fb)).set fa.length v=(fa++[v])++(ys++fb):=by
   simp[List.set_append_right]
  rw[e,show fa.length+1=(fa++[v]).length by simp,A9h vs ys _ fb (by simpa using h)];simp
theorem A2Y{V α:Type}{enc:α→List V}{size:Nat}(he:∀x,(enc x).length=size):∀ps:List α,(ps.flatMap enc).length=ps.length*size
 | []=>by simp
 | p::ps=>by rw[List.flatMap_cons,List.length_append,A2Y he ps,he,List.length_cons,C0v];omega
theorem B6s{V α:Type}{enc:α→List V}{size:Nat}(he:∀x,(enc x).length=size)(ps:List α)(k:Nat)(z:α)(hk:k<ps.length):A3q (ps.flatMap enc) (k*size) (enc z)=(ps.set k z).flatMap enc:=by
 have e:ps=ps.take k++(ps[k]::ps.drop (k+1)):=by rw[←C0V hk,B9R]
 have e2:ps.set k z=ps.take k++(z::ps.drop (k+1)):=by
  rw[List.set_eq_take_append_cons_drop,if_pos hk]
 rw[e2]
 conv=>lhs;rw[e]
 rw[C1K,List.flatMap_cons,C1K,List.flatMap_cons];have hl:((ps.take k).flatMap enc).length=k*size:=by rw[A2Y he,List.length_take,C0H (by omega)]
 have:=A9h (enc z) (enc ps[k]) ((ps.take k).flatMap enc) ((ps.drop (k+1)).flatMap enc) (by rw[he,he]);rw[hl]at this;exact this
theorem A5y{V α:Type}{enc:α→List V}{size:Nat}(he:∀x,(enc x).length=size)(ps:List α)(k j:Nat)(hk:k<ps.length)(hj:j<size):(ps.flatMap enc)[k*size+j]?=(enc ps[k])[j]?:=by
 have e:ps=ps.take k++(ps[k]::ps.drop (k+1)):=by rw[←C0V hk,B9R]
 have hl:((ps.take k).flatMap enc).length=k*size:=by rw[A2Y he,List.length_take,C0H (by omega)]
 conv=>lhs;rw[e]
 rw[C1K,List.flatMap_cons,C09 (by omega),hl,Nat.add_sub_cancel_left,C08 (by rw[he];exact hj)]
theorem A3g{u u1 u2:World}{r:Option Nat}(h:u.grownBy u1 r)(h':u1.grownBy u2 r):u.grownBy u2 r:=by
 obtain⟨a1,a2,a3,a4,a5⟩:=h;obtain⟨b1,b2,b3,b4,b5⟩:=h';exact⟨b1.trans a1,b2.trans a2,b3.trans a3,B9Y a4 b4,fun k hk hr=>(b5 k (B9l hk a4) hr).trans (a5 k hk hr)⟩
theorem A9Z{B:Nat}{e:TypeId}{size g cap n:Nat}:∀(vs:List Value) (i:Nat) (u:World) (xs:List Value),u.ownsRow B e size (.slice (some ⟨g,0,none⟩) n cap) n xs →
  (C2 u g i vs).ownsRow B e size (.slice (some ⟨g,0,none⟩) n cap) n (A3q xs i vs)∧u.grownBy (C2 u g i vs) (some g)
 | [],i,u,xs,h=>⟨h,⟨rfl,rfl,rfl,B9G _,fun _ _ _=>rfl⟩⟩
 | v::vs,i,u,xs,h=>by
  obtain⟨h1,h2⟩:=h.stored i v;obtain⟨h3,h4⟩:=A9Z vs (i+1) _ _ h1;exact⟨h3,A3g h2 h4⟩
theorem O7{α:Type}{enc:α→List Value}{B:Nat}{e:TypeId}{size g cap n:Nat}(he:∀x,(enc x).length=size){u:World}{ps:List α}(h:u.ownsRow B e size (.slice (some ⟨g,0,none⟩) n cap) n (ps.flatMap enc))(k:Nat)(z:α)(hk:k<ps.length) :
  (C2 u g (k*size) (enc z)).ownsRow B e size (.slice (some ⟨g,0,none⟩) n cap) n ((ps.set k z).flatMap enc)∧u.grownBy (C2 u g (k*size) (enc z)) (some g):=by
 have:=A9Z (enc z) (k*size) u _ h;rw[B6s he ps k z hk]at this;exact this
theorem R9{α:Type}{enc:α→List Value}{B:Nat}{e:TypeId}{size g cap n:Nat}(he:∀x,(enc x).length=size){u:World}{ps:List α}(h:u.ownsRow B e size (.slice (some ⟨g,0,none⟩) n cap) n (ps.flatMap enc))(hn:n=ps.length)(k j:Nat)(hk:k<ps.length)(hj:j<size) :
  u.cell? ⟨g,k*size+j,none⟩=(enc ps[k])[j]?:=by
 have hlt:k*size+j<n*size:=by
  have:k*size+size≤ps.length*size:=by rw[←Nat.succ_mul];exact B94 _ hk
  rw[hn];omega
 rw[h.cellAt (k*size+j) hlt,A5y he ps k j hk hj]
def T6(v v2:Value):Prop:=∀g,v.ownBlock=some g→v2.ownBlock=some g→False
theorem T6.symm{v v2:Value}(h:T6 v v2):T6 v2 v:=fun g h1 h2=>h g h2 h1
theorem B0j{u w':World}{B:Nat}{e:TypeId}{size n:Nat}{v:Value}{xs:List Value}{x:Ax}{a:Nat}(hl:Rn u x a)(h:u.ownsRow B e size v n xs)(ht:e≠193)(hg:u.grownBy w' v.ownBlock):Rn w' x a:=⟨fun hne=>by
 obtain⟨b,off,cs,fr,e1,hb,hc⟩:=hl.1 hne;refine⟨b,off,cs,fr,e1,?_,hc⟩;refine(hg.block b (J3 hb) fun hxe=>?_).trans hb;obtain⟨_,h|⟨g,cap,cur,rfl,hb',hh,hn,hc',hs,ht2⟩⟩:=h
 ·rw[h.1]at hxe;cases hxe
 ·have h1:b=g:=B9M hxe;rw[h1,hh]at hb;injection hb with hb;injection hb with _ h3 _
  exact ht h3,hl.2⟩
theorem A7o{u w':World}{B:Nat}{e:TypeId}{size n:Nat}{v:Value}{xs:List Value}{p:Az}{q:Rat}(hl:Rz u p q)(h:u.ownsRow B e size v n xs)(ht:e≠193)(hg:u.grownBy w' v.ownBlock):Rz w' p q:=⟨B0j hl.1 h ht hg,B0j hl.2 h ht hg⟩
theorem B3t{u w':World}{B:Nat}{e:TypeId}{size n:Nat}{v:Value}{xs:List Value}{ps:List Zr}(hl:I1 u ps)(h:u.ownsRow B e size v n xs)(ht:e≠193)(hg:u.grownBy w' v.ownBlock):I1 w' ps:=fun r hr=>A7o (hl r hr) h ht hg
theorem X9{u:World}{B:Nat}{e:TypeId}{size n:Nat}{v:Value}{xs:List Value}(h:u.ownsRow B e size v n xs)(h0:0<n):∃g cap,v = .slice (some ⟨g,0,none⟩) n cap∧B≤g∧n≤cap:=by
 obtain⟨_,h|⟨g,cap,cur,rfl,hb',hh,hn,hc',hs,ht2⟩⟩:=h
 ·omega
 ·exact⟨g,cap,rfl,hb',hn⟩
theorem N9{u:World}{B B':Nat}{e e':TypeId}{s s':Nat}{v v':Value}{n n':Nat}{xs xs':List Value}(h:u.ownsRow B e s v n xs)(h':u.ownsRow B' e' s' v' n' xs')(hne:e≠e'):T6 v v':=fun g h1 h2=>by
 obtain⟨_,h|⟨g1,cap,cur,rfl,hb,hh,hn,hc,hs,ht⟩⟩:=h
 ·rw[h.1]at h1;cases h1
 ·obtain⟨_,h'|⟨g2,cap',cur',rfl,hb',hh',hn',hc',hs',ht'⟩⟩:=h'
  ·rw[h'.1]at h2;cases h2
  ·have e1:g=g1:=B9M h1.symm;have e2:g=g2:=B9M h2.symm;rw[←e1]at hh;rw[←e2,hh]at hh';injection hh' with hh';injection hh' with _ h3 _;exact hne h3
theorem N7{w u u':World}{e:TypeId}{size n:Nat}{v:Value}{xs:List Value}(h:u.ownsRow w.heap.size e size v n xs)(hG:A4 w u)(hg:u.grownBy u' v.ownBlock):A4 w u':=hG.grown hg fun k hk=>(h.lt k hk).1
theorem A7Z{ops:Array Oper}{a:Act}{u:World}{K:Act→World→Prop}{d2:Option Nat}{s z:Operand}{t2:TypeId}{p2:String}{f2:Array Edge}{rest:List Oper}{T e:TypeId}{size bytes:Nat}(hE:EI T e size bytes)
  (B:Nat) (v:Value) (n:Nat) (xs:List Value) (b:Nat) (ys:List Value) (hy:ys.length=size) (h1:(ys.all fun y=>y.oneCell')=true) (hblk:Blk u b e ys.toArray)
  (hs:a.eval s=v) (hz:a.eval z = .slice (some ⟨b,0,none⟩) 1 1)
  (hown:u.ownsRow B e size v n xs) (hl:n+1≤1099511627776) (hl2:(n+1)*bytes≤140737488355328) (hB:B≤u.heap.size)
  (h:∀v' w',w'.ownsRow B e size v' (n+1) (xs++ys)→u.grownBy w' v.ownBlock→(v'.ownBlock=v.ownBlock∨v'.ownBlock=some u.heap.size)→wpList Tryz.prog ops (NoK K) rest (a.put d2 v') w') :
  wpList Tryz.prog ops (NoK K) (⟨d2,.call { callee:=.builtin .append,args:=#[s,z],argTypes:=#[T,T] },t2,p2,f2,none⟩::rest) a u:=by
 obtain⟨hund,⟨i0,z0,hi0,hz0,hz1,hz2,hz3⟩,hpos⟩:=hE;refine wpList_append_own_at u (a:=a) (Q:=NoK K) rfl s z T rfl B e i0 z0 size bytes hund hi0 hz0 hz1 hz2 hz3 hpos v n xs hs hown ⟨b,0,none⟩ 1 1 ys hz (by rw[hy];omega) ?_ (fun y hy=>List.all_eq_true.1 h1 y hy) (by unfold maxLen;omega) hl2 hB fun v' w' g1 g2 _ g4=>h v' w' g1 g2 g4;intro j y hj;rw[B9z,Nat.zero_add,Blk.cell hblk j,List.getElem?_toArray];exact hj
abbrev Zw:=Ax×List Zr
abbrev zwV(r:Zw):Value:=.slice r.1.1 r.2.length r.1.2
def Y7(B:Nat)(W:World)(rws:List Zw):Prop:=(∀r∈rws,I1 W r.2∧W.ownsRow B 33 3 (zwV r) r.2.length (r.2.flatMap zrL))∧rws.Pairwise (fun a b=>T6 (zwV a) (zwV b))
theorem Y7.nil(B:Nat)(W:World):Y7 B W []:=⟨fun _ h=>(by cases h),List.Pairwise.nil⟩
theorem Y7.grow{B:Nat}{u u':World}{rws:List Zw}(h:Y7 B u rws)(hg:A4 u u'):Y7 B u' rws:=⟨fun r hr=>⟨(h.1 r hr).1.grow hg,B9 (h.1 r hr).2 hg⟩,h.2⟩
theorem Y7.own{B0:Nat}{u w':World}{B:Nat}{e:TypeId}{size n:Nat}{v:Value}{xs:List Value}{o:Obj}{rws:List Zw}(hl:Y7 B0 u rws)(h:u.ownsRow B e size v n xs)(ht:e≠193∧e≠33)(hg:(u.alloc o).grownBy w' v.ownBlock):Y7 B0 w' rws:=⟨fun r hr=>⟨(hl.1 r hr).1.own h ht.1 hg,by
 have h2:=(hl.1 r hr).2;refine(h2.alloc o).kept hg ?_
 cases hb:(zwV r).ownBlock with
 | none=>exact .inl rfl
 | some g=>exact .inr fun e1=>N9 h h2 ht.2 g e1.symm hb⟩,hl.2⟩
def A4n(B k:Nat)(q:List Rat)(x:Zw)(W:World):Prop:=(x.2.map (·.2)=q∧x.2.length=k)∧I1 W x.2∧W.ownsRow B 33 3 (zwV x) x.2.length (x.2.flatMap zrL)
theorem A4n.grow{B k:Nat}{q:List Rat}{x:Zw}{u u':World}(hg:A4 u u')(h:A4n B k q x u):A4n B k q x u':=⟨h.1,h.2.1.grow hg,B9 h.2.2 hg⟩
theorem Y7.snoc{B k:Nat}{q:List Rat}{u v:World}{rws:List Zw}{x:Zw}(h:Y7 B u rws)(hg:A4 u v)(hB:B≤u.heap.size)(h1:A4n u.heap.size k q x v):Y7 B v (rws++[x]):=by
 refine⟨fun r hr=>?_,?_⟩
 ·rcases List.mem_append.1 hr with hr|hr
  ·exact(h.grow hg).1 r hr
  ·have:r=x:=by simpa using hr
   subst this;exact⟨h1.2.1,h1.2.2.mono hB⟩
 ·rw[List.pairwise_append];refine⟨h.2,by simp,fun a ha b hb=>?_⟩;have:b=x:=by simpa using hb
  subst this;intro g e1 e2;have h3:=((h.1 a ha).2.lt g e1).2;have h4:=(h1.2.2.lt g e2).1;omega
def Lrz(u:World)(A:Option Addr)(rs:List Rq):Prop :=
 rs≠[]→∃b off,A=some ⟨b,off,none⟩∧b<u.heap.size∧∀i r,rs[i]?=some r→u.cell? ⟨b,off+i,none⟩=some (.slice r.1 r.2.2.length r.2.1)∧Lz u r.1 r.2.2
theorem Lrz.grow{u u':World}{A:Option Addr}{rs:List Rq}(h:Lrz u A rs)(hg:A4 u u'):Lrz u' A rs:=fun hn=>by
 obtain⟨b,off,e,hb,hc⟩:=h hn;exact⟨b,off,e,B9l hb hg.size,fun i r hi=>⟨(hg.cell (p:=⟨b,off+i,none⟩) hb).trans (hc i r hi).1,(hc i r hi).2.grow hg⟩⟩
theorem Lrz.addr{u:World}{A:Option Addr}{rs:List Rq}(h:Lrz u A rs)(hl:0<rs.length):∃b off,A=some ⟨b,off,none⟩:=by
 obtain⟨b,off,e,_⟩:=h (fun h0=>by rw[h0]at hl;cases hl);exact⟨b,off,e⟩
theorem Lrz.read{u:World}{b off:Nat}{rs:List Rq}(h:Lrz u (some ⟨b,off,none⟩) rs){i:Nat}{r:Rq}(hi:rs[i]?=some r):u.cell? ⟨b,off+i,none⟩=some (.slice r.1 r.2.2.length r.2.1)∧Lz u r.1 r.2.2:=by
 obtain⟨b',off',e,_,hc⟩:=h (fun h0=>by rw[h0]at hi;simp at hi);cases e;exact hc i r hi
abbrev A2G(r:Rq):Value:=.slice r.1 r.2.2.length r.2.1
def U9(B:Nat)(W:World)(rs:List Rq):Prop:=∀r∈rs,W.ownsRow B 48 5 (A2G r) r.2.2.length (r.2.2.flatMap qL)
theorem U9.nil(B:Nat)(W:World):U9 B W []:=fun _ h=>by cases h
theorem U9.grow{B:Nat}{u u':World}{rs:List Rq}(h:U9 B u rs)(hg:A4 u u'):U9 B u' rs:=fun r hr=>B9 (h r hr) hg
theorem U9.own{B0:Nat}{u w':World}{B:Nat}{e:TypeId}{size n:Nat}{v:Value}{xs:List Value}{o:Obj}{rs:List Rq}(hl:U9 B0 u rs)(h:u.ownsRow B e size v n xs)(ht:e≠48)(hg:(u.alloc o).grownBy w' v.ownBlock):U9 B0 w' rs:=fun r hr=>by
 have h2:=hl r hr;refine(h2.alloc o).kept hg ?_
 cases hb:(A2G r).ownBlock with
 | none=>exact .inl rfl
 | some g=>exact .inr fun e1=>N9 h h2 ht g e1.symm hb
def A13(B k:Nat)(q:List Rat)(x:Ax)(W:World):Prop:=q.length=k∧W.ownsRow B 48 5 (.slice x.1 k x.2) k (q.flatMap qL)
theorem A13.grow{B k:Nat}{q:List Rat}{x:Ax}{u u':World}(hg:A4 u u')(h:A13 B k q x u):A13 B k q x u':=⟨h.1,B9 h.2 hg⟩
theorem U9.snoc{B k:Nat}{q:List Rat}{v:World}{rs:List Rq}{x:Ax}(h:U9 B v rs)(h1:A13 B k q x v):U9 B v (rs++[(x.1,x.2,q)]):=fun r hr=>by
 rcases List.mem_append.1 hr with hr|hr
 ·exact h r hr
 ·have:r=(x.1,x.2,q):=by simpa using hr
  subst this;have h2:=h1.2;rw[←h1.1]at h2;exact h2
theorem B8T:EI 39 35 1 24:=A0l (by kernel_rfl) (by kernel_rfl) (by omega)
theorem B8H(A:Option Addr)(n c:Nat)(w:World):(Instr.buildSlice 39 1 #[(0,.slice A n c)]).run Tryz.prog w = .ok (.slice (some ⟨w.heap.size,0,none⟩) 1 1) (w.alloc (.cells #[.slice A n c] 35)):=by
 go_simp
theorem B1l{u:World}{B n:Nat}{v:Value}{rs:List Rq}(h:u.ownsRow B 35 1 v n (rs.map A2G))(hr:U9 B u rs):∃A c,v = .slice A n c∧n≤c∧Lrq u A rs∧n=rs.length:=by
 have hn:n=rs.length:=by have:=h.1;simp at this;omega
 subst hn;obtain⟨_,h|⟨g,cap,cur,rfl,hb,hh,hn,hc,hs,ht⟩⟩:=h
 ·obtain⟨rfl,h0⟩:=h;exact⟨none,0,by rw[h0],by omega,fun hne=>absurd (B9K h0) hne,rfl⟩
 ·refine⟨_,cap,rfl,hn,fun _=>⟨g,0,rfl,J3 hh,fun i r hi=>⟨?_,?_⟩⟩,rfl⟩
  ·rw[Nat.zero_add,B9S u g i cur 35 (0,0) hh];have hil:i<rs.length:=(List.getElem?_eq_some_iff.1 hi).1;have h1:(cur.toList.take (rs.length*1))[i]?=some (A2G r):=by rw[ht,List.getElem?_map,hi];rfl
   rw[C0p,if_pos (by omega)]at h1
   simpa using h1
  ·obtain⟨A,c,e1,_,_,hL,_⟩:=K9 (hr r (B9X hi));cases e1;exact hL
theorem B4i(A:Option Addr)(rs:List Rq)(c n:Nat)(hn:n=rs.length)(hm:n≤1048576)(hs:∀r∈rs,r.2.2.length≤1048576∧∀x∈r.2.2,qs x≤BIG)(w:World)(h:Lrz w A rs)(HT:Tab w) :
  Calls Tryz.prog 15 #[.slice A n c] w fun e w'=>∃(v:Value) (rs':List Rq),e = .returned v∧rs'.map (·.2.2)=rs.map (·.2.2)∧U9 w.heap.size w' rs'∧w'.ownsRow w.heap.size 35 1 v n (rs'.map A2G)∧A4 w w':=by
 have H:=B9g h;have Hn:=B9g hn;have Hs:=B9g hs;clear h hn hs;go_enter Tryz.func15,Tryz.ntmps15;refine en0 ?_;intro u hG hB hF;refine r0T ?_;refine B9b ?_;refine r0T ?_;refine B99 ?_;clear hB hF;go_loopw [4,3] (fun s0 s1 wr=>∃(i:Nat) (rs':List Rq),i≤n∧s0 = .int .i64 i∧rs'.map (·.2.2)=(rs.take i).map (·.2.2)∧U9 w.heap.size wr rs'∧wr.ownsRow w.heap.size 35 1 s1 i (rs'.map A2G)∧A4 w wr) (fun s0 _ _=>n-(intOf s0).toNat)
 case atStart=>exact⟨0,[],B9y _,rfl,rfl,U9.nil _ _,C1B _ _ _ _,hG⟩
 case round =>
  clear hG;obtain⟨i,rs',hi,rfl,hps,hA,ho,hG⟩:=hrel;obtain⟨u,rfl⟩:=exQ wr;have hB:=Bx.nil u;have hF:=Fr.nil w;have Ho:=B9g ho;have Hps:=B9g hps;clear ho hps;rcases B9H i n with hlt|hge
  ·have hdec:decide ((i:Int)<(n:Int))=true:=by simp;omega
   have hil:i<rs.length:=by rw[←Hn.out];exact hlt
   have hsu:rs.take (i+1)=rs.take i++[rs[i]]:=B9v hil;obtain⟨ba,oa,rfl⟩:=H.out.addr (by omega);obtain⟨hs1,hs2⟩:=Hs.out _ (B9U hil);have hrd:∀W,A4 w W→W.cell? ⟨ba,oa+i,none⟩=some (.slice rs[i].1 rs[i].2.2.length rs[i].2.1)∧Lz W rs[i].1 rs[i].2.2:=fun W hg=>(H.out.grow hg).read (B9w hil);obtain⟨r,hr⟩:∃r,r=rs[i]:=⟨_,rfl⟩
   simp only[←hr]at hrd hs1 hs2 hsu;obtain⟨rA,rc,q⟩:=r;simp only at hrd hs1 hs2 hsu;obtain⟨m,hm2⟩:∃m,m=q.length:=⟨_,rfl⟩
   rw[←hm2]at hrd hs1;have hin:∀W,A4 w W→Tab W→Calls Tryz.prog 16 #[.slice rA m rc] W (G1 (fun x:Ax=>.slice x.1 m x.2) (fun x W'=>A13 w.heap.size m q x W') W):=fun W hg hT =>
    (A79 rA q rc m hm2 hs1 hs2 W (hrd W hg).2 hT).mono fun e w' ⟨v,he,ho,hg'⟩=>by
     obtain⟨A2,cc,rfl,hcc1,hcc2,hL,hkl⟩:=K9 ho;exact⟨(A2,cc),he,⟨hm2.symm,ho.mono hg.size⟩,hg'⟩
   have hrd':=fun W hg=>(hrd W hg).1;have Hin:=B9g hin;have Hrd:=B9g hrd';have Hsu:=B9g hsu;clear hin hrd hrd' hsu hr hil hs2 hm2;refine B9b ?_;refine r0T ?_;refine B9j (rfl) ?_;refine B9i ?_;refine A6 ?_;refine B9b ?_;refine B99 ?_;refine R0 (w:=w) A8 6 [0,0,0,0,0,1] (by kernel_rfl) (by simp only[List.drop_succ_cons,List.drop_zero];exact rfl) (fun _=>True) noG hB hG trivial ?_;intro K L hN hL;simp only[List.zip_cons_cons,List.zip_nil_left]
   repeat first|refine gya ?_|refine gyr ?_|refine gna ?_|refine gyb (by(rintro v ⟨hgu,hB,hG,-⟩ N hN;have r:=hB.r;simp only[BxR]at r;have c1:=Hrd.out v hG;go_simp;exact hN)) ?_
   refine gxd (X:=Ax) (fun x:Ax=>.slice x.1 m x.2) (fun x W=>A13 w.heap.size m q x W) (fun x u u' hg h=>A13.grow hg h) (fun x16=>?_) (C:=by(rintro v ⟨hgu,hB,hG,-⟩;exact Hin.out _ hG (HT.grow hG)));refine H6 ?_;rintro v ⟨⟨hgu,hB1,hG1,-⟩,hx16⟩;replace hA:=hA.grow hgu;have ROWn:=B9g (B9 Ho.out hgu);clear Ho;have Ho:=ROWn;clear ROWn;have hA2:=hA.snoc hx16;have hk2:=hx16.1;clear hA hx16;have hA:=hA2;clear hA2;clear hB hG;have hB:=hB1;have hG:=hG1;clear hB1 hG1;refine hL _ _ ?_;clear hL L hgu;obtain⟨u,rfl⟩:=exQ v;refine S9 B8T w.heap.size _ _ _ _ [.slice x16.1 m x16.2] rfl rfl (B8H x16.1 m x16.2 u) rfl (fun _=>rfl) (fun _=>rfl) (fun _ _=>rfl) Ho.out (by omega) (by omega) hG.sz fun p v' w' g1 g2 g3=>?_;have hBn:=Bx.nil w';have hGn:=S7 Ho.out hG g2;replace hA:=hA.own Ho.out (by decide) g2;clear Ho hB hG;have Ho:=B9g g1;have hB:=hBn;have hG:=hGn;clear g1 g2 g3 hBn hGn;obtain⟨u,rfl⟩:=exQ w';simp only[Act.put,List.setIfInBounds_toArray,List.set_cons_succ,List.set_cons_zero];refine NoK.norm (hN _ _ ?_);clear hN K;refine C8 ?_;refine A6 ?_;refine r0E ?_;refine A6 ?_;go_roundw
   case rel=>exact⟨i+1,rs'++[(x16.1,x16.2,q)],by omega,by go_num,by rw[List.map_append,Hps.out,Hsu.out,List.map_append];rfl,hA,by have:=Ho.out;rw[List.map_append];simpa [A2G,hk2]using this,hG⟩
   case measure=>simp[intOf];omega
  ·obtain rfl:n=i:=by omega
   have hdec:decide ((n:Int)<(n:Int))=false:=by simp
   refine B9b ?_;refine r0T ?_;refine B9h (rfl) ?_;refine C0B ?_;refine C0 ?_;refine C0 ?_;refine E4 ?_;refine A6 ?_;refine r0T ?_;refine rt Tryz.results15 ?_;exact⟨_,rs',rfl,by rw[Hps.out,B98 (C0I Hn.out.symm)],hA,Ho.out,hG⟩
theorem Y7.idx{B:Nat}{W:World}{rws:List Zw}(h:Y7 B W rws):∀(i:Nat) (r:Zw),rws[i]?=some r→I1 W r.2∧W.ownsRow B 33 3 (zwV r) r.2.length (r.2.flatMap zrL):=fun _ r hi=>h.1 r (B9X hi)
theorem A0C{α:Type}{enc:α→List Value}{B:Nat}{e:TypeId}{g cap n:Nat}(he:∀x,(enc x).length=5){u:World}{ps:List α}(h:u.ownsRow B e 5 (.slice (some ⟨g,0,none⟩) n cap) n (ps.flatMap enc))(hn:n=ps.length)(k:Nat)(hk:k<ps.length) :
  ∃y0 y1 y2 y3 y4,u.cell? ⟨g,k*5,none⟩=some y0∧u.cell? ⟨g,k*5+1,none⟩=some y1∧u.cell? ⟨g,k*5+2,none⟩=some y2∧u.cell? ⟨g,k*5+3,none⟩=some y3∧u.cell? ⟨g,k*5+4,none⟩=some y4∧∀j,u.frozen? ⟨g,j,none⟩=false:=by
 have hl:=he ps[k];have h0:=R9 he h hn k 0 hk (by omega);have h1:=R9 he h hn k 1 hk (by omega);have h2:=R9 he h hn k 2 hk (by omega);have h3:=R9 he h hn k 3 hk (by omega);have h4:=R9 he h hn k 4 hk (by omega);rw[B9w (by omega)]at h0 h1 h2 h3 h4;exact⟨_,_,_,_,_,h0,h1,h2,h3,h4,fun j=>h.frozenAt j⟩
theorem V6(b:Nat):∀(vs:List Value) (i:Nat) (u:World),u.grownBy (C2 u b i vs) (some b)
 | [],_,_=>⟨rfl,rfl,rfl,B9G _,fun _ _ _=>rfl⟩
 | v::vs,i,u=>A3g (u1:=u.setCell ⟨b,i,none⟩ v) ⟨rfl,rfl,rfl,by simp[World.setCell],fun k _ hk=>B9T _ _ _ _ (fun e=>hk (by simp[e]))⟩ (V6 b vs (i+1) _)
theorem H7{u u':World}{B:Nat}{e:TypeId}{size n b i:Nat}{v:Value}{xs vs:List Value}(h:u.ownsRow B e size v n xs)(hb:v.ownBlock≠some b)(hu:C2 u b i vs=u'):u'.ownsRow B e size v n xs:=by
 subst hu;exact h.kept (V6 b vs i u) (.inr hb)
theorem A6h:(Tryz.prog.info? 48).map (fun i=>(i.zero,i.size,i.bytes))=some (some (.agg (qL 0).toArray),5,56):=by kernel_rfl
theorem B1q(n:Nat):madeCells (Value.agg (qL 0).toArray).cells (n*5)=((List.replicate n (0:Rat)).flatMap qL).toArray:=by
 unfold madeCells;refine Array.ext (by simp[X6,show(qL 0).length=5 from rfl]) fun i h1 h2=>?_;have h1':i<n*5:=by simpa using h1
 have hg:=A2T (List.replicate n (0:Rat)) (i:=i/5) (q:=0) (by rw[C0t,if_pos (by omega)]) (j:=i%5) (by omega);rw[show i/5*5+i%5=i by omega]at hg;have h3:((List.replicate n (0:Rat)).flatMap qL)[i]?=some ((List.replicate n (0:Rat)).flatMap qL)[i]:=B9w _;rw[h3]at hg;have h4:(qL 0)[i%5]?=some ((qL 0)[i%5]'(by show i%5<5;omega)):=B9w _;rw[h4]at hg;injection hg with hg;simp only[List.getElem_toArray,Value.cells,Array.getElem_ofFn];rw[hg];simp[show(qL 0).length=5 from rfl];rw[h4];rfl
theorem A08(n:Nat)(hn:n≤1048576)(x:Int)(hx:x=n)(W:World):(Instr.makeSlice 35 (.int .i64 x) (.int .i64 x)).run Tryz.prog W =
  .ok (.slice (some ⟨W.heap.size,0,none⟩) n n) (W.alloc (.cells ((List.replicate n (0:Rat)).flatMap qL).toArray 48)):=by
 obtain⟨i0,hi0,hz0,hz1,hz2⟩:=B9r A6h;have hr:=run_make (P:=Tryz.prog) W 35 48 i0 (.agg (qL 0).toArray) Tryz.underlying35 hi0 hz0 .i64 .i64 n n (by omega) (by omega) (by rw[hz2];omega) (by omega);rw[hx];rw[hr,hz1];simp only[Int.toNat_natCast];rw[B1q]
theorem A0t{u v:World}{B n:Nat}(hB:B≤u.heap.size)(hn:n≤1048576)(hv:u.alloc (.cells ((List.replicate n (0:Rat)).flatMap qL).toArray 48)=v):v.ownsRow B 48 5 (.slice (some ⟨u.heap.size,0,none⟩) n n) n ((List.replicate n (0:Rat)).flatMap qL):=by
 subst hv;have h:=World.ownsRow_lit (base:=B) (e:=48) (size:=5) u ((List.replicate n (0:Rat)).flatMap qL).toArray n hB (by unfold maxLen;omega) (by simp[X6,show(qL 0).length=5 from rfl])
 simpa using h
theorem A4I(w:World)(l:List Rat):Lq (w.alloc (.cells (l.flatMap qL).toArray 48)) (some ⟨w.heap.size,0,none⟩) l:=fun _ =>
 ⟨w.heap.size,0,rfl,by rw[I9];omega,fun i q hi j v hj=>by
  have hj5:j<5:=(List.getElem?_eq_some_iff.1 hj).1
  rw[Nat.zero_add,Blk.cell (Blk.new w 48 _),List.getElem?_toArray,A2T l hi hj5,hj]⟩
def K6(f:Nat→Rat)(n i:Nat):List Rat:=(List.range n).map fun t=>if t<i then f t else 0
theorem N2(f:Nat→Rat)(n i:Nat):(K6 f n i).length=n:=by unfold K6;simp
theorem A2D(f:Nat→Rat)(n:Nat):K6 f n 0=List.replicate n 0:=by
 unfold K6;apply B9W
 ·simp
 ·intro i h1 h2;simp
theorem A1v(f:Nat→Rat)(n:Nat):K6 f n n=(List.range n).map f:=by
 unfold K6;refine C1J fun j hj=>?_;rw[if_pos (List.mem_range.1 hj)]
theorem A1w{f:Nat→Rat}{n i:Nat}(h:i<n):(K6 f n i).set i (f i)=K6 f n (i+1):=by
 unfold K6;apply B9W
 ·simp
 ·intro j h1 h2;rw[C1I];simp only[List.getElem_map,List.getElem_range];by_cases e:i=j
  ·subst e;simp
  ·rw[if_neg e];by_cases hj:j<i
   ·rw[if_pos hj,if_pos (by omega)]
   ·rw[if_neg hj,if_neg (by omega)]
theorem A3X(A B:Option Addr)(l l':List Rat)(c d n:Nat)(hl:l.length=n)(hl':l'.length=n)(hm:n≤1048576)(s t:Nat)(hs:∀i,i<n→qs (gq l i)≤s)(hs':∀i,i<n→qs (gq l' i)≤t)(hBz:n*(s+t+1)+s+t+10≤BIG)(w:World)(h:Lq w A l)(h':Lq w B l')(HT:Tab w) :
  Calls Tryz.prog 93 #[.slice A n c,.slice B n d] w fun e w'=>e = .returned (.tuple #[qV (E7 l l' n),.bool true])∧A4 w w':=by
 have hM:∀j,j≤n→qs (E7 l l' j)≤n*(s+t+1)+1:=fun j hj=>B9Y (A1J hs hs' j hj) (Nat.add_le_add_right (B94 _ hj) 1);have hne:((n:Int) != (n:Int))=false:=by simp
 have HM:=B9g hM;have Hs:=B9g hs;have Hs':=B9g hs';have H:=B9g h;have H':=B9g h';have Hl:=B9g hl;have Hl':=B9g hl';clear hM hs hs' h h' hl hl';go_enter Tryz.func93,Tryz.ntmps93;refine en1 ?_;intro u hG b4 hB hF;refine B9b ?_;refine r0T ?_;refine B9h (rfl) ?_;refine B9i ?_;refine A6 ?_;refine B9b (rsE A8 [2] hB hG fun L hL=>?_);refine gaa (J5 _ _ _ _ _) fun b6 hb6 hn6=>?_;replace hF:=hF.n1 [] hB hG hb6 hn6;refine geT hL ?_;clear hB hG hL L;rintro u ⟨⟨-,hB,hG,-⟩,h6⟩;replace hB:=hB.cons' h6;clear h6;clear hb6 hn6;refine B9b ?_;refine r0T ?_;refine B99 ?_;go_loopw [17] (fun s0 wr=>∃(j:Nat) (S:Rat),j≤n∧s0 = .int .i64 j∧S=E7 l l' j∧Bx wr [(b6,48,S6 S),(b4,48,A3y)]∧A4 w wr) (fun s0 _=>n-(intOf s0).toNat)
 case atStart=>exact⟨0,0,B9y _,rfl,rfl,hB,hG⟩
 case round =>
  clear hB hG;obtain⟨j,S,hj,rfl,hS,hB,hG⟩:=hrel;obtain⟨u,rfl⟩:=exQ wr;have z1:=HM.out j hj;rw[←hS]at z1;rcases B9H j n with hlt|hge
  ·have hdec:decide ((j:Int)<(n:Int))=true:=by simp;omega
   have hjn:(j:Int)<(n:Int):=by omega
   have hjl:j<l.length:=by rw[Hl.out];exact hlt
   have hjl':j<l'.length:=by rw[Hl'.out];exact hlt
   obtain⟨ba,oa,rfl⟩:=H.out.addr (by omega);obtain⟨bb,ob,rfl⟩:=H'.out.addr (by omega);have hrd:∀W,A4 w W→Cq W ba (oa+j*5) (gq l j)∧Cq W bb (ob+j*5) (gq l' j):=fun W hg=>⟨(H.out.grow hg).read hjl,(H'.out.grow hg).read hjl'⟩
   have z2:=Hs.out j hlt;have z3:=Hs'.out j hlt;have hnx:=B8A l l' j;rw[←hS]at hnx;obtain⟨X,hX⟩:∃X,X=gq l j:=⟨_,rfl⟩
   obtain⟨Y,hY⟩:∃X,X=gq l' j:=⟨_,rfl⟩
   simp only[←hX,←hY]at hrd;rw[←hX]at z2 hnx;rw[←hY]at z3 hnx;have z4:=A0d X Y;have hml:=fun W hT=>A1g X Y W (by omega) hT;obtain⟨D,hD⟩:∃D,D=D8 X Y:=⟨_,rfl⟩
   rw[←hD]at hnx hml;have z5:qs D≤s+t:=by rw[hD];unfold D8;omega
   have had:=fun W hT=>A3R S D W (by omega) hT;have Hrd:=B9g hrd;have Hnx:=B9g hnx;have Hml:=B9g hml;have Had:=B9g had;clear hrd hnx hml had hX hY hD hjl hjl' hS z1 z2 z3 z4 z5;refine r0T ?_;refine B9b ?_;refine B9j (rfl) ?_;refine B9i ?_;refine A6 ?_;refine B9b ?_;refine B99 ?_;refine B9b (rsC A8 [0,0,0,2,0] hB hG fun K L hN hL=>?_)
   repeat first|refine gya ?_|refine gyr ?_|refine gna ?_|refine gyb (by(rintro v ⟨hgu,hB,hG,-⟩ N hN;have r:=hB.r;simp only[BxR]at r;obtain⟨⟨q1,q2,q3,q4,q5⟩,⟨y1,y2,y3,y4,y5⟩⟩:=Hrd.out v hG;go_simp;exact hN)) ?_
   refine gaa (J5 _ _ _ _ _) fun b8 hb8 hn8=>?_;refine gs ?_;replace hF:=hF.n1 [] hB hG hb8 hn8;refine geC hL ?_;clear hB hG hL L;rintro u ⟨⟨-,hB,hG,-⟩,h8⟩;replace hB:=hB.cons' h8;clear h8;clear hb8 hn8;refine gtT ?_;clear hN K;refine st hB hF hG 0 0 [_,_,_,_,_] ?_;clear hB hG;intro u hB hG;refine rdC A8 [] [(0,0),(0,1),(0,2),(0,3),(0,4),(0,5),(1,6),(1,7)] hB hG fun K L hN hL=>?_
   repeat first|refine gya ?_|refine gyr ?_|refine gna ?_|refine gyb (by(rintro v ⟨hgu,hB,hG,-⟩ N hN;have r:=hB.r;simp only[BxR]at r;obtain⟨⟨q1,q2,q3,q4,q5⟩,⟨y1,y2,y3,y4,y5⟩⟩:=Hrd.out v hG;go_simp;exact hN)) ?_
   refine gmd (C:=fun v ⟨hgu,hB,hG,_⟩=>Hml.out _ (HT.grow hG)) ?_;refine gmd (C:=fun v ⟨hgu,hB,hG,_⟩=>Had.out _ (HT.grow hG)) ?_;refine geC hL ?_;clear hB hG hL L;rintro u ⟨-,hB,hG,-⟩;refine gt ?_;clear hN K;refine st hB hF hG 1 0 [_,_,_,_,_] ?_;clear hB hG;intro u hB hG;refine C8 ?_;refine A6 ?_;refine r0E ?_;refine A6 ?_;go_roundw
   case rel=>exact⟨j+1,H5 S D,by omega,by go_num,Hnx.out.symm,hB.tail,hG⟩
   case measure=>simp[intOf];omega
  ·obtain rfl:n=j:=by omega
   have hdec:decide ((n:Int)<(n:Int))=false:=by simp
   rw[←hS];clear hS;refine r0T ?_;refine B9b ?_;refine B9h (rfl) ?_;refine C0B ?_;refine C0 ?_;refine C0 ?_;refine E4 ?_;refine A6 ?_;refine r0T ?_;refine st hB hF hG 1 0 [_,_,_,_,_] ?_;clear hB hG;intro u hB hG;refine rt Tryz.results93 ?_;exact⟨rfl,hG⟩
theorem B7T{a b:Rat}:decide (0<I3 a b)=decide (b<a):=by
 unfold I3;by_cases h1:a<b
 ·rw[if_pos h1];have:¬b<a:=by grind
  simp[this]
 ·rw[if_neg h1];by_cases h2:b<a
  ·rw[if_pos h2];simp[h2]
  ·rw[if_neg h2];simp[h2]
theorem A8Q(a b:Rat)(h:qs a+qs b+1≤BIG)(w:World):Calls Tryz.prog 98 #[qV a,qV b] w fun e w'=>e = .returned (qV (S8 a b))∧A4 w w':=by
 have hc:=fun W=>A1m b a W (by omega);have hz:=@B7T b a;obtain⟨Z,hZ⟩:∃Z,Z=I3 b a:=⟨_,rfl⟩
 rw[←hZ]at hz;simp only[←hZ]at hc;have Hc:=B9g hc;clear hc hZ;by_cases hab:a<b
 ·have fZ:decide (0<Z)=true:=by rw[hz];exact C0L hab
  have e:S8 a b=b:=if_pos hab;rw[e];clear hab hz e;go_enter Tryz.func98,Tryz.ntmps98;refine en3 ?_;intro u hG b4 b3 b2 hB hF;refine B9b ?_;refine B9b (rsE A8 [0,0,1,0] hB hG fun L hL=>?_);refine gs ?_;refine gmw (C:=fun v=>Hc.out _) ?_;refine gs ?_;refine geT hL ?_;clear hB hG hL L;rintro u ⟨-,hB,hG,-⟩;refine B9j (rfl) ?_;refine r0T ?_;refine st hB hF hG 2 0 [_,_,_,_,_] ?_;clear hB hG;intro u hB hG;refine rt Tryz.results98 ?_;exact⟨rfl,hG⟩
 ·have fZ:decide (0<Z)=false:=by rw[hz];exact C0Q hab
  have e:S8 a b=a:=if_neg hab;rw[e];clear hab hz e;go_enter Tryz.func98,Tryz.ntmps98;refine en3 ?_;intro u hG b4 b3 b2 hB hF;refine B9b ?_;refine B9b (rsE A8 [0,0,1,0] hB hG fun L hL=>?_);refine gs ?_;refine gmw (C:=fun v=>Hc.out _) ?_;refine gs ?_;refine geT hL ?_;clear hB hG hL L;rintro u ⟨-,hB,hG,-⟩;refine B9h (rfl) ?_;refine B9i ?_;refine A6 ?_;refine r0T ?_;refine st hB hF hG 2 0 [_,_,_,_,_] ?_;clear hB hG;intro u hB hG;refine rt Tryz.results98 ?_;exact⟨rfl,hG⟩
theorem A30(A Y:Option Addr)(rs:List Rq)(N L c d:Nat)(hn:rs.length=N)(hN:1≤N)(hN2:N≤300)(hL1:1≤L)(hL2:L≤20)(hrl:∀r∈rs,r.2.2.length=L)(w:World)(h:Lrq w A rs) :
  Calls Tryz.prog 57 #[.slice A N c,.slice Y N d] w fun e w'=>e = .returned (.bool true)∧A4 w w':=by
 obtain⟨bb,ob,rfl⟩:=h.addr (by omega);have hrow:∀i,i<N→∃(Ar:Option Addr) (cr:Nat),∀W,A4 w W→W.cell? ⟨bb,ob+i,none⟩=some (.slice Ar L cr):=fun i hi=>by
  have hil:i<rs.length:=by omega
  refine⟨rs[i].1,rs[i].2.1,fun W hg=>?_⟩;have h3:=((h.grow hg).read (B9w hil)).1;rw[hrl _ (B9U hil)]at h3;exact h3
 obtain⟨A0,c0,hrow0⟩:=hrow 0 (by omega);rw[Nat.add_zero]at hrow0;have f1:decide ((N:Int)<1)=false:=by simp;omega
 have f1n:decide (N=0)=false:=by simp;omega
 have f2:decide ((300:Int)<(N:Int))=false:=by simp;omega
 have f2n:decide (300<N)=false:=by simp;omega
 have f3:((N:Int) != (N:Int))=false:=by simp
 have f4:decide ((L:Int)<1)=false:=by simp;omega
 have f4n:decide (L=0)=false:=by simp;omega
 have f5:decide ((20:Int)<(L:Int))=false:=by simp;omega
 have f5n:decide (20<L)=false:=by simp;omega
 have f6:((L:Int) != (L:Int))=false:=by simp
 have hni:(0:Int)<(N:Int):=by omega
 have hnp:0<N:=by omega
 have fn:decide ((0:Int)<(N:Int))=true:=by simp;omega
 have fnn:decide (0<N)=true:=by simp;omega
 have Hrow:=B9g hrow;have Hrow0:=B9g hrow0;clear hrow hrow0 h hrl hn;go_enter Tryz.func57,Tryz.ntmps57;refine en0 ?_;intro u hG hB hF;refine B9b ?_;refine r0T ?_;refine B9h (rfl) ?_;refine B9i ?_;refine A6 ?_;refine B9b ?_;have q0:=Hrow0.out u hG;refine r0N ?_;refine B9b ?_;refine r0T ?_;refine B9h (rfl) ?_;refine B9i ?_;refine A6 ?_;refine B9b ?_;refine r0T ?_;refine B99 ?_;clear hB hF;go_loopw [35] (fun s0 wr=>∃i:Nat,i≤N∧s0 = .int .i64 i∧A4 w wr) (fun s0 _=>N-(intOf s0).toNat)
 case atStart=>exact⟨0,B9y _,rfl,hG⟩
 case round =>
  clear hG;obtain⟨i,hi,rfl,hG⟩:=hrel;obtain⟨u,rfl⟩:=exQ wr;have hB:=Bx.nil u;have hF:=Fr.nil w;rcases B9H i N with hlt|hge
  ·have hdec:decide ((i:Int)<(N:Int))=true:=by simp;omega
   have hiN:(i:Int)<(N:Int):=by omega
   obtain⟨Ar,cr,hrw⟩:=Hrow.out i hlt;have Hrw:=B9g hrw;clear hrw;refine r0T ?_;refine B9b ?_;refine B9j (rfl) ?_;refine B9i ?_;refine A6 ?_;refine B9b ?_;refine B99 ?_;refine B9b ?_;have q0:=Hrow0.out u hG;have q1:=Hrw.out u hG;refine r0N ?_;refine r0T ?_;refine B9h (rfl) ?_;refine B9i ?_;refine C8 ?_;refine A6 ?_;refine r0E ?_;refine A6 ?_;go_roundw
   case rel=>exact⟨i+1,by omega,by go_num,hG⟩
   case measure=>simp[intOf];omega
  ·obtain rfl:N=i:=by omega
   have hdec:decide ((N:Int)<(N:Int))=false:=by simp
   refine r0T ?_;refine B9b ?_;refine B9h (rfl) ?_;refine C0B ?_;refine C0 ?_;refine C0 ?_;refine E4 ?_;refine A6 ?_;refine r0T ?_;refine rt Tryz.results57 ?_;exact⟨rfl,hG⟩
theorem B5d (A Y V : Option Addr) (rs : List Rq) (N L K c d k : Nat) (hn : rs.length = N) (hN : 1 ≤ N) (hN2 : N ≤ 300) (hL1 : 1 ≤ L) (hL2 : L ≤ 20) (hrl : ∀ r ∈ rs, r.2.2.length = L) (a : Rat) (ha : qs a ≤ 10000000) (w : World) (h : Lrq w A rs) :
    Calls Tryz.prog 91 #[.slice A N c,.slice Y N d,.slice V K k,qV a] w fun e w'=>e = .returned (.int .i64 (if K≠L then 5 else if a<0 then 1 else 0))∧A4 w w':=by
  have hsh:=fun W (hg:A4 w W)=>A30 A Y rs N L c d hn hN hN2 hL1 hL2 hrl W (h.grow hg);obtain⟨bb,ob,rfl⟩:=h.addr (by omega);have hrow0:∃(Ar:Option Addr) (cr:Nat),∀W,A4 w W→W.cell? ⟨bb,ob,none⟩=some (.slice Ar L cr):=by
    have hil:0<rs.length:=by omega
    refine⟨rs[0].1,rs[0].2.1,fun W hg=>?_⟩;have h3:=((h.grow hg).read (B9w hil)).1;rw[hrl _ (B9U hil),Nat.add_zero]at h3;exact h3
  obtain⟨A0,c0,hrow0⟩:=hrow0;have hni:(0:Int)<(N:Int):=by omega
  have hnp:0<N:=by omega
  have fn:decide ((0:Int)<(N:Int))=true:=by simp;omega
  have fnn:decide (0<N)=true:=by simp;omega
  have hsg:=fun W=>R3 a (by have:=G8 a;omega) W;have hneg:=@A4s a
  have hrg : a.num.sign = -1 ∨ a.num.sign = 0 ∨ a.num.sign = 1 := by rcases C0k a.num 0 with h | h | h
                                                                     · exact .inl (Int.sign_eq_neg_one_iff_neg.2 h)
                                                                     · exact .inr (.inl (by rw[h];rfl))
                                                                     · exact .inr (.inr (Int.sign_eq_one_iff_pos.2 h))
  obtain⟨S,hS⟩:∃S,S=a.num.sign:=⟨_,rfl⟩
  simp only[←hS]at hsg;rw[←hS]at hneg hrg;have Hsh:=B9g hsh;have Hrow0:=B9g hrow0;have Hsg:=B9g hsg;clear hsh hrow0 h hrl hn hsg hS;by_cases hK:K=L
  · subst hK
    have f1:((K:Int) != (K:Int))=false:=by simp
    rw[if_neg (by simp)];by_cases h0:a<0
    · have f2:decide (S<0)=true:=by rw[hneg.2 h0];rfl
      rw[if_pos h0];clear hneg hrg h0;go_enter Tryz.func91,Tryz.ntmps91;refine en1 ?_;intro u hG b7 hB hF;refine B9b ?_;refine B9b (rsE A8 [0,0,1,0,0,0,0,0,0,0,0,0,0] hB hG fun L hL=>?_);refine gs ?_;refine gmd (C:=fun v ⟨hgu,hB,hG,_⟩=>Hsh.out _ hG) ?_
      repeat first|refine gya ?_|refine gyr ?_|refine gna ?_|refine gyb (by(rintro v ⟨hgu,hB,hG,-⟩ N hN;have r:=hB.r;simp only[BxR]at r;have q0:=Hrow0.out v hG;go_simp;exact hN)) ?_
      refine geT hL ?_;clear hB hG hL L;rintro u ⟨-,hB,hG,-⟩;refine B9h (rfl) ?_;refine B9i ?_;refine A6 ?_;refine B9b ?_;refine B9b (rsE A8 [0,1,0] hB hG fun L hL=>?_)
      repeat first|refine gya ?_|refine gyr ?_|refine gna ?_|refine gyb (by(rintro v ⟨hgu,hB,hG,-⟩ N hN;have r:=hB.r;simp only[BxR]at r;have q0:=Hrow0.out v hG;go_simp;exact hN)) ?_
      refine gmw (C:=fun v=>Hsg.out _) ?_;refine gs ?_;refine geT hL ?_;clear hB hG hL L;rintro u ⟨-,hB,hG,-⟩;refine B9j (rfl) ?_;refine r0T ?_;refine rt Tryz.results91 ?_;exact⟨rfl,hG⟩
    · have f2 : decide (S < 0) = false := by
        have:S ≠ -1:=fun e=>h0 (hneg.1 e);simp;omega
      rw[if_neg h0];clear hneg hrg h0;go_enter Tryz.func91,Tryz.ntmps91;refine en1 ?_;intro u hG b7 hB hF;refine B9b ?_;refine B9b (rsE A8 [0,0,1,0,0,0,0,0,0,0,0,0,0] hB hG fun L hL=>?_);refine gs ?_;refine gmd (C:=fun v ⟨hgu,hB,hG,_⟩=>Hsh.out _ hG) ?_
      repeat first|refine gya ?_|refine gyr ?_|refine gna ?_|refine gyb (by(rintro v ⟨hgu,hB,hG,-⟩ N hN;have r:=hB.r;simp only[BxR]at r;have q0:=Hrow0.out v hG;go_simp;exact hN)) ?_
      refine geT hL ?_;clear hB hG hL L;rintro u ⟨-,hB,hG,-⟩;refine B9h (rfl) ?_;refine B9i ?_;refine A6 ?_;refine B9b ?_;refine B9b (rsE A8 [0,1,0] hB hG fun L hL=>?_)
      repeat first|refine gya ?_|refine gyr ?_|refine gna ?_|refine gyb (by(rintro v ⟨hgu,hB,hG,-⟩ N hN;have r:=hB.r;simp only[BxR]at r;have q0:=Hrow0.out v hG;go_simp;exact hN)) ?_
      refine gmw (C:=fun v=>Hsg.out _) ?_;refine gs ?_;refine geT hL ?_;clear hB hG hL L;rintro u ⟨-,hB,hG,-⟩;refine B9h (rfl) ?_;refine B9i ?_;refine A6 ?_;refine r0T ?_;refine rt Tryz.results91 ?_;exact⟨rfl,hG⟩
  · have f1:((K:Int) != (L:Int))=true:=by simp;omega
    rw[if_pos hK];clear hK hneg hrg;go_enter Tryz.func91,Tryz.ntmps91;refine en1 ?_;intro u hG b7 hB hF;refine B9b ?_;refine B9b (rsE A8 [0,0,1,0,0,0,0,0,0,0,0,0,0] hB hG fun L hL=>?_);refine gs ?_;refine gmd (C:=fun v ⟨hgu,hB,hG,_⟩=>Hsh.out _ hG) ?_
    repeat first|refine gya ?_|refine gyr ?_|refine gna ?_|refine gyb (by(rintro v ⟨hgu,hB,hG,-⟩ N hN;have r:=hB.r;simp only[BxR]at r;have q0:=Hrow0.out v hG;go_simp;exact hN)) ?_
    refine geT hL ?_;clear hB hG hL L;rintro u ⟨-,hB,hG,-⟩;refine B9j (rfl) ?_;refine r0T ?_;refine rt Tryz.results91 ?_;exact⟨rfl,hG⟩
end Go.Proofs.YtgpglgbcobeogaaGreatDoor
