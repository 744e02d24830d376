import Derived.Test.YtgpglgbcobeogaaGreatDoorL27
set_option linter.unusedSimpArgs false
set_option linter.unusedVariables false
set_option maxHeartbeats 2000000
set_option maxRecDepth 100000
namespace Go.Proofs.YtgpglgbcobeogaaGreatDoor
open Go Go.RowKit
def A2x{V:Type}:List V->Nat->List V->List V
 | xs,_,[]=>xs
 | xs,i,v::vs=>A2x (xs.set i v) (i+1) vs
theorem A7p{V:Type}:∀(vs ys fa fb:List V),ys.length=vs.length->A2x (fa++(ys++fb)) fa.length vs=fa++(vs++fb)
 | [],ys,fa,fb,h=>by
  obtain rfl:ys=[]:=List.length_eq_zero_iff.1 h;rfl
 | v::vs,[],fa,fb,h=>by cases h
 | v::vs,y::ys,fa,fb,h=>by
  show A2x ((fa++(y::ys++fb)).set fa.length v) (fa.length+1) vs=_;have e:(fa++(y::ys++fb)).set fa.length v=(fa++[v])++(ys++fb):=by
   simp[List.set_append_right]
  rw[e,show fa.length+1=(fa++[v]).length by simp,A7p vs ys _ fb (by simpa using h)];simp
theorem A1n{V α:Type}{enc:α->List V}{size:Nat}(he:∀x,(enc x).length=size):∀ps:List α,(ps.flatMap enc).length=ps.length*size
 | []=>by simp
 | p::ps=>by rw[List.flatMap_cons,List.length_append,A1n he ps,he,List.length_cons,B9h];omega
theorem B1d{V α:Type}{enc:α->List V}{size:Nat}(he:∀x,(enc x).length=size)(ps:List α)(k:Nat)(z:α)(hk:k<ps.length):A2x (ps.flatMap enc) (k*size) (enc z)=(ps.set k z).flatMap enc:=by
 have e:ps=ps.take k++(ps[k]::ps.drop (k+1)):=by rw[<-B9H hk,B8D]
 have e2:ps.set k z=ps.take k++(z::ps.drop (k+1)):=by
  rw[List.set_eq_take_append_cons_drop,if_pos hk]
 rw[e2]
 conv=>lhs;rw[e]
 rw[B97,List.flatMap_cons,B97,List.flatMap_cons];have hl:((ps.take k).flatMap enc).length=k*size:=by rw[A1n he,List.length_take,B83 (by omega)]
 have:=A7p (enc z) (enc ps[k]) ((ps.take k).flatMap enc) ((ps.drop (k+1)).flatMap enc) (by rw[he,he]);rw[hl]at this;exact this
theorem A4H{V α:Type}{enc:α->List V}{size:Nat}(he:∀x,(enc x).length=size)(ps:List α)(k j:Nat)(hk:k<ps.length)(hj:j<size):(ps.flatMap enc)[k*size+j]?=(enc ps[k])[j]?:=by
 have e:ps=ps.take k++(ps[k]::ps.drop (k+1)):=by rw[<-B9H hk,B8D]
 have hl:((ps.take k).flatMap enc).length=k*size:=by rw[A1n he,List.length_take,B83 (by omega)]
 conv=>lhs;rw[e]
 rw[B97,List.flatMap_cons,B9v (by omega),hl,Nat.add_sub_cancel_left,B9u (by rw[he];exact hj)]
theorem A3w{u u1 u2:World}{r:Option Nat}(h:u.grownBy u1 r)(h':u1.grownBy u2 r):u.grownBy u2 r:=by
 obtain⟨a1,a2,a3,a4,a5⟩:=h;obtain⟨b1,b2,b3,b4,b5⟩:=h';exact⟨b1.trans a1,b2.trans a2,b3.trans a3,B8K a4 b4,λk hk hr=>(b5 k (B8X hk a4) hr).trans (a5 k hk hr)⟩
theorem B0W{B:Nat}{e:TypeId}{size g cap n:Nat}:∀(vs:List Value) (i:Nat) (u:World) (xs:List Value),u.ownsRow B e size (.slice (some ⟨g,0,none⟩) n cap) n xs ->
  (C7 u g i vs).ownsRow B e size (.slice (some ⟨g,0,none⟩) n cap) n (A2x xs i vs)/\u.grownBy (C7 u g i vs) (some g)
 | [],i,u,xs,h=>⟨h,⟨rfl,rfl,rfl,K2 _,λ_ _ _=>rfl⟩⟩
 | v::vs,i,u,xs,h=>by
  obtain⟨h1,h2⟩:=h.stored i v;obtain⟨h3,h4⟩:=B0W vs (i+1) _ _ h1;exact⟨h3,A3w h2 h4⟩
theorem P6{α:Type}{enc:α->List Value}{B:Nat}{e:TypeId}{size g cap n:Nat}(he:∀x,(enc x).length=size){u:World}{ps:List α}(h:u.ownsRow B e size (.slice (some ⟨g,0,none⟩) n cap) n (ps.flatMap enc))(k:Nat)(z:α)(hk:k<ps.length) :
  (C7 u g (k*size) (enc z)).ownsRow B e size (.slice (some ⟨g,0,none⟩) n cap) n ((ps.set k z).flatMap enc)/\u.grownBy (C7 u g (k*size) (enc z)) (some g):=by
 have:=B0W (enc z) (k*size) u _ h;rw[B1d he ps k z hk]at this;exact this
theorem V6{α:Type}{enc:α->List Value}{B:Nat}{e:TypeId}{size g cap n:Nat}(he:∀x,(enc x).length=size){u:World}{ps:List α}(h:u.ownsRow B e size (.slice (some ⟨g,0,none⟩) n cap) n (ps.flatMap enc))(hn:n=ps.length)(k j:Nat)(hk:k<ps.length)(hj:j<size) :
  u.cell? ⟨g,k*size+j,none⟩=(enc ps[k])[j]?:=by
 have hlt:k*size+j<n*size:=by
  have:k*size+size<=ps.length*size:=by rw[<-Nat.succ_mul];exact B8q _ hk
  rw[hn];omega
 rw[h.cellAt (k*size+j) hlt,A4H he ps k j hk hj]
def O2(v v2:Value):Prop:=∀g,v.ownBlock=some g->v2.ownBlock=some g->False
theorem O2.symm{v v2:Value}(h:O2 v v2):O2 v2 v:=λg h1 h2=>h g h2 h1
theorem A8A{u w':World}{B:Nat}{e:TypeId}{size n:Nat}{v:Value}{xs:List Value}{x:Ax}{a:Nat}(hl:Rn u x a)(h:u.ownsRow B e size v n xs)(ht:e≠193)(hg:u.grownBy w' v.ownBlock):Rn w' x a:=⟨λhne=>by
 obtain⟨b,off,cs,fr,e1,hb,hc⟩:=hl.1 hne;refine⟨b,off,cs,fr,e1,?_,hc⟩;refine(hg.block b (N7 hb) λhxe=>?_).trans hb;obtain⟨_,h|⟨g,cap,cur,rfl,hb',hh,hn,hc',hs,ht2⟩⟩:=h
 ·rw[h.1]at hxe;cases hxe
 ·have h1:b=g:=B78 hxe;rw[h1,hh]at hb;injection hb with hb;injection hb with _ h3 _
  exact ht h3,hl.2⟩
theorem B0U{u w':World}{B:Nat}{e:TypeId}{size n:Nat}{v:Value}{xs:List Value}{p:Az}{q:Rat}(hl:Rz u p q)(h:u.ownsRow B e size v n xs)(ht:e≠193)(hg:u.grownBy w' v.ownBlock):Rz w' p q:=⟨A8A hl.1 h ht hg,A8A hl.2 h ht hg⟩
theorem A2j{u w':World}{B:Nat}{e:TypeId}{size n:Nat}{v:Value}{xs:List Value}{ps:List Zr}(hl:E6 u ps)(h:u.ownsRow B e size v n xs)(ht:e≠193)(hg:u.grownBy w' v.ownBlock):E6 w' ps:=λr hr=>B0U (hl r hr) h ht hg
theorem N0{u:World}{B:Nat}{e:TypeId}{size n:Nat}{v:Value}{xs:List Value}(h:u.ownsRow B e size v n xs)(h0:0<n):∃g cap,v = .slice (some ⟨g,0,none⟩) n cap/\B<=g/\n<=cap:=by
 obtain⟨_,h|⟨g,cap,cur,rfl,hb',hh,hn,hc',hs,ht2⟩⟩:=h
 ·omega
 ·exact⟨g,cap,rfl,hb',hn⟩
theorem O0{u:World}{B B':Nat}{e e':TypeId}{s s':Nat}{v v':Value}{n n':Nat}{xs xs':List Value}(h:u.ownsRow B e s v n xs)(h':u.ownsRow B' e' s' v' n' xs')(hne:e≠e'):O2 v v':=λg h1 h2=>by
 obtain⟨_,h|⟨g1,cap,cur,rfl,hb,hh,hn,hc,hs,ht⟩⟩:=h
 ·rw[h.1]at h1;cases h1
 ·obtain⟨_,h'|⟨g2,cap',cur',rfl,hb',hh',hn',hc',hs',ht'⟩⟩:=h'
  ·rw[h'.1]at h2;cases h2
  ·have e1:g=g1:=B78 h1.symm;have e2:g=g2:=B78 h2.symm;rw[<-e1]at hh;rw[<-e2,hh]at hh';injection hh' with hh';injection hh' with _ h3 _;exact hne h3
theorem O5{w u u':World}{e:TypeId}{size n:Nat}{v:Value}{xs:List Value}(h:u.ownsRow w.heap.size e size v n xs)(hG:A4 w u)(hg:u.grownBy u' v.ownBlock):A4 w u':=hG.grown hg λk hk=>(h.lt k hk).1
theorem B20{ops:Array Oper}{a:Act}{u:World}{K:Act->World->Prop}{d2:Option Nat}{s z:Operand}{t2:TypeId}{p2:String}{f2:Array Edge}{rest:List Oper}{T e:TypeId}{size bytes:Nat}(hE:EI T e size bytes)
  (B:Nat) (v:Value) (n:Nat) (xs:List Value) (b:Nat) (ys:List Value) (hy:ys.length=size) (h1:(ys.all λy=>y.oneCell')=true) (hblk:Blk u b e ys.toArray)
  (hs:a.eval s=v) (hz:a.eval z = .slice (some ⟨b,0,none⟩) 1 1)
  (hown:u.ownsRow B e size v n xs) (hl:n+1<=1099511627776) (hl2:(n+1)*bytes<=140737488355328) (hB:B<=u.heap.size)
  (h:∀v' w',w'.ownsRow B e size v' (n+1) (xs++ys)->u.grownBy w' v.ownBlock->(v'.ownBlock=v.ownBlock\/v'.ownBlock=some u.heap.size)->wpList Tryz.prog ops (NoK K) rest (a.put d2 v') w') :
  wpList Tryz.prog ops (NoK K) (⟨d2,.call { callee:=.builtin .append,args:=#[s,z],argTypes:=#[T,T] },t2,p2,f2,none⟩::rest) a u:=by
 obtain⟨hund,⟨i0,z0,hi0,hz0,hz1,hz2,hz3⟩,hpos⟩:=hE;refine wpList_append_own_at u (a:=a) (Q:=NoK K) rfl s z T rfl B e i0 z0 size bytes hund hi0 hz0 hz1 hz2 hz3 hpos v n xs hs hown ⟨b,0,none⟩ 1 1 ys hz (by rw[hy];omega) ?_ (λy hy=>List.all_eq_true.1 h1 y hy) (by unfold maxLen;omega) hl2 hB λv' w' g1 g2 _ g4=>h v' w' g1 g2 g4;intro j y hj;rw[B8l,Nat.zero_add,Blk.cell hblk j,List.getElem?_toArray];exact hj
theorem B6B(A:Option Addr)(l:List Int)(c p m:Nat)(hp:p=l.length)(hc:p<=c)(hm:m<=p)(w:World)(h:Li w A l):∃A':Option Addr,(∀W,(Instr.slice 22 (.slice A p c) (some (.int .i64 (m:Nat))) none none).run Tryz.prog W = .ok (.slice A' (p-m) (c-m)) W)/\Li w A' (l.drop m):=by
 refine⟨if c=m then A else A.map (·.add m),λW=>?_,λhne=>?_⟩
 ·have h3:(m:Int)<=(p:Int):=by omega
  have h4:¬p<m:=by omega
  clear hp h;go_simp
 ·have hlt:m<l.length:=by
   refine Decidable.byContradiction λhh=>hne ?_;exact List.drop_eq_nil_of_le (by omega)
  obtain⟨b,off,rfl,hb,hx⟩:=h (λe=>by rw[e]at hlt;cases hlt);rw[if_neg (by omega)];refine⟨b,off+m,by simp[Addr.add],hb,λi x hi=>?_⟩;rw[List.getElem?_drop]at hi;rw[B9g];exact hx (m+i) x hi
abbrev Zw:=Ax×List Zr
abbrev zwV(r:Zw):Value:=.slice r.1.1 r.2.length r.1.2
def V5(B:Nat)(W:World)(rws:List Zw):Prop:=(∀r∈rws,E6 W r.2/\W.ownsRow B 33 3 (zwV r) r.2.length (r.2.flatMap zrL))/\rws.Pairwise (λa b=>O2 (zwV a) (zwV b))
theorem V5.nil(B:Nat)(W:World):V5 B W []:=⟨λ_ h=>(by cases h),List.Pairwise.nil⟩
theorem V5.grow{B:Nat}{u u':World}{rws:List Zw}(h:V5 B u rws)(hg:A4 u u'):V5 B u' rws:=⟨λr hr=>⟨(h.1 r hr).1.grow hg,C5 (h.1 r hr).2 hg⟩,h.2⟩
theorem V5.own{B0:Nat}{u w':World}{B:Nat}{e:TypeId}{size n:Nat}{v:Value}{xs:List Value}{o:Obj}{rws:List Zw}(hl:V5 B0 u rws)(h:u.ownsRow B e size v n xs)(ht:e≠193/\e≠33)(hg:(u.alloc o).grownBy w' v.ownBlock):V5 B0 w' rws:=⟨λr hr=>⟨(hl.1 r hr).1.own h ht.1 hg,by
 have h2:=(hl.1 r hr).2;refine(h2.alloc o).kept hg ?_
 cases hb:(zwV r).ownBlock with
 | none=>exact .inl rfl
 | some g=>exact .inr λe1=>O0 h h2 ht.2 g e1.symm hb⟩,hl.2⟩
def A2J(B k:Nat)(q:List Rat)(x:Zw)(W:World):Prop:=(x.2.map (·.2)=q/\x.2.length=k)/\E6 W x.2/\W.ownsRow B 33 3 (zwV x) x.2.length (x.2.flatMap zrL)
theorem A2J.grow{B k:Nat}{q:List Rat}{x:Zw}{u u':World}(hg:A4 u u')(h:A2J B k q x u):A2J B k q x u':=⟨h.1,h.2.1.grow hg,C5 h.2.2 hg⟩
theorem V5.snoc{B k:Nat}{q:List Rat}{u v:World}{rws:List Zw}{x:Zw}(h:V5 B u rws)(hg:A4 u v)(hB:B<=u.heap.size)(h1:A2J u.heap.size k q x v):V5 B v (rws++[x]):=by
 refine⟨λr hr=>?_,?_⟩
 ·rcases List.mem_append.1 hr with hr|hr
  ·exact(h.grow hg).1 r hr
  ·have:r=x:=by simpa using hr
   subst this;exact⟨h1.2.1,h1.2.2.mono hB⟩
 ·rw[List.pairwise_append];refine⟨h.2,by simp,λa ha b hb=>?_⟩;have:b=x:=by simpa using hb
  subst this;intro g e1 e2;have h3:=((h.1 a ha).2.lt g e1).2;have h4:=(h1.2.2.lt g e2).1;omega
def A15(l:List Int)(n k:Nat):List (List Rat):=(List.range n).map λi=>R5 (l.drop (min l.length (i*k))) k
theorem B4I(l:List Int)(n k:Nat):A15 l (n+1) k=A15 l n k++[R5 (l.drop (min l.length (n*k))) k]:=by unfold A15;rw[B9J,List.map_append];rfl
def A2y(rws:List Zw):List (List Rat):=rws.map λr=>r.2.map (·.2)
theorem B6W(rws:List Zw)(x:Zw):A2y (rws++[x])=A2y rws++[x.2.map (·.2)]:=by unfold A2y;simp
theorem B1f:EI 23 25 1 24:=A03 (by kernel_rfl) (by kernel_rfl) (by omega)
theorem B6k(A:Option Addr)(n c:Nat)(w:World):(Instr.buildSlice 23 1 #[(0,.slice A n c)]).run Tryz.prog w = .ok (.slice (some ⟨w.heap.size,0,none⟩) 1 1) (w.alloc (.cells #[.slice A n c] 25)):=by
 go_simp
theorem B5a(A:Option Addr)(l:List Int)(c p n k:Nat)(hp:p=l.length)(hc:p<=c)(hn:n<=1048576)(hk:k<=1048576)(hpm:p<=9223372036854775807)(hb:∀x∈l,-9223372036854775808<=x/\x<=9223372036854775807)(w:World)(h:Li w A l) :
  Calls Tryz.prog 56 #[.slice A p c,.int .i64 n,.int .i64 k] w λe w'=>∃(v:Value) (rws:List Zw),e = .returned v/\A2y rws=A15 l n k/\V5 w.heap.size w' rws/\w'.ownsRow w.heap.size 25 1 v n (rws.map zwV)/\A4 w w':=by
 have H:=B8S h;have Hp:=B8S hp;have Hb:=B8S hb;clear h hp hb;go_enter Tryz.func56,Tryz.ntmps56;refine en0 ?_;intro u hG hB hF;refine r0T ?_;refine B8N ?_;refine r0T ?_;refine B8v ?_;clear hB hF;go_loopw [8,7] (λs0 s1 wr=>∃(i:Nat) (rws:List Zw),i<=n/\s0 = .int .i64 i/\A2y rws=A15 l i k/\V5 w.heap.size wr rws/\wr.ownsRow w.heap.size 25 1 s1 i (rws.map zwV)/\A4 w wr) (λs0 _ _=>n-(intOf s0).toNat)
 case atStart=>exact⟨0,[],B8k _,rfl,rfl,V5.nil _ _,B9x _ _ _ _,hG⟩
 case round =>
  clear hG;obtain⟨i,rws,hi,rfl,hps,hA,ho,hG⟩:=hrel;obtain⟨u,rfl⟩:=exQ wr;have hB:=Bx.nil u;have hF:=Fr.nil w;have Ho:=B8S ho;have Hps:=B8S hps;clear ho hps;rcases B73 i n with hlt|hge
  ·have hdec:decide ((i:Int)<(n:Int))=true:=by simp;omega
   have hsu:=B4I l i k;obtain⟨ik,hik⟩:∃x,x=i*k:=⟨_,rfl⟩
   have hikb:ik<=1048576*1048576:=by rw[hik];exact B9p (by omega) hk
   have fik:IntKind.i64.wrap ((i:Int)*(k:Int))=(ik:Int):=by rw[hik,Int.natCast_mul];exact B8j _ (by rw[<-Int.natCast_mul,<-hik];omega)
   obtain⟨m,hm⟩:∃x,x=min p ik:=⟨_,rfl⟩
   have fmin:min (p:Int) (ik:Int)=(m:Int):=by omega
   have hmp:m<=p:=by omega
   rw[<-hik,<-Hp.out,<-hm]at hsu;obtain⟨A',hsl,hLi⟩:=B6B A l c p m Hp.out hc hmp w H.out;have hrw:∀W,A4 u W->Calls Tryz.prog 31 #[.slice A' (p-m) (c-m),.int .i64 k] W (E9 (λx:Zw=>.slice x.1.1 k x.1.2) (λx W'=>A2J u.heap.size k (R5 (l.drop m) k) x W') W):=λW hg =>
    (A65 A' (l.drop m) (c-m) (p-m) k (by rw[B9D,Hp.out]) hk (by omega) (λx hx=>Hb.out x (B9E hx)) W (hLi.grow (hG.trans hg))).mono λe w' ⟨v,ps,he,h1,h2,h3,h4⟩=>by
     obtain⟨A2,cc,rfl,hcc1,hcc2,hL,hkl⟩:=Y6 h3 h2;refine⟨((A2,cc),ps),he,⟨⟨h1,hkl.symm⟩,h2,?_⟩,h4⟩;rw[hkl]at h3;exact h3.mono hg.size
   obtain⟨pm,hpm2⟩:∃x,x=p-m:=⟨_,rfl⟩
   obtain⟨cm,hcm⟩:∃x,x=c-m:=⟨_,rfl⟩
   rw[<-hpm2,<-hcm]at hrw;simp only[<-hpm2,<-hcm]at hsl;obtain⟨q,hq⟩:∃x,x=R5 (l.drop m) k:=⟨_,rfl⟩
   rw[<-hq]at hsu;simp only[<-hq]at hrw;have Hrw:=B8S hrw;have Hsu:=B8S hsu;obtain⟨B0,hB0⟩:=exQ u.heap.size;have hBB:w.heap.size<=u.heap.size:=hG.sz;clear hrw hsu hLi hpm2 hcm hm hik hikb hq hB0;refine B8N ?_;refine r0T ?_;refine B8V (rfl) ?_;refine B8U ?_;refine A6 ?_;refine B8N ?_;refine B8v ?_;have hA0:=B8S hA;refine M4 (w:=w) A8 11 [0,0,0,0,0,0,0,0,0,0,1] (by kernel_rfl) (by simp only[List.drop_succ_cons,List.drop_zero];exact rfl) (λ_=>True) noG hB hG trivial ?_;intro K L hN hL;simp only[List.zip_cons_cons,List.zip_nil_left];refine gs ?_;refine gxd (X:=Zw) (λx:Zw=>.slice x.1.1 k x.1.2) (λx W=>A2J u.heap.size k q x W) (λx u u' hg h=>A2J.grow hg h) (λx24=>?_) (C:=by(rintro v ⟨hgu,hB,hG,-⟩;exact Hrw.out _ hgu));refine H8 ?_;rintro v ⟨⟨hgu,hB1,hG1,-⟩,hx24⟩;replace hA:=hA.grow hgu;have ROWn:=B8S (C5 Ho.out hgu);clear Ho;have Ho:=ROWn;clear ROWn;have hA2:=hA0.out.snoc hgu hBB hx24;have hk2:=hx24.1;clear hA hA0 hx24;have hA:=hA2;clear hA2;clear hB hG;have hB:=hB1;have hG:=hG1;clear hB1 hG1;refine hL _ _ ?_;clear hL L hgu;obtain⟨u,rfl⟩:=exQ v;refine L6 B1f w.heap.size _ _ _ _ [.slice x24.1.1 k x24.1.2] rfl rfl (B6k x24.1.1 k x24.1.2 u) rfl (λ_=>rfl) (λ_=>rfl) (λ_ _=>rfl) Ho.out (by omega) (by omega) hG.sz λp v' w' g1 g2 g3=>?_;have hBn:=Bx.nil w';have hGn:=K3 Ho.out hG g2;replace hA:=hA.own Ho.out (by decide) g2;clear Ho hB hG;have Ho:=B8S g1;have hB:=hBn;have hG:=hGn;clear g1 g2 g3 hBn hGn;obtain⟨u,rfl⟩:=exQ w';simp only[Act.put,List.setIfInBounds_toArray,List.set_cons_succ,List.set_cons_zero];refine NoK.norm (hN _ _ ?_);clear hN K;refine C8 ?_;refine A6 ?_;refine r0E ?_;refine A6 ?_;go_roundw
   case rel=>exact⟨i+1,rws++[x24],by omega,by go_num,by rw[B6W,Hps.out,Hsu.out,hk2.1],hA,by have:=Ho.out;rw[List.map_append];simpa [zwV,hk2.2]using this,hG⟩
   case measure=>simp[intOf];omega
  ·obtain rfl:n=i:=by omega
   have hdec:decide ((n:Int)<(n:Int))=false:=by simp
   refine B8N ?_;refine r0T ?_;refine B8T (rfl) ?_;refine B8x ?_;refine B7 ?_;refine B7 ?_;refine D0 ?_;refine A6 ?_;refine r0T ?_;refine rt Tryz.results56 ?_;exact⟨_,rws,rfl,Hps.out,hA,Ho.out,hG⟩
def Lrz(u:World)(A:Option Addr)(rs:List Rq):Prop :=
 rs≠[]->∃b off,A=some ⟨b,off,none⟩/\b<u.heap.size/\∀i r,rs[i]?=some r->u.cell? ⟨b,off+i,none⟩=some (.slice r.1 r.2.2.length r.2.1)/\Lz u r.1 r.2.2
theorem Lrz.grow{u u':World}{A:Option Addr}{rs:List Rq}(h:Lrz u A rs)(hg:A4 u u'):Lrz u' A rs:=λhn=>by
 obtain⟨b,off,e,hb,hc⟩:=h hn;exact⟨b,off,e,B8X hb hg.size,λi r hi=>⟨(hg.cell (p:=⟨b,off+i,none⟩) hb).trans (hc i r hi).1,(hc i r hi).2.grow hg⟩⟩
theorem Lrz.addr{u:World}{A:Option Addr}{rs:List Rq}(h:Lrz u A rs)(hl:0<rs.length):∃b off,A=some ⟨b,off,none⟩:=by
 obtain⟨b,off,e,_⟩:=h (λh0=>by rw[h0]at hl;cases hl);exact⟨b,off,e⟩
theorem Lrz.read{u:World}{b off:Nat}{rs:List Rq}(h:Lrz u (some ⟨b,off,none⟩) rs){i:Nat}{r:Rq}(hi:rs[i]?=some r):u.cell? ⟨b,off+i,none⟩=some (.slice r.1 r.2.2.length r.2.1)/\Lz u r.1 r.2.2:=by
 obtain⟨b',off',e,_,hc⟩:=h (λh0=>by rw[h0]at hi;simp at hi);cases e;exact hc i r hi
abbrev A2I(r:Rq):Value:=.slice r.1 r.2.2.length r.2.1
def W8(B:Nat)(W:World)(rs:List Rq):Prop:=∀r∈rs,W.ownsRow B 48 5 (A2I r) r.2.2.length (r.2.2.flatMap qL)
theorem W8.nil(B:Nat)(W:World):W8 B W []:=λ_ h=>by cases h
theorem W8.grow{B:Nat}{u u':World}{rs:List Rq}(h:W8 B u rs)(hg:A4 u u'):W8 B u' rs:=λr hr=>C5 (h r hr) hg
theorem W8.own{B0:Nat}{u w':World}{B:Nat}{e:TypeId}{size n:Nat}{v:Value}{xs:List Value}{o:Obj}{rs:List Rq}(hl:W8 B0 u rs)(h:u.ownsRow B e size v n xs)(ht:e≠48)(hg:(u.alloc o).grownBy w' v.ownBlock):W8 B0 w' rs:=λr hr=>by
 have h2:=hl r hr;refine(h2.alloc o).kept hg ?_
 cases hb:(A2I r).ownBlock with
 | none=>exact .inl rfl
 | some g=>exact .inr λe1=>O0 h h2 ht g e1.symm hb
def A1s(B k:Nat)(q:List Rat)(x:Ax)(W:World):Prop:=q.length=k/\W.ownsRow B 48 5 (.slice x.1 k x.2) k (q.flatMap qL)
theorem A1s.grow{B k:Nat}{q:List Rat}{x:Ax}{u u':World}(hg:A4 u u')(h:A1s B k q x u):A1s B k q x u':=⟨h.1,C5 h.2 hg⟩
theorem W8.snoc{B k:Nat}{q:List Rat}{v:World}{rs:List Rq}{x:Ax}(h:W8 B v rs)(h1:A1s B k q x v):W8 B v (rs++[(x.1,x.2,q)]):=λr hr=>by
 rcases List.mem_append.1 hr with hr|hr
 ·exact h r hr
 ·have:r=(x.1,x.2,q):=by simpa using hr
  subst this;have h2:=h1.2;rw[<-h1.1]at h2;exact h2
theorem B6c:EI 39 35 1 24:=A03 (by kernel_rfl) (by kernel_rfl) (by omega)
theorem B2A(A:Option Addr)(n c:Nat)(w:World):(Instr.buildSlice 39 1 #[(0,.slice A n c)]).run Tryz.prog w = .ok (.slice (some ⟨w.heap.size,0,none⟩) 1 1) (w.alloc (.cells #[.slice A n c] 35)):=by
 go_simp
theorem B5X{u:World}{B n:Nat}{v:Value}{rs:List Rq}(h:u.ownsRow B 35 1 v n (rs.map A2I))(hr:W8 B u rs):∃A c,v = .slice A n c/\n<=c/\Lrq u A rs/\n=rs.length:=by
 have hn:n=rs.length:=by have:=h.1;simp at this;omega
 subst hn;obtain⟨_,h|⟨g,cap,cur,rfl,hb,hh,hn,hc,hs,ht⟩⟩:=h
 ·obtain⟨rfl,h0⟩:=h;exact⟨none,0,by rw[h0],by omega,λhne=>absurd (B76 h0) hne,rfl⟩
 ·refine⟨_,cap,rfl,hn,λ_=>⟨g,0,rfl,N7 hh,λi r hi=>⟨?_,?_⟩⟩,rfl⟩
  ·rw[Nat.zero_add,B8E u g i cur 35 (0,0) hh];have hil:i<rs.length:=(List.getElem?_eq_some_iff.1 hi).1;have h1:(cur.toList.take (rs.length*1))[i]?=some (A2I r):=by rw[ht,List.getElem?_map,hi];rfl
   rw[B9b,if_pos (by omega)]at h1
   simpa using h1
  ·obtain⟨A,c,e1,_,_,hL,_⟩:=Q8 (hr r (B8J hi));cases e1;exact hL
theorem B2I{u:World}{B B2 n:Nat}{v:Value}{rws:List Zw}(h:u.ownsRow B 25 1 v n (rws.map zwV))(hr:∀(i:Nat) (r:Zw),rws[i]?=some r->E6 u r.2/\u.ownsRow B2 33 3 (zwV r) r.2.length (r.2.flatMap zrL)):∃A c,v = .slice A n c/\n<=c/\Lrz u A (rws.map λr=>(r.1.1,r.1.2,r.2.map (·.2)))/\n=rws.length:=by
 have hn:n=rws.length:=by have:=h.1;simp at this;omega
 subst hn;obtain⟨_,h|⟨g,cap,cur,rfl,hb,hh,hn,hc,hs,ht⟩⟩:=h
 ·obtain⟨rfl,h0⟩:=h;exact⟨none,0,by rw[h0],by omega,λhne=>absurd (by rw[B76 h0];rfl) hne,rfl⟩
 ·refine⟨_,cap,rfl,hn,λ_=>⟨g,0,rfl,N7 hh,λi r hi=>?_⟩,rfl⟩;rw[List.getElem?_map]at hi;obtain⟨r0,hr0,rfl⟩:=Option.map_eq_some_iff.1 hi;have hil:i<rws.length:=(List.getElem?_eq_some_iff.1 hr0).1;refine⟨?_,?_⟩
  ·rw[Nat.zero_add,B8E u g i cur 25 (0,0) hh];have h1:(cur.toList.take (rws.length*1))[i]?=some (zwV r0):=by rw[ht,List.getElem?_map,hr0];rfl
   rw[B9b,if_pos (by omega)]at h1
   simpa using h1
  ·obtain⟨h1,h2⟩:=hr i r0 hr0;obtain⟨A,c,e1,_,_,hL,_⟩:=Y6 h2 h1;cases e1;exact hL
theorem B7z(A:Option Addr)(rs:List Rq)(c n:Nat)(hn:n=rs.length)(hm:n<=1048576)(hs:∀r∈rs,r.2.2.length<=1048576/\∀x∈r.2.2,qs x<=BIG)(w:World)(h:Lrz w A rs)(HT:Tab w) :
  Calls Tryz.prog 15 #[.slice A n c] w λe w'=>∃(v:Value) (rs':List Rq),e = .returned v/\rs'.map (·.2.2)=rs.map (·.2.2)/\W8 w.heap.size w' rs'/\w'.ownsRow w.heap.size 35 1 v n (rs'.map A2I)/\A4 w w':=by
 have H:=B8S h;have Hn:=B8S hn;have Hs:=B8S hs;clear h hn hs;go_enter Tryz.func15,Tryz.ntmps15;refine en0 ?_;intro u hG hB hF;refine r0T ?_;refine B8N ?_;refine r0T ?_;refine B8v ?_;clear hB hF;go_loopw [4,3] (λs0 s1 wr=>∃(i:Nat) (rs':List Rq),i<=n/\s0 = .int .i64 i/\rs'.map (·.2.2)=(rs.take i).map (·.2.2)/\W8 w.heap.size wr rs'/\wr.ownsRow w.heap.size 35 1 s1 i (rs'.map A2I)/\A4 w wr) (λs0 _ _=>n-(intOf s0).toNat)
 case atStart=>exact⟨0,[],B8k _,rfl,rfl,W8.nil _ _,B9x _ _ _ _,hG⟩
 case round =>
  clear hG;obtain⟨i,rs',hi,rfl,hps,hA,ho,hG⟩:=hrel;obtain⟨u,rfl⟩:=exQ wr;have hB:=Bx.nil u;have hF:=Fr.nil w;have Ho:=B8S ho;have Hps:=B8S hps;clear ho hps;rcases B73 i n with hlt|hge
  ·have hdec:decide ((i:Int)<(n:Int))=true:=by simp;omega
   have hil:i<rs.length:=by rw[<-Hn.out];exact hlt
   have hsu:rs.take (i+1)=rs.take i++[rs[i]]:=B8h hil;obtain⟨ba,oa,rfl⟩:=H.out.addr (by omega);obtain⟨hs1,hs2⟩:=Hs.out _ (B8G hil);have hrd:∀W,A4 w W->W.cell? ⟨ba,oa+i,none⟩=some (.slice rs[i].1 rs[i].2.2.length rs[i].2.1)/\Lz W rs[i].1 rs[i].2.2:=λW hg=>(H.out.grow hg).read (B8i hil);obtain⟨r,hr⟩:∃r,r=rs[i]:=⟨_,rfl⟩
   simp only[<-hr]at hrd hs1 hs2 hsu;obtain⟨rA,rc,q⟩:=r;simp only at hrd hs1 hs2 hsu;obtain⟨m,hm2⟩:∃m,m=q.length:=⟨_,rfl⟩
   rw[<-hm2]at hrd hs1;have hin:∀W,A4 w W->Tab W->Calls Tryz.prog 16 #[.slice rA m rc] W (E9 (λx:Ax=>.slice x.1 m x.2) (λx W'=>A1s w.heap.size m q x W') W):=λW hg hT =>
    (A7z rA q rc m hm2 hs1 hs2 W (hrd W hg).2 hT).mono λe w' ⟨v,he,ho,hg'⟩=>by
     obtain⟨A2,cc,rfl,hcc1,hcc2,hL,hkl⟩:=Q8 ho;exact⟨(A2,cc),he,⟨hm2.symm,ho.mono hg.size⟩,hg'⟩
   have hrd':=λW hg=>(hrd W hg).1;have Hin:=B8S hin;have Hrd:=B8S hrd';have Hsu:=B8S hsu;clear hin hrd hrd' hsu hr hil hs2 hm2;refine B8N ?_;refine r0T ?_;refine B8V (rfl) ?_;refine B8U ?_;refine A6 ?_;refine B8N ?_;refine B8v ?_;refine M4 (w:=w) A8 6 [0,0,0,0,0,1] (by kernel_rfl) (by simp only[List.drop_succ_cons,List.drop_zero];exact rfl) (λ_=>True) noG hB hG trivial ?_;intro K L hN hL;simp only[List.zip_cons_cons,List.zip_nil_left]
   repeat first|refine gya ?_|refine gyr ?_|refine gna ?_|refine gyb (by(rintro v ⟨hgu,hB,hG,-⟩ N hN;have r:=hB.r;simp only[BxR]at r;have c1:=Hrd.out v hG;go_simp;exact hN)) ?_
   refine gxd (X:=Ax) (λx:Ax=>.slice x.1 m x.2) (λx W=>A1s w.heap.size m q x W) (λx u u' hg h=>A1s.grow hg h) (λx16=>?_) (C:=by(rintro v ⟨hgu,hB,hG,-⟩;exact Hin.out _ hG (HT.grow hG)));refine H8 ?_;rintro v ⟨⟨hgu,hB1,hG1,-⟩,hx16⟩;replace hA:=hA.grow hgu;have ROWn:=B8S (C5 Ho.out hgu);clear Ho;have Ho:=ROWn;clear ROWn;have hA2:=hA.snoc hx16;have hk2:=hx16.1;clear hA hx16;have hA:=hA2;clear hA2;clear hB hG;have hB:=hB1;have hG:=hG1;clear hB1 hG1;refine hL _ _ ?_;clear hL L hgu;obtain⟨u,rfl⟩:=exQ v;refine L6 B6c w.heap.size _ _ _ _ [.slice x16.1 m x16.2] rfl rfl (B2A x16.1 m x16.2 u) rfl (λ_=>rfl) (λ_=>rfl) (λ_ _=>rfl) Ho.out (by omega) (by omega) hG.sz λp v' w' g1 g2 g3=>?_;have hBn:=Bx.nil w';have hGn:=K3 Ho.out hG g2;replace hA:=hA.own Ho.out (by decide) g2;clear Ho hB hG;have Ho:=B8S g1;have hB:=hBn;have hG:=hGn;clear g1 g2 g3 hBn hGn;obtain⟨u,rfl⟩:=exQ w';simp only[Act.put,List.setIfInBounds_toArray,List.set_cons_succ,List.set_cons_zero];refine NoK.norm (hN _ _ ?_);clear hN K;refine C8 ?_;refine A6 ?_;refine r0E ?_;refine A6 ?_;go_roundw
   case rel=>exact⟨i+1,rs'++[(x16.1,x16.2,q)],by omega,by go_num,by rw[List.map_append,Hps.out,Hsu.out,List.map_append];rfl,hA,by have:=Ho.out;rw[List.map_append];simpa [A2I,hk2]using this,hG⟩
   case measure=>simp[intOf];omega
  ·obtain rfl:n=i:=by omega
   have hdec:decide ((n:Int)<(n:Int))=false:=by simp
   refine B8N ?_;refine r0T ?_;refine B8T (rfl) ?_;refine B8x ?_;refine B7 ?_;refine B7 ?_;refine D0 ?_;refine A6 ?_;refine r0T ?_;refine rt Tryz.results15 ?_;exact⟨_,rs',rfl,by rw[Hps.out,B8u (B84 Hn.out.symm)],hA,Ho.out,hG⟩
theorem V5.idx{B:Nat}{W:World}{rws:List Zw}(h:V5 B W rws):∀(i:Nat) (r:Zw),rws[i]?=some r->E6 W r.2/\W.ownsRow B 33 3 (zwV r) r.2.length (r.2.flatMap zrL):=λ_ r hi=>h.1 r (B8J hi)
end Go.Proofs.YtgpglgbcobeogaaGreatDoor
