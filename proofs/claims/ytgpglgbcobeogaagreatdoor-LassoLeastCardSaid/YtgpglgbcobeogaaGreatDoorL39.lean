import Derived.Test.YtgpglgbcobeogaaGreatDoorL38
set_option linter.unusedSimpArgs false
set_option linter.unusedVariables false
namespace Go.Proofs.YtgpglgbcobeogaaGreatDoor
open Go Go.RowKit
def F8(sg:List Int)(i:Nat):List Nat:=(List.range i).filter λt=>decide (gi sg t≠0)
theorem B0C{sg:List Int}{i:Nat}(h:gi sg i≠0):F8 sg (i+1)=F8 sg i++[i]:=by
 unfold F8;rw[B9J,List.filter_append];simp[h]
theorem B0g{sg:List Int}{i:Nat}(h:gi sg i=0):F8 sg (i+1)=F8 sg i:=by
 unfold F8;rw[B9J,List.filter_append];simp[h]
theorem A0e{sg:List Int}{i:Nat}:∀x∈F8 sg i,x<i:=λx hx=>List.mem_range.1 (List.mem_filter.1 hx).1
theorem A2e(sg:List Int)(i:Nat):(F8 sg i).length<=i:=by
 have:=List.length_filter_le (λt=>decide (gi sg t≠0)) (List.range i)
 simpa [F8]using this
theorem A1w{α:Type}(f:Nat->α)(U:List Nat){k:Nat}(h:k<U.length):(U.take (k+1)).map f=(U.take k).map f++[f (nx U k)]:=by
 rw[List.take_add_one,List.map_append];unfold nx;rw[B8i h];rfl
def J4(U:List Nat)(v:Nat->Rat)(n:Nat):Nat->List Rat
 | 0=>List.replicate n 0
 | k+1=>(J4 U v n k).set (nx U k) (v k)
theorem Y0(U:List Nat)(v:Nat->Rat)(n:Nat):∀k,(J4 U v n k).length=n
 | 0=>by simp[J4]
 | k+1=>by
  show((J4 U v n k).set _ _).length=n;rw[B8r,Y0 U v n k]
theorem A8e{l:List Rat}{x i:Nat}{q:Rat}:gq (l.set x q) i=if i=x/\x<l.length then q else gq l i:=by
 unfold gq;rw[List.getElem?_set];by_cases e:x=i
 ·subst e;by_cases hx:x<l.length
  ·simp[hx]
  ·simp[hx]
 ·rw[if_neg e,if_neg (λh=>e h.1.symm)]
theorem A23{U:List Nat}{v:Nat->Rat}{n Z:Nat}(h:∀k,k<U.length->qs (v k)<=Z)(hZ:1<=Z):∀k,k<=U.length->∀i,qs (gq (J4 U v n k) i)<=Z
 | 0,_,i=>by
  have:gq (J4 U v n 0) i=0:=by
   unfold gq J4;by_cases hi:i<n
   ·rw[B9f,if_pos hi];rfl
   ·rw[B9f,if_neg hi];rfl
  rw[this,A1o];exact hZ
 | k+1,hk,i=>by
  show qs (gq ((J4 U v n k).set _ _) i)<=Z;rw[A8e];split
  ·exact h k (by omega)
  ·exact A23 h hZ k (by omega) i
def M8(GR:List (List Rat))(U:List Nat):List (List Rat):=U.map λi=>U.map λj=>gq (B6 GR i) j
def N3(PL:List Rat)(U:List Nat):List Rat:=U.map (gq PL)
def N6(sg:List Int)(U:List Nat):List Rat:=U.map λi=>B9 (-(gi sg i))
def P9(GR:List (List Rat))(U:List Nat)(y:List Rat)(k:Nat):Rat:=(C0 U.length (U.length+1) (D7 (aug (M8 GR U) y U.length),[]) (U.length+1)).1 k U.length
def A1k(GR:List (List Rat))(U:List Nat)(y:List Rat):Prop:=1<=U.length->(C0 U.length (U.length+1) (D7 (aug (M8 GR U) y U.length),[]) (U.length+1)).2=List.range U.length
def Y8(GR:List (List Rat))(PL:List Rat)(sg:List Int)(n:Nat):List Rat:=J4 (F8 sg n) (P9 GR (F8 sg n) (N3 PL (F8 sg n))) n (F8 sg n).length
def Y5(GR:List (List Rat))(sg:List Int)(n:Nat):List Rat:=J4 (F8 sg n) (P9 GR (F8 sg n) (N6 sg (F8 sg n))) n (F8 sg n).length
def Y9(GR:List (List Rat))(PL F B:List Rat)(sg:List Int)(n i:Nat):List Lm :=
 if gi sg i≠0 then [(C3 (gq B i) (B9 (gi sg i)),C3 (gq F i) (B9 (gi sg i)))]
 else [(G0 (B9 1) (E7 (B6 GR i) B n),G0 (gq PL i) (E7 (B6 GR i) F n)),(G9 (B9 1) (E7 (B6 GR i) B n),K4 (G0 (gq PL i) (E7 (B6 GR i) F n)))]
def Z8(GR:List (List Rat))(PL F B:List Rat)(sg:List Int)(n i:Nat):List Lm:=(List.range i).flatMap (Y9 GR PL F B sg n)
theorem A4W{GR:List (List Rat)}{PL F B:List Rat}{sg:List Int}{n i:Nat}:Z8 GR PL F B sg n (i+1)=Z8 GR PL F B sg n i++Y9 GR PL F B sg n i:=by
 unfold Z8;rw[B9J,B97];simp
theorem B6m{GR:List (List Rat)}{PL F B:List Rat}{sg:List Int}{n i:Nat}:(Y9 GR PL F B sg n i).length<=2:=by
 unfold Y9;split<;>simp
theorem A5H{GR:List (List Rat)}{PL F B:List Rat}{sg:List Int}{n:Nat}:∀i,(Z8 GR PL F B sg n i).length<=2*i
 | 0=>by simp[Z8]
 | i+1=>by
  rw[A4W,List.length_append];have:=A5H (GR:=GR) (PL:=PL) (F:=F) (B:=B) (sg:=sg) (n:=n) i;have:=B6m (GR:=GR) (PL:=PL) (F:=F) (B:=B) (sg:=sg) (n:=n) (i:=i);omega
theorem X5{u w':World}{B0:Nat}{e0:TypeId}{size0 n0:Nat}{v v0:Value}{xs0:List Value}{o:Obj}(h0:u.ownsRow B0 e0 size0 v0 n0 xs0)(ha:O2 v v0)(hg:(u.alloc o).grownBy w' v.ownBlock):w'.ownsRow B0 e0 size0 v0 n0 xs0:=by
 refine(h0.alloc o).kept hg ?_
 cases hb:v0.ownBlock with
 | none=>exact .inl rfl
 | some g=>exact .inr λe=>ha g e.symm hb
theorem A3E{u:World}{B0:Nat}{e0:TypeId}{size0 n0 k:Nat}{v v' v0:Value}{xs0:List Value}(h0:u.ownsRow B0 e0 size0 v0 n0 xs0)(ha:O2 v v0)(hv:v'.ownBlock=v.ownBlock\/v'.ownBlock=some k)(hk:u.heap.size<=k):O2 v' v0:=λg h1 h2=>by
 rcases hv with hv|hv
 ·exact ha g (hv.symm.trans h1) h2
 ·have e1:k=g:=B78 (hv.symm.trans h1);have:=(h0.lt g h2).2;omega
structure SolP(B m:Nat)(R:Nat->List Rat)(pf tf:Nat->Rat)(U:List Nat)(va vp vt:Ax)(k kp kt:Nat)(P:Nat->Ax)(W:World):Prop where
 hd:W.ownsRow B 35 1 (.slice va.1 k va.2) k (((List.range k).map λi=>Value.slice (P i).1 m (P i).2).flatMap K5)
 row:∀i,i<k->W.ownsRow B 48 5 (.slice (P i).1 m (P i).2) m ((R i).flatMap qL)
 pl:W.ownsRow B 48 5 (.slice vp.1 kp vp.2) kp (((U.take kp).map pf).flatMap qL)
 tn:W.ownsRow B 48 5 (.slice vt.1 kt vt.2) kt (((U.take kt).map tf).flatMap qL)
 rp:∀i,i<k->O2 (.slice vp.1 kp vp.2) (.slice (P i).1 m (P i).2)
 rt:∀i,i<k->O2 (.slice vt.1 kt vt.2) (.slice (P i).1 m (P i).2)
 pt:O2 (.slice vp.1 kp vp.2) (.slice vt.1 kt vt.2)
section
variable {B m k kp kt:Nat} {R:Nat->List Rat} {pf tf:Nat->Rat} {U:List Nat} {va vp vt v':Ax} {P:Nat->Ax} {W u w':World} {o:Obj}
theorem SolP.grow(h:SolP B m R pf tf U va vp vt k kp kt P u)(hg:A4 u W):SolP B m R pf tf U va vp vt k kp kt P W:=⟨C5 h.hd hg,λi hi=>C5 (h.row i hi) hg,C5 h.pl hg,C5 h.tn hg,h.rp,h.rt,h.pt⟩
theorem SolP.start(B m:Nat)(R:Nat->List Rat)(pf tf:Nat->Rat)(U:List Nat)(P:Nat->Ax)(u:World):SolP B m R pf tf U (none,0) (none,0) (none,0) 0 0 0 P u :=
 ⟨B9x _ _ _ _,λi hi=>absurd hi (C0C _),B9x _ _ _ _,B9x _ _ _ _,λi hi=>absurd hi (C0C _),λi hi=>absurd hi (C0C _),λg h1=>by cases h1⟩
def A1W(P:Nat->Ax)(k:Nat)(x:Ax):Nat->Ax:=λi=>if i=k then x else P i
theorem B5N(P:Nat->Ax)(k m:Nat)(x:Ax):((List.range (k+1)).map λi=>Value.slice (A1W P k x i).1 m (A1W P k x i).2).flatMap K5=((List.range k).map λi=>Value.slice (P i).1 m (P i).2).flatMap K5++[Value.slice x.1 m x.2]:=by
 rw[B9J,List.map_append,B97];congr 1
 ·congr 1;refine B96 λi hi=>?_;have:=List.mem_range.1 hi;unfold A1W;rw[if_neg (by omega)]
 ·simp[A1W]
theorem SolP.addRow{x:Ax}(h:SolP B m R pf tf U va vp vt k kp kt P u)(hx:u.ownsRow B 48 5 (.slice x.1 m x.2) m ((R k).flatMap qL))(hxp:O2 (.slice vp.1 kp vp.2) (.slice x.1 m x.2))(hxt:O2 (.slice vt.1 kt vt.2) (.slice x.1 m x.2))
  (h1:w'.ownsRow B 35 1 (.slice v'.1 (k+1) v'.2) (k+1) (((List.range k).map λi=>Value.slice (P i).1 m (P i).2).flatMap K5++[Value.slice x.1 m x.2])) (hg:(u.alloc o).grownBy w' (Value.slice va.1 k va.2).ownBlock) :
  SolP B m R pf tf U v' vp vt (k+1) kp kt (A1W P k x) w':=by
 have ap:∀ {B0 e0 s0 n0 v0 xs0},u.ownsRow B0 e0 s0 v0 n0 xs0->35≠e0->w'.ownsRow B0 e0 s0 v0 n0 xs0:=λh0 hne=>X5 h0 (O0 h.hd h0 hne) hg;refine⟨by rw[B5N];exact h1,λi hi=>?_,ap h.pl (by decide),ap h.tn (by decide),λi hi=>?_,λi hi=>?_,h.pt⟩
 ·unfold A1W;by_cases e:i=k
  ·subst e;simp only[if_true];exact ap hx (by decide)
  ·simp only[if_neg e];exact ap (h.row i (by omega)) (by decide)
 ·unfold A1W;by_cases e:i=k
  ·simp only[if_pos e];exact hxp
  ·simp only[if_neg e];exact h.rp i (by omega)
 ·unfold A1W;by_cases e:i=k
  ·simp only[if_pos e];exact hxt
  ·simp only[if_neg e];exact h.rt i (by omega)
theorem SolP.addP(h:SolP B m R pf tf U va vp vt k kp kt P u)(hk:kp<U.length)(h1:w'.ownsRow B 48 5 (.slice v'.1 (kp+1) v'.2) (kp+1) (((U.take kp).map pf).flatMap qL++qL (pf (nx U kp))))(hg:(u.alloc o).grownBy w' (Value.slice vp.1 kp vp.2).ownBlock)
  (h3:(Value.slice v'.1 (kp+1) v'.2).ownBlock=(Value.slice vp.1 kp vp.2).ownBlock\/(Value.slice v'.1 (kp+1) v'.2).ownBlock=some (u.heap.size+1)):SolP B m R pf tf U va v' vt k (kp+1) kt P w':=by
 refine⟨X5 h.hd (O0 h.pl h.hd (by decide)) hg,λi hi=>X5 (h.row i hi) (h.rp i hi) hg,?_,X5 h.tn h.pt hg,λi hi=>A3E (h.row i hi) (h.rp i hi) h3 (by omega),h.rt,A3E h.tn h.pt h3 (by omega)⟩;rw[A1w pf U hk,B97]
 simpa using h1
theorem SolP.addT(h:SolP B m R pf tf U va vp vt k kp kt P u)(hk:kt<U.length)(h1:w'.ownsRow B 48 5 (.slice v'.1 (kt+1) v'.2) (kt+1) (((U.take kt).map tf).flatMap qL++qL (tf (nx U kt))))(hg:(u.alloc o).grownBy w' (Value.slice vt.1 kt vt.2).ownBlock)
  (h3:(Value.slice v'.1 (kt+1) v'.2).ownBlock=(Value.slice vt.1 kt vt.2).ownBlock\/(Value.slice v'.1 (kt+1) v'.2).ownBlock=some (u.heap.size+1)):SolP B m R pf tf U va vp v' k kp (kt+1) P w':=by
 refine⟨X5 h.hd (O0 h.tn h.hd (by decide)) hg,λi hi=>X5 (h.row i hi) (h.rt i hi) hg,X5 h.pl h.pt.symm hg,?_,h.rp,λi hi=>A3E (h.row i hi) (h.rt i hi) h3 (by omega),(A3E h.pl h.pt.symm h3 (by omega)).symm⟩;rw[A1w tf U hk,B97]
 simpa using h1
end
theorem B2r{u:World}{B b0 n c m:Nat}{P:Nat->Ax}{R:Nat->List Rat}(h:u.ownsRow B 35 1 (.slice (some ⟨b0,0,none⟩) n c) n (((List.range n).map λi=>Value.slice (P i).1 m (P i).2).flatMap K5))(hl:∀i,i<n->(R i).length=m)(hr:∀i,i<n->Lq u (P i).1 (R i)):Lrq u (some ⟨b0,0,none⟩) ((List.range n).map λi=>(((P i).1,(P i).2,R i):Rq)):=λhne=>by
 refine⟨b0,0,rfl,(h.lt b0 rfl).2,λi r hi=>?_⟩;rw[List.getElem?_map]at hi;obtain⟨k,hk,rfl⟩:=Option.map_eq_some_iff.1 hi;have hin:i<n:=by
  have:=(List.getElem?_eq_some_iff.1 hk).1
  simpa using this
 have hki:k=i:=by
  rw[B98 hin]at hk;exact(B78 hk).symm
 subst hki;have h1:=V6 (enc:=K5) (size:=1) (λ_=>rfl) h (by simp) k 0 (by simpa using hin) (by omega);rw[B9P,Nat.add_zero]at h1;simp only[List.getElem_map,List.getElem_range]at h1;rw[Nat.zero_add,h1];exact⟨by rw[hl k hin];rfl,hr _ hin⟩
structure LmW(B n bf bo:Nat)(F G:List Rat)(vl:Ax)(ls:List Lm)(W:World):Prop where
 f:W.ownsRow B 48 5 (.slice (some ⟨bf,0,none⟩) n n) n (F.flatMap qL)
 g:W.ownsRow B 48 5 (.slice (some ⟨bo,0,none⟩) n n) n (G.flatMap qL)
 l:W.ownsRow B 183 10 (.slice vl.1 ls.length vl.2) ls.length (ls.flatMap lmL)
 ne:bf≠bo
section
variable {B n bf bo b i:Nat} {F G:List Rat} {vl:Ax} {ls:List Lm} {W W':World} {vs:List Value}
theorem LmW.grow(h:LmW B n bf bo F G vl ls W)(hg:A4 W W'):LmW B n bf bo F G vl ls W':=⟨C5 h.f hg,C5 h.g hg,C5 h.l hg,h.ne⟩
theorem LmW.over{t:TypeId}{cs:Array Value}(h:LmW B n bf bo F G vl ls W)(hb:Blk W b t cs)(ht:t≠48/\t≠183)(hu:C7 W b i vs=W'):LmW B n bf bo F G vl ls W' :=
 ⟨P5 h.f (L8 h.f hb (λe=>ht.1 e.symm)) hu,P5 h.g (L8 h.g hb (λe=>ht.1 e.symm)) hu,P5 h.l (L8 h.l hb (λe=>ht.2 e.symm)) hu,h.ne⟩
theorem LmW.news{W0:World}(h0:LmW B n bf bo F G vl ls W0)(hb:W0.heap.size<=b)(h:LmW B n bf bo F G vl ls W)(hu:C7 W b i vs=W'):LmW B n bf bo F G vl ls W' :=
 ⟨P5 h.f (A3X h0.f hb) hu,P5 h.g (A3X h0.g hb) hu,P5 h.l (A3X h0.l hb) hu,h.ne⟩
theorem LmW.fq(h:LmW B n bf bo F G vl ls W):Lq W (some ⟨bf,0,none⟩) F:=by
 obtain⟨A,c,e,-,-,hL,-⟩:=Q8 h.f;cases e;exact hL
theorem LmW.gq(h:LmW B n bf bo F G vl ls W):Lq W (some ⟨bo,0,none⟩) G:=by
 obtain⟨A,c,e,-,-,hL,-⟩:=Q8 h.g;cases e;exact hL
theorem LmW.putF(h:LmW B n bf bo F G vl ls W)(hF:F.length=n){j:Nat}(hj:j<n)(q:Rat)(hu:C7 W bf (j*5) (qL q)=W'):LmW B n bf bo (F.set j q) G vl ls W'/\W.grownBy W' (some bf):=by
 obtain⟨h1,h2⟩:=P6 (enc:=qL) (size:=5) (ps:=F) (λ_=>rfl) h.f j q (by omega);rw[hu]at h1 h2;exact⟨⟨h1,h.g.kept h2 (.inr λe=>h.ne (B78 e).symm),h.l.kept h2 (.inr λe=>O0 h.f h.l (by decide) bf rfl e),h.ne⟩,h2⟩
theorem LmW.putG(h:LmW B n bf bo F G vl ls W)(hG:G.length=n){j:Nat}(hj:j<n)(q:Rat)(hu:C7 W bo (j*5) (qL q)=W'):LmW B n bf bo F (G.set j q) vl ls W'/\W.grownBy W' (some bo):=by
 obtain⟨h1,h2⟩:=P6 (enc:=qL) (size:=5) (ps:=G) (λ_=>rfl) h.g j q (by omega);rw[hu]at h1 h2;exact⟨⟨h.f.kept h2 (.inr λe=>h.ne (B78 e)),h1,h.l.kept h2 (.inr λe=>O0 h.g h.l (by decide) bo rfl e),h.ne⟩,h2⟩
theorem LmW.beside{B0 size n0:Nat}{e:TypeId}{v:Value}{xs:List Value}{o:Obj}(h:LmW B n bf bo F G vl ls W)(h0:W.ownsRow B0 e size v n0 xs)(ht:e≠48/\e≠183)(hg:(W.alloc o).grownBy W' v.ownBlock):LmW B n bf bo F G vl ls W' :=
 ⟨X5 h.f (O0 h0 h.f ht.1) hg,X5 h.g (O0 h0 h.g ht.1) hg,X5 h.l (O0 h0 h.l ht.2) hg,h.ne⟩
theorem LmW.app{v':Ax}{ls':List Lm}(h:LmW B n bf bo F G vl ls W)(h1:W'.ownsRow B 183 10 (.slice v'.1 ls'.length v'.2) ls'.length (ls'.flatMap lmL))(hg:W.grownBy W' (Value.slice vl.1 ls.length vl.2).ownBlock):LmW B n bf bo F G v' ls' W' :=
 ⟨A0o h.f h.l (by decide) hg,A0o h.g h.l (by decide) hg,h1,h.ne⟩
end
theorem B3r:EI 39 35 1 24:=A03 (by kernel_rfl) (by kernel_rfl) (by omega)
theorem B06(A:Option Addr)(n c:Nat)(w:World):(Instr.buildSlice 39 1 #[(0,.slice A n c)]).run Tryz.prog w = .ok (.slice (some ⟨w.heap.size,0,none⟩) 1 1) (w.alloc (.cells #[.slice A n c] 35)):=by
 go_simp
theorem A79:EI 113 183 10 112:=A03 (by kernel_rfl) (by kernel_rfl) (by omega)
theorem B59{ops:Array Oper}{a:Act}{u:World}{K:Act->World->Prop}{d2:Option Nat}{s z:Operand}{t2:TypeId}{p2:String}{f2:Array Edge}{rest:List Oper}{T e:TypeId}{size bytes:Nat}(hE:EI T e size bytes)
  (B:Nat) (v:Value) (n:Nat) (xs:List Value) (b m:Nat) (ys:List Value) (hy:ys.length=m*size) (h1:(ys.all λy=>y.oneCell')=true) (hblk:Blk u b e ys.toArray)
  (hs:a.eval s=v) (hz:a.eval z = .slice (some ⟨b,0,none⟩) m m)
  (hown:u.ownsRow B e size v n xs) (hl:n+m<=1099511627776) (hl2:(n+m)*bytes<=140737488355328) (hB:B<=u.heap.size)
  (h:∀v' w',w'.ownsRow B e size v' (n+m) (xs++ys)->u.grownBy w' v.ownBlock->(v'.ownBlock=v.ownBlock\/v'.ownBlock=some u.heap.size)->wpList Tryz.prog ops (NoK K) rest (a.put d2 v') w') :
  wpList Tryz.prog ops (NoK K) (⟨d2,.call { callee:=.builtin .append,args:=#[s,z],argTypes:=#[T,T] },t2,p2,f2,none⟩::rest) a u:=by
 obtain⟨hund,⟨i0,z0,hi0,hz0,hz1,hz2,hz3⟩,hpos⟩:=hE;refine wpList_append_own_at u (a:=a) (Q:=NoK K) rfl s z T rfl B e i0 z0 size bytes hund hi0 hz0 hz1 hz2 hz3 hpos v n xs hs hown ⟨b,0,none⟩ m m ys hz (by rw[hy]) ?_ (λy hy=>List.all_eq_true.1 h1 y hy) (by unfold maxLen;omega) hl2 hB λv' w' g1 g2 _ g4=>h v' w' g1 g2 g4;intro j y hj;rw[B8l,Nat.zero_add,Blk.cell hblk j,List.getElem?_toArray];exact hj
theorem B1l(GR:List (List Rat))(U:List Nat)(P:Nat->Ax):((List.range U.length).map λi=>(((P i).1,(P i).2,U.map λj=>gq (B6 GR (nx U i)) j):Rq)).map (·.2.2)=M8 GR U:=by
 unfold M8;apply B8I
 ·simp
 ·intro i h1 h2;have hi:i<U.length:=by simpa using h2
  simp only[List.getElem_map,List.getElem_range];unfold nx;rw[B8i hi];rfl
theorem A20{GR:List (List Rat)}{U:List Nat}{i j:Nat}(hi:i<U.length)(hj:j<U.length):gq (B6 (M8 GR U) i) j=gq (B6 GR (nx U i)) (nx U j):=by
 have h1:B6 (M8 GR U) i=U.map λj=>gq (B6 GR (nx U i)) j:=by
  unfold B6 M8 nx;rw[List.getElem?_map,B8i hi];rfl
 rw[h1];unfold gq;rw[List.getElem?_map,B8i hj];unfold nx;rw[B8i hj];rfl
theorem A0z{f:Nat->Rat}{U:List Nat}{k:Nat}(h:k<U.length):gq (U.map f) k=f (nx U k):=by
 unfold gq nx;rw[List.getElem?_map,B8i h];rfl
theorem A9K{GR:List (List Rat)}{U:List Nat}{y:List Rat}{f:Nat->Rat}{n s m:Nat}{B:Nat}{va vy:Ax}{P:Nat->Ax}{W:World}(hm:m=U.length)(hm1:1<=m)(hmn:m<=n)(hn:n<=6)(hU:∀x∈U,x<n)
  (hG:∀i,i<n->∀j,j<n->qs (gq (B6 GR i) j)<=s) (hs1:1<=s) (hBz:100*(s*10^(n+1))<=BIG) (hy:y=U.map f) (hyz:∀k,k<U.length->qs (f (nx U k))<=s) (hok:A1k GR U y)
  (hd:W.ownsRow B 35 1 (.slice va.1 m va.2) m (((List.range m).map λi=>Value.slice (P i).1 m (P i).2).flatMap K5)) (hr:∀i,i<m->W.ownsRow B 48 5 (.slice (P i).1 m (P i).2) m ((U.map λj=>gq (B6 GR (nx U i)) j).flatMap qL)) (hyo:W.ownsRow B 48 5 (.slice vy.1 m vy.2) m (((U.take m).map f).flatMap qL)) :
  ∀V,A4 W V->Tab V->Calls Tryz.prog 128 #[.slice va.1 m va.2,.slice vy.1 m vy.2] V (E9 (λx:Ax=>.tuple #[.slice x.1 m x.2,.slice none 0 0,.int .i64 0]) (λx V'=>Lq V' x.1 ((List.range m).map (P9 GR U y))/\∃b,x.1=some ⟨b,0,none⟩/\V.heap.size<=b) V):=λV hg hT=>by
 subst hm;rw[B9r,<-hy]at hyo;obtain⟨ba,ca,ea,-,-⟩:=N0 hd (by omega);obtain⟨bv,cv,ev,-,hcv⟩:=N0 hyo (by omega);obtain⟨va1,va2⟩:=va;obtain⟨vy1,vy2⟩:=vy;simp only[Value.slice.injEq]at ea ev;obtain⟨rfl,-,rfl⟩:=ea;obtain⟨rfl,-,rfl⟩:=ev
 have hL:=B2r hd (R:=λi=>U.map λj=>gq (B6 GR (nx U i)) j) (λi hi=>by simp) (λi hi=>by
  obtain⟨A,c,e,-,-,hL,-⟩:=Q8 (hr i hi);have e1:=B9d (λv=>match v with|Value.slice a _ _=>a|_=>none) e;simp only at e1;rw[e1]
  exact hL)
 have hY:Lq W (some ⟨bv,0,none⟩) y:=by
  obtain⟨A,c,e,-,-,hL,-⟩:=Q8 hyo;cases e;exact hL
 have hmp:=B1l GR U P;have hyl:y.length=U.length:=by rw[hy];simp
 have hpw:s*10^(U.length+1)<=s*10^(n+1):=B9L _ (B8Z (by omega) (by omega));have nxl:∀k,k<U.length->nx U k<n:=λk hk=>hU _ (O3 hk);have hl1:((List.range U.length).map λi=>(((P i).1,(P i).2,U.map λj=>gq (B6 GR (nx U i)) j):Rq)).length=U.length:=by simp
 have hl2:∀r∈((List.range U.length).map λi=>(((P i).1,(P i).2,U.map λj=>gq (B6 GR (nx U i)) j):Rq)),r.2.2.length=U.length:=λr hr=>by
  obtain⟨i,hi,rfl⟩:=List.mem_map.1 hr;simp
 have hl3:∀r∈((List.range U.length).map λi=>(((P i).1,(P i).2,U.map λj=>gq (B6 GR (nx U i)) j):Rq)),U.length<=r.2.1:=λr hr2=>by
  obtain⟨i,hi,rfl⟩:=List.mem_map.1 hr2;obtain⟨A,c,e,hc,-,-,-⟩:=Q8 (hr i (List.mem_range.1 hi));have e1:=B9d (λv=>match v with|Value.slice _ _ c=>c|_=>0) e;simp only at e1;simp only;omega
 generalize ((List.range U.length).map λi=>(((P i).1,(P i).2,U.map λj=>gq (B6 GR (nx U i)) j):Rq))=rs0 at hL hmp hl1 hl2 hl3;have h:=B1j (some ⟨ba,0,none⟩) bv 0 rs0 y U.length va2 vy2 hl1 hm1 (by omega) hl2 hl3 hyl hcv s hs1 (λi hi j hj=>by rw[hmp,A20 hi hj];exact hG _ (nxl i hi) _ (nxl j hj)) (λi hi=>by rw[hy,A0z hi];exact hyz i hi) (by omega) (by rw[hmp];exact hok hm1) V (hL.grow hg) (hY.grow hg) hT;rw[hmp]at h;exact h
theorem B6J{X:List (List Rat)}{y:List Rat}{m s:Nat}(hX:∀i,i<m->∀j,j<m->qs (gq (B6 X i) j)<=s)(hl:∀i,i<m->(B6 X i).length=m)(hy:∀i,i<m->qs (gq y i)<=s):szM (D7 (aug X y m)) m (m+1) s:=λi hi j hj=>by
 have e1:B6 (aug X y m) i=B6 X i++[gq y i]:=A1c hi;show qs (gq (B6 (aug X y m) i) j)<=s;rw[e1];have hl2:=hl i hi;rcases B73 j m with h1|h1
 ·have:gq (B6 X i++[gq y i]) j=gq (B6 X i) j:=by
   show((B6 X i++[gq y i])[j]?).getD 0=_;rw[B9u (by omega)];rfl
  rw[this];exact hX i hi j h1
 ·have h2:j=(B6 X i).length:=by omega
  have:gq (B6 X i++[gq y i]) j=gq y i:=by
   show((B6 X i++[gq y i])[j]?).getD 0=_;rw[h2,B9v (K2 _)];simp
  rw[this];exact hy i hi
theorem A31{GR:List (List Rat)}{U:List Nat}{y:List Rat}{n s:Nat}(hU:∀x∈U,x<n)(hmn:U.length<=n)(hG:∀i,i<n->∀j,j<n->qs (gq (B6 GR i) j)<=s)(hs1:1<=s)(hy:∀k,k<U.length->qs (gq y k)<=s):∀k,k<U.length->qs (P9 GR U y k)<=s*10^(n+1):=λk hk=>by
 have h1:=A4J (s:=(D7 (aug (M8 GR U) y U.length),[])) (B6J (X:=M8 GR U) (y:=y) (m:=U.length) (s:=s) (λi hi j hj=>by rw[A20 hi hj];exact hG _ (hU _ (O3 hi)) _ (hU _ (O3 hj))) (λi hi=>by
  unfold B6 M8;rw[List.getElem?_map,B8i hi]
  simp) hy) hs1 (U.length+1) (K2 _)
 exact B8K (h1 k hk U.length (C0G _)) (B9L _ (B8Z (by omega) (by omega)))
end Go.Proofs.YtgpglgbcobeogaaGreatDoor
