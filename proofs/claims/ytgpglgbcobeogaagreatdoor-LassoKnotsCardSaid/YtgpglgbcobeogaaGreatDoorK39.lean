import Derived.Test.YtgpglgbcobeogaaGreatDoorK34
import Derived.Test.YtgpglgbcobeogaaGreatDoorK38
set_option linter.unusedSimpArgs false
set_option linter.unusedVariables false
namespace Go.Proofs.YtgpglgbcobeogaaGreatDoor
open Go Go.RowKit
theorem A5R(a:Rat):Z7 a=G6 a:=by
 unfold Z7 G6 Rat.abs;rfl
theorem A8D{p w a:Rat}(h:A3D p w a=true):(0<w/\p=a)\/(w<0/\p = -a)\/(w=0/\G6 p<=a):=by
 unfold A3D at h;by_cases h1:0<w
 ·rw[if_pos h1]at h;exact .inl ⟨h1,C0X h⟩
 ·rw[if_neg h1]at h;by_cases h2:w<0
  ·rw[if_pos h2]at h;exact .inr (.inl ⟨h2,C0X h⟩)
  ·rw[if_neg h2]at h;refine .inr (.inr ⟨by grind,?_⟩);have:=C0X h
   rwa [A5R]at this
theorem A7h{p w a:Rat}(h:(0<w/\p=a)\/(w<0/\p = -a)\/(w=0/\G6 p<=a)):A3D p w a=true:=by
 unfold A3D;rcases h with⟨h1,h2⟩|⟨h1,h2⟩|⟨h1,h2⟩
 ·rw[if_pos h1];exact C0Y h2
 ·rw[if_neg (by grind),if_pos h1];exact C0Y h2
 ·rw[if_neg (by grind),if_neg (by grind)];exact C0Y (by rw[A5R];exact h2)
theorem A0y(x:Rat):(0<=x/\G6 x=x)\/(x<=0/\G6 x = -x):=by
 unfold G6;by_cases h:0<=x
 ·exact .inl ⟨h,if_pos h⟩
 ·exact .inr ⟨by grind,if_neg h⟩
theorem A5k(p a u:Rat)(h:G6 p<=a):p*u<=a*G6 u:=by
 have h1:p<=a /\ -a<=p:=by
  rcases A0y p with⟨h1,h2⟩|⟨h1,h2⟩<;>constructor<;>grind
 rcases A0y u with⟨h2,h3⟩|⟨h2,h3⟩
 ·have:=C1i (a:=a-p) (b:=u) (by grind) h2;rw[h3];grind
 ·have:=C1i (a:=a+p) (b:=-u) (by grind) (by grind);rw[h3];grind
theorem B76{p w a u:Rat}(h:A3D p w a=true)(ha:0<=a):0<=a*G6 u-a*G6 w-p*(u-w):=by
 rcases A8D h with⟨h1,h2⟩|⟨h1,h2⟩|⟨h1,h2⟩
 ·subst h2;have e:G6 w=w:=by rcases A0y w with⟨h3,h4⟩|⟨h3,h4⟩<;>grind
  have h5:=A5k p p u (by rcases A0y p with⟨h3,h4⟩|⟨h3,h4⟩<;>grind);rw[e];grind
 ·have e:G6 w = -w:=by rcases A0y w with⟨h3,h4⟩|⟨h3,h4⟩<;>grind
  have h5:=A5k (-a) a u (by rcases A0y (-a)with⟨h3,h4⟩|⟨h3,h4⟩<;>grind);rw[e,h2];grind
 ·subst h1;have e:G6 0=0:=by rcases A0y 0 with⟨h3,h4⟩|⟨h3,h4⟩<;>grind
  have h5:=A5k p a u h2;rw[e];grind
section
variable {G:Mx} {n:Nat} {p:Nat->Rat} {a:Rat} {w u:Nat->Rat}
theorem B1p{x y:Nat->Rat}(h:∀i,i<n->x i=y i):obj G n p a x=obj G n p a y:=by
 have e:=A3r (G:=G) (p:=p) (a:=a) (s:=λ_=>0) h;rw[B0W (s:=λ_=>0),B0W (s:=λ_=>0),e,G8 (λi hi=>by rw[h i hi]:∀i,i<n->G6 (x i)=G6 (y i))];congr 2;unfold lin;rw[G8 (λi hi=>by rw[h i hi]:∀i,i<n->((0:Int):Rat)*x i=((0:Int):Rat)*y i)]
theorem A9s(hG:∀i,i<n->∀j,j<n->G i j=G j i)(ha:0<=a)(h:Kkt G n p a w):obj G n p a w+frm G n (λi=>u i-w i) (λi=>u i-w i)<=obj G n p a u:=by
 obtain⟨d,hd⟩:∃d:Nat->Rat,d=λi=>u i-w i:=⟨_,rfl⟩
 rw[<-hd];have hdi:∀i,d i=u i-w i:=λi=>by rw[hd]
 have e0:obj G n p a u=obj G n p a (λi=>w i+1*d i):=B1p λi _=>by rw[hdi];grind
 have e1:obj G n p a (λi=>w i+1*d i)=frm G n w w+2*frm G n d w+frm G n d d-2*(lin p w n+lin p d n)+2*a*C8 (λi=>G6 (u i)) n:=by
  unfold obj;rw[A7X hG,A6v,G8 (λi _=>by rw[hdi,show w i+1*(u i-w i)=u i by grind]:∀i,i<n->G6 (w i+1*d i)=G6 (u i))];grind
 have e2:0<=C8 (λi=>a*G6 (u i)-a*G6 (w i)-(p i-D0 (G i) w n)*d i) n:=A4D λi hi=>by rw[hdi];exact B76 (h i hi) ha
 have e3:C8 (λi=>a*G6 (u i)-a*G6 (w i)-(p i-D0 (G i) w n)*d i) n=a*C8 (λi=>G6 (u i)) n-a*C8 (λi=>G6 (w i)) n-(lin p d n-frm G n d w):=by
  unfold frm lin;rw[<-R9,<-R9,<-A2o,<-A2o,<-A2o];exact G8 λi _=>by grind
 rw[e3]at e2;rw[e0,e1];unfold obj;grind
theorem B5a(hG:∀i,i<n->∀j,j<n->G i j=G j i)(hD:∀x,frm G n x x<=0->∀j,j<n->x j=0)(ha:0<=a)(h:Kkt G n p a w)(h':obj G n p a u<=obj G n p a w):∀i,i<n->u i=w i:=λi hi=>by
 have h1:=A9s (u:=u) hG ha h;have h2:=hD (λi=>u i-w i) (by grind) i hi;have h3:u i-w i=0:=h2;grind
theorem B2w(hG:∀i,i<n->∀j,j<n->G i j=G j i)(hP:∀x,0<=frm G n x x)(hD:∀x,frm G n x x<=0->∀j,j<n->x j=0)(ha:0<=a)(h:Kkt G n p a w)(h':Kkt G n p a u):∀i,i<n->u i=w i :=
 B5a hG hD ha h (by have h1:=A9s (u:=w) hG ha h';have h2:=hP λi=>w i-u i;grind)
theorem B1d{s:Nat->Int}(hs:Sgn n s)(ha:0<=a)(hw:SolW G n p a s w)(h:A5y G n p a s w):Kkt G n p a w:=λi hi=>by
 have h1:=h i hi;apply A7h;by_cases e:s i≠0
 ·rw[if_pos e]at h1;have h2:=hw.on i hi e;rw[h2];have aa:G6 a=a:=by rcases A0y a with⟨h3,h4⟩|⟨h3,h4⟩<;>grind
  have am:G6 (-a)=a:=by rcases A0y (-a)with⟨h3,h4⟩|⟨h3,h4⟩<;>grind
  rcases hs i hi with e1|e1|e1
  ·rw[e1]at h1⊢;have e2:((-1:Int):Rat) = -1:=rfl;rw[e2]at h1⊢;have e3:p i-(p i-a * -1) = -a:=by grind
   rw[e3,am];by_cases h3:w i=0
   ·exact .inr (.inr ⟨h3,by grind⟩)
   ·exact .inr (.inl ⟨by grind,rfl⟩)
  ·exact absurd e1 e
  ·rw[e1]at h1⊢;have e2:((1:Int):Rat)=1:=rfl;rw[e2]at h1⊢;have e3:p i-(p i-a*1)=a:=by grind
   rw[e3,aa];by_cases h3:w i=0
   ·exact .inr (.inr ⟨h3,by grind⟩)
   ·exact .inl ⟨by grind,rfl⟩
 ·rw[if_neg e]at h1;exact .inr (.inr ⟨hw.off i hi (Decidable.not_not.1 e),h1⟩)
end
theorem A9F(a b:List Rat)(n:Nat):F5 a b n=D0 (gq a) (gq b) n:=rfl
theorem A7w(X:List (List Rat))(N i j:Nat):M4 X N i j=M4 X N j i:=A8n _ _ _
theorem B7y(X:List (List Rat))(N i j:Nat):M4 X N i j=C8 (λr=>E8 X r i*E8 X r j) N:=by
 unfold M4 F5;exact G8 λr hr=>by rw[A1e X i N hr,A1e X j N hr];rfl
theorem B07(X:List (List Rat))(N L i:Nat)(v:Nat->Rat):D0 (M4 X N i) v L=C8 (λr=>E8 X r i*D0 (E8 X r) v L) N:=by
 have e:D0 (M4 X N i) v L=C8 (λj=>C8 (λr=>E8 X r i*E8 X r j*v j) N) L:=G8 λj _=>by
  rw[B7y,Rat.mul_comm,<-R9];exact G8 λr _=>by grind
 rw[e,A3O];refine G8 λr _=>?_;unfold D0;rw[<-R9];exact G8 λj _=>by grind
theorem B1J(X:List (List Rat))(N L:Nat)(v u:Nat->Rat):frm (M4 X N) L v u=C8 (λr=>D0 (E8 X r) v L*D0 (E8 X r) u L) N:=by
 have e:frm (M4 X N) L v u=C8 (λi=>C8 (λr=>v i*E8 X r i*D0 (E8 X r) u L) N) L:=G8 λi _=>by
  rw[B07,<-R9];exact G8 λr _=>by grind
 rw[e,A3O];refine G8 λr _=>?_;show _=C8 _ L*_;rw[Rat.mul_comm (C8 _ L),<-R9];exact G8 λj _=>by grind
theorem A7f(X:List (List Rat))(N L:Nat)(v:Nat->Rat):0<=frm (M4 X N) L v v:=by
 rw[B1J];exact A4D λr _=>B0P _
theorem A35{X:List (List Rat)}{N L:Nat}(h:(C9 N L (E8 X,[]) L).2.length=L)(v:Nat->Rat)(hv:frm (M4 X N) L v v<=0):∀j,j<L->v j=0:=by
 rw[B1J]at hv;have h1:=B1O (λr _=>B0P _) hv;exact B8X h λi hi=>B66 (h1 i hi)
theorem A7i(X:List (List Rat))(y w:List Rat)(N L:Nat){j:Nat}(hj:j<L):gq (X9 X y w N L) j=gq (I6 X y N L) j-D0 (M4 X N j) (gq w) L:=by
 rw[A9k X y w N L hj,B07,show gq (I6 X y N L) j=F5 (J7 X j N) y N from S9 _ hj];unfold F5;rw[<-A2o];refine G8 λi hi=>?_;rw[B0o X y w N L hi,A1e X j N hi,A8n w];unfold D5 C4;show _*(_-D0 (E8 X i) (gq w) L)=_-E8 X i j*_;rw[show E8 X i j=gq (B7 X i) j from rfl];grind
def G3(sg:List Int)(i:Nat):List Nat:=(List.range i).filter λt=>decide (gi sg t≠0)
theorem B5w{sg:List Int}{i:Nat}(h:gi sg i≠0):G3 sg (i+1)=G3 sg i++[i]:=by
 unfold G3;rw[C0k,List.filter_append];simp[h]
theorem B32{sg:List Int}{i:Nat}(h:gi sg i=0):G3 sg (i+1)=G3 sg i:=by
 unfold G3;rw[C0k,List.filter_append];simp[h]
theorem A1k{sg:List Int}{i:Nat}:∀x∈G3 sg i,x<i:=λx hx=>List.mem_range.1 (List.mem_filter.1 hx).1
theorem A4N(sg:List Int)(i:Nat):(G3 sg i).length<=i:=by
 have:=C1t (λt=>decide (gi sg t≠0)) (List.range i)
 simpa [G3]using this
theorem A69{α:Type}(f:Nat->α)(U:List Nat){k:Nat}(h:k<U.length):(U.take (k+1)).map f=(U.take k).map f++[f (nx U k)]:=by
 rw[List.take_add_one,List.map_append];unfold nx;rw[B99 h];rfl
def O3(U:List Nat)(v:Nat->Rat)(n:Nat):Nat->List Rat
 | 0=>List.replicate n 0
 | k+1=>(O3 U v n k).set (nx U k) (v k)
theorem A0c(U:List Nat)(v:Nat->Rat)(n:Nat):∀k,(O3 U v n k).length=n
 | 0=>by simp[O3]
 | k+1=>by
  show((O3 U v n k).set _ _).length=n;rw[C0I,A0c U v n k]
theorem A9h{l:List Rat}{x i:Nat}{q:Rat}:gq (l.set x q) i=if i=x/\x<l.length then q else gq l i:=by
 unfold gq;rw[List.getElem?_set];by_cases e:x=i
 ·subst e;by_cases hx:x<l.length
  ·simp[hx]
  ·simp[hx]
 ·rw[if_neg e,if_neg (λh=>e h.1.symm)]
theorem A3o{U:List Nat}{v:Nat->Rat}{n Z:Nat}(h:∀k,k<U.length->qs (v k)<=Z)(hZ:1<=Z):∀k,k<=U.length->∀i,qs (gq (O3 U v n k) i)<=Z
 | 0,_,i=>by
  have:gq (O3 U v n 0) i=0:=by
   unfold gq O3;by_cases hi:i<n
   ·rw[C06,if_pos hi];rfl
   ·rw[C06,if_neg hi];rfl
  rw[this,A3A];exact hZ
 | k+1,hk,i=>by
  show qs (gq ((O3 U v n k).set _ _) i)<=Z;rw[A9h];split
  ·exact h k (by omega)
  ·exact A3o h hZ k (by omega) i
def Y9(GR:List (List Rat))(U:List Nat):List (List Rat):=U.map λi=>U.map λj=>gq (B7 GR i) j
def W9(PL:List Rat)(U:List Nat):List Rat:=U.map (gq PL)
def Y4(sg:List Int)(U:List Nat):List Rat:=U.map λi=>C2 (-(gi sg i))
def A0N(GR:List (List Rat))(U:List Nat)(y:List Rat)(k:Nat):Rat:=(C9 U.length (U.length+1) (E8 (aug (Y9 GR U) y U.length),[]) (U.length+1)).1 k U.length
def A3J(GR:List (List Rat))(U:List Nat)(y:List Rat):Prop:=1<=U.length->(C9 U.length (U.length+1) (E8 (aug (Y9 GR U) y U.length),[]) (U.length+1)).2=List.range U.length
def A0o(GR:List (List Rat))(PL:List Rat)(sg:List Int)(n:Nat):List Rat:=O3 (G3 sg n) (A0N GR (G3 sg n) (W9 PL (G3 sg n))) n (G3 sg n).length
def A0f(GR:List (List Rat))(sg:List Int)(n:Nat):List Rat:=O3 (G3 sg n) (A0N GR (G3 sg n) (Y4 sg (G3 sg n))) n (G3 sg n).length
def A0B(GR:List (List Rat))(PL F B:List Rat)(sg:List Int)(n i:Nat):List Lm :=
 if gi sg i≠0 then [(D5 (gq B i) (C2 (gi sg i)),D5 (gq F i) (C2 (gi sg i)))]
 else [(C4 (C2 1) (F5 (B7 GR i) B n),C4 (gq PL i) (F5 (B7 GR i) F n)),(H9 (C2 1) (F5 (B7 GR i) B n),K5 (C4 (gq PL i) (F5 (B7 GR i) F n)))]
def A0F(GR:List (List Rat))(PL F B:List Rat)(sg:List Int)(n i:Nat):List Lm:=(List.range i).flatMap (A0B GR PL F B sg n)
theorem A5W{GR:List (List Rat)}{PL F B:List Rat}{sg:List Int}{n i:Nat}:A0F GR PL F B sg n (i+1)=A0F GR PL F B sg n i++A0B GR PL F B sg n i:=by
 unfold A0F;rw[C0k,C1Y];simp
theorem B52{GR:List (List Rat)}{PL F B:List Rat}{sg:List Int}{n i:Nat}:(A0B GR PL F B sg n i).length<=2:=by
 unfold A0B;split<;>simp
theorem A7O{GR:List (List Rat)}{PL F B:List Rat}{sg:List Int}{n:Nat}:∀i,(A0F GR PL F B sg n i).length<=2*i
 | 0=>by simp[A0F]
 | i+1=>by
  rw[A5W,List.length_append];have:=A7O (GR:=GR) (PL:=PL) (F:=F) (B:=B) (sg:=sg) (n:=n) i;have:=B52 (GR:=GR) (PL:=PL) (F:=F) (B:=B) (sg:=sg) (n:=n) (i:=i);omega
theorem A0s{u w':World}{B0:Nat}{e0:TypeId}{size0 n0:Nat}{v v0:Value}{xs0:List Value}{o:Obj}(h0:u.ownsRow B0 e0 size0 v0 n0 xs0)(ha:U8 v v0)(hg:(u.alloc o).grownBy w' v.ownBlock):w'.ownsRow B0 e0 size0 v0 n0 xs0:=by
 refine(h0.alloc o).kept hg ?_
 cases hb:v0.ownBlock with
 | none=>exact .inl rfl
 | some g=>exact .inr λe=>ha g e.symm hb
theorem A4l{u:World}{B0:Nat}{e0:TypeId}{size0 n0 k:Nat}{v v' v0:Value}{xs0:List Value}(h0:u.ownsRow B0 e0 size0 v0 n0 xs0)(ha:U8 v v0)(hv:v'.ownBlock=v.ownBlock\/v'.ownBlock=some k)(hk:u.heap.size<=k):U8 v' v0:=λg h1 h2=>by
 rcases hv with hv|hv
 ·exact ha g (hv.symm.trans h1) h2
 ·have e1:k=g:=B9Z (hv.symm.trans h1);have:=(h0.lt g h2).2;omega
structure SolP(B m:Nat)(R:Nat->List Rat)(pf tf:Nat->Rat)(U:List Nat)(va vp vt:Ax)(k kp kt:Nat)(P:Nat->Ax)(W:World):Prop where
 hd:W.ownsRow B 35 1 (.slice va.1 k va.2) k (((List.range k).map λi=>Value.slice (P i).1 m (P i).2).flatMap L6)
 row:∀i,i<k->W.ownsRow B 48 5 (.slice (P i).1 m (P i).2) m ((R i).flatMap qL)
 pl:W.ownsRow B 48 5 (.slice vp.1 kp vp.2) kp (((U.take kp).map pf).flatMap qL)
 tn:W.ownsRow B 48 5 (.slice vt.1 kt vt.2) kt (((U.take kt).map tf).flatMap qL)
 rp:∀i,i<k->U8 (.slice vp.1 kp vp.2) (.slice (P i).1 m (P i).2)
 rt:∀i,i<k->U8 (.slice vt.1 kt vt.2) (.slice (P i).1 m (P i).2)
 pt:U8 (.slice vp.1 kp vp.2) (.slice vt.1 kt vt.2)
section
variable {B m k kp kt:Nat} {R:Nat->List Rat} {pf tf:Nat->Rat} {U:List Nat} {va vp vt v':Ax} {P:Nat->Ax} {W u w':World} {o:Obj}
theorem SolP.grow(h:SolP B m R pf tf U va vp vt k kp kt P u)(hg:A4 u W):SolP B m R pf tf U va vp vt k kp kt P W:=⟨C0 h.hd hg,λi hi=>C0 (h.row i hi) hg,C0 h.pl hg,C0 h.tn hg,h.rp,h.rt,h.pt⟩
theorem SolP.start(B m:Nat)(R:Nat->List Rat)(pf tf:Nat->Rat)(U:List Nat)(P:Nat->Ax)(u:World):SolP B m R pf tf U (none,0) (none,0) (none,0) 0 0 0 P u :=
 ⟨C1O _ _ _ _,λi hi=>absurd hi (C1f _),C1O _ _ _ _,C1O _ _ _ _,λi hi=>absurd hi (C1f _),λi hi=>absurd hi (C1f _),λg h1=>by cases h1⟩
def A1j(P:Nat->Ax)(k:Nat)(x:Ax):Nat->Ax:=λi=>if i=k then x else P i
theorem B60(P:Nat->Ax)(k m:Nat)(x:Ax):((List.range (k+1)).map λi=>Value.slice (A1j P k x i).1 m (A1j P k x i).2).flatMap L6=((List.range k).map λi=>Value.slice (P i).1 m (P i).2).flatMap L6++[Value.slice x.1 m x.2]:=by
 rw[C0k,List.map_append,C1Y];congr 1
 ·congr 1;refine C1X λi hi=>?_;have:=List.mem_range.1 hi;unfold A1j;rw[if_neg (by omega)]
 ·simp[A1j]
theorem SolP.addRow{x:Ax}(h:SolP B m R pf tf U va vp vt k kp kt P u)(hx:u.ownsRow B 48 5 (.slice x.1 m x.2) m ((R k).flatMap qL))(hxp:U8 (.slice vp.1 kp vp.2) (.slice x.1 m x.2))(hxt:U8 (.slice vt.1 kt vt.2) (.slice x.1 m x.2))
  (h1:w'.ownsRow B 35 1 (.slice v'.1 (k+1) v'.2) (k+1) (((List.range k).map λi=>Value.slice (P i).1 m (P i).2).flatMap L6++[Value.slice x.1 m x.2])) (hg:(u.alloc o).grownBy w' (Value.slice va.1 k va.2).ownBlock) :
  SolP B m R pf tf U v' vp vt (k+1) kp kt (A1j P k x) w':=by
 have ap:∀ {B0 e0 s0 n0 v0 xs0},u.ownsRow B0 e0 s0 v0 n0 xs0->35≠e0->w'.ownsRow B0 e0 s0 v0 n0 xs0:=λh0 hne=>A0s h0 (P4 h.hd h0 hne) hg;refine⟨by rw[B60];exact h1,λi hi=>?_,ap h.pl (by decide),ap h.tn (by decide),λi hi=>?_,λi hi=>?_,h.pt⟩
 ·unfold A1j;by_cases e:i=k
  ·subst e;simp only[if_true];exact ap hx (by decide)
  ·simp only[if_neg e];exact ap (h.row i (by omega)) (by decide)
 ·unfold A1j;by_cases e:i=k
  ·simp only[if_pos e];exact hxp
  ·simp only[if_neg e];exact h.rp i (by omega)
 ·unfold A1j;by_cases e:i=k
  ·simp only[if_pos e];exact hxt
  ·simp only[if_neg e];exact h.rt i (by omega)
theorem SolP.addP(h:SolP B m R pf tf U va vp vt k kp kt P u)(hk:kp<U.length)(h1:w'.ownsRow B 48 5 (.slice v'.1 (kp+1) v'.2) (kp+1) (((U.take kp).map pf).flatMap qL++qL (pf (nx U kp))))(hg:(u.alloc o).grownBy w' (Value.slice vp.1 kp vp.2).ownBlock)
  (h3:(Value.slice v'.1 (kp+1) v'.2).ownBlock=(Value.slice vp.1 kp vp.2).ownBlock\/(Value.slice v'.1 (kp+1) v'.2).ownBlock=some (u.heap.size+1)):SolP B m R pf tf U va v' vt k (kp+1) kt P w':=by
 refine⟨A0s h.hd (P4 h.pl h.hd (by decide)) hg,λi hi=>A0s (h.row i hi) (h.rp i hi) hg,?_,A0s h.tn h.pt hg,λi hi=>A4l (h.row i hi) (h.rp i hi) h3 (by omega),h.rt,A4l h.tn h.pt h3 (by omega)⟩;rw[A69 pf U hk,C1Y]
 simpa using h1
theorem SolP.addT(h:SolP B m R pf tf U va vp vt k kp kt P u)(hk:kt<U.length)(h1:w'.ownsRow B 48 5 (.slice v'.1 (kt+1) v'.2) (kt+1) (((U.take kt).map tf).flatMap qL++qL (tf (nx U kt))))(hg:(u.alloc o).grownBy w' (Value.slice vt.1 kt vt.2).ownBlock)
  (h3:(Value.slice v'.1 (kt+1) v'.2).ownBlock=(Value.slice vt.1 kt vt.2).ownBlock\/(Value.slice v'.1 (kt+1) v'.2).ownBlock=some (u.heap.size+1)):SolP B m R pf tf U va vp v' k kp (kt+1) P w':=by
 refine⟨A0s h.hd (P4 h.tn h.hd (by decide)) hg,λi hi=>A0s (h.row i hi) (h.rt i hi) hg,A0s h.pl h.pt.symm hg,?_,h.rp,λi hi=>A4l (h.row i hi) (h.rt i hi) h3 (by omega),(A4l h.pl h.pt.symm h3 (by omega)).symm⟩;rw[A69 tf U hk,C1Y]
 simpa using h1
end
theorem B2T{u:World}{B b0 n c m:Nat}{P:Nat->Ax}{R:Nat->List Rat}(h:u.ownsRow B 35 1 (.slice (some ⟨b0,0,none⟩) n c) n (((List.range n).map λi=>Value.slice (P i).1 m (P i).2).flatMap L6))(hl:∀i,i<n->(R i).length=m)(hr:∀i,i<n->Lq u (P i).1 (R i)):Lrq u (some ⟨b0,0,none⟩) ((List.range n).map λi=>(((P i).1,(P i).2,R i):Rq)):=λhne=>by
 refine⟨b0,0,rfl,(h.lt b0 rfl).2,λi r hi=>?_⟩;rw[List.getElem?_map]at hi;obtain⟨k,hk,rfl⟩:=Option.map_eq_some_iff.1 hi;have hin:i<n:=by
  have:=(List.getElem?_eq_some_iff.1 hk).1
  simpa using this
 have hki:k=i:=by
  rw[C1b hin]at hk;exact(B9Z hk).symm
 subst hki;have h1:=A0E (enc:=L6) (size:=1) (λ_=>rfl) h (by simp) k 0 (by simpa using hin) (by omega);rw[C0q,Nat.add_zero]at h1;simp only[List.getElem_map,List.getElem_range]at h1;rw[Nat.zero_add,h1];exact⟨by rw[hl k hin];rfl,hr _ hin⟩
structure LmW(B n bf bo:Nat)(F G:List Rat)(vl:Ax)(ls:List Lm)(W:World):Prop where
 f:W.ownsRow B 48 5 (.slice (some ⟨bf,0,none⟩) n n) n (F.flatMap qL)
 g:W.ownsRow B 48 5 (.slice (some ⟨bo,0,none⟩) n n) n (G.flatMap qL)
 l:W.ownsRow B 183 10 (.slice vl.1 ls.length vl.2) ls.length (ls.flatMap lmL)
 ne:bf≠bo
section
variable {B n bf bo b i:Nat} {F G:List Rat} {vl:Ax} {ls:List Lm} {W W':World} {vs:List Value}
theorem LmW.grow(h:LmW B n bf bo F G vl ls W)(hg:A4 W W'):LmW B n bf bo F G vl ls W':=⟨C0 h.f hg,C0 h.g hg,C0 h.l hg,h.ne⟩
theorem LmW.over{t:TypeId}{cs:Array Value}(h:LmW B n bf bo F G vl ls W)(hb:Blk W b t cs)(ht:t≠48/\t≠183)(hu:C3 W b i vs=W'):LmW B n bf bo F G vl ls W' :=
 ⟨I9 h.f (E7 h.f hb (λe=>ht.1 e.symm)) hu,I9 h.g (E7 h.g hb (λe=>ht.1 e.symm)) hu,I9 h.l (E7 h.l hb (λe=>ht.2 e.symm)) hu,h.ne⟩
theorem LmW.news{W0:World}(h0:LmW B n bf bo F G vl ls W0)(hb:W0.heap.size<=b)(h:LmW B n bf bo F G vl ls W)(hu:C3 W b i vs=W'):LmW B n bf bo F G vl ls W' :=
 ⟨I9 h.f (A1Y h0.f hb) hu,I9 h.g (A1Y h0.g hb) hu,I9 h.l (A1Y h0.l hb) hu,h.ne⟩
theorem LmW.fq(h:LmW B n bf bo F G vl ls W):Lq W (some ⟨bf,0,none⟩) F:=by
 obtain⟨A,c,e,-,-,hL,-⟩:=M7 h.f;cases e;exact hL
theorem LmW.gq(h:LmW B n bf bo F G vl ls W):Lq W (some ⟨bo,0,none⟩) G:=by
 obtain⟨A,c,e,-,-,hL,-⟩:=M7 h.g;cases e;exact hL
theorem LmW.putF(h:LmW B n bf bo F G vl ls W)(hF:F.length=n){j:Nat}(hj:j<n)(q:Rat)(hu:C3 W bf (j*5) (qL q)=W'):LmW B n bf bo (F.set j q) G vl ls W'/\W.grownBy W' (some bf):=by
 obtain⟨h1,h2⟩:=V4 (enc:=qL) (size:=5) (ps:=F) (λ_=>rfl) h.f j q (by omega);rw[hu]at h1 h2;exact⟨⟨h1,h.g.kept h2 (.inr λe=>h.ne (B9Z e).symm),h.l.kept h2 (.inr λe=>P4 h.f h.l (by decide) bf rfl e),h.ne⟩,h2⟩
theorem LmW.putG(h:LmW B n bf bo F G vl ls W)(hG:G.length=n){j:Nat}(hj:j<n)(q:Rat)(hu:C3 W bo (j*5) (qL q)=W'):LmW B n bf bo F (G.set j q) vl ls W'/\W.grownBy W' (some bo):=by
 obtain⟨h1,h2⟩:=V4 (enc:=qL) (size:=5) (ps:=G) (λ_=>rfl) h.g j q (by omega);rw[hu]at h1 h2;exact⟨⟨h.f.kept h2 (.inr λe=>h.ne (B9Z e)),h1,h.l.kept h2 (.inr λe=>P4 h.g h.l (by decide) bo rfl e),h.ne⟩,h2⟩
theorem LmW.beside{B0 size n0:Nat}{e:TypeId}{v:Value}{xs:List Value}{o:Obj}(h:LmW B n bf bo F G vl ls W)(h0:W.ownsRow B0 e size v n0 xs)(ht:e≠48/\e≠183)(hg:(W.alloc o).grownBy W' v.ownBlock):LmW B n bf bo F G vl ls W' :=
 ⟨A0s h.f (P4 h0 h.f ht.1) hg,A0s h.g (P4 h0 h.g ht.1) hg,A0s h.l (P4 h0 h.l ht.2) hg,h.ne⟩
theorem LmW.app{v':Ax}{ls':List Lm}(h:LmW B n bf bo F G vl ls W)(h1:W'.ownsRow B 183 10 (.slice v'.1 ls'.length v'.2) ls'.length (ls'.flatMap lmL))(hg:W.grownBy W' (Value.slice vl.1 ls.length vl.2).ownBlock):LmW B n bf bo F G v' ls' W' :=
 ⟨A2H h.f h.l (by decide) hg,A2H h.g h.l (by decide) hg,h1,h.ne⟩
end
theorem B9H:EI 39 35 1 24:=A0z (by kernel_rfl) (by kernel_rfl) (by omega)
theorem B1s(A:Option Addr)(n c:Nat)(w:World):(Instr.buildSlice 39 1 #[(0,.slice A n c)]).run Tryz.prog w = .ok (.slice (some ⟨w.heap.size,0,none⟩) 1 1) (w.alloc (.cells #[.slice A n c] 35)):=by
 go_simp
theorem A91:EI 113 183 10 112:=A0z (by kernel_rfl) (by kernel_rfl) (by omega)
theorem A8K{ops:Array Oper}{a:Act}{u:World}{K:Act->World->Prop}{d2:Option Nat}{s z:Operand}{t2:TypeId}{p2:String}{f2:Array Edge}{rest:List Oper}{T e:TypeId}{size bytes:Nat}(hE:EI T e size bytes)
  (B:Nat) (v:Value) (n:Nat) (xs:List Value) (b m:Nat) (ys:List Value) (hy:ys.length=m*size) (h1:(ys.all λy=>y.oneCell')=true) (hblk:Blk u b e ys.toArray)
  (hs:a.eval s=v) (hz:a.eval z = .slice (some ⟨b,0,none⟩) m m)
  (hown:u.ownsRow B e size v n xs) (hl:n+m<=1099511627776) (hl2:(n+m)*bytes<=140737488355328) (hB:B<=u.heap.size)
  (h:∀v' w',w'.ownsRow B e size v' (n+m) (xs++ys)->u.grownBy w' v.ownBlock->(v'.ownBlock=v.ownBlock\/v'.ownBlock=some u.heap.size)->wpList Tryz.prog ops (NoK K) rest (a.put d2 v') w') :
  wpList Tryz.prog ops (NoK K) (⟨d2,.call { callee:=.builtin .append,args:=#[s,z],argTypes:=#[T,T] },t2,p2,f2,none⟩::rest) a u:=by
 obtain⟨hund,⟨i0,z0,hi0,hz0,hz1,hz2,hz3⟩,hpos⟩:=hE;refine wpList_append_own_at u (a:=a) (Q:=NoK K) rfl s z T rfl B e i0 z0 size bytes hund hi0 hz0 hz1 hz2 hz3 hpos v n xs hs hown ⟨b,0,none⟩ m m ys hz (by rw[hy]) ?_ (λy hy=>List.all_eq_true.1 h1 y hy) (by unfold maxLen;omega) hl2 hB λv' w' g1 g2 _ g4=>h v' w' g1 g2 g4;intro j y hj;rw[C0C,Nat.zero_add,Blk.cell hblk j,List.getElem?_toArray];exact hj
theorem B7L(GR:List (List Rat))(U:List Nat)(P:Nat->Ax):((List.range U.length).map λi=>(((P i).1,(P i).2,U.map λj=>gq (B7 GR (nx U i)) j):Rq)).map (·.2.2)=Y9 GR U:=by
 unfold Y9;apply B9j
 ·simp
 ·intro i h1 h2;have hi:i<U.length:=by simpa using h2
  simp only[List.getElem_map,List.getElem_range];unfold nx;rw[B99 hi];rfl
theorem A4V{GR:List (List Rat)}{U:List Nat}{i j:Nat}(hi:i<U.length)(hj:j<U.length):gq (B7 (Y9 GR U) i) j=gq (B7 GR (nx U i)) (nx U j):=by
 have h1:B7 (Y9 GR U) i=U.map λj=>gq (B7 GR (nx U i)) j:=by
  unfold B7 Y9 nx;rw[List.getElem?_map,B99 hi];rfl
 rw[h1];unfold gq;rw[List.getElem?_map,B99 hj];unfold nx;rw[B99 hj];rfl
theorem A18{f:Nat->Rat}{U:List Nat}{k:Nat}(h:k<U.length):gq (U.map f) k=f (nx U k):=by
 unfold gq nx;rw[List.getElem?_map,B99 h];rfl
theorem B0Q{GR:List (List Rat)}{U:List Nat}{y:List Rat}{f:Nat->Rat}{n s m:Nat}{B:Nat}{va vy:Ax}{P:Nat->Ax}{W:World}(hm:m=U.length)(hm1:1<=m)(hmn:m<=n)(hn:n<=6)(hU:∀x∈U,x<n)
  (hG:∀i,i<n->∀j,j<n->qs (gq (B7 GR i) j)<=s) (hs1:1<=s) (hBz:100*(s*10^(n+1))<=BIG) (hy:y=U.map f) (hyz:∀k,k<U.length->qs (f (nx U k))<=s) (hok:A3J GR U y)
  (hd:W.ownsRow B 35 1 (.slice va.1 m va.2) m (((List.range m).map λi=>Value.slice (P i).1 m (P i).2).flatMap L6)) (hr:∀i,i<m->W.ownsRow B 48 5 (.slice (P i).1 m (P i).2) m ((U.map λj=>gq (B7 GR (nx U i)) j).flatMap qL)) (hyo:W.ownsRow B 48 5 (.slice vy.1 m vy.2) m (((U.take m).map f).flatMap qL)) :
  ∀V,A4 W V->Tab V->Calls Tryz.prog 128 #[.slice va.1 m va.2,.slice vy.1 m vy.2] V (G5 (λx:Ax=>.tuple #[.slice x.1 m x.2,.slice none 0 0,.int .i64 0]) (λx V'=>Lq V' x.1 ((List.range m).map (A0N GR U y))/\∃b,x.1=some ⟨b,0,none⟩/\V.heap.size<=b) V):=λV hg hT=>by
 subst hm;rw[C1I,<-hy]at hyo;obtain⟨ba,ca,ea,-,-⟩:=A0O hd (by omega);obtain⟨bv,cv,ev,-,hcv⟩:=A0O hyo (by omega);obtain⟨va1,va2⟩:=va;obtain⟨vy1,vy2⟩:=vy;simp only[Value.slice.injEq]at ea ev;obtain⟨rfl,-,rfl⟩:=ea;obtain⟨rfl,-,rfl⟩:=ev
 have hL:=B2T hd (R:=λi=>U.map λj=>gq (B7 GR (nx U i)) j) (λi hi=>by simp) (λi hi=>by
  obtain⟨A,c,e,-,-,hL,-⟩:=M7 (hr i hi);have e1:=C04 (λv=>match v with|Value.slice a _ _=>a|_=>none) e;simp only at e1;rw[e1]
  exact hL)
 have hY:Lq W (some ⟨bv,0,none⟩) y:=by
  obtain⟨A,c,e,-,-,hL,-⟩:=M7 hyo;cases e;exact hL
 have hmp:=B7L GR U P;have hyl:y.length=U.length:=by rw[hy];simp
 have hpw:s*10^(U.length+1)<=s*10^(n+1):=C0m _ (B90 (by omega) (by omega));have nxl:∀k,k<U.length->nx U k<n:=λk hk=>hU _ (N4 hk);have hl1:((List.range U.length).map λi=>(((P i).1,(P i).2,U.map λj=>gq (B7 GR (nx U i)) j):Rq)).length=U.length:=by simp
 have hl2:∀r∈((List.range U.length).map λi=>(((P i).1,(P i).2,U.map λj=>gq (B7 GR (nx U i)) j):Rq)),r.2.2.length=U.length:=λr hr=>by
  obtain⟨i,hi,rfl⟩:=List.mem_map.1 hr;simp
 have hl3:∀r∈((List.range U.length).map λi=>(((P i).1,(P i).2,U.map λj=>gq (B7 GR (nx U i)) j):Rq)),U.length<=r.2.1:=λr hr2=>by
  obtain⟨i,hi,rfl⟩:=List.mem_map.1 hr2;obtain⟨A,c,e,hc,-,-,-⟩:=M7 (hr i (List.mem_range.1 hi));have e1:=C04 (λv=>match v with|Value.slice _ _ c=>c|_=>0) e;simp only at e1;simp only;omega
 generalize ((List.range U.length).map λi=>(((P i).1,(P i).2,U.map λj=>gq (B7 GR (nx U i)) j):Rq))=rs0 at hL hmp hl1 hl2 hl3;have h:=B4u (some ⟨ba,0,none⟩) bv 0 rs0 y U.length va2 vy2 hl1 hm1 (by omega) hl2 hl3 hyl hcv s hs1 (λi hi j hj=>by rw[hmp,A4V hi hj];exact hG _ (nxl i hi) _ (nxl j hj)) (λi hi=>by rw[hy,A18 hi];exact hyz i hi) (by omega) (by rw[hmp];exact hok hm1) V (hL.grow hg) (hY.grow hg) hT;rw[hmp]at h;exact h
theorem B70{X:List (List Rat)}{y:List Rat}{m s:Nat}(hX:∀i,i<m->∀j,j<m->qs (gq (B7 X i) j)<=s)(hl:∀i,i<m->(B7 X i).length=m)(hy:∀i,i<m->qs (gq y i)<=s):szM (E8 (aug X y m)) m (m+1) s:=λi hi j hj=>by
 have e1:B7 (aug X y m) i=B7 X i++[gq y i]:=A3E hi;show qs (gq (B7 (aug X y m) i) j)<=s;rw[e1];have hl2:=hl i hi;rcases B9U j m with h1|h1
 ·have:gq (B7 X i++[gq y i]) j=gq (B7 X i) j:=by
   show((B7 X i++[gq y i])[j]?).getD 0=_;rw[C1L (by omega)];rfl
  rw[this];exact hX i hi j h1
 ·have h2:j=(B7 X i).length:=by omega
  have:gq (B7 X i++[gq y i]) j=gq y i:=by
   show((B7 X i++[gq y i])[j]?).getD 0=_;rw[h2,C1M (K2 _)];simp
  rw[this];exact hy i hi
theorem A4t{GR:List (List Rat)}{U:List Nat}{y:List Rat}{n s:Nat}(hU:∀x∈U,x<n)(hmn:U.length<=n)(hG:∀i,i<n->∀j,j<n->qs (gq (B7 GR i) j)<=s)(hs1:1<=s)(hy:∀k,k<U.length->qs (gq y k)<=s):∀k,k<U.length->qs (A0N GR U y k)<=s*10^(n+1):=λk hk=>by
 have h1:=A6Y (s:=(E8 (aug (Y9 GR U) y U.length),[])) (B70 (X:=Y9 GR U) (y:=y) (m:=U.length) (s:=s) (λi hi j hj=>by rw[A4V hi hj];exact hG _ (hU _ (N4 hi)) _ (hU _ (N4 hj))) (λi hi=>by
  unfold B7 Y9;rw[List.getElem?_map,B99 hi]
  simp) hy) hs1 (U.length+1) (K2 _)
 exact B9l (h1 k hk U.length (C1k _)) (C0m _ (B90 (by omega) (by omega)))
theorem B53{m:Nat}{M:Mx}(h:(C9 m (m+1) (M,[]) (m+1)).2=List.range m):∀i,i<m->C8 (λj=>M i j*(C9 m (m+1) (M,[]) (m+1)).1 j m) m=M i m:=by
 obtain⟨e1,e2⟩:=A4e (n:=m) (L:=m+1) M (m+1) (K2 _);obtain⟨s,hs⟩:∃s,s=C9 m (m+1) (M,[]) (m+1):=⟨_,rfl⟩
 obtain⟨V,hV⟩:∃V:Nat->Rat,V=λj=>if j<m then s.1 j m else -1:=⟨_,rfl⟩
 have hk:=(A4s (n:=m) (L:=m+1) (s:=(M,[])) (v:=V) (m+1))
 have hVl:∀j,j<m->V j=s.1 j m:=λj hj=>by rw[hV];exact if_pos hj
 have hVm:V m = -1:=by rw[hV];exact if_neg (Nat.lt_irrefl m)
 rw[<-hs]at h e1 e2 hk⊢
 have hd:∀i,i<m->∀j,j<m->s.1 i j=if i=j then 1 else 0:=λi hi j hj=>by
  have:=e2 j (by rw[h];simpa using hj) i hi;rw[h,A4u hj]at this;exact this
 have h1:ker s.1 m (m+1) V:=λi hi=>by
  unfold D0;rw[A0t,hVm,A1t hi λj hj hne=>by rw[hd i hi j hj,if_neg (λe=>hne e.symm)];grind,hd i hi i hi,if_pos rfl,hVl i hi];grind
 intro i hi;have h2:D0 (M i) V (m+1)=0:=hk.1 h1 i hi;unfold D0 at h2;rw[A0t,hVm,G8 (λj hj=>by rw[hVl j hj]:∀j,j<m->M i j*V j=M i j*s.1 j m)]at h2;grind
theorem B12{m:Nat}{M:Mx}(h:∀v,(∀i,i<m->D0 (M i) v m=0)->∀j,j<m->v j=0):(C9 m (m+1) (M,[]) (m+1)).2=List.range m:=by
 have h1:=A9C (n:=m) (L:=m+1) (m:=m) (M:=M) (by omega) (λv hv hk=>h v λi hi=>by
  have h2:=hk i hi;unfold D0 at h2⊢;rw[A0t,hv m (K2 _)]at h2
  grind) m (K2 _)
 show(O6 m (m+1) (C9 m (m+1) (M,[]) m) m).2=_;unfold O6;rw[if_neg ?_,h1];show ¬N2 _ m (C9 m (m+1) (M,[]) m).2.length m<m;rw[h1,List.length_range,B4y (K2 _)];omega
theorem A8Y{X:List (List Rat)}{y:List Rat}{m i j:Nat}(hi:i<m)(hl:(B7 X i).length=m)(hj:j<m):E8 (aug X y m) i j=gq (B7 X i) j:=by
 have e1:B7 (aug X y m) i=B7 X i++[gq y i]:=A3E hi;show gq (B7 (aug X y m) i) j=_;rw[e1];show((B7 X i++[gq y i])[j]?).getD 0=_;rw[C1L (by omega)];rfl
theorem B7D{X:List (List Rat)}{y:List Rat}{m i:Nat}(hi:i<m)(hl:(B7 X i).length=m):E8 (aug X y m) i m=gq y i:=by
 have e1:B7 (aug X y m) i=B7 X i++[gq y i]:=A3E hi;show gq (B7 (aug X y m) i) m=_;rw[e1];show((B7 X i++[gq y i])[m]?).getD 0=_;rw[C1M (by omega),hl,B97];rfl
theorem A6p{GR:List (List Rat)}{U:List Nat}{i:Nat}(hi:i<U.length):(B7 (Y9 GR U) i).length=U.length:=by
 unfold B7 Y9;rw[List.getElem?_map,B99 hi];simp
def U4(U:List Nat)(v:Nat->Rat)(t:Nat):Rat:=C8 (λk=>if nx U k=t then v k else 0) U.length
theorem A8z{U:List Nat}(hU:U.Pairwise (· < ·)){i j:Nat}(hi:i<U.length)(hj:j<U.length)(h:nx U i=nx U j):i=j:=by
 have h1:=List.pairwise_iff_getElem.1 hU;unfold nx at h;rw[B99 hi,B99 hj]at h;have h2:U[i]=U[j]:=h;rcases C0W i j with h3|h3|h3
 ·have:=h1 i j hi hj h3;omega
 ·exact h3
 ·have:=h1 j i hj hi h3;omega
section
variable {U:List Nat} {n:Nat} (hU:U.Pairwise (· < ·)) (hn:∀x∈U,x<n)
include hU
theorem B6J(v:Nat->Rat){k:Nat}(hk:k<U.length):U4 U v (nx U k)=v k:=by
 unfold U4;rw[A1t hk λj hj hne=>if_neg λe=>hne (A8z hU hj hk e),if_pos rfl]
omit hU in
theorem A6O(v:Nat->Rat){t:Nat}(h:t∉U):U4 U v t=0 :=
 A0w λk hk=>if_neg λe=>h (by rw[<-e];exact N4 hk)
include hn
omit hU in
theorem A8V(c v:Nat->Rat):C8 (λt=>c t*U4 U v t) n=C8 (λk=>c (nx U k)*v k) U.length:=by
 have e:C8 (λt=>c t*U4 U v t) n=C8 (λt=>C8 (λk=>if nx U k=t then c t*v k else 0) U.length) n:=G8 λt _=>by
  unfold U4;rw[<-R9];exact G8 λk _=>by split<;>grind
 rw[e,A3O];refine G8 λk hk=>?_;rw[A1t (hn _ (N4 hk)) λt ht hne=>if_neg λe=>hne e.symm,if_pos rfl]
theorem A8j(v:Nat->Rat):∀k,k<=U.length->∀t,gq (O3 U v n k) t=C8 (λi=>if nx U i=t then v i else 0) k
 | 0,_,t=>by
  unfold gq O3;rw[C06];split<;>rfl
 | k+1,hk,t=>by
  show gq ((O3 U v n k).set (nx U k) (v k)) t=_;rw[A9h,A0t,A0c];have hlt:=hn _ (N4 (l:=U) (i:=k) (by omega));by_cases e:t=nx U k
  ·rw[if_pos ⟨e,hlt⟩,if_pos e.symm,A0w λi hi=>if_neg λe2=>by
    have:=A8z hU (i:=i) (j:=k) (by omega) (by omega) (e2.trans e)
    omega]
   grind
  ·rw[if_neg λh=>e h.1,if_neg λh=>e h.symm,A8j v k (by omega) t];grind
theorem A9i(v:Nat->Rat)(t:Nat):gq (O3 U v n U.length) t=U4 U v t:=A8j hU hn v _ (K2 _) t
end
theorem A7K(sg:List Int)(i:Nat):(G3 sg i).Pairwise (· < ·):=by
 unfold G3;exact List.Pairwise.filter _ (List.pairwise_lt_range)
theorem B1a{sg:List Int}{n i:Nat}:i∈G3 sg n↔i<n/\gi sg i≠0:=by
 unfold G3;rw[List.mem_filter,List.mem_range];simp
theorem A3X{U:List Nat}{x:Nat}(h:x∈U):∃k,k<U.length/\nx U k=x:=by
 obtain⟨k,hk,e⟩:=C1N h;exact⟨k,hk,by unfold nx;rw[B99 hk];exact e⟩
section
variable {GR:List (List Rat)} {U:List Nat} {n:Nat} {G:Mx} (hU:U.Pairwise (· < ·)) (hn:∀x∈U,x<n) (hG:∀i,i<n->∀j,j<n->gq (B7 GR i) j=G i j) (hD:∀x,frm G n x x<=0->∀j,j<n->x j=0)
include hU hn hG hD
theorem A51(y:List Rat):A3J GR U y:=λ_=>B12 λv hv j hj=>by
 have hx:∀t,t∉U->U4 U v t=0:=λt ht=>A6O v ht
 have h1:=hD (U4 U v) (by
  unfold frm;rw[A0w λi hi=>?_]
  ·exact C1g
  ·by_cases hi2:i∈U
   ·obtain⟨k,hk,rfl⟩:=A3X hi2;have h2:=hv k hk;have h3:D0 (G (nx U k)) (U4 U v) n=0:=by
     rw[show D0 (G (nx U k)) (U4 U v) n=_ from A8V hn (G (nx U k)) v,<-h2];exact G8 λl hl=>by rw[A8Y hk (A6p hk) hl,A4V hk hl,hG _ (hn _ (N4 hk)) _ (hn _ (N4 hl))]
    rw[h3];grind
   ·rw[hx i hi2];grind) (nx U j) (hn _ (N4 hj))
 rwa [B6J hU v hj]at h1
theorem A9z(y:List Rat)(v:Nat->Rat)(hv:∀k,k<U.length->v k=A0N GR U y k){k:Nat}(hk:k<U.length):D0 (G (nx U k)) (U4 U v) n=gq y k:=by
 rw[show D0 (G (nx U k)) (U4 U v) n=_ from A8V hn (G (nx U k)) v];have h1:=B53 (A51 hU hn hG hD y (by omega)) k hk;rw[B7D hk (A6p hk)]at h1;rw[<-h1];exact G8 λl hl=>by rw[A8Y hk (A6p hk) hl,A4V hk hl,hG _ (hn _ (N4 hk)) _ (hn _ (N4 hl)),hv l hl];rfl
end
theorem B5b{GR:List (List Rat)}{PL:List Rat}{n:Nat}{G:Mx}(hG:∀i,i<n->∀j,j<n->gq (B7 GR i) j=G i j)(hD:∀x,frm G n x x<=0->∀j,j<n->x j=0)(sg:List Int)(a:Rat) :
  SolW G n (gq PL) a (gi sg) (gq (J9 (A0o GR PL sg n) (A0f GR sg n) n a)):=by
 obtain⟨U,hUe⟩:∃U,U=G3 sg n:=⟨_,rfl⟩
 have hU:=A7K sg n;have hn:∀x∈G3 sg n,x<n:=A1k;have hw:∀t,t<n->gq (J9 (A0o GR PL sg n) (A0f GR sg n) n a) t=U4 U (A0N GR U (W9 PL U)) t+a*U4 U (A0N GR U (Y4 sg U)) t:=λt ht=>by
  have e1:gq (J9 (A0o GR PL sg n) (A0f GR sg n) n a) t=H9 (gq (A0o GR PL sg n) t) (D5 (gq (A0f GR sg n) t) a):=S9 _ ht;rw[e1,hUe];unfold A0o A0f H9 D5;rw[A9i hU hn,A9i hU hn];grind
 rw[<-hUe]at hU hn;constructor
 ·intro i hi hs;obtain⟨k,hk,e⟩:=A3X (U:=U) (x:=i) (by rw[hUe];exact B1a.2 ⟨hi,hs⟩);subst e;have e2:D0 (G (nx U k)) (gq (J9 (A0o GR PL sg n) (A0f GR sg n) n a)) n=D0 (G (nx U k)) (λt=>U4 U (A0N GR U (W9 PL U)) t+a*U4 U (A0N GR U (Y4 sg U)) t) n:=G8 λt ht=>by rw[hw t ht]
  rw[e2,A4f,A9z hU hn hG hD (W9 PL U) _ (λ_ _=>rfl) hk,A9z hU hn hG hD (Y4 sg U) _ (λ_ _=>rfl) hk];unfold W9 Y4;rw[A18 hk,A18 hk];have e3:C2 (-(gi sg (nx U k))) = -((gi sg (nx U k):Int):Rat):=by unfold C2;exact Rat.intCast_neg _
  rw[e3];grind
 ·intro i hi hs;have hm:i∉U:=by rw[hUe];exact λh=>(B1a.1 h).2 hs
  rw[hw i hi,A6O _ hm,A6O _ hm];grind
theorem A8R{GR:List (List Rat)}{PL:List Rat}{n:Nat}{G:Mx}(hG:∀i,i<n->∀j,j<n->gq (B7 GR i) j=G i j)(sg:List Int)(F B:List Rat)(a:Rat):∀i,i<=n ->
  (H3 a (A0F GR PL F B sg n i)=true↔∀t,t<i->if gi sg t≠0 then 0<=(gi sg t:Rat)*gq (J9 F B n a) t else G6 (gq PL t-D0 (G t) (gq (J9 F B n a)) n)<=a)
 | 0,_=>by
  constructor
  ·intro _ t ht;exact absurd ht (C1f _)
  ·intro _;rfl
 | i+1,hi=>by
  have ih:=A8R (PL:=PL) hG sg F B a i (by omega);rw[A5W];have e:H3 a (A0F GR PL F B sg n i++A0B GR PL F B sg n i)=(H3 a (A0F GR PL F B sg n i)&&H3 a (A0B GR PL F B sg n i)):=by
   unfold H3;rw[List.all_append]
  rw[e,Bool.and_eq_true,ih];have hwt:∀t,t<n->gq (J9 F B n a) t=gq F t+gq B t*a:=λt ht=>S9 _ ht
  have key:H3 a (A0B GR PL F B sg n i)=true↔if gi sg i≠0 then 0<=(gi sg i:Rat)*gq (J9 F B n a) i else G6 (gq PL i-D0 (G i) (gq (J9 F B n a)) n)<=a:=by
   unfold A0B H3;by_cases hs:gi sg i≠0
   ·rw[if_pos hs,if_pos hs,hwt i (by omega)];simp only[List.all_cons,List.all_nil,Bool.and_true];unfold Y8;rw[C1u];unfold H9 D5 C2;constructor<;>intro h<;>grind
   ·rw[if_neg hs,if_neg hs];simp only[List.all_cons,List.all_nil,Bool.and_true,Bool.and_eq_true];unfold Y8;rw[C1u,C1u];have e1:D0 (G i) (gq (J9 F B n a)) n=F5 (B7 GR i) F n+a*F5 (B7 GR i) B n:=by
     rw[A9F,A9F,show D0 (G i) (gq (J9 F B n a)) n=D0 (G i) (λt=>gq F t+a*gq B t) n from G8 λt ht=>by rw[hwt t ht];grind,A4f,A9m (λj hj=>(hG i (by omega) j hj).symm),A9m (λj hj=>(hG i (by omega) j hj).symm)]
    rw[e1];unfold H9 D5 C4 K5;have e2:C2 1=1:=rfl;rw[e2];rcases A0y (gq PL i-(F5 (B7 GR i) F n+a*F5 (B7 GR i) B n))with⟨h1,h2⟩|⟨h1,h2⟩<;>rw[h2]<;>constructor
    ·rintro⟨g1,g2⟩;grind
    ·intro g;constructor<;>grind
    ·rintro⟨g1,g2⟩;grind
    ·intro g;constructor<;>grind
  rw[key];constructor
  ·rintro⟨g1,g2⟩ t ht;by_cases e:t=i
   ·rw[e];exact g2
   ·exact g1 t (by omega)
  ·intro g;exact⟨λt ht=>g t (by omega),g i (by omega)⟩
end Go.Proofs.YtgpglgbcobeogaaGreatDoor
