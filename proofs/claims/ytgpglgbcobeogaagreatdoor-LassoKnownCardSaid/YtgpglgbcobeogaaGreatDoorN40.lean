import Derived.Test.YtgpglgbcobeogaaGreatDoorN33
import Derived.Test.YtgpglgbcobeogaaGreatDoorN39
set_option linter.unusedSimpArgs false
set_option linter.unusedVariables false
namespace Go.Proofs.YtgpglgbcobeogaaGreatDoor
open Go Go.RowKit
theorem A3v(a:Rat):Q5 a=G4 a:=by
 unfold Q5 G4 Rat.abs;rfl
theorem B7p{p w a:Rat}(h:S8 p w a=true):(0<w/\p=a)\/(w<0/\p = -a)\/(w=0/\G4 p<=a):=by
 unfold S8 at h;by_cases h1:0<w
 ·rw[if_pos h1]at h;exact .inl ⟨h1,B9w h⟩
 ·rw[if_neg h1]at h;by_cases h2:w<0
  ·rw[if_pos h2]at h;exact .inr (.inl ⟨h2,B9w h⟩)
  ·rw[if_neg h2]at h;refine .inr (.inr ⟨by grind,?_⟩);have:=B9w h
   rwa [A3v]at this
theorem B6q{p w a:Rat}(h:(0<w/\p=a)\/(w<0/\p = -a)\/(w=0/\G4 p<=a)):S8 p w a=true:=by
 unfold S8;rcases h with⟨h1,h2⟩|⟨h1,h2⟩|⟨h1,h2⟩
 ·rw[if_pos h1];exact B9x h2
 ·rw[if_neg (by grind),if_pos h1];exact B9x h2
 ·rw[if_neg (by grind),if_neg (by grind)];exact B9x (by rw[A3v];exact h2)
theorem A0m(x:Rat):(0<=x/\G4 x=x)\/(x<=0/\G4 x = -x):=by
 unfold G4;by_cases h:0<=x
 ·exact .inl ⟨h,if_pos h⟩
 ·exact .inr ⟨by grind,if_neg h⟩
theorem A6l(p a u:Rat)(h:G4 p<=a):p*u<=a*G4 u:=by
 have h1:p<=a /\ -a<=p:=by
  rcases A0m p with⟨h1,h2⟩|⟨h1,h2⟩<;>constructor<;>grind
 rcases A0m u with⟨h2,h3⟩|⟨h2,h3⟩
 ·have:=C06 (a:=a-p) (b:=u) (by grind) h2;rw[h3];grind
 ·have:=C06 (a:=a+p) (b:=-u) (by grind) (by grind);rw[h3];grind
theorem B74{p w a u:Rat}(h:S8 p w a=true)(ha:0<=a):0<=a*G4 u-a*G4 w-p*(u-w):=by
 rcases B7p h with⟨h1,h2⟩|⟨h1,h2⟩|⟨h1,h2⟩
 ·subst h2;have e:G4 w=w:=by rcases A0m w with⟨h3,h4⟩|⟨h3,h4⟩<;>grind
  have h5:=A6l p p u (by rcases A0m p with⟨h3,h4⟩|⟨h3,h4⟩<;>grind);rw[e];grind
 ·have e:G4 w = -w:=by rcases A0m w with⟨h3,h4⟩|⟨h3,h4⟩<;>grind
  have h5:=A6l (-a) a u (by rcases A0m (-a)with⟨h3,h4⟩|⟨h3,h4⟩<;>grind);rw[e,h2];grind
 ·subst h1;have e:G4 0=0:=by rcases A0m 0 with⟨h3,h4⟩|⟨h3,h4⟩<;>grind
  have h5:=A6l p a u h2;rw[e];grind
section
variable {G:Mx} {n:Nat} {p:Nat->Rat} {a:Rat} {w u:Nat->Rat}
theorem B1o{x y:Nat->Rat}(h:∀i,i<n->x i=y i):obj G n p a x=obj G n p a y:=by
 have e:=A23 (G:=G) (p:=p) (a:=a) (s:=λ_=>0) h;rw[A8e (s:=λ_=>0),A8e (s:=λ_=>0),e,G7 (λi hi=>by rw[h i hi]:∀i,i<n->G4 (x i)=G4 (y i))];congr 2;unfold lin;rw[G7 (λi hi=>by rw[h i hi]:∀i,i<n->((0:Int):Rat)*x i=((0:Int):Rat)*y i)]
theorem A7Q(hG:∀i,i<n->∀j,j<n->G i j=G j i)(ha:0<=a)(h:Kkt G n p a w):obj G n p a w+frm G n (λi=>u i-w i) (λi=>u i-w i)<=obj G n p a u:=by
 obtain⟨d,hd⟩:∃d:Nat->Rat,d=λi=>u i-w i:=⟨_,rfl⟩
 rw[<-hd];have hdi:∀i,d i=u i-w i:=λi=>by rw[hd]
 have e0:obj G n p a u=obj G n p a (λi=>w i+1*d i):=B1o λi _=>by rw[hdi];grind
 have e1:obj G n p a (λi=>w i+1*d i)=frm G n w w+2*frm G n d w+frm G n d d-2*(lin p w n+lin p d n)+2*a*C8 (λi=>G4 (u i)) n:=by
  unfold obj;rw[A8x hG,A6B,G7 (λi _=>by rw[hdi,show w i+1*(u i-w i)=u i by grind]:∀i,i<n->G4 (w i+1*d i)=G4 (u i))];grind
 have e2:0<=C8 (λi=>a*G4 (u i)-a*G4 (w i)-(p i-D1 (G i) w n)*d i) n:=A4E λi hi=>by rw[hdi];exact B74 (h i hi) ha
 have e3:C8 (λi=>a*G4 (u i)-a*G4 (w i)-(p i-D1 (G i) w n)*d i) n=a*C8 (λi=>G4 (u i)) n-a*C8 (λi=>G4 (w i)) n-(lin p d n-frm G n d w):=by
  unfold frm lin;rw[<-Q7,<-Q7,<-A2o,<-A2o,<-A2o];exact G7 λi _=>by grind
 rw[e3]at e2;rw[e0,e1];unfold obj;grind
theorem B1G(hG:∀i,i<n->∀j,j<n->G i j=G j i)(hD:∀x,frm G n x x<=0->∀j,j<n->x j=0)(ha:0<=a)(h:Kkt G n p a w)(h':obj G n p a u<=obj G n p a w):∀i,i<n->u i=w i:=λi hi=>by
 have h1:=A7Q (u:=u) hG ha h;have h2:=hD (λi=>u i-w i) (by grind) i hi;have h3:u i-w i=0:=h2;grind
theorem B63(hG:∀i,i<n->∀j,j<n->G i j=G j i)(hP:∀x,0<=frm G n x x)(hD:∀x,frm G n x x<=0->∀j,j<n->x j=0)(ha:0<=a)(h:Kkt G n p a w)(h':Kkt G n p a u):∀i,i<n->u i=w i :=
 B1G hG hD ha h (by have h1:=A7Q (u:=w) hG ha h';have h2:=hP λi=>w i-u i;grind)
theorem A7v{s:Nat->Int}(hs:Sgn n s)(ha:0<=a)(hw:SolW G n p a s w)(h:A6q G n p a s w):Kkt G n p a w:=λi hi=>by
 have h1:=h i hi;apply B6q;by_cases e:s i≠0
 ·rw[if_pos e]at h1;have h2:=hw.on i hi e;rw[h2];have aa:G4 a=a:=by rcases A0m a with⟨h3,h4⟩|⟨h3,h4⟩<;>grind
  have am:G4 (-a)=a:=by rcases A0m (-a)with⟨h3,h4⟩|⟨h3,h4⟩<;>grind
  rcases hs i hi with e1|e1|e1
  ·rw[e1]at h1⊢;have e2:((-1:Int):Rat) = -1:=rfl;rw[e2]at h1⊢;have e3:p i-(p i-a * -1) = -a:=by grind
   rw[e3,am];by_cases h3:w i=0
   ·exact .inr (.inr ⟨h3,by grind⟩)
   ·exact .inr (.inl ⟨by grind,rfl⟩)
  ·exact absurd e1 e
  ·rw[e1]at h1⊢;have e2:((1:Int):Rat)=1:=rfl;rw[e2]at h1⊢;have e3:p i-(p i-a*1)=a:=by grind
   rw[e3,aa];by_cases h3:w i=0
   ·exact .inr (.inr ⟨h3,by grind⟩)
   ·exact .inl ⟨by grind,rfl⟩
 ·rw[if_neg e]at h1;exact .inr (.inr ⟨hw.off i hi (Decidable.not_not.1 e),h1⟩)
end
theorem A9L(a b:List Rat)(n:Nat):E7 a b n=D1 (gq a) (gq b) n:=rfl
theorem B0v(X:List (List Rat))(N i j:Nat):L6 X N i j=L6 X N j i:=A7B _ _ _
theorem B3J(X:List (List Rat))(N i j:Nat):L6 X N i j=C8 (λr=>F6 X r i*F6 X r j) N:=by
 unfold L6 E7;exact G7 λr hr=>by rw[A3p X i N hr,A3p X j N hr];rfl
theorem A8X(X:List (List Rat))(N L i:Nat)(v:Nat->Rat):D1 (L6 X N i) v L=C8 (λr=>F6 X r i*D1 (F6 X r) v L) N:=by
 have e:D1 (L6 X N i) v L=C8 (λj=>C8 (λr=>F6 X r i*F6 X r j*v j) N) L:=G7 λj _=>by
  rw[B3J,Rat.mul_comm,<-Q7];exact G7 λr _=>by grind
 rw[e,A3f];refine G7 λr _=>?_;unfold D1;rw[<-Q7];exact G7 λj _=>by grind
theorem A83(X:List (List Rat))(N L:Nat)(v u:Nat->Rat):frm (L6 X N) L v u=C8 (λr=>D1 (F6 X r) v L*D1 (F6 X r) u L) N:=by
 have e:frm (L6 X N) L v u=C8 (λi=>C8 (λr=>v i*F6 X r i*D1 (F6 X r) u L) N) L:=G7 λi _=>by
  rw[A8X,<-Q7];exact G7 λr _=>by grind
 rw[e,A3f];refine G7 λr _=>?_;show _=C8 _ L*_;rw[Rat.mul_comm (C8 _ L),<-Q7];exact G7 λj _=>by grind
theorem A9P(X:List (List Rat))(N L:Nat)(v:Nat->Rat):0<=frm (L6 X N) L v v:=by
 rw[A83];exact A4E λr _=>A8M _
theorem A26{X:List (List Rat)}{N L:Nat}(h:(C9 N L (F6 X,[]) L).2.length=L)(v:Nat->Rat)(hv:frm (L6 X N) L v v<=0):∀j,j<L->v j=0:=by
 rw[A83]at hv;have h1:=A93 (λr _=>A8M _) hv;exact B2X h λi hi=>B8O (h1 i hi)
theorem B55(X:List (List Rat))(y w:List Rat)(N L:Nat){j:Nat}(hj:j<L):gq (R3 X y w N L) j=gq (J5 X y N L) j-D1 (L6 X N j) (gq w) L:=by
 rw[A8d X y w N L hj,A8X,show gq (J5 X y N L) j=E7 (J3 X j N) y N from W5 _ hj];unfold E7;rw[<-A2o];refine G7 λi hi=>?_;rw[B0o X y w N L hi,A3p X j N hi,A7B w];unfold D5 D9;show _*(_-D1 (F6 X i) (gq w) L)=_-F6 X i j*_;rw[show F6 X i j=gq (B7 X i) j from rfl];grind
def F8(sg:List Int)(i:Nat):List Nat:=(List.range i).filter λt=>decide (gi sg t≠0)
theorem B1u{sg:List Int}{i:Nat}(h:gi sg i≠0):F8 sg (i+1)=F8 sg i++[i]:=by
 unfold F8;rw[B99,List.filter_append];simp[h]
theorem B6H{sg:List Int}{i:Nat}(h:gi sg i=0):F8 sg (i+1)=F8 sg i:=by
 unfold F8;rw[B99,List.filter_append];simp[h]
theorem A1Y{sg:List Int}{i:Nat}:∀x∈F8 sg i,x<i:=λx hx=>List.mem_range.1 (List.mem_filter.1 hx).1
theorem A4T(sg:List Int)(i:Nat):(F8 sg i).length<=i:=by
 have:=C1I (λt=>decide (gi sg t≠0)) (List.range i)
 simpa [F8]using this
theorem A5x{α:Type}(f:Nat->α)(U:List Nat){k:Nat}(h:k<U.length):(U.take (k+1)).map f=(U.take k).map f++[f (nx U k)]:=by
 rw[List.take_add_one,List.map_append];unfold nx;rw[B9Y h];rfl
def N6(U:List Nat)(v:Nat->Rat)(n:Nat):Nat->List Rat
 | 0=>List.replicate n 0
 | k+1=>(N6 U v n k).set (nx U k) (v k)
theorem A0F(U:List Nat)(v:Nat->Rat)(n:Nat):∀k,(N6 U v n k).length=n
 | 0=>by simp[N6]
 | k+1=>by
  show((N6 U v n k).set _ _).length=n;rw[B9h,A0F U v n k]
theorem A9b{l:List Rat}{x i:Nat}{q:Rat}:gq (l.set x q) i=if i=x/\x<l.length then q else gq l i:=by
 unfold gq;rw[List.getElem?_set];by_cases e:x=i
 ·subst e;by_cases hx:x<l.length
  ·simp[hx]
  ·simp[hx]
 ·rw[if_neg e,if_neg (λh=>e h.1.symm)]
theorem A3k{U:List Nat}{v:Nat->Rat}{n Z:Nat}(h:∀k,k<U.length->qs (v k)<=Z)(hZ:1<=Z):∀k,k<=U.length->∀i,qs (gq (N6 U v n k) i)<=Z
 | 0,_,i=>by
  have:gq (N6 U v n 0) i=0:=by
   unfold gq N6;by_cases hi:i<n
   ·rw[C0V,if_pos hi];rfl
   ·rw[C0V,if_neg hi];rfl
  rw[this,A3A];exact hZ
 | k+1,hk,i=>by
  show qs (gq ((N6 U v n k).set _ _) i)<=Z;rw[A9b];split
  ·exact h k (by omega)
  ·exact A3k h hZ k (by omega) i
def X0(GR:List (List Rat))(U:List Nat):List (List Rat):=U.map λi=>U.map λj=>gq (B7 GR i) j
def V3(PL:List Rat)(U:List Nat):List Rat:=U.map (gq PL)
def U6(sg:List Int)(U:List Nat):List Rat:=U.map λi=>B4 (-(gi sg i))
def X7(GR:List (List Rat))(U:List Nat)(y:List Rat)(k:Nat):Rat:=(C9 U.length (U.length+1) (F6 (aug (X0 GR U) y U.length),[]) (U.length+1)).1 k U.length
def A2Z(GR:List (List Rat))(U:List Nat)(y:List Rat):Prop:=1<=U.length->(C9 U.length (U.length+1) (F6 (aug (X0 GR U) y U.length),[]) (U.length+1)).2=List.range U.length
def A0k(GR:List (List Rat))(PL:List Rat)(sg:List Int)(n:Nat):List Rat:=N6 (F8 sg n) (X7 GR (F8 sg n) (V3 PL (F8 sg n))) n (F8 sg n).length
def A0Y(GR:List (List Rat))(sg:List Int)(n:Nat):List Rat:=N6 (F8 sg n) (X7 GR (F8 sg n) (U6 sg (F8 sg n))) n (F8 sg n).length
def Y9(GR:List (List Rat))(PL F B:List Rat)(sg:List Int)(n i:Nat):List Lm :=
 if gi sg i≠0 then [(D5 (gq B i) (B4 (gi sg i)),D5 (gq F i) (B4 (gi sg i)))]
 else [(D9 (B4 1) (E7 (B7 GR i) B n),D9 (gq PL i) (E7 (B7 GR i) F n)),(G5 (B4 1) (E7 (B7 GR i) B n),I4 (D9 (gq PL i) (E7 (B7 GR i) F n)))]
def Y4(GR:List (List Rat))(PL F B:List Rat)(sg:List Int)(n i:Nat):List Lm:=(List.range i).flatMap (Y9 GR PL F B sg n)
theorem A36{GR:List (List Rat)}{PL F B:List Rat}{sg:List Int}{n i:Nat}:Y4 GR PL F B sg n (i+1)=Y4 GR PL F B sg n i++Y9 GR PL F B sg n i:=by
 unfold Y4;rw[B99,C0v];simp
theorem B4N{GR:List (List Rat)}{PL F B:List Rat}{sg:List Int}{n i:Nat}:(Y9 GR PL F B sg n i).length<=2:=by
 unfold Y9;split<;>simp
theorem A5o{GR:List (List Rat)}{PL F B:List Rat}{sg:List Int}{n:Nat}:∀i,(Y4 GR PL F B sg n i).length<=2*i
 | 0=>by simp[Y4]
 | i+1=>by
  rw[A36,List.length_append];have:=A5o (GR:=GR) (PL:=PL) (F:=F) (B:=B) (sg:=sg) (n:=n) i;have:=B4N (GR:=GR) (PL:=PL) (F:=F) (B:=B) (sg:=sg) (n:=n) (i:=i);omega
theorem A0j{u w':World}{B0:Nat}{e0:TypeId}{size0 n0:Nat}{v v0:Value}{xs0:List Value}{o:Obj}(h0:u.ownsRow B0 e0 size0 v0 n0 xs0)(ha:R8 v v0)(hg:(u.alloc o).grownBy w' v.ownBlock):w'.ownsRow B0 e0 size0 v0 n0 xs0:=by
 refine(h0.alloc o).kept hg ?_
 cases hb:v0.ownBlock with
 | none=>exact .inl rfl
 | some g=>exact .inr λe=>ha g e.symm hb
theorem A4c{u:World}{B0:Nat}{e0:TypeId}{size0 n0 k:Nat}{v v' v0:Value}{xs0:List Value}(h0:u.ownsRow B0 e0 size0 v0 n0 xs0)(ha:R8 v v0)(hv:v'.ownBlock=v.ownBlock\/v'.ownBlock=some k)(hk:u.heap.size<=k):R8 v' v0:=λg h1 h2=>by
 rcases hv with hv|hv
 ·exact ha g (hv.symm.trans h1) h2
 ·have e1:k=g:=B8y (hv.symm.trans h1);have:=(h0.lt g h2).2;omega
structure SolP(B m:Nat)(R:Nat->List Rat)(pf tf:Nat->Rat)(U:List Nat)(va vp vt:Ax)(k kp kt:Nat)(P:Nat->Ax)(W:World):Prop where
 hd:W.ownsRow B 35 1 (.slice va.1 k va.2) k (((List.range k).map λi=>Value.slice (P i).1 m (P i).2).flatMap J8)
 row:∀i,i<k->W.ownsRow B 48 5 (.slice (P i).1 m (P i).2) m ((R i).flatMap qL)
 pl:W.ownsRow B 48 5 (.slice vp.1 kp vp.2) kp (((U.take kp).map pf).flatMap qL)
 tn:W.ownsRow B 48 5 (.slice vt.1 kt vt.2) kt (((U.take kt).map tf).flatMap qL)
 rp:∀i,i<k->R8 (.slice vp.1 kp vp.2) (.slice (P i).1 m (P i).2)
 rt:∀i,i<k->R8 (.slice vt.1 kt vt.2) (.slice (P i).1 m (P i).2)
 pt:R8 (.slice vp.1 kp vp.2) (.slice vt.1 kt vt.2)
section
variable {B m k kp kt:Nat} {R:Nat->List Rat} {pf tf:Nat->Rat} {U:List Nat} {va vp vt v':Ax} {P:Nat->Ax} {W u w':World} {o:Obj}
theorem SolP.grow(h:SolP B m R pf tf U va vp vt k kp kt P u)(hg:A4 u W):SolP B m R pf tf U va vp vt k kp kt P W:=⟨C0 h.hd hg,λi hi=>C0 (h.row i hi) hg,C0 h.pl hg,C0 h.tn hg,h.rp,h.rt,h.pt⟩
theorem SolP.start(B m:Nat)(R:Nat->List Rat)(pf tf:Nat->Rat)(U:List Nat)(P:Nat->Ax)(u:World):SolP B m R pf tf U (none,0) (none,0) (none,0) 0 0 0 P u :=
 ⟨C0n _ _ _ _,λi hi=>absurd hi (C03 _),C0n _ _ _ _,C0n _ _ _ _,λi hi=>absurd hi (C03 _),λi hi=>absurd hi (C03 _),λg h1=>by cases h1⟩
def A1d(P:Nat->Ax)(k:Nat)(x:Ax):Nat->Ax:=λi=>if i=k then x else P i
theorem B2a(P:Nat->Ax)(k m:Nat)(x:Ax):((List.range (k+1)).map λi=>Value.slice (A1d P k x i).1 m (A1d P k x i).2).flatMap J8=((List.range k).map λi=>Value.slice (P i).1 m (P i).2).flatMap J8++[Value.slice x.1 m x.2]:=by
 rw[B99,List.map_append,C0v];congr 1
 ·congr 1;refine C0u λi hi=>?_;have:=List.mem_range.1 hi;unfold A1d;rw[if_neg (by omega)]
 ·simp[A1d]
theorem SolP.addRow{x:Ax}(h:SolP B m R pf tf U va vp vt k kp kt P u)(hx:u.ownsRow B 48 5 (.slice x.1 m x.2) m ((R k).flatMap qL))(hxp:R8 (.slice vp.1 kp vp.2) (.slice x.1 m x.2))(hxt:R8 (.slice vt.1 kt vt.2) (.slice x.1 m x.2))
  (h1:w'.ownsRow B 35 1 (.slice v'.1 (k+1) v'.2) (k+1) (((List.range k).map λi=>Value.slice (P i).1 m (P i).2).flatMap J8++[Value.slice x.1 m x.2])) (hg:(u.alloc o).grownBy w' (Value.slice va.1 k va.2).ownBlock) :
  SolP B m R pf tf U v' vp vt (k+1) kp kt (A1d P k x) w':=by
 have ap:∀ {B0 e0 s0 n0 v0 xs0},u.ownsRow B0 e0 s0 v0 n0 xs0->35≠e0->w'.ownsRow B0 e0 s0 v0 n0 xs0:=λh0 hne=>A0j h0 (N7 h.hd h0 hne) hg;refine⟨by rw[B2a];exact h1,λi hi=>?_,ap h.pl (by decide),ap h.tn (by decide),λi hi=>?_,λi hi=>?_,h.pt⟩
 ·unfold A1d;by_cases e:i=k
  ·subst e;simp only[if_true];exact ap hx (by decide)
  ·simp only[if_neg e];exact ap (h.row i (by omega)) (by decide)
 ·unfold A1d;by_cases e:i=k
  ·simp only[if_pos e];exact hxp
  ·simp only[if_neg e];exact h.rp i (by omega)
 ·unfold A1d;by_cases e:i=k
  ·simp only[if_pos e];exact hxt
  ·simp only[if_neg e];exact h.rt i (by omega)
theorem SolP.addP(h:SolP B m R pf tf U va vp vt k kp kt P u)(hk:kp<U.length)(h1:w'.ownsRow B 48 5 (.slice v'.1 (kp+1) v'.2) (kp+1) (((U.take kp).map pf).flatMap qL++qL (pf (nx U kp))))(hg:(u.alloc o).grownBy w' (Value.slice vp.1 kp vp.2).ownBlock)
  (h3:(Value.slice v'.1 (kp+1) v'.2).ownBlock=(Value.slice vp.1 kp vp.2).ownBlock\/(Value.slice v'.1 (kp+1) v'.2).ownBlock=some (u.heap.size+1)):SolP B m R pf tf U va v' vt k (kp+1) kt P w':=by
 refine⟨A0j h.hd (N7 h.pl h.hd (by decide)) hg,λi hi=>A0j (h.row i hi) (h.rp i hi) hg,?_,A0j h.tn h.pt hg,λi hi=>A4c (h.row i hi) (h.rp i hi) h3 (by omega),h.rt,A4c h.tn h.pt h3 (by omega)⟩;rw[A5x pf U hk,C0v]
 simpa using h1
theorem SolP.addT(h:SolP B m R pf tf U va vp vt k kp kt P u)(hk:kt<U.length)(h1:w'.ownsRow B 48 5 (.slice v'.1 (kt+1) v'.2) (kt+1) (((U.take kt).map tf).flatMap qL++qL (tf (nx U kt))))(hg:(u.alloc o).grownBy w' (Value.slice vt.1 kt vt.2).ownBlock)
  (h3:(Value.slice v'.1 (kt+1) v'.2).ownBlock=(Value.slice vt.1 kt vt.2).ownBlock\/(Value.slice v'.1 (kt+1) v'.2).ownBlock=some (u.heap.size+1)):SolP B m R pf tf U va vp v' k kp (kt+1) P w':=by
 refine⟨A0j h.hd (N7 h.tn h.hd (by decide)) hg,λi hi=>A0j (h.row i hi) (h.rt i hi) hg,A0j h.pl h.pt.symm hg,?_,h.rp,λi hi=>A4c (h.row i hi) (h.rt i hi) h3 (by omega),(A4c h.pl h.pt.symm h3 (by omega)).symm⟩;rw[A5x tf U hk,C0v]
 simpa using h1
end
theorem B3a{u:World}{B b0 n c m:Nat}{P:Nat->Ax}{R:Nat->List Rat}(h:u.ownsRow B 35 1 (.slice (some ⟨b0,0,none⟩) n c) n (((List.range n).map λi=>Value.slice (P i).1 m (P i).2).flatMap J8))(hl:∀i,i<n->(R i).length=m)(hr:∀i,i<n->Lq u (P i).1 (R i)):Lrq u (some ⟨b0,0,none⟩) ((List.range n).map λi=>(((P i).1,(P i).2,R i):Rq)):=λhne=>by
 refine⟨b0,0,rfl,(h.lt b0 rfl).2,λi r hi=>?_⟩;rw[List.getElem?_map]at hi;obtain⟨k,hk,rfl⟩:=Option.map_eq_some_iff.1 hi;have hin:i<n:=by
  have:=(List.getElem?_eq_some_iff.1 hk).1
  simpa using this
 have hki:k=i:=by
  rw[C0z hin]at hk;exact(B8y hk).symm
 subst hki;have h1:=X6 (enc:=J8) (size:=1) (λ_=>rfl) h (by simp) k 0 (by simpa using hin) (by omega);rw[C0F,Nat.add_zero]at h1;simp only[List.getElem_map,List.getElem_range]at h1;rw[Nat.zero_add,h1];exact⟨by rw[hl k hin];rfl,hr _ hin⟩
structure LmW(B n bf bo:Nat)(F G:List Rat)(vl:Ax)(ls:List Lm)(W:World):Prop where
 f:W.ownsRow B 48 5 (.slice (some ⟨bf,0,none⟩) n n) n (F.flatMap qL)
 g:W.ownsRow B 48 5 (.slice (some ⟨bo,0,none⟩) n n) n (G.flatMap qL)
 l:W.ownsRow B 183 10 (.slice vl.1 ls.length vl.2) ls.length (ls.flatMap lmL)
 ne:bf≠bo
section
variable {B n bf bo b i:Nat} {F G:List Rat} {vl:Ax} {ls:List Lm} {W W':World} {vs:List Value}
theorem LmW.grow(h:LmW B n bf bo F G vl ls W)(hg:A4 W W'):LmW B n bf bo F G vl ls W':=⟨C0 h.f hg,C0 h.g hg,C0 h.l hg,h.ne⟩
theorem LmW.over{t:TypeId}{cs:Array Value}(h:LmW B n bf bo F G vl ls W)(hb:Blk W b t cs)(ht:t≠48/\t≠183)(hu:C2 W b i vs=W'):LmW B n bf bo F G vl ls W' :=
 ⟨H5 h.f (E8 h.f hb (λe=>ht.1 e.symm)) hu,H5 h.g (E8 h.g hb (λe=>ht.1 e.symm)) hu,H5 h.l (E8 h.l hb (λe=>ht.2 e.symm)) hu,h.ne⟩
theorem LmW.news{W0:World}(h0:LmW B n bf bo F G vl ls W0)(hb:W0.heap.size<=b)(h:LmW B n bf bo F G vl ls W)(hu:C2 W b i vs=W'):LmW B n bf bo F G vl ls W' :=
 ⟨H5 h.f (A04 h0.f hb) hu,H5 h.g (A04 h0.g hb) hu,H5 h.l (A04 h0.l hb) hu,h.ne⟩
theorem LmW.fq(h:LmW B n bf bo F G vl ls W):Lq W (some ⟨bf,0,none⟩) F:=by
 obtain⟨A,c,e,-,-,hL,-⟩:=K8 h.f;cases e;exact hL
theorem LmW.gq(h:LmW B n bf bo F G vl ls W):Lq W (some ⟨bo,0,none⟩) G:=by
 obtain⟨A,c,e,-,-,hL,-⟩:=K8 h.g;cases e;exact hL
theorem LmW.putF(h:LmW B n bf bo F G vl ls W)(hF:F.length=n){j:Nat}(hj:j<n)(q:Rat)(hu:C2 W bf (j*5) (qL q)=W'):LmW B n bf bo (F.set j q) G vl ls W'/\W.grownBy W' (some bf):=by
 obtain⟨h1,h2⟩:=R4 (enc:=qL) (size:=5) (ps:=F) (λ_=>rfl) h.f j q (by omega);rw[hu]at h1 h2;exact⟨⟨h1,h.g.kept h2 (.inr λe=>h.ne (B8y e).symm),h.l.kept h2 (.inr λe=>N7 h.f h.l (by decide) bf rfl e),h.ne⟩,h2⟩
theorem LmW.putG(h:LmW B n bf bo F G vl ls W)(hG:G.length=n){j:Nat}(hj:j<n)(q:Rat)(hu:C2 W bo (j*5) (qL q)=W'):LmW B n bf bo F (G.set j q) vl ls W'/\W.grownBy W' (some bo):=by
 obtain⟨h1,h2⟩:=R4 (enc:=qL) (size:=5) (ps:=G) (λ_=>rfl) h.g j q (by omega);rw[hu]at h1 h2;exact⟨⟨h.f.kept h2 (.inr λe=>h.ne (B8y e)),h1,h.l.kept h2 (.inr λe=>N7 h.g h.l (by decide) bo rfl e),h.ne⟩,h2⟩
theorem LmW.beside{B0 size n0:Nat}{e:TypeId}{v:Value}{xs:List Value}{o:Obj}(h:LmW B n bf bo F G vl ls W)(h0:W.ownsRow B0 e size v n0 xs)(ht:e≠48/\e≠183)(hg:(W.alloc o).grownBy W' v.ownBlock):LmW B n bf bo F G vl ls W' :=
 ⟨A0j h.f (N7 h0 h.f ht.1) hg,A0j h.g (N7 h0 h.g ht.1) hg,A0j h.l (N7 h0 h.l ht.2) hg,h.ne⟩
theorem LmW.app{v':Ax}{ls':List Lm}(h:LmW B n bf bo F G vl ls W)(h1:W'.ownsRow B 183 10 (.slice v'.1 ls'.length v'.2) ls'.length (ls'.flatMap lmL))(hg:W.grownBy W' (Value.slice vl.1 ls.length vl.2).ownBlock):LmW B n bf bo F G v' ls' W' :=
 ⟨A2B h.f h.l (by decide) hg,A2B h.g h.l (by decide) hg,h1,h.ne⟩
end
theorem B6S:EI 39 35 1 24:=A10 (by kernel_rfl) (by kernel_rfl) (by omega)
theorem B8E(A:Option Addr)(n c:Nat)(w:World):(Instr.buildSlice 39 1 #[(0,.slice A n c)]).run Tryz.prog w = .ok (.slice (some ⟨w.heap.size,0,none⟩) 1 1) (w.alloc (.cells #[.slice A n c] 35)):=by
 go_simp
theorem A7W:EI 113 183 10 112:=A10 (by kernel_rfl) (by kernel_rfl) (by omega)
theorem B0z{ops:Array Oper}{a:Act}{u:World}{K:Act->World->Prop}{d2:Option Nat}{s z:Operand}{t2:TypeId}{p2:String}{f2:Array Edge}{rest:List Oper}{T e:TypeId}{size bytes:Nat}(hE:EI T e size bytes)
  (B:Nat) (v:Value) (n:Nat) (xs:List Value) (b m:Nat) (ys:List Value) (hy:ys.length=m*size) (h1:(ys.all λy=>y.oneCell')=true) (hblk:Blk u b e ys.toArray)
  (hs:a.eval s=v) (hz:a.eval z = .slice (some ⟨b,0,none⟩) m m)
  (hown:u.ownsRow B e size v n xs) (hl:n+m<=1099511627776) (hl2:(n+m)*bytes<=140737488355328) (hB:B<=u.heap.size)
  (h:∀v' w',w'.ownsRow B e size v' (n+m) (xs++ys)->u.grownBy w' v.ownBlock->(v'.ownBlock=v.ownBlock\/v'.ownBlock=some u.heap.size)->wpList Tryz.prog ops (NoK K) rest (a.put d2 v') w') :
  wpList Tryz.prog ops (NoK K) (⟨d2,.call { callee:=.builtin .append,args:=#[s,z],argTypes:=#[T,T] },t2,p2,f2,none⟩::rest) a u:=by
 obtain⟨hund,⟨i0,z0,hi0,hz0,hz1,hz2,hz3⟩,hpos⟩:=hE;refine wpList_append_own_at u (a:=a) (Q:=NoK K) rfl s z T rfl B e i0 z0 size bytes hund hi0 hz0 hz1 hz2 hz3 hpos v n xs hs hown ⟨b,0,none⟩ m m ys hz (by rw[hy]) ?_ (λy hy=>List.all_eq_true.1 h1 y hy) (by unfold maxLen;omega) hl2 hB λv' w' g1 g2 _ g4=>h v' w' g1 g2 g4;intro j y hj;rw[B9b,Nat.zero_add,Blk.cell hblk j,List.getElem?_toArray];exact hj
theorem B1P(GR:List (List Rat))(U:List Nat)(P:Nat->Ax):((List.range U.length).map λi=>(((P i).1,(P i).2,U.map λj=>gq (B7 GR (nx U i)) j):Rq)).map (·.2.2)=X0 GR U:=by
 unfold X0;apply B88
 ·simp
 ·intro i h1 h2;have hi:i<U.length:=by simpa using h2
  simp only[List.getElem_map,List.getElem_range];unfold nx;rw[B9Y hi];rfl
theorem A4n{GR:List (List Rat)}{U:List Nat}{i j:Nat}(hi:i<U.length)(hj:j<U.length):gq (B7 (X0 GR U) i) j=gq (B7 GR (nx U i)) (nx U j):=by
 have h1:B7 (X0 GR U) i=U.map λj=>gq (B7 GR (nx U i)) j:=by
  unfold B7 X0 nx;rw[List.getElem?_map,B9Y hi];rfl
 rw[h1];unfold gq;rw[List.getElem?_map,B9Y hj];unfold nx;rw[B9Y hj];rfl
theorem A1x{f:Nat->Rat}{U:List Nat}{k:Nat}(h:k<U.length):gq (U.map f) k=f (nx U k):=by
 unfold gq nx;rw[List.getElem?_map,B9Y h];rfl
theorem A8l{GR:List (List Rat)}{U:List Nat}{y:List Rat}{f:Nat->Rat}{n s m:Nat}{B:Nat}{va vy:Ax}{P:Nat->Ax}{W:World}(hm:m=U.length)(hm1:1<=m)(hmn:m<=n)(hn:n<=6)(hU:∀x∈U,x<n)
  (hG:∀i,i<n->∀j,j<n->qs (gq (B7 GR i) j)<=s) (hs1:1<=s) (hBz:100*(s*10^(n+1))<=BIG) (hy:y=U.map f) (hyz:∀k,k<U.length->qs (f (nx U k))<=s) (hok:A2Z GR U y)
  (hd:W.ownsRow B 35 1 (.slice va.1 m va.2) m (((List.range m).map λi=>Value.slice (P i).1 m (P i).2).flatMap J8)) (hr:∀i,i<m->W.ownsRow B 48 5 (.slice (P i).1 m (P i).2) m ((U.map λj=>gq (B7 GR (nx U i)) j).flatMap qL)) (hyo:W.ownsRow B 48 5 (.slice vy.1 m vy.2) m (((U.take m).map f).flatMap qL)) :
  ∀V,A4 W V->Tab V->Calls Tryz.prog 128 #[.slice va.1 m va.2,.slice vy.1 m vy.2] V (G9 (λx:Ax=>.tuple #[.slice x.1 m x.2,.slice none 0 0,.int .i64 0]) (λx V'=>Lq V' x.1 ((List.range m).map (X7 GR U y))/\∃b,x.1=some ⟨b,0,none⟩/\V.heap.size<=b) V):=λV hg hT=>by
 subst hm;rw[C0h,<-hy]at hyo;obtain⟨ba,ca,ea,-,-⟩:=A0R hd (by omega);obtain⟨bv,cv,ev,-,hcv⟩:=A0R hyo (by omega);obtain⟨va1,va2⟩:=va;obtain⟨vy1,vy2⟩:=vy;simp only[Value.slice.injEq]at ea ev;obtain⟨rfl,-,rfl⟩:=ea;obtain⟨rfl,-,rfl⟩:=ev
 have hL:=B3a hd (R:=λi=>U.map λj=>gq (B7 GR (nx U i)) j) (λi hi=>by simp) (λi hi=>by
  obtain⟨A,c,e,-,-,hL,-⟩:=K8 (hr i hi);have e1:=C0T (λv=>match v with|Value.slice a _ _=>a|_=>none) e;simp only at e1;rw[e1]
  exact hL)
 have hY:Lq W (some ⟨bv,0,none⟩) y:=by
  obtain⟨A,c,e,-,-,hL,-⟩:=K8 hyo;cases e;exact hL
 have hmp:=B1P GR U P;have hyl:y.length=U.length:=by rw[hy];simp
 have hpw:s*10^(U.length+1)<=s*10^(n+1):=C0B _ (B9P (by omega) (by omega));have nxl:∀k,k<U.length->nx U k<n:=λk hk=>hU _ (Q3 hk);have hl1:((List.range U.length).map λi=>(((P i).1,(P i).2,U.map λj=>gq (B7 GR (nx U i)) j):Rq)).length=U.length:=by simp
 have hl2:∀r∈((List.range U.length).map λi=>(((P i).1,(P i).2,U.map λj=>gq (B7 GR (nx U i)) j):Rq)),r.2.2.length=U.length:=λr hr=>by
  obtain⟨i,hi,rfl⟩:=List.mem_map.1 hr;simp
 have hl3:∀r∈((List.range U.length).map λi=>(((P i).1,(P i).2,U.map λj=>gq (B7 GR (nx U i)) j):Rq)),U.length<=r.2.1:=λr hr2=>by
  obtain⟨i,hi,rfl⟩:=List.mem_map.1 hr2;obtain⟨A,c,e,hc,-,-,-⟩:=K8 (hr i (List.mem_range.1 hi));have e1:=C0T (λv=>match v with|Value.slice _ _ c=>c|_=>0) e;simp only at e1;simp only;omega
 generalize ((List.range U.length).map λi=>(((P i).1,(P i).2,U.map λj=>gq (B7 GR (nx U i)) j):Rq))=rs0 at hL hmp hl1 hl2 hl3;have h:=B8e (some ⟨ba,0,none⟩) bv 0 rs0 y U.length va2 vy2 hl1 hm1 (by omega) hl2 hl3 hyl hcv s hs1 (λi hi j hj=>by rw[hmp,A4n hi hj];exact hG _ (nxl i hi) _ (nxl j hj)) (λi hi=>by rw[hy,A1x hi];exact hyz i hi) (by omega) (by rw[hmp];exact hok hm1) V (hL.grow hg) (hY.grow hg) hT;rw[hmp]at h;exact h
theorem B6m{X:List (List Rat)}{y:List Rat}{m s:Nat}(hX:∀i,i<m->∀j,j<m->qs (gq (B7 X i) j)<=s)(hl:∀i,i<m->(B7 X i).length=m)(hy:∀i,i<m->qs (gq y i)<=s):szM (F6 (aug X y m)) m (m+1) s:=λi hi j hj=>by
 have e1:B7 (aug X y m) i=B7 X i++[gq y i]:=A2Y hi;show qs (gq (B7 (aug X y m) i) j)<=s;rw[e1];have hl2:=hl i hi;rcases B8t j m with h1|h1
 ·have:gq (B7 X i++[gq y i]) j=gq (B7 X i) j:=by
   show((B7 X i++[gq y i])[j]?).getD 0=_;rw[C0k (by omega)];rfl
  rw[this];exact hX i hi j h1
 ·have h2:j=(B7 X i).length:=by omega
  have:gq (B7 X i++[gq y i]) j=gq y i:=by
   show((B7 X i++[gq y i])[j]?).getD 0=_;rw[h2,C0l (B8s _)];simp
  rw[this];exact hy i hi
theorem A4g{GR:List (List Rat)}{U:List Nat}{y:List Rat}{n s:Nat}(hU:∀x∈U,x<n)(hmn:U.length<=n)(hG:∀i,i<n->∀j,j<n->qs (gq (B7 GR i) j)<=s)(hs1:1<=s)(hy:∀k,k<U.length->qs (gq y k)<=s):∀k,k<U.length->qs (X7 GR U y k)<=s*10^(n+1):=λk hk=>by
 have h1:=A5J (s:=(F6 (aug (X0 GR U) y U.length),[])) (B6m (X:=X0 GR U) (y:=y) (m:=U.length) (s:=s) (λi hi j hj=>by rw[A4n hi hj];exact hG _ (hU _ (Q3 hi)) _ (hU _ (Q3 hj))) (λi hi=>by
  unfold B7 X0;rw[List.getElem?_map,B9Y hi]
  simp) hy) hs1 (U.length+1) (B8s _)
 exact B9A (h1 k hk U.length (C08 _)) (C0B _ (B9P (by omega) (by omega)))
theorem B4Z{m:Nat}{M:Mx}(h:(C9 m (m+1) (M,[]) (m+1)).2=List.range m):∀i,i<m->C8 (λj=>M i j*(C9 m (m+1) (M,[]) (m+1)).1 j m) m=M i m:=by
 obtain⟨e1,e2⟩:=A4f (n:=m) (L:=m+1) M (m+1) (B8s _);obtain⟨s,hs⟩:∃s,s=C9 m (m+1) (M,[]) (m+1):=⟨_,rfl⟩
 obtain⟨V,hV⟩:∃V:Nat->Rat,V=λj=>if j<m then s.1 j m else -1:=⟨_,rfl⟩
 have hk:=(A46 (n:=m) (L:=m+1) (s:=(M,[])) (v:=V) (m+1))
 have hVl:∀j,j<m->V j=s.1 j m:=λj hj=>by rw[hV];exact if_pos hj
 have hVm:V m = -1:=by rw[hV];exact if_neg (Nat.lt_irrefl m)
 rw[<-hs]at h e1 e2 hk⊢
 have hd:∀i,i<m->∀j,j<m->s.1 i j=if i=j then 1 else 0:=λi hi j hj=>by
  have:=e2 j (by rw[h];simpa using hj) i hi;rw[h,A33 hj]at this;exact this
 have h1:ker s.1 m (m+1) V:=λi hi=>by
  unfold D1;rw[A0a,hVm,A1i hi λj hj hne=>by rw[hd i hi j hj,if_neg (λe=>hne e.symm)];grind,hd i hi i hi,if_pos rfl,hVl i hi];grind
 intro i hi;have h2:D1 (M i) V (m+1)=0:=hk.1 h1 i hi;unfold D1 at h2;rw[A0a,hVm,G7 (λj hj=>by rw[hVl j hj]:∀j,j<m->M i j*V j=M i j*s.1 j m)]at h2;grind
theorem B5P{m:Nat}{M:Mx}(h:∀v,(∀i,i<m->D1 (M i) v m=0)->∀j,j<m->v j=0):(C9 m (m+1) (M,[]) (m+1)).2=List.range m:=by
 have h1:=A7G (n:=m) (L:=m+1) (m:=m) (M:=M) (by omega) (λv hv hk=>h v λi hi=>by
  have h2:=hk i hi;unfold D1 at h2⊢;rw[A0a,hv m (B8s _)]at h2
  grind) m (B8s _)
 show(O0 m (m+1) (C9 m (m+1) (M,[]) m) m).2=_;unfold O0;rw[if_neg ?_,h1];show ¬M3 _ m (C9 m (m+1) (M,[]) m).2.length m<m;rw[h1,List.length_range,B3g (B8s _)];omega
theorem A94{X:List (List Rat)}{y:List Rat}{m i j:Nat}(hi:i<m)(hl:(B7 X i).length=m)(hj:j<m):F6 (aug X y m) i j=gq (B7 X i) j:=by
 have e1:B7 (aug X y m) i=B7 X i++[gq y i]:=A2Y hi;show gq (B7 (aug X y m) i) j=_;rw[e1];show((B7 X i++[gq y i])[j]?).getD 0=_;rw[C0k (by omega)];rfl
theorem B8W{X:List (List Rat)}{y:List Rat}{m i:Nat}(hi:i<m)(hl:(B7 X i).length=m):F6 (aug X y m) i m=gq y i:=by
 have e1:B7 (aug X y m) i=B7 X i++[gq y i]:=A2Y hi;show gq (B7 (aug X y m) i) m=_;rw[e1];show((B7 X i++[gq y i])[m]?).getD 0=_;rw[C0l (by omega),hl,B9W];rfl
theorem A6v{GR:List (List Rat)}{U:List Nat}{i:Nat}(hi:i<U.length):(B7 (X0 GR U) i).length=U.length:=by
 unfold B7 X0;rw[List.getElem?_map,B9Y hi];simp
def S9(U:List Nat)(v:Nat->Rat)(t:Nat):Rat:=C8 (λk=>if nx U k=t then v k else 0) U.length
theorem A9r{U:List Nat}(hU:U.Pairwise (· < ·)){i j:Nat}(hi:i<U.length)(hj:j<U.length)(h:nx U i=nx U j):i=j:=by
 have h1:=List.pairwise_iff_getElem.1 hU;unfold nx at h;rw[B9Y hi,B9Y hj]at h;have h2:U[i]=U[j]:=h;rcases B9v i j with h3|h3|h3
 ·have:=h1 i j hi hj h3;omega
 ·exact h3
 ·have:=h1 j i hj hi h3;omega
section
variable {U:List Nat} {n:Nat} (hU:U.Pairwise (· < ·)) (hn:∀x∈U,x<n)
include hU
theorem B5V(v:Nat->Rat){k:Nat}(hk:k<U.length):S9 U v (nx U k)=v k:=by
 unfold S9;rw[A1i hk λj hj hne=>if_neg λe=>hne (A9r hU hj hk e),if_pos rfl]
omit hU in
theorem A6j(v:Nat->Rat){t:Nat}(h:t∉U):S9 U v t=0 :=
 A0n λk hk=>if_neg λe=>h (by rw[<-e];exact Q3 hk)
include hn
omit hU in
theorem B0R(c v:Nat->Rat):C8 (λt=>c t*S9 U v t) n=C8 (λk=>c (nx U k)*v k) U.length:=by
 have e:C8 (λt=>c t*S9 U v t) n=C8 (λt=>C8 (λk=>if nx U k=t then c t*v k else 0) U.length) n:=G7 λt _=>by
  unfold S9;rw[<-Q7];exact G7 λk _=>by split<;>grind
 rw[e,A3f];refine G7 λk hk=>?_;rw[A1i (hn _ (Q3 hk)) λt ht hne=>if_neg λe=>hne e.symm,if_pos rfl]
theorem B0B(v:Nat->Rat):∀k,k<=U.length->∀t,gq (N6 U v n k) t=C8 (λi=>if nx U i=t then v i else 0) k
 | 0,_,t=>by
  unfold gq N6;rw[C0V];split<;>rfl
 | k+1,hk,t=>by
  show gq ((N6 U v n k).set (nx U k) (v k)) t=_;rw[A9b,A0a,A0F];have hlt:=hn _ (Q3 (l:=U) (i:=k) (by omega));by_cases e:t=nx U k
  ·rw[if_pos ⟨e,hlt⟩,if_pos e.symm,A0n λi hi=>if_neg λe2=>by
    have:=A9r hU (i:=i) (j:=k) (by omega) (by omega) (e2.trans e)
    omega]
   grind
  ·rw[if_neg λh=>e h.1,if_neg λh=>e h.symm,B0B v k (by omega) t];grind
theorem A9q(v:Nat->Rat)(t:Nat):gq (N6 U v n U.length) t=S9 U v t:=B0B hU hn v _ (B8s _) t
end
theorem A58(sg:List Int)(i:Nat):(F8 sg i).Pairwise (· < ·):=by
 unfold F8;exact List.Pairwise.filter _ (List.pairwise_lt_range)
theorem A7X{sg:List Int}{n i:Nat}:i∈F8 sg n↔i<n/\gi sg i≠0:=by
 unfold F8;rw[List.mem_filter,List.mem_range];simp
theorem A7m{U:List Nat}{x:Nat}(h:x∈U):∃k,k<U.length/\nx U k=x:=by
 obtain⟨k,hk,e⟩:=C0m h;exact⟨k,hk,by unfold nx;rw[B9Y hk];exact e⟩
section
variable {GR:List (List Rat)} {U:List Nat} {n:Nat} {G:Mx} (hU:U.Pairwise (· < ·)) (hn:∀x∈U,x<n) (hG:∀i,i<n->∀j,j<n->gq (B7 GR i) j=G i j) (hD:∀x,frm G n x x<=0->∀j,j<n->x j=0)
include hU hn hG hD
theorem A5i(y:List Rat):A2Z GR U y:=λ_=>B5P λv hv j hj=>by
 have hx:∀t,t∉U->S9 U v t=0:=λt ht=>A6j v ht
 have h1:=hD (S9 U v) (by
  unfold frm;rw[A0n λi hi=>?_]
  ·exact C04
  ·by_cases hi2:i∈U
   ·obtain⟨k,hk,rfl⟩:=A7m hi2;have h2:=hv k hk;have h3:D1 (G (nx U k)) (S9 U v) n=0:=by
     rw[show D1 (G (nx U k)) (S9 U v) n=_ from B0R hn (G (nx U k)) v,<-h2];exact G7 λl hl=>by rw[A94 hk (A6v hk) hl,A4n hk hl,hG _ (hn _ (Q3 hk)) _ (hn _ (Q3 hl))]
    rw[h3];grind
   ·rw[hx i hi2];grind) (nx U j) (hn _ (Q3 hj))
 rwa [B5V hU v hj]at h1
theorem A76(y:List Rat)(v:Nat->Rat)(hv:∀k,k<U.length->v k=X7 GR U y k){k:Nat}(hk:k<U.length):D1 (G (nx U k)) (S9 U v) n=gq y k:=by
 rw[show D1 (G (nx U k)) (S9 U v) n=_ from B0R hn (G (nx U k)) v];have h1:=B4Z (A5i hU hn hG hD y (by omega)) k hk;rw[B8W hk (A6v hk)]at h1;rw[<-h1];exact G7 λl hl=>by rw[A94 hk (A6v hk) hl,A4n hk hl,hG _ (hn _ (Q3 hk)) _ (hn _ (Q3 hl)),hv l hl];rfl
end
theorem B7K{GR:List (List Rat)}{PL:List Rat}{n:Nat}{G:Mx}(hG:∀i,i<n->∀j,j<n->gq (B7 GR i) j=G i j)(hD:∀x,frm G n x x<=0->∀j,j<n->x j=0)(sg:List Int)(a:Rat) :
  SolW G n (gq PL) a (gi sg) (gq (I6 (A0k GR PL sg n) (A0Y GR sg n) n a)):=by
 obtain⟨U,hUe⟩:∃U,U=F8 sg n:=⟨_,rfl⟩
 have hU:=A58 sg n;have hn:∀x∈F8 sg n,x<n:=A1Y;have hw:∀t,t<n->gq (I6 (A0k GR PL sg n) (A0Y GR sg n) n a) t=S9 U (X7 GR U (V3 PL U)) t+a*S9 U (X7 GR U (U6 sg U)) t:=λt ht=>by
  have e1:gq (I6 (A0k GR PL sg n) (A0Y GR sg n) n a) t=G5 (gq (A0k GR PL sg n) t) (D5 (gq (A0Y GR sg n) t) a):=W5 _ ht;rw[e1,hUe];unfold A0k A0Y G5 D5;rw[A9q hU hn,A9q hU hn];grind
 rw[<-hUe]at hU hn;constructor
 ·intro i hi hs;obtain⟨k,hk,e⟩:=A7m (U:=U) (x:=i) (by rw[hUe];exact A7X.2 ⟨hi,hs⟩);subst e;have e2:D1 (G (nx U k)) (gq (I6 (A0k GR PL sg n) (A0Y GR sg n) n a)) n=D1 (G (nx U k)) (λt=>S9 U (X7 GR U (V3 PL U)) t+a*S9 U (X7 GR U (U6 sg U)) t) n:=G7 λt ht=>by rw[hw t ht]
  rw[e2,A32,A76 hU hn hG hD (V3 PL U) _ (λ_ _=>rfl) hk,A76 hU hn hG hD (U6 sg U) _ (λ_ _=>rfl) hk];unfold V3 U6;rw[A1x hk,A1x hk];have e3:B4 (-(gi sg (nx U k))) = -((gi sg (nx U k):Int):Rat):=by unfold B4;exact Rat.intCast_neg _
  rw[e3];grind
 ·intro i hi hs;have hm:i∉U:=by rw[hUe];exact λh=>(A7X.1 h).2 hs
  rw[hw i hi,A6j _ hm,A6j _ hm];grind
theorem A9f{GR:List (List Rat)}{PL:List Rat}{n:Nat}{G:Mx}(hG:∀i,i<n->∀j,j<n->gq (B7 GR i) j=G i j)(sg:List Int)(F B:List Rat)(a:Rat):∀i,i<=n ->
  (H7 a (Y4 GR PL F B sg n i)=true↔∀t,t<i->if gi sg t≠0 then 0<=(gi sg t:Rat)*gq (I6 F B n a) t else G4 (gq PL t-D1 (G t) (gq (I6 F B n a)) n)<=a)
 | 0,_=>by
  constructor
  ·intro _ t ht;exact absurd ht (C03 _)
  ·intro _;rfl
 | i+1,hi=>by
  have ih:=A9f (PL:=PL) hG sg F B a i (by omega);rw[A36];have e:H7 a (Y4 GR PL F B sg n i++Y9 GR PL F B sg n i)=(H7 a (Y4 GR PL F B sg n i)&&H7 a (Y9 GR PL F B sg n i)):=by
   unfold H7;rw[List.all_append]
  rw[e,Bool.and_eq_true,ih];have hwt:∀t,t<n->gq (I6 F B n a) t=gq F t+gq B t*a:=λt ht=>W5 _ ht
  have key:H7 a (Y9 GR PL F B sg n i)=true↔if gi sg i≠0 then 0<=(gi sg i:Rat)*gq (I6 F B n a) i else G4 (gq PL i-D1 (G i) (gq (I6 F B n a)) n)<=a:=by
   unfold Y9 H7;by_cases hs:gi sg i≠0
   ·rw[if_pos hs,if_pos hs,hwt i (by omega)];simp only[List.all_cons,List.all_nil,Bool.and_true];unfold W4;rw[C1J];unfold G5 D5 B4;constructor<;>intro h<;>grind
   ·rw[if_neg hs,if_neg hs];simp only[List.all_cons,List.all_nil,Bool.and_true,Bool.and_eq_true];unfold W4;rw[C1J,C1J];have e1:D1 (G i) (gq (I6 F B n a)) n=E7 (B7 GR i) F n+a*E7 (B7 GR i) B n:=by
     rw[A9L,A9L,show D1 (G i) (gq (I6 F B n a)) n=D1 (G i) (λt=>gq F t+a*gq B t) n from G7 λt ht=>by rw[hwt t ht];grind,A32,A8a (λj hj=>(hG i (by omega) j hj).symm),A8a (λj hj=>(hG i (by omega) j hj).symm)]
    rw[e1];unfold G5 D5 D9 I4;have e2:B4 1=1:=rfl;rw[e2];rcases A0m (gq PL i-(E7 (B7 GR i) F n+a*E7 (B7 GR i) B n))with⟨h1,h2⟩|⟨h1,h2⟩<;>rw[h2]<;>constructor
    ·rintro⟨g1,g2⟩;grind
    ·intro g;constructor<;>grind
    ·rintro⟨g1,g2⟩;grind
    ·intro g;constructor<;>grind
  rw[key];constructor
  ·rintro⟨g1,g2⟩ t ht;by_cases e:t=i
   ·rw[e];exact g2
   ·exact g1 t (by omega)
  ·intro g;exact⟨λt ht=>g t (by omega),g i (by omega)⟩
end Go.Proofs.YtgpglgbcobeogaaGreatDoor
