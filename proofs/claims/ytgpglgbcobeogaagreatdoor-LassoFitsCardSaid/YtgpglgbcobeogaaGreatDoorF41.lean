import Derived.Test.YtgpglgbcobeogaaGreatDoorF35
import Derived.Test.YtgpglgbcobeogaaGreatDoorF40
set_option linter.unusedSimpArgs false
set_option linter.unusedVariables false
namespace Go.Proofs.YtgpglgbcobeogaaGreatDoor
open Go Go.RowKit
theorem A3E(a:Rat):Q0 a=G7 a:=by
 unfold Q0 G7 Rat.abs;rfl
theorem B6T{p w a:Rat}(h:V4 p w a=true):(0<w/\p=a)\/(w<0/\p = -a)\/(w=0/\G7 p<=a):=by
 unfold V4 at h;by_cases h1:0<w
 ·rw[if_pos h1]at h;exact .inl ⟨h1,C03 h⟩
 ·rw[if_neg h1]at h;by_cases h2:w<0
  ·rw[if_pos h2]at h;exact .inr (.inl ⟨h2,C03 h⟩)
  ·rw[if_neg h2]at h;refine .inr (.inr ⟨by grind,?_⟩);have:=C03 h
   rwa [A3E]at this
theorem B0U{p w a:Rat}(h:(0<w/\p=a)\/(w<0/\p = -a)\/(w=0/\G7 p<=a)):V4 p w a=true:=by
 unfold V4;rcases h with⟨h1,h2⟩|⟨h1,h2⟩|⟨h1,h2⟩
 ·rw[if_pos h1];exact C04 h2
 ·rw[if_neg (by grind),if_pos h1];exact C04 h2
 ·rw[if_neg (by grind),if_neg (by grind)];exact C04 (by rw[A3E];exact h2)
theorem A0y(x:Rat):(0<=x/\G7 x=x)\/(x<=0/\G7 x = -x):=by
 unfold G7;by_cases h:0<=x
 ·exact .inl ⟨h,if_pos h⟩
 ·exact .inr ⟨by grind,if_neg h⟩
theorem A6r(p a u:Rat)(h:G7 p<=a):p*u<=a*G7 u:=by
 have h1:p<=a /\ -a<=p:=by
  rcases A0y p with⟨h1,h2⟩|⟨h1,h2⟩<;>constructor<;>grind
 rcases A0y u with⟨h2,h3⟩|⟨h2,h3⟩
 ·have:=C2G (a:=a-p) (b:=u) (by grind) h2;rw[h3];grind
 ·have:=C2G (a:=a+p) (b:=-u) (by grind) (by grind);rw[h3];grind
theorem B6Y{p w a u:Rat}(h:V4 p w a=true)(ha:0<=a):0<=a*G7 u-a*G7 w-p*(u-w):=by
 rcases B6T h with⟨h1,h2⟩|⟨h1,h2⟩|⟨h1,h2⟩
 ·subst h2;have e:G7 w=w:=by rcases A0y w with⟨h3,h4⟩|⟨h3,h4⟩<;>grind
  have h5:=A6r p p u (by rcases A0y p with⟨h3,h4⟩|⟨h3,h4⟩<;>grind);rw[e];grind
 ·have e:G7 w = -w:=by rcases A0y w with⟨h3,h4⟩|⟨h3,h4⟩<;>grind
  have h5:=A6r (-a) a u (by rcases A0y (-a)with⟨h3,h4⟩|⟨h3,h4⟩<;>grind);rw[e,h2];grind
 ·subst h1;have e:G7 0=0:=by rcases A0y 0 with⟨h3,h4⟩|⟨h3,h4⟩<;>grind
  have h5:=A6r p a u h2;rw[e];grind
section
variable {G:Mx} {n:Nat} {p:Nat->Rat} {a:Rat} {w u:Nat->Rat}
theorem B3w{x y:Nat->Rat}(h:∀i,i<n->x i=y i):obj G n p a x=obj G n p a y:=by
 have e:=A3i (G:=G) (p:=p) (a:=a) (s:=λ_=>0) h;rw[A8e (s:=λ_=>0),A8e (s:=λ_=>0),e,G3 (λi hi=>by rw[h i hi]:∀i,i<n->G7 (x i)=G7 (y i))];congr 2;unfold lin;rw[G3 (λi hi=>by rw[h i hi]:∀i,i<n->((0:Int):Rat)*x i=((0:Int):Rat)*y i)]
theorem A61(hG:∀i,i<n->∀j,j<n->G i j=G j i)(ha:0<=a)(h:Kkt G n p a w):obj G n p a w+frm G n (λi=>u i-w i) (λi=>u i-w i)<=obj G n p a u:=by
 obtain⟨d,hd⟩:∃d:Nat->Rat,d=λi=>u i-w i:=⟨_,rfl⟩
 rw[<-hd];have hdi:∀i,d i=u i-w i:=λi=>by rw[hd]
 have e0:obj G n p a u=obj G n p a (λi=>w i+1*d i):=B3w λi _=>by rw[hdi];grind
 have e1:obj G n p a (λi=>w i+1*d i)=frm G n w w+2*frm G n d w+frm G n d d-2*(lin p w n+lin p d n)+2*a*C5 (λi=>G7 (u i)) n:=by
  unfold obj;rw[B1P hG,A68,G3 (λi _=>by rw[hdi,show w i+1*(u i-w i)=u i by grind]:∀i,i<n->G7 (w i+1*d i)=G7 (u i))];grind
 have e2:0<=C5 (λi=>a*G7 (u i)-a*G7 (w i)-(p i-C6 (G i) w n)*d i) n:=A46 λi hi=>by rw[hdi];exact B6Y (h i hi) ha
 have e3:C5 (λi=>a*G7 (u i)-a*G7 (w i)-(p i-C6 (G i) w n)*d i) n=a*C5 (λi=>G7 (u i)) n-a*C5 (λi=>G7 (w i)) n-(lin p d n-frm G n d w):=by
  unfold frm lin;rw[<-O9,<-O9,<-A26,<-A26,<-A26];exact G3 λi _=>by grind
 rw[e3]at e2;rw[e0,e1];unfold obj;grind
theorem A8a(hG:∀i,i<n->∀j,j<n->G i j=G j i)(hD:∀x,frm G n x x<=0->∀j,j<n->x j=0)(ha:0<=a)(h:Kkt G n p a w)(h':obj G n p a u<=obj G n p a w):∀i,i<n->u i=w i:=λi hi=>by
 have h1:=A61 (u:=u) hG ha h;have h2:=hD (λi=>u i-w i) (by grind) i hi;have h3:u i-w i=0:=h2;grind
theorem B8k(hG:∀i,i<n->∀j,j<n->G i j=G j i)(hP:∀x,0<=frm G n x x)(hD:∀x,frm G n x x<=0->∀j,j<n->x j=0)(ha:0<=a)(h:Kkt G n p a w)(h':Kkt G n p a u):∀i,i<n->u i=w i :=
 A8a hG hD ha h (by have h1:=A61 (u:=w) hG ha h';have h2:=hP λi=>w i-u i;grind)
theorem A9S{s:Nat->Int}(hs:Sgn n s)(ha:0<=a)(hw:SolW G n p a s w)(h:A7c G n p a s w):Kkt G n p a w:=λi hi=>by
 have h1:=h i hi;apply B0U;by_cases e:s i≠0
 ·rw[if_pos e]at h1;have h2:=hw.on i hi e;rw[h2];have aa:G7 a=a:=by rcases A0y a with⟨h3,h4⟩|⟨h3,h4⟩<;>grind
  have am:G7 (-a)=a:=by rcases A0y (-a)with⟨h3,h4⟩|⟨h3,h4⟩<;>grind
  rcases hs i hi with e1|e1|e1
  ·rw[e1]at h1⊢;have e2:((-1:Int):Rat) = -1:=rfl;rw[e2]at h1⊢;have e3:p i-(p i-a * -1) = -a:=by grind
   rw[e3,am];by_cases h3:w i=0
   ·exact .inr (.inr ⟨h3,by grind⟩)
   ·exact .inr (.inl ⟨by grind,rfl⟩)
  ·exact absurd e1 e
  ·rw[e1]at h1⊢;have e2:((1:Int):Rat)=1:=rfl;rw[e2]at h1⊢;have e3:p i-(p i-a*1)=a:=by grind
   rw[e3,aa];by_cases h3:w i=0
   ·exact .inr (.inr ⟨h3,by grind⟩)
   ·exact .inl ⟨by grind,rfl⟩
 ·rw[if_neg e]at h1;exact .inr (.inr ⟨hw.off i hi (Decidable.not_not.1 e),h1⟩)
end
theorem B1g(a b:List Rat)(n:Nat):E4 a b n=C6 (gq a) (gq b) n:=rfl
theorem A4R(X:List (List Rat))(N i j:Nat):K5 X N i j=K5 X N j i:=A6l _ _ _
theorem B3q(X:List (List Rat))(N i j:Nat):K5 X N i j=C5 (λr=>D7 X r i*D7 X r j) N:=by
 unfold K5 E4;exact G3 λr hr=>by rw[A1Y X i N hr,A1Y X j N hr];rfl
theorem A9i(X:List (List Rat))(N L i:Nat)(v:Nat->Rat):C6 (K5 X N i) v L=C5 (λr=>D7 X r i*C6 (D7 X r) v L) N:=by
 have e:C6 (K5 X N i) v L=C5 (λj=>C5 (λr=>D7 X r i*D7 X r j*v j) N) L:=G3 λj _=>by
  rw[B3q,Rat.mul_comm,<-O9];exact G3 λr _=>by grind
 rw[e,A3O];refine G3 λr _=>?_;unfold C6;rw[<-O9];exact G3 λj _=>by grind
theorem A7i(X:List (List Rat))(N L:Nat)(v u:Nat->Rat):frm (K5 X N) L v u=C5 (λr=>C6 (D7 X r) v L*C6 (D7 X r) u L) N:=by
 have e:frm (K5 X N) L v u=C5 (λi=>C5 (λr=>v i*D7 X r i*C6 (D7 X r) u L) N) L:=G3 λi _=>by
  rw[A9i,<-O9];exact G3 λr _=>by grind
 rw[e,A3O];refine G3 λr _=>?_;show _=C5 _ L*_;rw[Rat.mul_comm (C5 _ L),<-O9];exact G3 λj _=>by grind
theorem A7C(X:List (List Rat))(N L:Nat)(v:Nat->Rat):0<=frm (K5 X N) L v v:=by
 rw[A7i];exact A46 λr _=>A8R _
theorem A2y{X:List (List Rat)}{N L:Nat}(h:(D1 N L (D7 X,[]) L).2.length=L)(v:Nat->Rat)(hv:frm (K5 X N) L v v<=0):∀j,j<L->v j=0:=by
 rw[A7i]at hv;have h1:=A8C (λr _=>A8R _) hv;exact B2t h λi hi=>B2L (h1 i hi)
theorem A7n(X:List (List Rat))(y w:List Rat)(N L:Nat){j:Nat}(hj:j<L):gq (W4 X y w N L) j=gq (H5 X y N L) j-C6 (K5 X N j) (gq w) L:=by
 rw[A9a X y w N L hj,A9i,show gq (H5 X y N L) j=E4 (I8 X j N) y N from Q5 _ hj];unfold E4;rw[<-A26];refine G3 λi hi=>?_;rw[A6p X y w N L hi,A1Y X j N hi,A6l w];unfold C9 D3;show _*(_-C6 (D7 X i) (gq w) L)=_-D7 X i j*_;rw[show D7 X i j=gq (B7 X i) j from rfl];grind
def F9(sg:List Int)(i:Nat):List Nat:=(List.range i).filter λt=>decide (gi sg t≠0)
theorem B9W{sg:List Int}{i:Nat}(h:gi sg i≠0):F9 sg (i+1)=F9 sg i++[i]:=by
 unfold F9;rw[C1G,List.filter_append];simp[h]
theorem B4T{sg:List Int}{i:Nat}(h:gi sg i=0):F9 sg (i+1)=F9 sg i:=by
 unfold F9;rw[C1G,List.filter_append];simp[h]
theorem A1x{sg:List Int}{i:Nat}:∀x∈F9 sg i,x<i:=λx hx=>List.mem_range.1 (List.mem_filter.1 hx).1
theorem A4x(sg:List Int)(i:Nat):(F9 sg i).length<=i:=by
 have:=C2S (λt=>decide (gi sg t≠0)) (List.range i)
 simpa [F9]using this
theorem A6J{α:Type}(f:Nat->α)(U:List Nat){k:Nat}(h:k<U.length):(U.take (k+1)).map f=(U.take k).map f++[f (nx U k)]:=by
 rw[List.take_add_one,List.map_append];unfold nx;rw[C0f h];rfl
def O7(U:List Nat)(v:Nat->Rat)(n:Nat):Nat->List Rat
 | 0=>List.replicate n 0
 | k+1=>(O7 U v n k).set (nx U k) (v k)
theorem A0c(U:List Nat)(v:Nat->Rat)(n:Nat):∀k,(O7 U v n k).length=n
 | 0=>by simp[O7]
 | k+1=>by
  show((O7 U v n k).set _ _).length=n;rw[C0o,A0c U v n k]
theorem A9N{l:List Rat}{x i:Nat}{q:Rat}:gq (l.set x q) i=if i=x/\x<l.length then q else gq l i:=by
 unfold gq;rw[List.getElem?_set];by_cases e:x=i
 ·subst e;by_cases hx:x<l.length
  ·simp[hx]
  ·simp[hx]
 ·rw[if_neg e,if_neg (λh=>e h.1.symm)]
theorem A35{U:List Nat}{v:Nat->Rat}{n Z:Nat}(h:∀k,k<U.length->qs (v k)<=Z)(hZ:1<=Z):∀k,k<=U.length->∀i,qs (gq (O7 U v n k) i)<=Z
 | 0,_,i=>by
  have:gq (O7 U v n 0) i=0:=by
   unfold gq O7;by_cases hi:i<n
   ·rw[C1c,if_pos hi];rfl
   ·rw[C1c,if_neg hi];rfl
  rw[this,A2u];exact hZ
 | k+1,hk,i=>by
  show qs (gq ((O7 U v n k).set _ _) i)<=Z;rw[A9N];split
  ·exact h k (by omega)
  ·exact A35 h hZ k (by omega) i
def A0D(GR:List (List Rat))(U:List Nat):List (List Rat):=U.map λi=>U.map λj=>gq (B7 GR i) j
def X9(PL:List Rat)(U:List Nat):List Rat:=U.map (gq PL)
def Z4(sg:List Int)(U:List Nat):List Rat:=U.map λi=>C1 (-(gi sg i))
def A0Q(GR:List (List Rat))(U:List Nat)(y:List Rat)(k:Nat):Rat:=(D1 U.length (U.length+1) (D7 (aug (A0D GR U) y U.length),[]) (U.length+1)).1 k U.length
def A2w(GR:List (List Rat))(U:List Nat)(y:List Rat):Prop:=1<=U.length->(D1 U.length (U.length+1) (D7 (aug (A0D GR U) y U.length),[]) (U.length+1)).2=List.range U.length
def A0z(GR:List (List Rat))(PL:List Rat)(sg:List Int)(n:Nat):List Rat:=O7 (F9 sg n) (A0Q GR (F9 sg n) (X9 PL (F9 sg n))) n (F9 sg n).length
def A01(GR:List (List Rat))(sg:List Int)(n:Nat):List Rat:=O7 (F9 sg n) (A0Q GR (F9 sg n) (Z4 sg (F9 sg n))) n (F9 sg n).length
def A0G(GR:List (List Rat))(PL F B:List Rat)(sg:List Int)(n i:Nat):List Lm :=
 if gi sg i≠0 then [(C9 (gq B i) (C1 (gi sg i)),C9 (gq F i) (C1 (gi sg i)))]
 else [(D3 (C1 1) (E4 (B7 GR i) B n),D3 (gq PL i) (E4 (B7 GR i) F n)),(G6 (C1 1) (E4 (B7 GR i) B n),J7 (D3 (gq PL i) (E4 (B7 GR i) F n)))]
def A0K(GR:List (List Rat))(PL F B:List Rat)(sg:List Int)(n i:Nat):List Lm:=(List.range i).flatMap (A0G GR PL F B sg n)
theorem A5G{GR:List (List Rat)}{PL F B:List Rat}{sg:List Int}{n i:Nat}:A0K GR PL F B sg n (i+1)=A0K GR PL F B sg n i++A0G GR PL F B sg n i:=by
 unfold A0K;rw[C1G,C15];simp
theorem B2I{GR:List (List Rat)}{PL F B:List Rat}{sg:List Int}{n i:Nat}:(A0G GR PL F B sg n i).length<=2:=by
 unfold A0G;split<;>simp
theorem A7F{GR:List (List Rat)}{PL F B:List Rat}{sg:List Int}{n:Nat}:∀i,(A0K GR PL F B sg n i).length<=2*i
 | 0=>by simp[A0K]
 | i+1=>by
  rw[A5G,List.length_append];have:=A7F (GR:=GR) (PL:=PL) (F:=F) (B:=B) (sg:=sg) (n:=n) i;have:=B2I (GR:=GR) (PL:=PL) (F:=F) (B:=B) (sg:=sg) (n:=n) (i:=i);omega
theorem A05{u w':World}{B0:Nat}{e0:TypeId}{size0 n0:Nat}{v v0:Value}{xs0:List Value}{o:Obj}(h0:u.ownsRow B0 e0 size0 v0 n0 xs0)(ha:U6 v v0)(hg:(u.alloc o).grownBy w' v.ownBlock):w'.ownsRow B0 e0 size0 v0 n0 xs0:=by
 refine(h0.alloc o).kept hg ?_
 cases hb:v0.ownBlock with
 | none=>exact .inl rfl
 | some g=>exact .inr λe=>ha g e.symm hb
theorem A5X{u:World}{B0:Nat}{e0:TypeId}{size0 n0 k:Nat}{v v' v0:Value}{xs0:List Value}(h0:u.ownsRow B0 e0 size0 v0 n0 xs0)(ha:U6 v v0)(hv:v'.ownBlock=v.ownBlock\/v'.ownBlock=some k)(hk:u.heap.size<=k):U6 v' v0:=λg h1 h2=>by
 rcases hv with hv|hv
 ·exact ha g (hv.symm.trans h1) h2
 ·have e1:k=g:=B95 (hv.symm.trans h1);have:=(h0.lt g h2).2;omega
structure SolP(B m:Nat)(R:Nat->List Rat)(pf tf:Nat->Rat)(U:List Nat)(va vp vt:Ax)(k kp kt:Nat)(P:Nat->Ax)(W:World):Prop where
 hd:W.ownsRow B 35 1 (.slice va.1 k va.2) k (((List.range k).map λi=>Value.slice (P i).1 m (P i).2).flatMap M6)
 row:∀i,i<k->W.ownsRow B 48 5 (.slice (P i).1 m (P i).2) m ((R i).flatMap qL)
 pl:W.ownsRow B 48 5 (.slice vp.1 kp vp.2) kp (((U.take kp).map pf).flatMap qL)
 tn:W.ownsRow B 48 5 (.slice vt.1 kt vt.2) kt (((U.take kt).map tf).flatMap qL)
 rp:∀i,i<k->U6 (.slice vp.1 kp vp.2) (.slice (P i).1 m (P i).2)
 rt:∀i,i<k->U6 (.slice vt.1 kt vt.2) (.slice (P i).1 m (P i).2)
 pt:U6 (.slice vp.1 kp vp.2) (.slice vt.1 kt vt.2)
section
variable {B m k kp kt:Nat} {R:Nat->List Rat} {pf tf:Nat->Rat} {U:List Nat} {va vp vt v':Ax} {P:Nat->Ax} {W u w':World} {o:Obj}
theorem SolP.grow(h:SolP B m R pf tf U va vp vt k kp kt P u)(hg:A4 u W):SolP B m R pf tf U va vp vt k kp kt P W:=⟨C0 h.hd hg,λi hi=>C0 (h.row i hi) hg,C0 h.pl hg,C0 h.tn hg,h.rp,h.rt,h.pt⟩
theorem SolP.start(B m:Nat)(R:Nat->List Rat)(pf tf:Nat->Rat)(U:List Nat)(P:Nat->Ax)(u:World):SolP B m R pf tf U (none,0) (none,0) (none,0) 0 0 0 P u :=
 ⟨C1u _ _ _ _,λi hi=>absurd hi (C2D _),C1u _ _ _ _,C1u _ _ _ _,λi hi=>absurd hi (C2D _),λi hi=>absurd hi (C2D _),λg h1=>by cases h1⟩
def A1y(P:Nat->Ax)(k:Nat)(x:Ax):Nat->Ax:=λi=>if i=k then x else P i
theorem B6X(P:Nat->Ax)(k m:Nat)(x:Ax):((List.range (k+1)).map λi=>Value.slice (A1y P k x i).1 m (A1y P k x i).2).flatMap M6=((List.range k).map λi=>Value.slice (P i).1 m (P i).2).flatMap M6++[Value.slice x.1 m x.2]:=by
 rw[C1G,List.map_append,C15];congr 1
 ·congr 1;refine C14 λi hi=>?_;have:=List.mem_range.1 hi;unfold A1y;rw[if_neg (by omega)]
 ·simp[A1y]
theorem SolP.addRow{x:Ax}(h:SolP B m R pf tf U va vp vt k kp kt P u)(hx:u.ownsRow B 48 5 (.slice x.1 m x.2) m ((R k).flatMap qL))(hxp:U6 (.slice vp.1 kp vp.2) (.slice x.1 m x.2))(hxt:U6 (.slice vt.1 kt vt.2) (.slice x.1 m x.2))
  (h1:w'.ownsRow B 35 1 (.slice v'.1 (k+1) v'.2) (k+1) (((List.range k).map λi=>Value.slice (P i).1 m (P i).2).flatMap M6++[Value.slice x.1 m x.2])) (hg:(u.alloc o).grownBy w' (Value.slice va.1 k va.2).ownBlock) :
  SolP B m R pf tf U v' vp vt (k+1) kp kt (A1y P k x) w':=by
 have ap:∀ {B0 e0 s0 n0 v0 xs0},u.ownsRow B0 e0 s0 v0 n0 xs0->35≠e0->w'.ownsRow B0 e0 s0 v0 n0 xs0:=λh0 hne=>A05 h0 (Q3 h.hd h0 hne) hg;refine⟨by rw[B6X];exact h1,λi hi=>?_,ap h.pl (by decide),ap h.tn (by decide),λi hi=>?_,λi hi=>?_,h.pt⟩
 ·unfold A1y;by_cases e:i=k
  ·subst e;simp only[if_true];exact ap hx (by decide)
  ·simp only[if_neg e];exact ap (h.row i (by omega)) (by decide)
 ·unfold A1y;by_cases e:i=k
  ·simp only[if_pos e];exact hxp
  ·simp only[if_neg e];exact h.rp i (by omega)
 ·unfold A1y;by_cases e:i=k
  ·simp only[if_pos e];exact hxt
  ·simp only[if_neg e];exact h.rt i (by omega)
theorem SolP.addP(h:SolP B m R pf tf U va vp vt k kp kt P u)(hk:kp<U.length)(h1:w'.ownsRow B 48 5 (.slice v'.1 (kp+1) v'.2) (kp+1) (((U.take kp).map pf).flatMap qL++qL (pf (nx U kp))))(hg:(u.alloc o).grownBy w' (Value.slice vp.1 kp vp.2).ownBlock)
  (h3:(Value.slice v'.1 (kp+1) v'.2).ownBlock=(Value.slice vp.1 kp vp.2).ownBlock\/(Value.slice v'.1 (kp+1) v'.2).ownBlock=some (u.heap.size+1)):SolP B m R pf tf U va v' vt k (kp+1) kt P w':=by
 refine⟨A05 h.hd (Q3 h.pl h.hd (by decide)) hg,λi hi=>A05 (h.row i hi) (h.rp i hi) hg,?_,A05 h.tn h.pt hg,λi hi=>A5X (h.row i hi) (h.rp i hi) h3 (by omega),h.rt,A5X h.tn h.pt h3 (by omega)⟩;rw[A6J pf U hk,C15]
 simpa using h1
theorem SolP.addT(h:SolP B m R pf tf U va vp vt k kp kt P u)(hk:kt<U.length)(h1:w'.ownsRow B 48 5 (.slice v'.1 (kt+1) v'.2) (kt+1) (((U.take kt).map tf).flatMap qL++qL (tf (nx U kt))))(hg:(u.alloc o).grownBy w' (Value.slice vt.1 kt vt.2).ownBlock)
  (h3:(Value.slice v'.1 (kt+1) v'.2).ownBlock=(Value.slice vt.1 kt vt.2).ownBlock\/(Value.slice v'.1 (kt+1) v'.2).ownBlock=some (u.heap.size+1)):SolP B m R pf tf U va vp v' k kp (kt+1) P w':=by
 refine⟨A05 h.hd (Q3 h.tn h.hd (by decide)) hg,λi hi=>A05 (h.row i hi) (h.rt i hi) hg,A05 h.pl h.pt.symm hg,?_,h.rp,λi hi=>A5X (h.row i hi) (h.rt i hi) h3 (by omega),(A5X h.pl h.pt.symm h3 (by omega)).symm⟩;rw[A6J tf U hk,C15]
 simpa using h1
end
theorem B9q{u:World}{B b0 n c m:Nat}{P:Nat->Ax}{R:Nat->List Rat}(h:u.ownsRow B 35 1 (.slice (some ⟨b0,0,none⟩) n c) n (((List.range n).map λi=>Value.slice (P i).1 m (P i).2).flatMap M6))(hl:∀i,i<n->(R i).length=m)(hr:∀i,i<n->Lq u (P i).1 (R i)):Lrq u (some ⟨b0,0,none⟩) ((List.range n).map λi=>(((P i).1,(P i).2,R i):Rq)):=λhne=>by
 refine⟨b0,0,rfl,(h.lt b0 rfl).2,λi r hi=>?_⟩;rw[List.getElem?_map]at hi;obtain⟨k,hk,rfl⟩:=Option.map_eq_some_iff.1 hi;have hin:i<n:=by
  have:=(List.getElem?_eq_some_iff.1 hk).1
  simpa using this
 have hki:k=i:=by
  rw[C19 hin]at hk;exact(B95 hk).symm
 subst hki;have h1:=A0O (enc:=M6) (size:=1) (λ_=>rfl) h (by simp) k 0 (by simpa using hin) (by omega);rw[C1M,Nat.add_zero]at h1;simp only[List.getElem_map,List.getElem_range]at h1;rw[Nat.zero_add,h1];exact⟨by rw[hl k hin];rfl,hr _ hin⟩
structure LmW(B n bf bo:Nat)(F G:List Rat)(vl:Ax)(ls:List Lm)(W:World):Prop where
 f:W.ownsRow B 48 5 (.slice (some ⟨bf,0,none⟩) n n) n (F.flatMap qL)
 g:W.ownsRow B 48 5 (.slice (some ⟨bo,0,none⟩) n n) n (G.flatMap qL)
 l:W.ownsRow B 183 10 (.slice vl.1 ls.length vl.2) ls.length (ls.flatMap lmL)
 ne:bf≠bo
section
variable {B n bf bo b i:Nat} {F G:List Rat} {vl:Ax} {ls:List Lm} {W W':World} {vs:List Value}
theorem LmW.grow(h:LmW B n bf bo F G vl ls W)(hg:A4 W W'):LmW B n bf bo F G vl ls W':=⟨C0 h.f hg,C0 h.g hg,C0 h.l hg,h.ne⟩
theorem LmW.over{t:TypeId}{cs:Array Value}(h:LmW B n bf bo F G vl ls W)(hb:Blk W b t cs)(ht:t≠48/\t≠183)(hu:C3 W b i vs=W'):LmW B n bf bo F G vl ls W' :=
 ⟨I2 h.f (F0 h.f hb (λe=>ht.1 e.symm)) hu,I2 h.g (F0 h.g hb (λe=>ht.1 e.symm)) hu,I2 h.l (F0 h.l hb (λe=>ht.2 e.symm)) hu,h.ne⟩
theorem LmW.news{W0:World}(h0:LmW B n bf bo F G vl ls W0)(hb:W0.heap.size<=b)(h:LmW B n bf bo F G vl ls W)(hu:C3 W b i vs=W'):LmW B n bf bo F G vl ls W' :=
 ⟨I2 h.f (A1Z h0.f hb) hu,I2 h.g (A1Z h0.g hb) hu,I2 h.l (A1Z h0.l hb) hu,h.ne⟩
theorem LmW.fq(h:LmW B n bf bo F G vl ls W):Lq W (some ⟨bf,0,none⟩) F:=by
 obtain⟨A,c,e,-,-,hL,-⟩:=K6 h.f;cases e;exact hL
theorem LmW.gq(h:LmW B n bf bo F G vl ls W):Lq W (some ⟨bo,0,none⟩) G:=by
 obtain⟨A,c,e,-,-,hL,-⟩:=K6 h.g;cases e;exact hL
theorem LmW.putF(h:LmW B n bf bo F G vl ls W)(hF:F.length=n){j:Nat}(hj:j<n)(q:Rat)(hu:C3 W bf (j*5) (qL q)=W'):LmW B n bf bo (F.set j q) G vl ls W'/\W.grownBy W' (some bf):=by
 obtain⟨h1,h2⟩:=T7 (enc:=qL) (size:=5) (ps:=F) (λ_=>rfl) h.f j q (by omega);rw[hu]at h1 h2;exact⟨⟨h1,h.g.kept h2 (.inr λe=>h.ne (B95 e).symm),h.l.kept h2 (.inr λe=>Q3 h.f h.l (by decide) bf rfl e),h.ne⟩,h2⟩
theorem LmW.putG(h:LmW B n bf bo F G vl ls W)(hG:G.length=n){j:Nat}(hj:j<n)(q:Rat)(hu:C3 W bo (j*5) (qL q)=W'):LmW B n bf bo F (G.set j q) vl ls W'/\W.grownBy W' (some bo):=by
 obtain⟨h1,h2⟩:=T7 (enc:=qL) (size:=5) (ps:=G) (λ_=>rfl) h.g j q (by omega);rw[hu]at h1 h2;exact⟨⟨h.f.kept h2 (.inr λe=>h.ne (B95 e)),h1,h.l.kept h2 (.inr λe=>Q3 h.g h.l (by decide) bo rfl e),h.ne⟩,h2⟩
theorem LmW.beside{B0 size n0:Nat}{e:TypeId}{v:Value}{xs:List Value}{o:Obj}(h:LmW B n bf bo F G vl ls W)(h0:W.ownsRow B0 e size v n0 xs)(ht:e≠48/\e≠183)(hg:(W.alloc o).grownBy W' v.ownBlock):LmW B n bf bo F G vl ls W' :=
 ⟨A05 h.f (Q3 h0 h.f ht.1) hg,A05 h.g (Q3 h0 h.g ht.1) hg,A05 h.l (Q3 h0 h.l ht.2) hg,h.ne⟩
theorem LmW.app{v':Ax}{ls':List Lm}(h:LmW B n bf bo F G vl ls W)(h1:W'.ownsRow B 183 10 (.slice v'.1 ls'.length v'.2) ls'.length (ls'.flatMap lmL))(hg:W.grownBy W' (Value.slice vl.1 ls.length vl.2).ownBlock):LmW B n bf bo F G v' ls' W' :=
 ⟨A2U h.f h.l (by decide) hg,A2U h.g h.l (by decide) hg,h1,h.ne⟩
end
theorem B6y:EI 39 35 1 24:=A1G (by kernel_rfl) (by kernel_rfl) (by omega)
theorem B9Q(A:Option Addr)(n c:Nat)(w:World):(Instr.buildSlice 39 1 #[(0,.slice A n c)]).run Tryz.prog w = .ok (.slice (some ⟨w.heap.size,0,none⟩) 1 1) (w.alloc (.cells #[.slice A n c] 35)):=by
 go_simp
theorem A9K:EI 113 183 10 112:=A1G (by kernel_rfl) (by kernel_rfl) (by omega)
theorem B1r{ops:Array Oper}{a:Act}{u:World}{K:Act->World->Prop}{d2:Option Nat}{s z:Operand}{t2:TypeId}{p2:String}{f2:Array Edge}{rest:List Oper}{T e:TypeId}{size bytes:Nat}(hE:EI T e size bytes)
  (B:Nat) (v:Value) (n:Nat) (xs:List Value) (b m:Nat) (ys:List Value) (hy:ys.length=m*size) (h1:(ys.all λy=>y.oneCell')=true) (hblk:Blk u b e ys.toArray)
  (hs:a.eval s=v) (hz:a.eval z = .slice (some ⟨b,0,none⟩) m m)
  (hown:u.ownsRow B e size v n xs) (hl:n+m<=1099511627776) (hl2:(n+m)*bytes<=140737488355328) (hB:B<=u.heap.size)
  (h:∀v' w',w'.ownsRow B e size v' (n+m) (xs++ys)->u.grownBy w' v.ownBlock->(v'.ownBlock=v.ownBlock\/v'.ownBlock=some u.heap.size)->wpList Tryz.prog ops (NoK K) rest (a.put d2 v') w') :
  wpList Tryz.prog ops (NoK K) (⟨d2,.call { callee:=.builtin .append,args:=#[s,z],argTypes:=#[T,T] },t2,p2,f2,none⟩::rest) a u:=by
 obtain⟨hund,⟨i0,z0,hi0,hz0,hz1,hz2,hz3⟩,hpos⟩:=hE;refine wpList_append_own_at u (a:=a) (Q:=NoK K) rfl s z T rfl B e i0 z0 size bytes hund hi0 hz0 hz1 hz2 hz3 hpos v n xs hs hown ⟨b,0,none⟩ m m ys hz (by rw[hy]) ?_ (λy hy=>List.all_eq_true.1 h1 y hy) (by unfold maxLen;omega) hl2 hB λv' w' g1 g2 _ g4=>h v' w' g1 g2 g4;intro j y hj;rw[C0i,Nat.zero_add,Blk.cell hblk j,List.getElem?_toArray];exact hj
theorem B8I(GR:List (List Rat))(U:List Nat)(P:Nat->Ax):((List.range U.length).map λi=>(((P i).1,(P i).2,U.map λj=>gq (B7 GR (nx U i)) j):Rq)).map (·.2.2)=A0D GR U:=by
 unfold A0D;apply C0F
 ·simp
 ·intro i h1 h2;have hi:i<U.length:=by simpa using h2
  simp only[List.getElem_map,List.getElem_range];unfold nx;rw[C0f hi];rfl
theorem A5e{GR:List (List Rat)}{U:List Nat}{i j:Nat}(hi:i<U.length)(hj:j<U.length):gq (B7 (A0D GR U) i) j=gq (B7 GR (nx U i)) (nx U j):=by
 have h1:B7 (A0D GR U) i=U.map λj=>gq (B7 GR (nx U i)) j:=by
  unfold B7 A0D nx;rw[List.getElem?_map,C0f hi];rfl
 rw[h1];unfold gq;rw[List.getElem?_map,C0f hj];unfold nx;rw[C0f hj];rfl
theorem A2Y{f:Nat->Rat}{U:List Nat}{k:Nat}(h:k<U.length):gq (U.map f) k=f (nx U k):=by
 unfold gq nx;rw[List.getElem?_map,C0f h];rfl
theorem B0e{GR:List (List Rat)}{U:List Nat}{y:List Rat}{f:Nat->Rat}{n s m:Nat}{B:Nat}{va vy:Ax}{P:Nat->Ax}{W:World}(hm:m=U.length)(hm1:1<=m)(hmn:m<=n)(hn:n<=6)(hU:∀x∈U,x<n)
  (hG:∀i,i<n->∀j,j<n->qs (gq (B7 GR i) j)<=s) (hs1:1<=s) (hBz:100*(s*10^(n+1))<=BIG) (hy:y=U.map f) (hyz:∀k,k<U.length->qs (f (nx U k))<=s) (hok:A2w GR U y)
  (hd:W.ownsRow B 35 1 (.slice va.1 m va.2) m (((List.range m).map λi=>Value.slice (P i).1 m (P i).2).flatMap M6)) (hr:∀i,i<m->W.ownsRow B 48 5 (.slice (P i).1 m (P i).2) m ((U.map λj=>gq (B7 GR (nx U i)) j).flatMap qL)) (hyo:W.ownsRow B 48 5 (.slice vy.1 m vy.2) m (((U.take m).map f).flatMap qL)) :
  ∀V,A4 W V->Tab V->Calls Tryz.prog 128 #[.slice va.1 m va.2,.slice vy.1 m vy.2] V (G1 (λx:Ax=>.tuple #[.slice x.1 m x.2,.slice none 0 0,.int .i64 0]) (λx V'=>Lq V' x.1 ((List.range m).map (A0Q GR U y))/\∃b,x.1=some ⟨b,0,none⟩/\V.heap.size<=b) V):=λV hg hT=>by
 subst hm;rw[C1o,<-hy]at hyo;obtain⟨ba,ca,ea,-,-⟩:=A0d hd (by omega);obtain⟨bv,cv,ev,-,hcv⟩:=A0d hyo (by omega);obtain⟨va1,va2⟩:=va;obtain⟨vy1,vy2⟩:=vy;simp only[Value.slice.injEq]at ea ev;obtain⟨rfl,-,rfl⟩:=ea;obtain⟨rfl,-,rfl⟩:=ev
 have hL:=B9q hd (R:=λi=>U.map λj=>gq (B7 GR (nx U i)) j) (λi hi=>by simp) (λi hi=>by
  obtain⟨A,c,e,-,-,hL,-⟩:=K6 (hr i hi);have e1:=C1a (λv=>match v with|Value.slice a _ _=>a|_=>none) e;simp only at e1;rw[e1]
  exact hL)
 have hY:Lq W (some ⟨bv,0,none⟩) y:=by
  obtain⟨A,c,e,-,-,hL,-⟩:=K6 hyo;cases e;exact hL
 have hmp:=B8I GR U P;have hyl:y.length=U.length:=by rw[hy];simp
 have hpw:s*10^(U.length+1)<=s*10^(n+1):=C1I _ (C0W (by omega) (by omega));have nxl:∀k,k<U.length->nx U k<n:=λk hk=>hU _ (N3 hk);have hl1:((List.range U.length).map λi=>(((P i).1,(P i).2,U.map λj=>gq (B7 GR (nx U i)) j):Rq)).length=U.length:=by simp
 have hl2:∀r∈((List.range U.length).map λi=>(((P i).1,(P i).2,U.map λj=>gq (B7 GR (nx U i)) j):Rq)),r.2.2.length=U.length:=λr hr=>by
  obtain⟨i,hi,rfl⟩:=List.mem_map.1 hr;simp
 have hl3:∀r∈((List.range U.length).map λi=>(((P i).1,(P i).2,U.map λj=>gq (B7 GR (nx U i)) j):Rq)),U.length<=r.2.1:=λr hr2=>by
  obtain⟨i,hi,rfl⟩:=List.mem_map.1 hr2;obtain⟨A,c,e,hc,-,-,-⟩:=K6 (hr i (List.mem_range.1 hi));have e1:=C1a (λv=>match v with|Value.slice _ _ c=>c|_=>0) e;simp only at e1;simp only;omega
 generalize ((List.range U.length).map λi=>(((P i).1,(P i).2,U.map λj=>gq (B7 GR (nx U i)) j):Rq))=rs0 at hL hmp hl1 hl2 hl3;have h:=B2f (some ⟨ba,0,none⟩) bv 0 rs0 y U.length va2 vy2 hl1 hm1 (by omega) hl2 hl3 hyl hcv s hs1 (λi hi j hj=>by rw[hmp,A5e hi hj];exact hG _ (nxl i hi) _ (nxl j hj)) (λi hi=>by rw[hy,A2Y hi];exact hyz i hi) (by omega) (by rw[hmp];exact hok hm1) V (hL.grow hg) (hY.grow hg) hT;rw[hmp]at h;exact h
theorem B6l{X:List (List Rat)}{y:List Rat}{m s:Nat}(hX:∀i,i<m->∀j,j<m->qs (gq (B7 X i) j)<=s)(hl:∀i,i<m->(B7 X i).length=m)(hy:∀i,i<m->qs (gq y i)<=s):szM (D7 (aug X y m)) m (m+1) s:=λi hi j hj=>by
 have e1:B7 (aug X y m) i=B7 X i++[gq y i]:=A3Z hi;show qs (gq (B7 (aug X y m) i) j)<=s;rw[e1];have hl2:=hl i hi;rcases B90 j m with h1|h1
 ·have:gq (B7 X i++[gq y i]) j=gq (B7 X i) j:=by
   show((B7 X i++[gq y i])[j]?).getD 0=_;rw[C1r (by omega)];rfl
  rw[this];exact hX i hi j h1
 ·have h2:j=(B7 X i).length:=by omega
  have:gq (B7 X i++[gq y i]) j=gq y i:=by
   show((B7 X i++[gq y i])[j]?).getD 0=_;rw[h2,C1s (B9z _)];simp
  rw[this];exact hy i hi
theorem A5Y{GR:List (List Rat)}{U:List Nat}{y:List Rat}{n s:Nat}(hU:∀x∈U,x<n)(hmn:U.length<=n)(hG:∀i,i<n->∀j,j<n->qs (gq (B7 GR i) j)<=s)(hs1:1<=s)(hy:∀k,k<U.length->qs (gq y k)<=s):∀k,k<U.length->qs (A0Q GR U y k)<=s*10^(n+1):=λk hk=>by
 have h1:=A6Y (s:=(D7 (aug (A0D GR U) y U.length),[])) (B6l (X:=A0D GR U) (y:=y) (m:=U.length) (s:=s) (λi hi j hj=>by rw[A5e hi hj];exact hG _ (hU _ (N3 hi)) _ (hU _ (N3 hj))) (λi hi=>by
  unfold B7 A0D;rw[List.getElem?_map,C0f hi]
  simp) hy) hs1 (U.length+1) (B9z _)
 exact C0H (h1 k hk U.length (C2I _)) (C1I _ (C0W (by omega) (by omega)))
theorem B5H{m:Nat}{M:Mx}(h:(D1 m (m+1) (M,[]) (m+1)).2=List.range m):∀i,i<m->C5 (λj=>M i j*(D1 m (m+1) (M,[]) (m+1)).1 j m) m=M i m:=by
 obtain⟨e1,e2⟩:=A4w (n:=m) (L:=m+1) M (m+1) (B9z _);obtain⟨s,hs⟩:∃s,s=D1 m (m+1) (M,[]) (m+1):=⟨_,rfl⟩
 obtain⟨V,hV⟩:∃V:Nat->Rat,V=λj=>if j<m then s.1 j m else -1:=⟨_,rfl⟩
 have hk:=(A4O (n:=m) (L:=m+1) (s:=(M,[])) (v:=V) (m+1))
 have hVl:∀j,j<m->V j=s.1 j m:=λj hj=>by rw[hV];exact if_pos hj
 have hVm:V m = -1:=by rw[hV];exact if_neg (Nat.lt_irrefl m)
 rw[<-hs]at h e1 e2 hk⊢
 have hd:∀i,i<m->∀j,j<m->s.1 i j=if i=j then 1 else 0:=λi hi j hj=>by
  have:=e2 j (by rw[h];simpa using hj) i hi;rw[h,A4c hj]at this;exact this
 have h1:ker s.1 m (m+1) V:=λi hi=>by
  unfold C6;rw[A07,hVm,A1j hi λj hj hne=>by rw[hd i hi j hj,if_neg (λe=>hne e.symm)];grind,hd i hi i hi,if_pos rfl,hVl i hi];grind
 intro i hi;have h2:C6 (M i) V (m+1)=0:=hk.1 h1 i hi;unfold C6 at h2;rw[A07,hVm,G3 (λj hj=>by rw[hVl j hj]:∀j,j<m->M i j*V j=M i j*s.1 j m)]at h2;grind
theorem B4b{m:Nat}{M:Mx}(h:∀v,(∀i,i<m->C6 (M i) v m=0)->∀j,j<m->v j=0):(D1 m (m+1) (M,[]) (m+1)).2=List.range m:=by
 have h1:=A8L (n:=m) (L:=m+1) (m:=m) (M:=M) (by omega) (λv hv hk=>h v λi hi=>by
  have h2:=hk i hi;unfold C6 at h2⊢;rw[A07,hv m (B9z _)]at h2
  grind) m (B9z _)
 show(Q6 m (m+1) (D1 m (m+1) (M,[]) m) m).2=_;unfold Q6;rw[if_neg ?_,h1];show ¬N0 _ m (D1 m (m+1) (M,[]) m).2.length m<m;rw[h1,List.length_range,B4U (B9z _)];omega
theorem B10{X:List (List Rat)}{y:List Rat}{m i j:Nat}(hi:i<m)(hl:(B7 X i).length=m)(hj:j<m):D7 (aug X y m) i j=gq (B7 X i) j:=by
 have e1:B7 (aug X y m) i=B7 X i++[gq y i]:=A3Z hi;show gq (B7 (aug X y m) i) j=_;rw[e1];show((B7 X i++[gq y i])[j]?).getD 0=_;rw[C1r (by omega)];rfl
theorem B5W{X:List (List Rat)}{y:List Rat}{m i:Nat}(hi:i<m)(hl:(B7 X i).length=m):D7 (aug X y m) i m=gq y i:=by
 have e1:B7 (aug X y m) i=B7 X i++[gq y i]:=A3Z hi;show gq (B7 (aug X y m) i) m=_;rw[e1];show((B7 X i++[gq y i])[m]?).getD 0=_;rw[C1s (by omega),hl,C0d];rfl
theorem A52{GR:List (List Rat)}{U:List Nat}{i:Nat}(hi:i<U.length):(B7 (A0D GR U) i).length=U.length:=by
 unfold B7 A0D;rw[List.getElem?_map,C0f hi];simp
def V6(U:List Nat)(v:Nat->Rat)(t:Nat):Rat:=C5 (λk=>if nx U k=t then v k else 0) U.length
theorem A8m{U:List Nat}(hU:U.Pairwise (· < ·)){i j:Nat}(hi:i<U.length)(hj:j<U.length)(h:nx U i=nx U j):i=j:=by
 have h1:=List.pairwise_iff_getElem.1 hU;unfold nx at h;rw[C0f hi,C0f hj]at h;have h2:U[i]=U[j]:=h;rcases C02 i j with h3|h3|h3
 ·have:=h1 i j hi hj h3;omega
 ·exact h3
 ·have:=h1 j i hj hi h3;omega
section
variable {U:List Nat} {n:Nat} (hU:U.Pairwise (· < ·)) (hn:∀x∈U,x<n)
include hU
theorem B8B(v:Nat->Rat){k:Nat}(hk:k<U.length):V6 U v (nx U k)=v k:=by
 unfold V6;rw[A1j hk λj hj hne=>if_neg λe=>hne (A8m hU hj hk e),if_pos rfl]
omit hU in
theorem A7B(v:Nat->Rat){t:Nat}(h:t∉U):V6 U v t=0 :=
 A00 λk hk=>if_neg λe=>h (by rw[<-e];exact N3 hk)
include hn
omit hU in
theorem A73(c v:Nat->Rat):C5 (λt=>c t*V6 U v t) n=C5 (λk=>c (nx U k)*v k) U.length:=by
 have e:C5 (λt=>c t*V6 U v t) n=C5 (λt=>C5 (λk=>if nx U k=t then c t*v k else 0) U.length) n:=G3 λt _=>by
  unfold V6;rw[<-O9];exact G3 λk _=>by split<;>grind
 rw[e,A3O];refine G3 λk hk=>?_;rw[A1j (hn _ (N3 hk)) λt ht hne=>if_neg λe=>hne e.symm,if_pos rfl]
theorem A9e(v:Nat->Rat):∀k,k<=U.length->∀t,gq (O7 U v n k) t=C5 (λi=>if nx U i=t then v i else 0) k
 | 0,_,t=>by
  unfold gq O7;rw[C1c];split<;>rfl
 | k+1,hk,t=>by
  show gq ((O7 U v n k).set (nx U k) (v k)) t=_;rw[A9N,A07,A0c];have hlt:=hn _ (N3 (l:=U) (i:=k) (by omega));by_cases e:t=nx U k
  ·rw[if_pos ⟨e,hlt⟩,if_pos e.symm,A00 λi hi=>if_neg λe2=>by
    have:=A8m hU (i:=i) (j:=k) (by omega) (by omega) (e2.trans e)
    omega]
   grind
  ·rw[if_neg λh=>e h.1,if_neg λh=>e h.symm,A9e v k (by omega) t];grind
theorem A9h(v:Nat->Rat)(t:Nat):gq (O7 U v n U.length) t=V6 U v t:=A9e hU hn v _ (B9z _) t
end
theorem A6h(sg:List Int)(i:Nat):(F9 sg i).Pairwise (· < ·):=by
 unfold F9;exact List.Pairwise.filter _ (List.pairwise_lt_range)
theorem B14{sg:List Int}{n i:Nat}:i∈F9 sg n↔i<n/\gi sg i≠0:=by
 unfold F9;rw[List.mem_filter,List.mem_range];simp
theorem A4E{U:List Nat}{x:Nat}(h:x∈U):∃k,k<U.length/\nx U k=x:=by
 obtain⟨k,hk,e⟩:=C1t h;exact⟨k,hk,by unfold nx;rw[C0f hk];exact e⟩
section
variable {GR:List (List Rat)} {U:List Nat} {n:Nat} {G:Mx} (hU:U.Pairwise (· < ·)) (hn:∀x∈U,x<n) (hG:∀i,i<n->∀j,j<n->gq (B7 GR i) j=G i j) (hD:∀x,frm G n x x<=0->∀j,j<n->x j=0)
include hU hn hG hD
theorem A6L(y:List Rat):A2w GR U y:=λ_=>B4b λv hv j hj=>by
 have hx:∀t,t∉U->V6 U v t=0:=λt ht=>A7B v ht
 have h1:=hD (V6 U v) (by
  unfold frm;rw[A00 λi hi=>?_]
  ·exact C2E
  ·by_cases hi2:i∈U
   ·obtain⟨k,hk,rfl⟩:=A4E hi2;have h2:=hv k hk;have h3:C6 (G (nx U k)) (V6 U v) n=0:=by
     rw[show C6 (G (nx U k)) (V6 U v) n=_ from A73 hn (G (nx U k)) v,<-h2];exact G3 λl hl=>by rw[B10 hk (A52 hk) hl,A5e hk hl,hG _ (hn _ (N3 hk)) _ (hn _ (N3 hl))]
    rw[h3];grind
   ·rw[hx i hi2];grind) (nx U j) (hn _ (N3 hj))
 rwa [B8B hU v hj]at h1
theorem A9U(y:List Rat)(v:Nat->Rat)(hv:∀k,k<U.length->v k=A0Q GR U y k){k:Nat}(hk:k<U.length):C6 (G (nx U k)) (V6 U v) n=gq y k:=by
 rw[show C6 (G (nx U k)) (V6 U v) n=_ from A73 hn (G (nx U k)) v];have h1:=B5H (A6L hU hn hG hD y (by omega)) k hk;rw[B5W hk (A52 hk)]at h1;rw[<-h1];exact G3 λl hl=>by rw[B10 hk (A52 hk) hl,A5e hk hl,hG _ (hn _ (N3 hk)) _ (hn _ (N3 hl)),hv l hl];rfl
end
theorem B6t{GR:List (List Rat)}{PL:List Rat}{n:Nat}{G:Mx}(hG:∀i,i<n->∀j,j<n->gq (B7 GR i) j=G i j)(hD:∀x,frm G n x x<=0->∀j,j<n->x j=0)(sg:List Int)(a:Rat) :
  SolW G n (gq PL) a (gi sg) (gq (J9 (A0z GR PL sg n) (A01 GR sg n) n a)):=by
 obtain⟨U,hUe⟩:∃U,U=F9 sg n:=⟨_,rfl⟩
 have hU:=A6h sg n;have hn:∀x∈F9 sg n,x<n:=A1x;have hw:∀t,t<n->gq (J9 (A0z GR PL sg n) (A01 GR sg n) n a) t=V6 U (A0Q GR U (X9 PL U)) t+a*V6 U (A0Q GR U (Z4 sg U)) t:=λt ht=>by
  have e1:gq (J9 (A0z GR PL sg n) (A01 GR sg n) n a) t=G6 (gq (A0z GR PL sg n) t) (C9 (gq (A01 GR sg n) t) a):=Q5 _ ht;rw[e1,hUe];unfold A0z A01 G6 C9;rw[A9h hU hn,A9h hU hn];grind
 rw[<-hUe]at hU hn;constructor
 ·intro i hi hs;obtain⟨k,hk,e⟩:=A4E (U:=U) (x:=i) (by rw[hUe];exact B14.2 ⟨hi,hs⟩);subst e;have e2:C6 (G (nx U k)) (gq (J9 (A0z GR PL sg n) (A01 GR sg n) n a)) n=C6 (G (nx U k)) (λt=>V6 U (A0Q GR U (X9 PL U)) t+a*V6 U (A0Q GR U (Z4 sg U)) t) n:=G3 λt ht=>by rw[hw t ht]
  rw[e2,A4r,A9U hU hn hG hD (X9 PL U) _ (λ_ _=>rfl) hk,A9U hU hn hG hD (Z4 sg U) _ (λ_ _=>rfl) hk];unfold X9 Z4;rw[A2Y hk,A2Y hk];have e3:C1 (-(gi sg (nx U k))) = -((gi sg (nx U k):Int):Rat):=by unfold C1;exact Rat.intCast_neg _
  rw[e3];grind
 ·intro i hi hs;have hm:i∉U:=by rw[hUe];exact λh=>(B14.1 h).2 hs
  rw[hw i hi,A7B _ hm,A7B _ hm];grind
theorem B1z{GR:List (List Rat)}{PL:List Rat}{n:Nat}{G:Mx}(hG:∀i,i<n->∀j,j<n->gq (B7 GR i) j=G i j)(sg:List Int)(F B:List Rat)(a:Rat):∀i,i<=n ->
  (H7 a (A0K GR PL F B sg n i)=true↔∀t,t<i->if gi sg t≠0 then 0<=(gi sg t:Rat)*gq (J9 F B n a) t else G7 (gq PL t-C6 (G t) (gq (J9 F B n a)) n)<=a)
 | 0,_=>by
  constructor
  ·intro _ t ht;exact absurd ht (C2D _)
  ·intro _;rfl
 | i+1,hi=>by
  have ih:=B1z (PL:=PL) hG sg F B a i (by omega);rw[A5G];have e:H7 a (A0K GR PL F B sg n i++A0G GR PL F B sg n i)=(H7 a (A0K GR PL F B sg n i)&&H7 a (A0G GR PL F B sg n i)):=by
   unfold H7;rw[List.all_append]
  rw[e,Bool.and_eq_true,ih];have hwt:∀t,t<n->gq (J9 F B n a) t=gq F t+gq B t*a:=λt ht=>Q5 _ ht
  have key:H7 a (A0G GR PL F B sg n i)=true↔if gi sg i≠0 then 0<=(gi sg i:Rat)*gq (J9 F B n a) i else G7 (gq PL i-C6 (G i) (gq (J9 F B n a)) n)<=a:=by
   unfold A0G H7;by_cases hs:gi sg i≠0
   ·rw[if_pos hs,if_pos hs,hwt i (by omega)];simp only[List.all_cons,List.all_nil,Bool.and_true];unfold A0A;rw[C2T];unfold G6 C9 C1;constructor<;>intro h<;>grind
   ·rw[if_neg hs,if_neg hs];simp only[List.all_cons,List.all_nil,Bool.and_true,Bool.and_eq_true];unfold A0A;rw[C2T,C2T];have e1:C6 (G i) (gq (J9 F B n a)) n=E4 (B7 GR i) F n+a*E4 (B7 GR i) B n:=by
     rw[B1g,B1g,show C6 (G i) (gq (J9 F B n a)) n=C6 (G i) (λt=>gq F t+a*gq B t) n from G3 λt ht=>by rw[hwt t ht];grind,A4r,A9J (λj hj=>(hG i (by omega) j hj).symm),A9J (λj hj=>(hG i (by omega) j hj).symm)]
    rw[e1];unfold G6 C9 D3 J7;have e2:C1 1=1:=rfl;rw[e2];rcases A0y (gq PL i-(E4 (B7 GR i) F n+a*E4 (B7 GR i) B n))with⟨h1,h2⟩|⟨h1,h2⟩<;>rw[h2]<;>constructor
    ·rintro⟨g1,g2⟩;grind
    ·intro g;constructor<;>grind
    ·rintro⟨g1,g2⟩;grind
    ·intro g;constructor<;>grind
  rw[key];constructor
  ·rintro⟨g1,g2⟩ t ht;by_cases e:t=i
   ·rw[e];exact g2
   ·exact g1 t (by omega)
  ·intro g;exact⟨λt ht=>g t (by omega),g i (by omega)⟩
end Go.Proofs.YtgpglgbcobeogaaGreatDoor
