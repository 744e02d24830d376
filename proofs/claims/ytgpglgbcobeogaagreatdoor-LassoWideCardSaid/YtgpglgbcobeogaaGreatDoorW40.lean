import Derived.Test.YtgpglgbcobeogaaGreatDoorW35
import Derived.Test.YtgpglgbcobeogaaGreatDoorW39
set_option linter.unusedSimpArgs false
set_option linter.unusedVariables false
namespace Go.Proofs.YtgpglgbcobeogaaGreatDoor
open Go Go.RowKit
theorem A4r(a:Rat):Y8 a=G3 a:=by
 unfold Y8 G3 Rat.abs;rfl
theorem B8k{p w a:Rat}(h:A2u p w a=true):(0<w∧p=a)∨(w<0∧p = -a)∨(w=0∧G3 p≤a):=by
 unfold A2u at h;by_cases h1:0<w
 ·rw[if_pos h1]at h;exact .inl ⟨h1,C0K h⟩
 ·rw[if_neg h1]at h;by_cases h2:w<0
  ·rw[if_pos h2]at h;exact .inr (.inl ⟨h2,C0K h⟩)
  ·rw[if_neg h2]at h;refine .inr (.inr ⟨by grind,?_⟩);have:=C0K h
   rwa [A4r]at this
theorem B75{p w a:Rat}(h:(0<w∧p=a)∨(w<0∧p = -a)∨(w=0∧G3 p≤a)):A2u p w a=true:=by
 unfold A2u;rcases h with⟨h1,h2⟩|⟨h1,h2⟩|⟨h1,h2⟩
 ·rw[if_pos h1];exact C0L h2
 ·rw[if_neg (by grind),if_pos h1];exact C0L h2
 ·rw[if_neg (by grind),if_neg (by grind)];exact C0L (by rw[A4r];exact h2)
theorem A0p(x:Rat):(0≤x∧G3 x=x)∨(x≤0∧G3 x = -x):=by
 unfold G3;by_cases h:0≤x
 ·exact .inl ⟨h,if_pos h⟩
 ·exact .inr ⟨by grind,if_neg h⟩
theorem A6z(p a u:Rat)(h:G3 p≤a):p*u≤a*G3 u:=by
 have h1:p≤a ∧ -a≤p:=by
  rcases A0p p with⟨h1,h2⟩|⟨h1,h2⟩<;>constructor<;>grind
 rcases A0p u with⟨h2,h3⟩|⟨h2,h3⟩
 ·have:=C1U (a:=a-p) (b:=u) (by grind) h2;rw[h3];grind
 ·have:=C1U (a:=a+p) (b:=-u) (by grind) (by grind);rw[h3];grind
theorem B3r{p w a u:Rat}(h:A2u p w a=true)(ha:0≤a):0≤a*G3 u-a*G3 w-p*(u-w):=by
 rcases B8k h with⟨h1,h2⟩|⟨h1,h2⟩|⟨h1,h2⟩
 ·subst h2;have e:G3 w=w:=by rcases A0p w with⟨h3,h4⟩|⟨h3,h4⟩<;>grind
  have h5:=A6z p p u (by rcases A0p p with⟨h3,h4⟩|⟨h3,h4⟩<;>grind);rw[e];grind
 ·have e:G3 w = -w:=by rcases A0p w with⟨h3,h4⟩|⟨h3,h4⟩<;>grind
  have h5:=A6z (-a) a u (by rcases A0p (-a)with⟨h3,h4⟩|⟨h3,h4⟩<;>grind);rw[e,h2];grind
 ·subst h1;have e:G3 0=0:=by rcases A0p 0 with⟨h3,h4⟩|⟨h3,h4⟩<;>grind
  have h5:=A6z p a u h2;rw[e];grind
section
variable {G:Mx} {n:Nat} {p:Nat→Rat} {a:Rat} {w u:Nat→Rat}
theorem B4x{x y:Nat→Rat}(h:∀i,i<n→x i=y i):obj G n p a x=obj G n p a y:=by
 have e:=A28 (G:=G) (p:=p) (a:=a) (s:=fun _=>0) h;rw[A96 (s:=fun _=>0),A96 (s:=fun _=>0),e,G4 (fun i hi=>by rw[h i hi]:∀i,i<n→G3 (x i)=G3 (y i))];congr 2;unfold lin;rw[G4 (fun i hi=>by rw[h i hi]:∀i,i<n→((0:Int):Rat)*x i=((0:Int):Rat)*y i)]
theorem A9j(hG:∀i,i<n→∀j,j<n→G i j=G j i)(ha:0≤a)(h:Kkt G n p a w):obj G n p a w+frm G n (fun i=>u i-w i) (fun i=>u i-w i)≤obj G n p a u:=by
 obtain⟨d,hd⟩:∃d:Nat→Rat,d=fun i=>u i-w i:=⟨_,rfl⟩
 rw[←hd];have hdi:∀i,d i=u i-w i:=fun i=>by rw[hd]
 have e0:obj G n p a u=obj G n p a (fun i=>w i+1*d i):=B4x fun i _=>by rw[hdi];grind
 have e1:obj G n p a (fun i=>w i+1*d i)=frm G n w w+2*frm G n d w+frm G n d d-2*(lin p w n+lin p d n)+2*a*C6 (fun i=>G3 (u i)) n:=by
  unfold obj;rw[A9B hG,A6d,G4 (fun i _=>by rw[hdi,show w i+1*(u i-w i)=u i by grind]:∀i,i<n→G3 (w i+1*d i)=G3 (u i))];grind
 have e2:0≤C6 (fun i=>a*G3 (u i)-a*G3 (w i)-(p i-C7 (G i) w n)*d i) n:=A4F fun i hi=>by rw[hdi];exact B3r (h i hi) ha
 have e3:C6 (fun i=>a*G3 (u i)-a*G3 (w i)-(p i-C7 (G i) w n)*d i) n=a*C6 (fun i=>G3 (u i)) n-a*C6 (fun i=>G3 (w i)) n-(lin p d n-frm G n d w):=by
  unfold frm lin;rw[←R5,←R5,←A2N,←A2N,←A2N];exact G4 fun i _=>by grind
 rw[e3]at e2;rw[e0,e1];unfold obj;grind
theorem B3E(hG:∀i,i<n→∀j,j<n→G i j=G j i)(hD:∀x,frm G n x x≤0→∀j,j<n→x j=0)(ha:0≤a)(h:Kkt G n p a w)(h':obj G n p a u≤obj G n p a w):∀i,i<n→u i=w i:=fun i hi=>by
 have h1:=A9j (u:=u) hG ha h;have h2:=hD (fun i=>u i-w i) (by grind) i hi;have h3:u i-w i=0:=h2;grind
theorem B2A(hG:∀i,i<n→∀j,j<n→G i j=G j i)(hP:∀x,0≤frm G n x x)(hD:∀x,frm G n x x≤0→∀j,j<n→x j=0)(ha:0≤a)(h:Kkt G n p a w)(h':Kkt G n p a u):∀i,i<n→u i=w i :=
 B3E hG hD ha h (by have h1:=A9j (u:=w) hG ha h';have h2:=hP fun i=>w i-u i;grind)
theorem A9u{s:Nat→Int}(hs:Sgn n s)(ha:0≤a)(hw:SolW G n p a s w)(h:A5Z G n p a s w):Kkt G n p a w:=fun i hi=>by
 have h1:=h i hi;apply B75;by_cases e:s i≠0
 ·rw[if_pos e]at h1;have h2:=hw.on i hi e;rw[h2];have aa:G3 a=a:=by rcases A0p a with⟨h3,h4⟩|⟨h3,h4⟩<;>grind
  have am:G3 (-a)=a:=by rcases A0p (-a)with⟨h3,h4⟩|⟨h3,h4⟩<;>grind
  rcases hs i hi with e1|e1|e1
  ·rw[e1]at h1⊢;have e2:((-1:Int):Rat) = -1:=rfl;rw[e2]at h1⊢;have e3:p i-(p i-a * -1) = -a:=by grind
   rw[e3,am];by_cases h3:w i=0
   ·exact .inr (.inr ⟨h3,by grind⟩)
   ·exact .inr (.inl ⟨by grind,rfl⟩)
  ·exact absurd e1 e
  ·rw[e1]at h1⊢;have e2:((1:Int):Rat)=1:=rfl;rw[e2]at h1⊢;have e3:p i-(p i-a*1)=a:=by grind
   rw[e3,aa];by_cases h3:w i=0
   ·exact .inr (.inr ⟨h3,by grind⟩)
   ·exact .inl ⟨by grind,rfl⟩
 ·rw[if_neg e]at h1;exact .inr (.inr ⟨hw.off i hi (Decidable.not_not.1 e),h1⟩)
end
theorem A85(a b:List Rat)(n:Nat):E7 a b n=C7 (gq a) (gq b) n:=rfl
theorem A76(X:List (List Rat))(N i j:Nat):K8 X N i j=K8 X N j i:=A7V _ _ _
theorem B8D(X:List (List Rat))(N i j:Nat):K8 X N i j=C6 (fun r=>F0 X r i*F0 X r j) N:=by
 unfold K8 E7;exact G4 fun r hr=>by rw[A1O X i N hr,A1O X j N hr];rfl
theorem A9n(X:List (List Rat))(N L i:Nat)(v:Nat→Rat):C7 (K8 X N i) v L=C6 (fun r=>F0 X r i*C7 (F0 X r) v L) N:=by
 have e:C7 (K8 X N i) v L=C6 (fun j=>C6 (fun r=>F0 X r i*F0 X r j*v j) N) L:=G4 fun j _=>by
  rw[B8D,Rat.mul_comm,←R5];exact G4 fun r _=>by grind
 rw[e,A3A];refine G4 fun r _=>?_;unfold C7;rw[←R5];exact G4 fun j _=>by grind
theorem B0J(X:List (List Rat))(N L:Nat)(v u:Nat→Rat):frm (K8 X N) L v u=C6 (fun r=>C7 (F0 X r) v L*C7 (F0 X r) u L) N:=by
 have e:frm (K8 X N) L v u=C6 (fun i=>C6 (fun r=>v i*F0 X r i*C7 (F0 X r) u L) N) L:=G4 fun i _=>by
  rw[A9n,←R5];exact G4 fun r _=>by grind
 rw[e,A3A];refine G4 fun r _=>?_;show _=C6 _ L*_;rw[Rat.mul_comm (C6 _ L),←R5];exact G4 fun j _=>by grind
theorem A7G(X:List (List Rat))(N L:Nat)(v:Nat→Rat):0≤frm (K8 X N) L v v:=by
 rw[B0J];exact A4F fun r _=>A8R _
theorem A3k{X:List (List Rat)}{N L:Nat}(h:(C9 N L (F0 X,[]) L).2.length=L)(v:Nat→Rat)(hv:frm (K8 X N) L v v≤0):∀j,j<L→v j=0:=by
 rw[B0J]at hv;have h1:=A9D (fun r _=>A8R _) hv;exact B8b h fun i hi=>B6X (h1 i hi)
theorem B78(X:List (List Rat))(y w:List Rat)(N L:Nat){j:Nat}(hj:j<L):gq (A0W X y w N L) j=gq (I0 X y N L) j-C7 (K8 X N j) (gq w) L:=by
 rw[A8Z X y w N L hj,A9n,show gq (I0 X y N L) j=E7 (H8 X j N) y N from W8 _ hj];unfold E7;rw[←A2N];refine G4 fun i hi=>?_;rw[A70 X y w N L hi,A1O X j N hi,A7V w];unfold D8 F8;show _*(_-C7 (F0 X i) (gq w) L)=_-F0 X i j*_;rw[show F0 X i j=gq (B7 X i) j from rfl];grind
def F5(sg:List Int)(i:Nat):List Nat:=(List.range i).filter fun t=>decide (gi sg t≠0)
theorem B4h{sg:List Int}{i:Nat}(h:gi sg i≠0):F5 sg (i+1)=F5 sg i++[i]:=by
 unfold F5;rw[C0X,List.filter_append];simp[h]
theorem B5O{sg:List Int}{i:Nat}(h:gi sg i=0):F5 sg (i+1)=F5 sg i:=by
 unfold F5;rw[C0X,List.filter_append];simp[h]
theorem A1f{sg:List Int}{i:Nat}:∀x∈F5 sg i,x<i:=fun x hx=>List.mem_range.1 (List.mem_filter.1 hx).1
theorem A45(sg:List Int)(i:Nat):(F5 sg i).length≤i:=by
 have:=C1f (fun t=>decide (gi sg t≠0)) (List.range i)
 simpa [F5]using this
theorem A6M{α:Type}(f:Nat→α)(U:List Nat){k:Nat}(h:k<U.length):(U.take (k+1)).map f=(U.take k).map f++[f (nx U k)]:=by
 rw[List.take_add_one,List.map_append];unfold nx;rw[B9w h];rfl
def N0(U:List Nat)(v:Nat→Rat)(n:Nat):Nat→List Rat
 | 0=>List.replicate n 0
 | k+1=>(N0 U v n k).set (nx U k) (v k)
theorem Z7(U:List Nat)(v:Nat→Rat)(n:Nat):∀k,(N0 U v n k).length=n
 | 0=>by simp[N0]
 | k+1=>by
  show((N0 U v n k).set _ _).length=n;rw[B95,Z7 U v n k]
theorem A8F{l:List Rat}{x i:Nat}{q:Rat}:gq (l.set x q) i=if i=x∧x<l.length then q else gq l i:=by
 unfold gq;rw[List.getElem?_set];by_cases e:x=i
 ·subst e;by_cases hx:x<l.length
  ·simp[hx]
  ·simp[hx]
 ·rw[if_neg e,if_neg (fun h=>e h.1.symm)]
theorem A3Z{U:List Nat}{v:Nat→Rat}{n Z:Nat}(h:∀k,k<U.length→qs (v k)≤Z)(hZ:1≤Z):∀k,k≤U.length→∀i,qs (gq (N0 U v n k) i)≤Z
 | 0,_,i=>by
  have:gq (N0 U v n 0) i=0:=by
   unfold gq N0;by_cases hi:i<n
   ·rw[C0t,if_pos hi];rfl
   ·rw[C0t,if_neg hi];rfl
  rw[this,A2e];exact hZ
 | k+1,hk,i=>by
  show qs (gq ((N0 U v n k).set _ _) i)≤Z;rw[A8F];split
  ·exact h k (by omega)
  ·exact A3Z h hZ k (by omega) i
def X4(GR:List (List Rat))(U:List Nat):List (List Rat):=U.map fun i=>U.map fun j=>gq (B7 GR i) j
def W4(PL:List Rat)(U:List Nat):List Rat:=U.map (gq PL)
def V7(sg:List Int)(U:List Nat):List Rat:=U.map fun i=>C1 (-(gi sg i))
def Z6(GR:List (List Rat))(U:List Nat)(y:List Rat)(k:Nat):Rat:=(C9 U.length (U.length+1) (F0 (aug (X4 GR U) y U.length),[]) (U.length+1)).1 k U.length
def A2r(GR:List (List Rat))(U:List Nat)(y:List Rat):Prop:=1≤U.length→(C9 U.length (U.length+1) (F0 (aug (X4 GR U) y U.length),[]) (U.length+1)).2=List.range U.length
def A0b(GR:List (List Rat))(PL:List Rat)(sg:List Int)(n:Nat):List Rat:=N0 (F5 sg n) (Z6 GR (F5 sg n) (W4 PL (F5 sg n))) n (F5 sg n).length
def A0V(GR:List (List Rat))(sg:List Int)(n:Nat):List Rat:=N0 (F5 sg n) (Z6 GR (F5 sg n) (V7 sg (F5 sg n))) n (F5 sg n).length
def Z0(GR:List (List Rat))(PL F B:List Rat)(sg:List Int)(n i:Nat):List Lm :=
 if gi sg i≠0 then [(D8 (gq B i) (C1 (gi sg i)),D8 (gq F i) (C1 (gi sg i)))]
 else [(F8 (C1 1) (E7 (B7 GR i) B n),F8 (gq PL i) (E7 (B7 GR i) F n)),(H5 (C1 1) (E7 (B7 GR i) B n),I7 (F8 (gq PL i) (E7 (B7 GR i) F n)))]
def Y9(GR:List (List Rat))(PL F B:List Rat)(sg:List Int)(n i:Nat):List Lm:=(List.range i).flatMap (Z0 GR PL F B sg n)
theorem A40{GR:List (List Rat)}{PL F B:List Rat}{sg:List Int}{n i:Nat}:Y9 GR PL F B sg n (i+1)=Y9 GR PL F B sg n i++Z0 GR PL F B sg n i:=by
 unfold Y9;rw[C0X,C1K];simp
theorem B4H{GR:List (List Rat)}{PL F B:List Rat}{sg:List Int}{n i:Nat}:(Z0 GR PL F B sg n i).length≤2:=by
 unfold Z0;split<;>simp
theorem A6K{GR:List (List Rat)}{PL F B:List Rat}{sg:List Int}{n:Nat}:∀i,(Y9 GR PL F B sg n i).length≤2*i
 | 0=>by simp[Y9]
 | i+1=>by
  rw[A40,List.length_append];have:=A6K (GR:=GR) (PL:=PL) (F:=F) (B:=B) (sg:=sg) (n:=n) i;have:=B4H (GR:=GR) (PL:=PL) (F:=F) (B:=B) (sg:=sg) (n:=n) (i:=i);omega
theorem A0T{u w':World}{B0:Nat}{e0:TypeId}{size0 n0:Nat}{v v0:Value}{xs0:List Value}{o:Obj}(h0:u.ownsRow B0 e0 size0 v0 n0 xs0)(ha:T6 v v0)(hg:(u.alloc o).grownBy w' v.ownBlock):w'.ownsRow B0 e0 size0 v0 n0 xs0:=by
 refine(h0.alloc o).kept hg ?_
 cases hb:v0.ownBlock with
 | none=>exact .inl rfl
 | some g=>exact .inr fun e=>ha g e.symm hb
theorem A3u{u:World}{B0:Nat}{e0:TypeId}{size0 n0 k:Nat}{v v' v0:Value}{xs0:List Value}(h0:u.ownsRow B0 e0 size0 v0 n0 xs0)(ha:T6 v v0)(hv:v'.ownBlock=v.ownBlock∨v'.ownBlock=some k)(hk:u.heap.size≤k):T6 v' v0:=fun g h1 h2=>by
 rcases hv with hv|hv
 ·exact ha g (hv.symm.trans h1) h2
 ·have e1:k=g:=B9M (hv.symm.trans h1);have:=(h0.lt g h2).2;omega
structure SolP(B m:Nat)(R:Nat→List Rat)(pf tf:Nat→Rat)(U:List Nat)(va vp vt:Ax)(k kp kt:Nat)(P:Nat→Ax)(W:World):Prop where
 hd:W.ownsRow B 35 1 (.slice va.1 k va.2) k (((List.range k).map fun i=>Value.slice (P i).1 m (P i).2).flatMap J6)
 row:∀i,i<k→W.ownsRow B 48 5 (.slice (P i).1 m (P i).2) m ((R i).flatMap qL)
 pl:W.ownsRow B 48 5 (.slice vp.1 kp vp.2) kp (((U.take kp).map pf).flatMap qL)
 tn:W.ownsRow B 48 5 (.slice vt.1 kt vt.2) kt (((U.take kt).map tf).flatMap qL)
 rp:∀i,i<k→T6 (.slice vp.1 kp vp.2) (.slice (P i).1 m (P i).2)
 rt:∀i,i<k→T6 (.slice vt.1 kt vt.2) (.slice (P i).1 m (P i).2)
 pt:T6 (.slice vp.1 kp vp.2) (.slice vt.1 kt vt.2)
section
variable {B m k kp kt:Nat} {R:Nat→List Rat} {pf tf:Nat→Rat} {U:List Nat} {va vp vt v':Ax} {P:Nat→Ax} {W u w':World} {o:Obj}
theorem SolP.grow(h:SolP B m R pf tf U va vp vt k kp kt P u)(hg:A4 u W):SolP B m R pf tf U va vp vt k kp kt P W:=⟨B9 h.hd hg,fun i hi=>B9 (h.row i hi) hg,B9 h.pl hg,B9 h.tn hg,h.rp,h.rt,h.pt⟩
theorem SolP.start(B m:Nat)(R:Nat→List Rat)(pf tf:Nat→Rat)(U:List Nat)(P:Nat→Ax)(u:World):SolP B m R pf tf U (none,0) (none,0) (none,0) 0 0 0 P u :=
 ⟨C1B _ _ _ _,fun i hi=>absurd hi (C1R _),C1B _ _ _ _,C1B _ _ _ _,fun i hi=>absurd hi (C1R _),fun i hi=>absurd hi (C1R _),fun g h1=>by cases h1⟩
def A1l(P:Nat→Ax)(k:Nat)(x:Ax):Nat→Ax:=fun i=>if i=k then x else P i
theorem B2J(P:Nat→Ax)(k m:Nat)(x:Ax):((List.range (k+1)).map fun i=>Value.slice (A1l P k x i).1 m (A1l P k x i).2).flatMap J6=((List.range k).map fun i=>Value.slice (P i).1 m (P i).2).flatMap J6++[Value.slice x.1 m x.2]:=by
 rw[C0X,List.map_append,C1K];congr 1
 ·congr 1;refine C1J fun i hi=>?_;have:=List.mem_range.1 hi;unfold A1l;rw[if_neg (by omega)]
 ·simp[A1l]
theorem SolP.addRow{x:Ax}(h:SolP B m R pf tf U va vp vt k kp kt P u)(hx:u.ownsRow B 48 5 (.slice x.1 m x.2) m ((R k).flatMap qL))(hxp:T6 (.slice vp.1 kp vp.2) (.slice x.1 m x.2))(hxt:T6 (.slice vt.1 kt vt.2) (.slice x.1 m x.2))
  (h1:w'.ownsRow B 35 1 (.slice v'.1 (k+1) v'.2) (k+1) (((List.range k).map fun i=>Value.slice (P i).1 m (P i).2).flatMap J6++[Value.slice x.1 m x.2])) (hg:(u.alloc o).grownBy w' (Value.slice va.1 k va.2).ownBlock) :
  SolP B m R pf tf U v' vp vt (k+1) kp kt (A1l P k x) w':=by
 have ap:∀ {B0 e0 s0 n0 v0 xs0},u.ownsRow B0 e0 s0 v0 n0 xs0→35≠e0→w'.ownsRow B0 e0 s0 v0 n0 xs0:=fun h0 hne=>A0T h0 (N9 h.hd h0 hne) hg;refine⟨by rw[B2J];exact h1,fun i hi=>?_,ap h.pl (by decide),ap h.tn (by decide),fun i hi=>?_,fun i hi=>?_,h.pt⟩
 ·unfold A1l;by_cases e:i=k
  ·subst e;simp only[if_true];exact ap hx (by decide)
  ·simp only[if_neg e];exact ap (h.row i (by omega)) (by decide)
 ·unfold A1l;by_cases e:i=k
  ·simp only[if_pos e];exact hxp
  ·simp only[if_neg e];exact h.rp i (by omega)
 ·unfold A1l;by_cases e:i=k
  ·simp only[if_pos e];exact hxt
  ·simp only[if_neg e];exact h.rt i (by omega)
theorem SolP.addP(h:SolP B m R pf tf U va vp vt k kp kt P u)(hk:kp<U.length)(h1:w'.ownsRow B 48 5 (.slice v'.1 (kp+1) v'.2) (kp+1) (((U.take kp).map pf).flatMap qL++qL (pf (nx U kp))))(hg:(u.alloc o).grownBy w' (Value.slice vp.1 kp vp.2).ownBlock)
  (h3:(Value.slice v'.1 (kp+1) v'.2).ownBlock=(Value.slice vp.1 kp vp.2).ownBlock∨(Value.slice v'.1 (kp+1) v'.2).ownBlock=some (u.heap.size+1)):SolP B m R pf tf U va v' vt k (kp+1) kt P w':=by
 refine⟨A0T h.hd (N9 h.pl h.hd (by decide)) hg,fun i hi=>A0T (h.row i hi) (h.rp i hi) hg,?_,A0T h.tn h.pt hg,fun i hi=>A3u (h.row i hi) (h.rp i hi) h3 (by omega),h.rt,A3u h.tn h.pt h3 (by omega)⟩;rw[A6M pf U hk,C1K]
 simpa using h1
theorem SolP.addT(h:SolP B m R pf tf U va vp vt k kp kt P u)(hk:kt<U.length)(h1:w'.ownsRow B 48 5 (.slice v'.1 (kt+1) v'.2) (kt+1) (((U.take kt).map tf).flatMap qL++qL (tf (nx U kt))))(hg:(u.alloc o).grownBy w' (Value.slice vt.1 kt vt.2).ownBlock)
  (h3:(Value.slice v'.1 (kt+1) v'.2).ownBlock=(Value.slice vt.1 kt vt.2).ownBlock∨(Value.slice v'.1 (kt+1) v'.2).ownBlock=some (u.heap.size+1)):SolP B m R pf tf U va vp v' k kp (kt+1) P w':=by
 refine⟨A0T h.hd (N9 h.tn h.hd (by decide)) hg,fun i hi=>A0T (h.row i hi) (h.rt i hi) hg,A0T h.pl h.pt.symm hg,?_,h.rp,fun i hi=>A3u (h.row i hi) (h.rt i hi) h3 (by omega),(A3u h.pl h.pt.symm h3 (by omega)).symm⟩;rw[A6M tf U hk,C1K]
 simpa using h1
end
theorem B5w{u:World}{B b0 n c m:Nat}{P:Nat→Ax}{R:Nat→List Rat}(h:u.ownsRow B 35 1 (.slice (some ⟨b0,0,none⟩) n c) n (((List.range n).map fun i=>Value.slice (P i).1 m (P i).2).flatMap J6))(hl:∀i,i<n→(R i).length=m)(hr:∀i,i<n→Lq u (P i).1 (R i)):Lrq u (some ⟨b0,0,none⟩) ((List.range n).map fun i=>(((P i).1,(P i).2,R i):Rq)):=fun hne=>by
 refine⟨b0,0,rfl,(h.lt b0 rfl).2,fun i r hi=>?_⟩;rw[List.getElem?_map]at hi;obtain⟨k,hk,rfl⟩:=Option.map_eq_some_iff.1 hi;have hin:i<n:=by
  have:=(List.getElem?_eq_some_iff.1 hk).1
  simpa using this
 have hki:k=i:=by
  rw[C1N hin]at hk;exact(B9M hk).symm
 subst hki;have h1:=R9 (enc:=J6) (size:=1) (fun _=>rfl) h (by simp) k 0 (by simpa using hin) (by omega);rw[C0d,Nat.add_zero]at h1;simp only[List.getElem_map,List.getElem_range]at h1;rw[Nat.zero_add,h1];exact⟨by rw[hl k hin];rfl,hr _ hin⟩
structure LmW(B n bf bo:Nat)(F G:List Rat)(vl:Ax)(ls:List Lm)(W:World):Prop where
 f:W.ownsRow B 48 5 (.slice (some ⟨bf,0,none⟩) n n) n (F.flatMap qL)
 g:W.ownsRow B 48 5 (.slice (some ⟨bo,0,none⟩) n n) n (G.flatMap qL)
 l:W.ownsRow B 183 10 (.slice vl.1 ls.length vl.2) ls.length (ls.flatMap lmL)
 ne:bf≠bo
section
variable {B n bf bo b i:Nat} {F G:List Rat} {vl:Ax} {ls:List Lm} {W W':World} {vs:List Value}
theorem LmW.grow(h:LmW B n bf bo F G vl ls W)(hg:A4 W W'):LmW B n bf bo F G vl ls W':=⟨B9 h.f hg,B9 h.g hg,B9 h.l hg,h.ne⟩
theorem LmW.over{t:TypeId}{cs:Array Value}(h:LmW B n bf bo F G vl ls W)(hb:Blk W b t cs)(ht:t≠48∧t≠183)(hu:C2 W b i vs=W'):LmW B n bf bo F G vl ls W' :=
 ⟨H7 h.f (E5 h.f hb (fun e=>ht.1 e.symm)) hu,H7 h.g (E5 h.g hb (fun e=>ht.1 e.symm)) hu,H7 h.l (E5 h.l hb (fun e=>ht.2 e.symm)) hu,h.ne⟩
theorem LmW.news{W0:World}(h0:LmW B n bf bo F G vl ls W0)(hb:W0.heap.size≤b)(h:LmW B n bf bo F G vl ls W)(hu:C2 W b i vs=W'):LmW B n bf bo F G vl ls W' :=
 ⟨H7 h.f (A1D h0.f hb) hu,H7 h.g (A1D h0.g hb) hu,H7 h.l (A1D h0.l hb) hu,h.ne⟩
theorem LmW.fq(h:LmW B n bf bo F G vl ls W):Lq W (some ⟨bf,0,none⟩) F:=by
 obtain⟨A,c,e,-,-,hL,-⟩:=K9 h.f;cases e;exact hL
theorem LmW.gq(h:LmW B n bf bo F G vl ls W):Lq W (some ⟨bo,0,none⟩) G:=by
 obtain⟨A,c,e,-,-,hL,-⟩:=K9 h.g;cases e;exact hL
theorem LmW.putF(h:LmW B n bf bo F G vl ls W)(hF:F.length=n){j:Nat}(hj:j<n)(q:Rat)(hu:C2 W bf (j*5) (qL q)=W'):LmW B n bf bo (F.set j q) G vl ls W'∧W.grownBy W' (some bf):=by
 obtain⟨h1,h2⟩:=O7 (enc:=qL) (size:=5) (ps:=F) (fun _=>rfl) h.f j q (by omega);rw[hu]at h1 h2;exact⟨⟨h1,h.g.kept h2 (.inr fun e=>h.ne (B9M e).symm),h.l.kept h2 (.inr fun e=>N9 h.f h.l (by decide) bf rfl e),h.ne⟩,h2⟩
theorem LmW.putG(h:LmW B n bf bo F G vl ls W)(hG:G.length=n){j:Nat}(hj:j<n)(q:Rat)(hu:C2 W bo (j*5) (qL q)=W'):LmW B n bf bo F (G.set j q) vl ls W'∧W.grownBy W' (some bo):=by
 obtain⟨h1,h2⟩:=O7 (enc:=qL) (size:=5) (ps:=G) (fun _=>rfl) h.g j q (by omega);rw[hu]at h1 h2;exact⟨⟨h.f.kept h2 (.inr fun e=>h.ne (B9M e)),h1,h.l.kept h2 (.inr fun e=>N9 h.g h.l (by decide) bo rfl e),h.ne⟩,h2⟩
theorem LmW.beside{B0 size n0:Nat}{e:TypeId}{v:Value}{xs:List Value}{o:Obj}(h:LmW B n bf bo F G vl ls W)(h0:W.ownsRow B0 e size v n0 xs)(ht:e≠48∧e≠183)(hg:(W.alloc o).grownBy W' v.ownBlock):LmW B n bf bo F G vl ls W' :=
 ⟨A0T h.f (N9 h0 h.f ht.1) hg,A0T h.g (N9 h0 h.g ht.1) hg,A0T h.l (N9 h0 h.l ht.2) hg,h.ne⟩
theorem LmW.app{v':Ax}{ls':List Lm}(h:LmW B n bf bo F G vl ls W)(h1:W'.ownsRow B 183 10 (.slice v'.1 ls'.length v'.2) ls'.length (ls'.flatMap lmL))(hg:W.grownBy W' (Value.slice vl.1 ls.length vl.2).ownBlock):LmW B n bf bo F G v' ls' W' :=
 ⟨A1x h.f h.l (by decide) hg,A1x h.g h.l (by decide) hg,h1,h.ne⟩
end
theorem B32:EI 39 35 1 24:=A0l (by kernel_rfl) (by kernel_rfl) (by omega)
theorem B1z(A:Option Addr)(n c:Nat)(w:World):(Instr.buildSlice 39 1 #[(0,.slice A n c)]).run Tryz.prog w = .ok (.slice (some ⟨w.heap.size,0,none⟩) 1 1) (w.alloc (.cells #[.slice A n c] 35)):=by
 go_simp
theorem B0u:EI 113 183 10 112:=A0l (by kernel_rfl) (by kernel_rfl) (by omega)
theorem A8H{ops:Array Oper}{a:Act}{u:World}{K:Act→World→Prop}{d2:Option Nat}{s z:Operand}{t2:TypeId}{p2:String}{f2:Array Edge}{rest:List Oper}{T e:TypeId}{size bytes:Nat}(hE:EI T e size bytes)
  (B:Nat) (v:Value) (n:Nat) (xs:List Value) (b m:Nat) (ys:List Value) (hy:ys.length=m*size) (h1:(ys.all fun y=>y.oneCell')=true) (hblk:Blk u b e ys.toArray)
  (hs:a.eval s=v) (hz:a.eval z = .slice (some ⟨b,0,none⟩) m m)
  (hown:u.ownsRow B e size v n xs) (hl:n+m≤1099511627776) (hl2:(n+m)*bytes≤140737488355328) (hB:B≤u.heap.size)
  (h:∀v' w',w'.ownsRow B e size v' (n+m) (xs++ys)→u.grownBy w' v.ownBlock→(v'.ownBlock=v.ownBlock∨v'.ownBlock=some u.heap.size)→wpList Tryz.prog ops (NoK K) rest (a.put d2 v') w') :
  wpList Tryz.prog ops (NoK K) (⟨d2,.call { callee:=.builtin .append,args:=#[s,z],argTypes:=#[T,T] },t2,p2,f2,none⟩::rest) a u:=by
 obtain⟨hund,⟨i0,z0,hi0,hz0,hz1,hz2,hz3⟩,hpos⟩:=hE;refine wpList_append_own_at u (a:=a) (Q:=NoK K) rfl s z T rfl B e i0 z0 size bytes hund hi0 hz0 hz1 hz2 hz3 hpos v n xs hs hown ⟨b,0,none⟩ m m ys hz (by rw[hy]) ?_ (fun y hy=>List.all_eq_true.1 h1 y hy) (by unfold maxLen;omega) hl2 hB fun v' w' g1 g2 _ g4=>h v' w' g1 g2 g4;intro j y hj;rw[B9z,Nat.zero_add,Blk.cell hblk j,List.getElem?_toArray];exact hj
theorem B8u(GR:List (List Rat))(U:List Nat)(P:Nat→Ax):((List.range U.length).map fun i=>(((P i).1,(P i).2,U.map fun j=>gq (B7 GR (nx U i)) j):Rq)).map (·.2.2)=X4 GR U:=by
 unfold X4;apply B9W
 ·simp
 ·intro i h1 h2;have hi:i<U.length:=by simpa using h2
  simp only[List.getElem_map,List.getElem_range];unfold nx;rw[B9w hi];rfl
theorem A49{GR:List (List Rat)}{U:List Nat}{i j:Nat}(hi:i<U.length)(hj:j<U.length):gq (B7 (X4 GR U) i) j=gq (B7 GR (nx U i)) (nx U j):=by
 have h1:B7 (X4 GR U) i=U.map fun j=>gq (B7 GR (nx U i)) j:=by
  unfold B7 X4 nx;rw[List.getElem?_map,B9w hi];rfl
 rw[h1];unfold gq;rw[List.getElem?_map,B9w hj];unfold nx;rw[B9w hj];rfl
theorem A2A{f:Nat→Rat}{U:List Nat}{k:Nat}(h:k<U.length):gq (U.map f) k=f (nx U k):=by
 unfold gq nx;rw[List.getElem?_map,B9w h];rfl
theorem A72{GR:List (List Rat)}{U:List Nat}{y:List Rat}{f:Nat→Rat}{n s m:Nat}{B:Nat}{va vy:Ax}{P:Nat→Ax}{W:World}(hm:m=U.length)(hm1:1≤m)(hmn:m≤n)(hn:n≤6)(hU:∀x∈U,x<n)
  (hG:∀i,i<n→∀j,j<n→qs (gq (B7 GR i) j)≤s) (hs1:1≤s) (hBz:100*(s*10^(n+1))≤BIG) (hy:y=U.map f) (hyz:∀k,k<U.length→qs (f (nx U k))≤s) (hok:A2r GR U y)
  (hd:W.ownsRow B 35 1 (.slice va.1 m va.2) m (((List.range m).map fun i=>Value.slice (P i).1 m (P i).2).flatMap J6)) (hr:∀i,i<m→W.ownsRow B 48 5 (.slice (P i).1 m (P i).2) m ((U.map fun j=>gq (B7 GR (nx U i)) j).flatMap qL)) (hyo:W.ownsRow B 48 5 (.slice vy.1 m vy.2) m (((U.take m).map f).flatMap qL)) :
  ∀V,A4 W V→Tab V→Calls Tryz.prog 128 #[.slice va.1 m va.2,.slice vy.1 m vy.2] V (G1 (fun x:Ax=>.tuple #[.slice x.1 m x.2,.slice none 0 0,.int .i64 0]) (fun x V'=>Lq V' x.1 ((List.range m).map (Z6 GR U y))∧∃b,x.1=some ⟨b,0,none⟩∧V.heap.size≤b) V):=fun V hg hT=>by
 subst hm;rw[C05,←hy]at hyo;obtain⟨ba,ca,ea,-,-⟩:=X9 hd (by omega);obtain⟨bv,cv,ev,-,hcv⟩:=X9 hyo (by omega);obtain⟨va1,va2⟩:=va;obtain⟨vy1,vy2⟩:=vy;simp only[Value.slice.injEq]at ea ev;obtain⟨rfl,-,rfl⟩:=ea;obtain⟨rfl,-,rfl⟩:=ev
 have hL:=B5w hd (R:=fun i=>U.map fun j=>gq (B7 GR (nx U i)) j) (fun i hi=>by simp) (fun i hi=>by
  obtain⟨A,c,e,-,-,hL,-⟩:=K9 (hr i hi);have e1:=C0r (fun v=>match v with|Value.slice a _ _=>a|_=>none) e;simp only at e1;rw[e1]
  exact hL)
 have hY:Lq W (some ⟨bv,0,none⟩) y:=by
  obtain⟨A,c,e,-,-,hL,-⟩:=K9 hyo;cases e;exact hL
 have hmp:=B8u GR U P;have hyl:y.length=U.length:=by rw[hy];simp
 have hpw:s*10^(U.length+1)≤s*10^(n+1):=C0Z _ (B9n (by omega) (by omega));have nxl:∀k,k<U.length→nx U k<n:=fun k hk=>hU _ (P4 hk);have hl1:((List.range U.length).map fun i=>(((P i).1,(P i).2,U.map fun j=>gq (B7 GR (nx U i)) j):Rq)).length=U.length:=by simp
 have hl2:∀r∈((List.range U.length).map fun i=>(((P i).1,(P i).2,U.map fun j=>gq (B7 GR (nx U i)) j):Rq)),r.2.2.length=U.length:=fun r hr=>by
  obtain⟨i,hi,rfl⟩:=List.mem_map.1 hr;simp
 have hl3:∀r∈((List.range U.length).map fun i=>(((P i).1,(P i).2,U.map fun j=>gq (B7 GR (nx U i)) j):Rq)),U.length≤r.2.1:=fun r hr2=>by
  obtain⟨i,hi,rfl⟩:=List.mem_map.1 hr2;obtain⟨A,c,e,hc,-,-,-⟩:=K9 (hr i (List.mem_range.1 hi));have e1:=C0r (fun v=>match v with|Value.slice _ _ c=>c|_=>0) e;simp only at e1;simp only;omega
 generalize ((List.range U.length).map fun i=>(((P i).1,(P i).2,U.map fun j=>gq (B7 GR (nx U i)) j):Rq))=rs0 at hL hmp hl1 hl2 hl3;have h:=B6z (some ⟨ba,0,none⟩) bv 0 rs0 y U.length va2 vy2 hl1 hm1 (by omega) hl2 hl3 hyl hcv s hs1 (fun i hi j hj=>by rw[hmp,A49 hi hj];exact hG _ (nxl i hi) _ (nxl j hj)) (fun i hi=>by rw[hy,A2A hi];exact hyz i hi) (by omega) (by rw[hmp];exact hok hm1) V (hL.grow hg) (hY.grow hg) hT;rw[hmp]at h;exact h
theorem B7m{X:List (List Rat)}{y:List Rat}{m s:Nat}(hX:∀i,i<m→∀j,j<m→qs (gq (B7 X i) j)≤s)(hl:∀i,i<m→(B7 X i).length=m)(hy:∀i,i<m→qs (gq y i)≤s):szM (F0 (aug X y m)) m (m+1) s:=fun i hi j hj=>by
 have e1:B7 (aug X y m) i=B7 X i++[gq y i]:=A2I hi;show qs (gq (B7 (aug X y m) i) j)≤s;rw[e1];have hl2:=hl i hi;rcases B9H j m with h1|h1
 ·have:gq (B7 X i++[gq y i]) j=gq (B7 X i) j:=by
   show((B7 X i++[gq y i])[j]?).getD 0=_;rw[C08 (by omega)];rfl
  rw[this];exact hX i hi j h1
 ·have h2:j=(B7 X i).length:=by omega
  have:gq (B7 X i++[gq y i]) j=gq y i:=by
   show((B7 X i++[gq y i])[j]?).getD 0=_;rw[h2,C09 (B9G _)];simp
  rw[this];exact hy i hi
theorem A4d{GR:List (List Rat)}{U:List Nat}{y:List Rat}{n s:Nat}(hU:∀x∈U,x<n)(hmn:U.length≤n)(hG:∀i,i<n→∀j,j<n→qs (gq (B7 GR i) j)≤s)(hs1:1≤s)(hy:∀k,k<U.length→qs (gq y k)≤s):∀k,k<U.length→qs (Z6 GR U y k)≤s*10^(n+1):=fun k hk=>by
 have h1:=A5u (s:=(F0 (aug (X4 GR U) y U.length),[])) (B7m (X:=X4 GR U) (y:=y) (m:=U.length) (s:=s) (fun i hi j hj=>by rw[A49 hi hj];exact hG _ (hU _ (P4 hi)) _ (hU _ (P4 hj))) (fun i hi=>by
  unfold B7 X4;rw[List.getElem?_map,B9w hi]
  simp) hy) hs1 (U.length+1) (B9G _)
 exact B9Y (h1 k hk U.length (C1W _)) (C0Z _ (B9n (by omega) (by omega)))
theorem B8W{m:Nat}{M:Mx}(h:(C9 m (m+1) (M,[]) (m+1)).2=List.range m):∀i,i<m→C6 (fun j=>M i j*(C9 m (m+1) (M,[]) (m+1)).1 j m) m=M i m:=by
 obtain⟨e1,e2⟩:=A43 (n:=m) (L:=m+1) M (m+1) (B9G _);obtain⟨s,hs⟩:∃s,s=C9 m (m+1) (M,[]) (m+1):=⟨_,rfl⟩
 obtain⟨V,hV⟩:∃V:Nat→Rat,V=fun j=>if j<m then s.1 j m else -1:=⟨_,rfl⟩
 have hk:=(A32 (n:=m) (L:=m+1) (s:=(M,[])) (v:=V) (m+1))
 have hVl:∀j,j<m→V j=s.1 j m:=fun j hj=>by rw[hV];exact if_pos hj
 have hVm:V m = -1:=by rw[hV];exact if_neg (Nat.lt_irrefl m)
 rw[←hs]at h e1 e2 hk⊢
 have hd:∀i,i<m→∀j,j<m→s.1 i j=if i=j then 1 else 0:=fun i hi j hj=>by
  have:=e2 j (by rw[h];simpa using hj) i hi;rw[h,A4O hj]at this;exact this
 have h1:ker s.1 m (m+1) V:=fun i hi=>by
  unfold C7;rw[A0U,hVm,A1M hi fun j hj hne=>by rw[hd i hi j hj,if_neg (fun e=>hne e.symm)];grind,hd i hi i hi,if_pos rfl,hVl i hi];grind
 intro i hi;have h2:C7 (M i) V (m+1)=0:=hk.1 h1 i hi;unfold C7 at h2;rw[A0U,hVm,G4 (fun j hj=>by rw[hVl j hj]:∀j,j<m→M i j*V j=M i j*s.1 j m)]at h2;grind
theorem B7S{m:Nat}{M:Mx}(h:∀v,(∀i,i<m→C7 (M i) v m=0)→∀j,j<m→v j=0):(C9 m (m+1) (M,[]) (m+1)).2=List.range m:=by
 have h1:=A6r (n:=m) (L:=m+1) (m:=m) (M:=M) (by omega) (fun v hv hk=>h v fun i hi=>by
  have h2:=hk i hi;unfold C7 at h2⊢;rw[A0U,hv m (B9G _)]at h2
  grind) m (B9G _)
 show(O4 m (m+1) (C9 m (m+1) (M,[]) m) m).2=_;unfold O4;rw[if_neg ?_,h1];show ¬L7 _ m (C9 m (m+1) (M,[]) m).2.length m<m;rw[h1,List.length_range,B6K (B9G _)];omega
theorem B0V{X:List (List Rat)}{y:List Rat}{m i j:Nat}(hi:i<m)(hl:(B7 X i).length=m)(hj:j<m):F0 (aug X y m) i j=gq (B7 X i) j:=by
 have e1:B7 (aug X y m) i=B7 X i++[gq y i]:=A2I hi;show gq (B7 (aug X y m) i) j=_;rw[e1];show((B7 X i++[gq y i])[j]?).getD 0=_;rw[C08 (by omega)];rfl
theorem B1W{X:List (List Rat)}{y:List Rat}{m i:Nat}(hi:i<m)(hl:(B7 X i).length=m):F0 (aug X y m) i m=gq y i:=by
 have e1:B7 (aug X y m) i=B7 X i++[gq y i]:=A2I hi;show gq (B7 (aug X y m) i) m=_;rw[e1];show((B7 X i++[gq y i])[m]?).getD 0=_;rw[C09 (by omega),hl,B9u];rfl
theorem A5g{GR:List (List Rat)}{U:List Nat}{i:Nat}(hi:i<U.length):(B7 (X4 GR U) i).length=U.length:=by
 unfold B7 X4;rw[List.getElem?_map,B9w hi];simp
def S3(U:List Nat)(v:Nat→Rat)(t:Nat):Rat:=C6 (fun k=>if nx U k=t then v k else 0) U.length
theorem A9y{U:List Nat}(hU:U.Pairwise (· < ·)){i j:Nat}(hi:i<U.length)(hj:j<U.length)(h:nx U i=nx U j):i=j:=by
 have h1:=List.pairwise_iff_getElem.1 hU;unfold nx at h;rw[B9w hi,B9w hj]at h;have h2:U[i]=U[j]:=h;rcases C0J i j with h3|h3|h3
 ·have:=h1 i j hi hj h3;omega
 ·exact h3
 ·have:=h1 j i hj hi h3;omega
section
variable {U:List Nat} {n:Nat} (hU:U.Pairwise (· < ·)) (hn:∀x∈U,x<n)
include hU
theorem B1m(v:Nat→Rat){k:Nat}(hk:k<U.length):S3 U v (nx U k)=v k:=by
 unfold S3;rw[A1M hk fun j hj hne=>if_neg fun e=>hne (A9y hU hj hk e),if_pos rfl]
omit hU in
theorem A5U(v:Nat→Rat){t:Nat}(h:t∉U):S3 U v t=0 :=
 A0o fun k hk=>if_neg fun e=>h (by rw[←e];exact P4 hk)
include hn
omit hU in
theorem A9Y(c v:Nat→Rat):C6 (fun t=>c t*S3 U v t) n=C6 (fun k=>c (nx U k)*v k) U.length:=by
 have e:C6 (fun t=>c t*S3 U v t) n=C6 (fun t=>C6 (fun k=>if nx U k=t then c t*v k else 0) U.length) n:=G4 fun t _=>by
  unfold S3;rw[←R5];exact G4 fun k _=>by split<;>grind
 rw[e,A3A];refine G4 fun k hk=>?_;rw[A1M (hn _ (P4 hk)) fun t ht hne=>if_neg fun e=>hne e.symm,if_pos rfl]
theorem A8j(v:Nat→Rat):∀k,k≤U.length→∀t,gq (N0 U v n k) t=C6 (fun i=>if nx U i=t then v i else 0) k
 | 0,_,t=>by
  unfold gq N0;rw[C0t];split<;>rfl
 | k+1,hk,t=>by
  show gq ((N0 U v n k).set (nx U k) (v k)) t=_;rw[A8F,A0U,Z7];have hlt:=hn _ (P4 (l:=U) (i:=k) (by omega));by_cases e:t=nx U k
  ·rw[if_pos ⟨e,hlt⟩,if_pos e.symm,A0o fun i hi=>if_neg fun e2=>by
    have:=A9y hU (i:=i) (j:=k) (by omega) (by omega) (e2.trans e)
    omega]
   grind
  ·rw[if_neg fun h=>e h.1,if_neg fun h=>e h.symm,A8j v k (by omega) t];grind
theorem A8l(v:Nat→Rat)(t:Nat):gq (N0 U v n U.length) t=S3 U v t:=A8j hU hn v _ (B9G _) t
end
theorem A64(sg:List Int)(i:Nat):(F5 sg i).Pairwise (· < ·):=by
 unfold F5;exact List.Pairwise.filter _ (List.pairwise_lt_range)
theorem A7K{sg:List Int}{n i:Nat}:i∈F5 sg n↔i<n∧gi sg i≠0:=by
 unfold F5;rw[List.mem_filter,List.mem_range];simp
theorem A92{U:List Nat}{x:Nat}(h:x∈U):∃k,k<U.length∧nx U k=x:=by
 obtain⟨k,hk,e⟩:=C1A h;exact⟨k,hk,by unfold nx;rw[B9w hk];exact e⟩
section
variable {GR:List (List Rat)} {U:List Nat} {n:Nat} {G:Mx} (hU:U.Pairwise (· < ·)) (hn:∀x∈U,x<n) (hG:∀i,i<n→∀j,j<n→gq (B7 GR i) j=G i j) (hD:∀x,frm G n x x≤0→∀j,j<n→x j=0)
include hU hn hG hD
theorem A5o(y:List Rat):A2r GR U y:=fun _=>B7S fun v hv j hj=>by
 have hx:∀t,t∉U→S3 U v t=0:=fun t ht=>A5U v ht
 have h1:=hD (S3 U v) (by
  unfold frm;rw[A0o fun i hi=>?_]
  ·exact C1S
  ·by_cases hi2:i∈U
   ·obtain⟨k,hk,rfl⟩:=A92 hi2;have h2:=hv k hk;have h3:C7 (G (nx U k)) (S3 U v) n=0:=by
     rw[show C7 (G (nx U k)) (S3 U v) n=_ from A9Y hn (G (nx U k)) v,←h2];exact G4 fun l hl=>by rw[B0V hk (A5g hk) hl,A49 hk hl,hG _ (hn _ (P4 hk)) _ (hn _ (P4 hl))]
    rw[h3];grind
   ·rw[hx i hi2];grind) (nx U j) (hn _ (P4 hj))
 rwa [B1m hU v hj]at h1
theorem A91(y:List Rat)(v:Nat→Rat)(hv:∀k,k<U.length→v k=Z6 GR U y k){k:Nat}(hk:k<U.length):C7 (G (nx U k)) (S3 U v) n=gq y k:=by
 rw[show C7 (G (nx U k)) (S3 U v) n=_ from A9Y hn (G (nx U k)) v];have h1:=B8W (A5o hU hn hG hD y (by omega)) k hk;rw[B1W hk (A5g hk)]at h1;rw[←h1];exact G4 fun l hl=>by rw[B0V hk (A5g hk) hl,A49 hk hl,hG _ (hn _ (P4 hk)) _ (hn _ (P4 hl)),hv l hl];rfl
end
theorem B6p{GR:List (List Rat)}{PL:List Rat}{n:Nat}{G:Mx}(hG:∀i,i<n→∀j,j<n→gq (B7 GR i) j=G i j)(hD:∀x,frm G n x x≤0→∀j,j<n→x j=0)(sg:List Int)(a:Rat) :
  SolW G n (gq PL) a (gi sg) (gq (I5 (A0b GR PL sg n) (A0V GR sg n) n a)):=by
 obtain⟨U,hUe⟩:∃U,U=F5 sg n:=⟨_,rfl⟩
 have hU:=A64 sg n;have hn:∀x∈F5 sg n,x<n:=A1f;have hw:∀t,t<n→gq (I5 (A0b GR PL sg n) (A0V GR sg n) n a) t=S3 U (Z6 GR U (W4 PL U)) t+a*S3 U (Z6 GR U (V7 sg U)) t:=fun t ht=>by
  have e1:gq (I5 (A0b GR PL sg n) (A0V GR sg n) n a) t=H5 (gq (A0b GR PL sg n) t) (D8 (gq (A0V GR sg n) t) a):=W8 _ ht;rw[e1,hUe];unfold A0b A0V H5 D8;rw[A8l hU hn,A8l hU hn];grind
 rw[←hUe]at hU hn;constructor
 ·intro i hi hs;obtain⟨k,hk,e⟩:=A92 (U:=U) (x:=i) (by rw[hUe];exact A7K.2 ⟨hi,hs⟩);subst e;have e2:C7 (G (nx U k)) (gq (I5 (A0b GR PL sg n) (A0V GR sg n) n a)) n=C7 (G (nx U k)) (fun t=>S3 U (Z6 GR U (W4 PL U)) t+a*S3 U (Z6 GR U (V7 sg U)) t) n:=G4 fun t ht=>by rw[hw t ht]
  rw[e2,A3x,A91 hU hn hG hD (W4 PL U) _ (fun _ _=>rfl) hk,A91 hU hn hG hD (V7 sg U) _ (fun _ _=>rfl) hk];unfold W4 V7;rw[A2A hk,A2A hk];have e3:C1 (-(gi sg (nx U k))) = -((gi sg (nx U k):Int):Rat):=by unfold C1;exact Rat.intCast_neg _
  rw[e3];grind
 ·intro i hi hs;have hm:i∉U:=by rw[hUe];exact fun h=>(A7K.1 h).2 hs
  rw[hw i hi,A5U _ hm,A5U _ hm];grind
theorem B0o{GR:List (List Rat)}{PL:List Rat}{n:Nat}{G:Mx}(hG:∀i,i<n→∀j,j<n→gq (B7 GR i) j=G i j)(sg:List Int)(F B:List Rat)(a:Rat):∀i,i≤n →
  (H3 a (Y9 GR PL F B sg n i)=true↔∀t,t<i→if gi sg t≠0 then 0≤(gi sg t:Rat)*gq (I5 F B n a) t else G3 (gq PL t-C7 (G t) (gq (I5 F B n a)) n)≤a)
 | 0,_=>by
  constructor
  ·intro _ t ht;exact absurd ht (C1R _)
  ·intro _;rfl
 | i+1,hi=>by
  have ih:=B0o (PL:=PL) hG sg F B a i (by omega);rw[A40];have e:H3 a (Y9 GR PL F B sg n i++Z0 GR PL F B sg n i)=(H3 a (Y9 GR PL F B sg n i)&&H3 a (Z0 GR PL F B sg n i)):=by
   unfold H3;rw[List.all_append]
  rw[e,Bool.and_eq_true,ih];have hwt:∀t,t<n→gq (I5 F B n a) t=gq F t+gq B t*a:=fun t ht=>W8 _ ht
  have key:H3 a (Z0 GR PL F B sg n i)=true↔if gi sg i≠0 then 0≤(gi sg i:Rat)*gq (I5 F B n a) i else G3 (gq PL i-C7 (G i) (gq (I5 F B n a)) n)≤a:=by
   unfold Z0 H3;by_cases hs:gi sg i≠0
   ·rw[if_pos hs,if_pos hs,hwt i (by omega)];simp only[List.all_cons,List.all_nil,Bool.and_true];unfold X0;rw[C1g];unfold H5 D8 C1;constructor<;>intro h<;>grind
   ·rw[if_neg hs,if_neg hs];simp only[List.all_cons,List.all_nil,Bool.and_true,Bool.and_eq_true];unfold X0;rw[C1g,C1g];have e1:C7 (G i) (gq (I5 F B n a)) n=E7 (B7 GR i) F n+a*E7 (B7 GR i) B n:=by
     rw[A85,A85,show C7 (G i) (gq (I5 F B n a)) n=C7 (G i) (fun t=>gq F t+a*gq B t) n from G4 fun t ht=>by rw[hwt t ht];grind,A3x,A8s (fun j hj=>(hG i (by omega) j hj).symm),A8s (fun j hj=>(hG i (by omega) j hj).symm)]
    rw[e1];unfold H5 D8 F8 I7;have e2:C1 1=1:=rfl;rw[e2];rcases A0p (gq PL i-(E7 (B7 GR i) F n+a*E7 (B7 GR i) B n))with⟨h1,h2⟩|⟨h1,h2⟩<;>rw[h2]<;>constructor
    ·rintro⟨g1,g2⟩;grind
    ·intro g;constructor<;>grind
    ·rintro⟨g1,g2⟩;grind
    ·intro g;constructor<;>grind
  rw[key];constructor
  ·rintro⟨g1,g2⟩ t ht;by_cases e:t=i
   ·rw[e];exact g2
   ·exact g1 t (by omega)
  ·intro g;exact⟨fun t ht=>g t (by omega),g i (by omega)⟩
end Go.Proofs.YtgpglgbcobeogaaGreatDoor
