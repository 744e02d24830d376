import Derived.Test.YtgpglgbcobeogaaGreatDoorW41
set_option linter.unusedSimpArgs false
set_option linter.unusedVariables false
set_option maxHeartbeats 4000000
set_option maxRecDepth 100000
namespace Go.Proofs.YtgpglgbcobeogaaGreatDoor
open Go Go.RowKit
theorem A3L{X:List (List Rat)}{N L i j:Nat}(hi:i<L)(hj:j<L):gq (B7 (J9 X N L) i) j=K8 X N i j:=by
 have e1:B7 (J9 X N L) i=G0 (K8 X N) L i:=A2I hi;rw[e1];exact W8 _ hj
theorem B0g{n c t:Nat}(h:t<n):gi (E6 n c) t=sgI c t:=by
 unfold gi E6;rw[List.getElem?_map,C1N h];rfl
theorem A4J(n c:Nat):Sgn n (gi (E6 n c)):=fun i hi=>by
 rw[B0g hi];unfold sgI;have:c/3^i%3<3:=B9p _ (by omega);omega
theorem A98(s:Nat→Int):∀n,Sgn n s→∃c,c<3^n∧∀t,t<n→sgI c t=s t
 | 0,_=>⟨0,by simp,fun t ht=>absurd ht (C1R _)⟩
 | n+1,h=>by
  obtain⟨c,hc,he⟩:=A98 s n fun i hi=>h i (by omega);obtain⟨d,hd⟩:∃d:Nat,(d:Int)=s n+1:=⟨(s n+1).toNat,by have:=h n (by omega);omega⟩
  have hd3:d<3:=by have:=h n (by omega);omega
  have h3:d*3^n≤2*3^n:=B94 _ (by omega);refine⟨c+d*3^n,by rw[Nat.pow_succ];omega,fun t ht=>?_⟩;by_cases e:t=n
  ·subst e;unfold sgI;have e1:(c+d*3^t)/3^t=d:=by
    rw[Nat.add_mul_div_right _ _ (C07 (by omega)),C0E hc];omega
   rw[e1,Nat.mod_eq_of_lt hd3];omega
  ·have e1:(c+d*3^n)/3^t%3=c/3^t%3:=by
    obtain⟨m,hm⟩:∃m,n=t+(m+1):=⟨n-t-1,by omega⟩
    rw[hm,B9o,←C0e,Nat.mul_right_comm,Nat.add_mul_div_right _ _ (C07 (by omega)),Nat.pow_succ,←C0e,Nat.add_mul_mod_self_right]
   rw[←he t (by omega)];unfold sgI;rw[e1]
def Q5(X:List (List Rat))(y:List Rat)(N L k:Nat):List Rat:=A0b (J9 X N L) (I0 X y N L) (E6 L k) L
def R6(X:List (List Rat))(N L k:Nat):List Rat:=A0V (J9 X N L) (E6 L k) L
def L6(X:List (List Rat))(y:List Rat)(N L k:Nat):List Lm:=Y9 (J9 X N L) (I0 X y N L) (Q5 X y N L k) (R6 X N L k) (E6 L k) L L
def A0n(X:List (List Rat))(y:List Rat)(N L:Nat)(a:Rat):Nat:=A0K (fun k=>!H3 a (L6 X y N L k)) (3^L) 0
def A1I(X:List (List Rat))(y:List Rat)(N L:Nat)(a:Rat)(k:Nat):List Rat:=I5 (Q5 X y N L k) (R6 X N L k) L a
def A1Z(X:List (List Rat))(y:List Rat)(N L:Nat)(a:Rat):List Rat:=A1I X y N L a (A0n X y N L a)
def A1P(X:List (List Rat))(N L:Nat):Prop:=(C9 N L (F0 X,[]) L).2.length=L
section
variable {X:List (List Rat)} {N L:Nat} (hF:A1P X N L)
include hF
theorem A5s(y:List Rat)(a:Rat)(k:Nat):SolW (K8 X N) L (gq (I0 X y N L)) a (gi (E6 L k)) (gq (A1I X y N L a k)) :=
 B6p (fun i hi j hj=>A3L hi hj) (A3k hF) (E6 L k) a
omit hF in
theorem A5f(y:List Rat)(a:Rat)(k:Nat):H3 a (L6 X y N L k)=true↔A5Z (K8 X N) L (gq (I0 X y N L)) a (gi (E6 L k)) (gq (A1I X y N L a k)) :=
 B0o (G:=K8 X N) (fun i hi j hj=>A3L hi hj) (E6 L k) _ _ a L (B9G _)
theorem B5e(y:List Rat)(a:Rat):∃k,k<3^L∧H3 a (L6 X y N L k)=true:=by
 obtain⟨k,hk,h⟩:=B1O (G:=K8 X N) (n:=L) (p:=gq (I0 X y N L)) (a:=a) (fun i _ j _=>A76 X N i j) (A7G X N L) (A3k hF) (3^L) (fun k=>gi (E6 L k)) (fun k=>gq (A1I X y N L a k)) (fun k _=>A4J L k) (fun k _=>A5s hF y a k) (fun s hs=>by
  obtain⟨c,hc,he⟩:=A98 s L hs
  exact⟨c,hc,fun i hi=>by rw[B0g hi];exact he i hi⟩)
 exact⟨k,hk,(A5f y a k).2 h⟩
theorem A52(y:List Rat)(a:Rat):A0n X y N L a<3^L∧H3 a (L6 X y N L (A0n X y N L a))=true∧∀j,j<A0n X y N L a→H3 a (L6 X y N L j)=false:=by
 obtain⟨h1,h2,h3,h4⟩:=A4Q (fun k=>!H3 a (L6 X y N L k)) (3^L) 0;have hlt:A0n X y N L a<3^L:=by
  rcases B9H (A0n X y N L a) (3^L)with h|h
  ·exact h
  ·obtain⟨k,hk,hh⟩:=B5e hF y a;have:=h3 k (B9y _) (by unfold A0n at h;omega);simp only[hh]at this;cases this
 refine⟨hlt,?_,fun j hj=>?_⟩
 ·have:=h4 (by unfold A0n at hlt;omega)
  simpa [A0n]using this
 ·have:=h3 j (B9y _) hj
  simpa using this
theorem B6e(y:List Rat){a:Rat}(ha:0≤a):Kkt (K8 X N) L (gq (I0 X y N L)) a (gq (A1Z X y N L a)) :=
 A9u (A4J L _) ha (A5s hF y a _) ((A5f y a _).1 (A52 hF y a).2.1)
theorem B10(y:List Rat){a:Rat}(ha:0≤a){w:Nat→Rat}(h:Kkt (K8 X N) L (gq (I0 X y N L)) a w):∀i,i<L→w i=gq (A1Z X y N L a) i :=
 B2A (fun i _ j _=>A76 X N i j) (A7G X N L) (A3k hF) ha (B6e hF y ha) h
end
theorem B8E(X:List (List Rat))(y:List Rat)(N L:Nat)(a:Rat):(A1Z X y N L a).length=L:=by
 unfold A1Z A1I I5;simp
theorem B2h{l m:List Rat}{n:Nat}(h1:l.length=n)(h2:m.length=n)(h:∀i,i<n→gq l i=gq m i):l=m:=by
 apply B9W (by omega);intro i hi hj;have:=h i (by omega);unfold gq at this;rw[B9w hi,B9w hj]at this;exact this
section
variable {X:List (List Rat)} {y:List Rat} {N L s g:Nat} (hN:N≤300) (hX:∀i,i<N→∀j,j<L→qs (gq (B7 X i) j)≤s) (hys:∀i,i<N→qs (gq y i)≤s) (hg:N*(s+s+1)+1≤g)
include hX hg
theorem B0a{i j:Nat}(hi:i<L)(hj:j<L):qs (gq (B7 (J9 X N L) i) j)≤g:=by
 rw[A3L hi hj];have h1:=A1J (a:=H8 X i N) (b:=H8 X j N) (n:=N) (s:=s) (t:=s) (fun r hr=>by rw[A1O X i N hr];exact hX r hr i hi) (fun r hr=>by rw[A1O X j N hr];exact hX r hr j hj) N (B9G _);exact B9Y h1 hg
include hys
theorem B53{i:Nat}(hi:i<L):qs (gq (I0 X y N L) i)≤g:=by
 rw[show gq (I0 X y N L) i=E7 (H8 X i N) y N from W8 _ hi];have h1:=A1J (a:=H8 X i N) (b:=y) (n:=N) (s:=s) (t:=s) (fun r hr=>by rw[A1O X i N hr];exact hX r hr i hi) hys N (B9G _);exact B9Y h1 hg
end
theorem B0i(x:Int)(h1 : -1≤x)(h2:x≤1):qs (C1 x)≤1:=by
 have:x = -1∨x=0∨x=1:=by omega
 rcases this with rfl|rfl|rfl<;>decide
theorem B6D(n c:Nat):(E6 n c).length=n:=by unfold E6;simp
theorem A5j{n c i:Nat}(hi:i<n) : -1≤gi (E6 n c) i∧gi (E6 n c) i≤1:=by
 have:=A4J n c i hi;omega
theorem A8O{X:List (List Rat)}{y:List Rat}{N L g:Nat}(hg1:1≤g)(hL:L≤6)(hG:∀i,i<L→∀j,j<L→qs (gq (B7 (J9 X N L) i) j)≤g)(hP:∀i,i<L→qs (gq (I0 X y N L) i)≤g)(k:Nat) :
  (∀i,qs (gq (Q5 X y N L k) i)≤g*10^(L+1))∧(∀i,qs (gq (R6 X N L k) i)≤g*10^(L+1))∧∀x∈L6 X y N L k,qs x.1≤20*(g*10^(L+1))∧qs x.2≤20*(g*10^(L+1)):=by
 obtain⟨Z,hZ⟩:∃Z,Z=g*10^(L+1):=⟨_,rfl⟩
 have hgZ:10*g≤Z:=by
  rw[hZ,Nat.pow_succ,B97 (10^L) 10,←C0e,B97 g 10];exact C0c _ (C07 (by omega))
 have hv1:=A4d (y:=W4 (I0 X y N L) (F5 (E6 L k) L)) (U:=F5 (E6 L k) L) (n:=L) A1f (A45 _ _) hG hg1 (fun j hj=>by unfold W4;rw[A2A hj];exact hP _ (A1f _ (P4 hj)))
 have hv2:=A4d (y:=V7 (E6 L k) (F5 (E6 L k) L)) (U:=F5 (E6 L k) L) (n:=L) A1f (A45 _ _) hG hg1 (fun j hj=>by
  unfold V7;rw[A2A hj];obtain⟨h1,h2⟩:=A5j (c:=k) (A1f _ (P4 hj))
  exact B9Y (B0i _ (by omega) (by omega)) hg1)
 rw[←hZ]at hv1 hv2⊢;have hF:∀i,qs (gq (Q5 X y N L k) i)≤Z:=fun i=>A3Z hv1 (by omega) _ (B9G _) i;have hB:∀i,qs (gq (R6 X N L k) i)≤Z:=fun i=>A3Z hv2 (by omega) _ (B9G _) i;refine⟨hF,hB,fun x hx=>?_⟩;unfold L6 Y9 at hx;obtain⟨i,hi,hx⟩:=List.mem_flatMap.1 hx;have hi:=List.mem_range.1 hi;obtain⟨h1,h2⟩:=A5j (c:=k) hi;have q1:=B0i _ h1 h2;have q2:qs (C1 1)≤1:=by decide
 unfold Z0 at hx;split at hx
 ·rw[List.mem_singleton]at hx;subst hx;have z1:=A0d (gq (R6 X N L k) i) (C1 (gi (E6 L k) i));have z2:=A0d (gq (Q5 X y N L k) i) (C1 (gi (E6 L k) i));have z3:=hF i;have z4:=hB i;unfold D8;exact⟨by simp only;omega,by simp only;omega⟩
 ·have hd:=fun(W:List Rat) (hW:∀i,qs (gq W i)≤Z)=>A1J (a:=B7 (J9 X N L) i) (b:=W) (n:=L) (s:=g) (t:=Z) (fun j hj=>hG i hi j hj) (fun j _=>hW j) L (B9G _);have d1:=hd _ hF;have d2:=hd _ hB;have d3:L*(g+Z+1)≤6*(g+Z+1):=B94 _ hL;have z5:=hP i hi;have z1:=A01 (C1 1) (E7 (B7 (J9 X N L) i) (R6 X N L k) L);have z2:=A01 (gq (I0 X y N L) i) (E7 (B7 (J9 X N L) i) (Q5 X y N L k) L);have z3:=A3U (C1 1) (E7 (B7 (J9 X N L) i) (R6 X N L k) L);simp only[List.mem_cons,List.not_mem_nil,or_false]at hx;rcases hx with rfl|rfl
  ·unfold F8;exact⟨by simp only;omega,by simp only;omega⟩
  ·have z4:qs (I7 (F8 (gq (I0 X y N L) i) (E7 (B7 (J9 X N L) i) (Q5 X y N L k) L)))=qs (F8 (gq (I0 X y N L) i) (E7 (B7 (J9 X N L) i) (Q5 X y N L k) L)):=A2d _;simp only;rw[z4];unfold F8 H5;exact⟨by omega,by omega⟩
theorem B0c(X:List (List Rat))(y:List Rat)(N L k:Nat)(hL:L≤6):(Q5 X y N L k).length=L∧(R6 X N L k).length=L∧(L6 X y N L k).length≤1000 :=
 ⟨Z7 _ _ _ _,Z7 _ _ _ _,B9Y (A6K L) (by omega)⟩
theorem B8C(X:List (List Rat))(N L:Nat):(J9 X N L).length=L∧∀r∈J9 X N L,r.length=L:=by
 refine⟨by unfold J9;simp,fun r hr=>?_⟩;unfold J9 at hr;obtain⟨i,-,rfl⟩:=List.mem_map.1 hr;unfold G0;simp
theorem A7l{X:List (List Rat)}{y:List Rat}{N L g:Nat}(hF:A1P X N L)(hL1:1≤L)(hL:L≤6)(hg1:1≤g)(hG:∀i,i<L→∀j,j<L→qs (gq (B7 (J9 X N L) i) j)≤g)(hP:∀i,i<L→qs (gq (I0 X y N L) i)≤g)(hBz:100*(g*10^(L+1))≤BIG)(k:Nat) :
  A1q L (J9 X N L) (I0 X y N L) (E6 L k) (Q5 X y N L k) (R6 X N L k) (L6 X y N L k):=by
 obtain⟨g1,g2⟩:=B8C X N L
 exact B0H L hL1 hL _ _ _ g1 g2 (by unfold I0;simp) (B6D L k) (fun i hi=>A5j hi) g hg1 hG hP hBz
  (A5o (A64 _ _) A1f (fun i hi j hj=>A3L hi hj) (A3k hF) _) (A5o (A64 _ _) A1f (fun i hi j hj=>A3L hi hj) (A3k hF) _)
theorem B8f{a:Rat}(ha:0≤a):¬a.num<0:=by
 have:=Rat.num_nonneg.2 ha;omega
theorem B4L(A:Option Addr)(rs:List Rq)(N Lw c:Nat)(Y:Ax)(y:List Rat)(hn:rs.length=N)(hN1:1≤N)(hN2:N≤300)(hL1:1≤Lw)(hL2:Lw≤6)(hrl:∀r∈rs,r.2.2.length=Lw)(hy:y.length=N)(s g:Nat)(hs1:1≤s)(hs:s≤10000)(hX:∀i,i<N→∀j,j<Lw→qs (gq (B7 (rs.map (·.2.2)) i) j)≤s)(hys:∀i,i<N→qs (gq y i)≤s)(hg:N*(s+s+1)+1≤g)(hBz:100*(g*10^(Lw+1))≤BIG)(a:Rat)(ha0:0≤a)(haz:qs a≤g)
  (hun:A1P (rs.map (·.2.2)) N Lw) (w:World) (h:Lrq w A rs) (h2:Lq w Y.1 y) (HT:Tab w) :
  Calls Tryz.prog 14 #[.slice A N c,.slice Y.1 N Y.2,qV a] w (G1 (fun x:Ax=>.tuple #[.slice x.1 Lw x.2,.int .i64 0]) (fun x W=>Lq W x.1 (A1Z (rs.map (·.2.2)) y N Lw a)) w):=by
 have hG:=fun i (hi:i<Lw) j (hj:j<Lw)=>B0a hX hg hi hj;have hP:=fun i (hi:i<Lw)=>B53 hX hys hg hi;obtain⟨k1,k2,k3⟩:=A52 hun y a;have hgZ:10*g≤g*10^(Lw+1):=by
  rw[Nat.pow_succ,B97 (10^Lw) 10,←C0e,B97 g 10];exact C0c _ (C07 (by omega))
 have hz1:qs a≤20*(g*10^(Lw+1)):=by
  generalize g*10^(Lw+1)=Z at *;omega
 have hz2:4*(20*(g*10^(Lw+1)))+10≤BIG:=by
  generalize g*10^(Lw+1)=Z at *;omega
 have hsz:∀k,k<3^Lw→(∀i,i<Lw→qs (gq (Q5 (rs.map (·.2.2)) y N Lw k) i)≤20*(g*10^(Lw+1)))∧(∀i,i<Lw→qs (gq (R6 (rs.map (·.2.2)) N Lw k) i)≤20*(g*10^(Lw+1)))∧∀x∈L6 (rs.map (·.2.2)) y N Lw k,qs x.1≤20*(g*10^(Lw+1))∧qs x.2≤20*(g*10^(Lw+1)):=fun k _=>by
  obtain⟨z1,z2,z3⟩:=A8O (by omega) hL2 hG hP k;generalize g*10^(Lw+1)=Z at *;exact⟨fun i _=>B9Y (z1 i) (by omega),fun i _=>B9Y (z2 i) (by omega),z3⟩
 have hsv:∀k,k<3^Lw→A1q Lw (J9 (rs.map (·.2.2)) N Lw) (I0 (rs.map (·.2.2)) y N Lw) (E6 Lw k) (Q5 (rs.map (·.2.2)) y N Lw k) (R6 (rs.map (·.2.2)) N Lw k) (L6 (rs.map (·.2.2)) y N Lw k):=fun k _=>A7l hun hL1 hL2 (by omega) hG hP hBz k;have hln:∀k,k<3^Lw→(Q5 (rs.map (·.2.2)) y N Lw k).length=Lw∧(R6 (rs.map (·.2.2)) N Lw k).length=Lw∧(L6 (rs.map (·.2.2)) y N Lw k).length≤1000:=fun k _=>B0c _ y N Lw k hL2;unfold A1Z A1I;obtain⟨kk,hkk⟩:∃kk,kk=A0n (rs.map (·.2.2)) y N Lw a:=⟨_,rfl⟩
 rw[←hkk]at k1 k2 k3⊢;obtain⟨Z,hZ⟩:∃Z,Z=20*(g*10^(Lw+1)):=⟨_,rfl⟩
 rw[←hZ]at hz1 hz2;simp only[←hZ]at hsz;obtain⟨F,hF⟩:∃F,F=Q5 (rs.map (·.2.2)) y N Lw:=⟨_,rfl⟩
 obtain⟨B,hB⟩:∃B,B=R6 (rs.map (·.2.2)) N Lw:=⟨_,rfl⟩
 obtain⟨LM,hLM⟩:∃LM,LM=L6 (rs.map (·.2.2)) y N Lw:=⟨_,rfl⟩
 rw[←hLM]at k2 k3;simp only[←hF,←hB,←hLM]at hsz hsv hln⊢;exact A9g A rs N Lw c Y y hn hN1 hN2 hL1 hL2 hrl hy s hs1 hs hX hys a (B8f ha0) hun F B LM Z hz1 hz2 hln hsz hsv kk k1 k2 k3 w h h2 HT
theorem B2v(A Y:Option Addr)(N M c d:Nat)(a:Rat)(ha:0≤a)(haz:qs a≤BIG)(z:Int)(hz:(z != 0)=true)(w:World)(hs:∀W,A4 w W→Calls Tryz.prog 57 #[.slice A N c,.slice Y M d] W fun e w'=>e = .returned (.bool true)∧A4 W w')
  (hu:∀W,A4 w W→Calls Tryz.prog 58 #[.slice A N c] W fun e w'=>e = .returned (.int .i64 z)∧A4 W w') :
  Calls Tryz.prog 14 #[.slice A N c,.slice Y M d,qV a] w fun e w'=>e = .returned (.tuple #[.slice none 0 0,.int .i64 z])∧A4 w w':=by
 have hfs:=fun(W:World)=>R3 a (by have:=G8 a;have:=K5;omega) W;have hsg:decide (a.num.sign<0)=false:=by
  have h1:¬a<0:=by grind
  have h2:=@A4s a;rcases A4U a with e|e|e
  ·rw[e];rfl
  ·exact absurd (h2.1 e) h1
  ·rw[e];rfl
 obtain⟨S,hS⟩:∃S,S=a.num.sign:=⟨_,rfl⟩
 rw[←hS]at hsg;simp only[←hS]at hfs;have Hs:=B9g hs;have Hu:=B9g hu;have Hfs:=B9g hfs;clear hs hu hfs ha haz hS;go_enter Tryz.func14,Tryz.ntmps14;refine en3 ?_;intro u hG b7 b6 b5 hB hF;refine B9b ?_;refine B9b (rsE D3 [0,0,1,0] hB hG fun L hL=>?_);refine gs ?_;refine gmd (C:=fun v ⟨hgu,hB,hG,_⟩=>Hs.out _ hG) ?_;refine gs ?_;refine geT hL ?_;clear hB hG hL L;rintro u ⟨-,hB,hG,-⟩;refine B9h (rfl) ?_;refine B9i ?_;refine A6 ?_;refine B9b ?_;refine B9b (rsE D3 [0,1,0] hB hG fun L hL=>?_);refine gs ?_;refine gmw (C:=fun v=>Hfs.out _) ?_;refine gs ?_;refine geT hL ?_;clear hB hG hL L;rintro u ⟨-,hB,hG,-⟩;refine B9h (rfl) ?_;refine B9i ?_;refine A6 ?_;refine B9b ?_;refine B9b (rsE D3 [0,1,0] hB hG fun L hL=>?_);refine gs ?_;refine gmd (C:=fun v ⟨hgu,hB,hG,_⟩=>Hu.out _ hG) ?_;refine gs ?_;refine geT hL ?_;clear hB hG hL L;rintro u ⟨-,hB,hG,-⟩;refine r0T ?_;refine B9j (rfl) ?_;have hD:b6≠b7∧b7≠b6:=⟨hF.ne 1 2 rfl rfl (by decide),hF.ne 2 1 rfl rfl (by decide)⟩
 refine r0T ?_;clear hD;refine st2 hB hF hG 1 0 [_] 2 0 [_] ?_;clear hB hG;intro u hB hG;refine rt Tryz.results14 ?_;exact⟨rfl,hG⟩
end Go.Proofs.YtgpglgbcobeogaaGreatDoor
