import Derived.Test.YtgpglgbcobeogaaGreatDoorL40
import Derived.Test.YtgpglgbcobeogaaGreatDoorL41
set_option linter.unusedSimpArgs false
set_option linter.unusedVariables false
set_option maxHeartbeats 4000000
set_option maxRecDepth 100000
namespace Go.Proofs.YtgpglgbcobeogaaGreatDoor
open Go Go.RowKit
theorem A8q(a:Rat):T0 a=H7 a:=by
 unfold T0 H7 Rat.abs;rfl
theorem B7b{p w a:Rat}(h:S9 p w a=true):(0<w/\p=a)\/(w<0/\p = -a)\/(w=0/\H7 p<=a):=by
 unfold S9 at h;by_cases h1:0<w
 ·rw[if_pos h1]at h;exact .inl ⟨h1,B86 h⟩
 ·rw[if_neg h1]at h;by_cases h2:w<0
  ·rw[if_pos h2]at h;exact .inr (.inl ⟨h2,B86 h⟩)
  ·rw[if_neg h2]at h;refine .inr (.inr ⟨by grind,?_⟩);have:=B86 h
   rwa [A8q]at this
theorem B0y{p w a:Rat}(h:(0<w/\p=a)\/(w<0/\p = -a)\/(w=0/\H7 p<=a)):S9 p w a=true:=by
 unfold S9;rcases h with⟨h1,h2⟩|⟨h1,h2⟩|⟨h1,h2⟩
 ·rw[if_pos h1];exact B87 h2
 ·rw[if_neg (by grind),if_pos h1];exact B87 h2
 ·rw[if_neg (by grind),if_neg (by grind)];exact B87 (by rw[A8q];exact h2)
theorem A0r(x:Rat):(0<=x/\H7 x=x)\/(x<=0/\H7 x = -x):=by
 unfold H7;by_cases h:0<=x
 ·exact .inl ⟨h,if_pos h⟩
 ·exact .inr ⟨by grind,if_neg h⟩
theorem A5Y(p a u:Rat)(h:H7 p<=a):p*u<=a*H7 u:=by
 have h1:p<=a /\ -a<=p:=by
  rcases A0r p with⟨h1,h2⟩|⟨h1,h2⟩<;>constructor<;>grind
 rcases A0r u with⟨h2,h3⟩|⟨h2,h3⟩
 ·have:=C0E (a:=a-p) (b:=u) (by grind) h2;rw[h3];grind
 ·have:=C0E (a:=a+p) (b:=-u) (by grind) (by grind);rw[h3];grind
theorem B7f{p w a u:Rat}(h:S9 p w a=true)(ha:0<=a):0<=a*H7 u-a*H7 w-p*(u-w):=by
 rcases B7b h with⟨h1,h2⟩|⟨h1,h2⟩|⟨h1,h2⟩
 ·subst h2;have e:H7 w=w:=by rcases A0r w with⟨h3,h4⟩|⟨h3,h4⟩<;>grind
  have h5:=A5Y p p u (by rcases A0r p with⟨h3,h4⟩|⟨h3,h4⟩<;>grind);rw[e];grind
 ·have e:H7 w = -w:=by rcases A0r w with⟨h3,h4⟩|⟨h3,h4⟩<;>grind
  have h5:=A5Y (-a) a u (by rcases A0r (-a)with⟨h3,h4⟩|⟨h3,h4⟩<;>grind);rw[e,h2];grind
 ·subst h1;have e:H7 0=0:=by rcases A0r 0 with⟨h3,h4⟩|⟨h3,h4⟩<;>grind
  have h5:=A5Y p a u h2;rw[e];grind
section
variable {G:Mx} {n:Nat} {p:Nat->Rat} {a:Rat} {w u:Nat->Rat}
theorem B2T{x y:Nat->Rat}(h:∀i,i<n->x i=y i):obj G n p a x=obj G n p a y:=by
 have e:=A3d (G:=G) (p:=p) (a:=a) (s:=λ_=>0) h;rw[A9N (s:=λ_=>0),A9N (s:=λ_=>0),e,H5 (λi hi=>by rw[h i hi]:∀i,i<n->H7 (x i)=H7 (y i))];congr 2;unfold lin;rw[H5 (λi hi=>by rw[h i hi]:∀i,i<n->((0:Int):Rat)*x i=((0:Int):Rat)*y i)]
theorem B0S(hG:∀i,i<n->∀j,j<n->G i j=G j i)(ha:0<=a)(h:Kkt G n p a w):obj G n p a w+frm G n (λi=>u i-w i) (λi=>u i-w i)<=obj G n p a u:=by
 obtain⟨d,hd⟩:∃d:Nat->Rat,d=λi=>u i-w i:=⟨_,rfl⟩
 rw[<-hd];have hdi:∀i,d i=u i-w i:=λi=>by rw[hd]
 have e0:obj G n p a u=obj G n p a (λi=>w i+1*d i):=B2T λi _=>by rw[hdi];grind
 have e1:obj G n p a (λi=>w i+1*d i)=frm G n w w+2*frm G n d w+frm G n d d-2*(lin p w n+lin p d n)+2*a*D2 (λi=>H7 (u i)) n:=by
  unfold obj;rw[A7U hG,A6H,H5 (λi _=>by rw[hdi,show w i+1*(u i-w i)=u i by grind]:∀i,i<n->H7 (w i+1*d i)=H7 (u i))];grind
 have e2:0<=D2 (λi=>a*H7 (u i)-a*H7 (w i)-(p i-E0 (G i) w n)*d i) n:=A4o λi hi=>by rw[hdi];exact B7f (h i hi) ha
 have e3:D2 (λi=>a*H7 (u i)-a*H7 (w i)-(p i-E0 (G i) w n)*d i) n=a*D2 (λi=>H7 (u i)) n-a*D2 (λi=>H7 (w i)) n-(lin p d n-frm G n d w):=by
  unfold frm lin;rw[<-S5,<-S5,<-A2a,<-A2a,<-A2a];exact H5 λi _=>by grind
 rw[e3]at e2;rw[e0,e1];unfold obj;grind
theorem B27(hG:∀i,i<n->∀j,j<n->G i j=G j i)(hD:∀x,frm G n x x<=0->∀j,j<n->x j=0)(ha:0<=a)(h:Kkt G n p a w)(h':obj G n p a u<=obj G n p a w):∀i,i<n->u i=w i:=λi hi=>by
 have h1:=B0S (u:=u) hG ha h;have h2:=hD (λi=>u i-w i) (by grind) i hi;have h3:u i-w i=0:=h2;grind
theorem B5I(hG:∀i,i<n->∀j,j<n->G i j=G j i)(hP:∀x,0<=frm G n x x)(hD:∀x,frm G n x x<=0->∀j,j<n->x j=0)(ha:0<=a)(h:Kkt G n p a w)(h':Kkt G n p a u):∀i,i<n->u i=w i :=
 B27 hG hD ha h (by have h1:=B0S (u:=w) hG ha h';have h2:=hP λi=>w i-u i;grind)
theorem B7K{s:Nat->Int}(hs:Sgn n s)(ha:0<=a)(hw:SolW G n p a s w)(h:A6Z G n p a s w):Kkt G n p a w:=λi hi=>by
 have h1:=h i hi;apply B0y;by_cases e:s i≠0
 ·rw[if_pos e]at h1;have h2:=hw.on i hi e;rw[h2];have aa:H7 a=a:=by rcases A0r a with⟨h3,h4⟩|⟨h3,h4⟩<;>grind
  have am:H7 (-a)=a:=by rcases A0r (-a)with⟨h3,h4⟩|⟨h3,h4⟩<;>grind
  rcases hs i hi with e1|e1|e1
  ·rw[e1]at h1⊢;have e2:((-1:Int):Rat) = -1:=rfl;rw[e2]at h1⊢;have e3:p i-(p i-a * -1) = -a:=by grind
   rw[e3,am];by_cases h3:w i=0
   ·exact .inr (.inr ⟨h3,by grind⟩)
   ·exact .inr (.inl ⟨by grind,rfl⟩)
  ·exact absurd e1 e
  ·rw[e1]at h1⊢;have e2:((1:Int):Rat)=1:=rfl;rw[e2]at h1⊢;have e3:p i-(p i-a*1)=a:=by grind
   rw[e3,aa];by_cases h3:w i=0
   ·exact .inr (.inr ⟨h3,by grind⟩)
   ·exact .inl ⟨by grind,rfl⟩
 ·rw[if_neg e]at h1;exact .inr (.inr ⟨hw.off i hi (Decidable.not_not.1 e),h1⟩)
end
theorem A8v(a b:List Rat)(n:Nat):E7 a b n=E0 (gq a) (gq b) n:=rfl
theorem A9E(X:List (List Rat))(N i j:Nat):J7 X N i j=J7 X N j i:=A5J _ _ _
theorem B61(X:List (List Rat))(N i j:Nat):J7 X N i j=D2 (λr=>D7 X r i*D7 X r j) N:=by
 unfold J7 E7;exact H5 λr hr=>by rw[A0k X i N hr,A0k X j N hr];rfl
theorem A83(X:List (List Rat))(N L i:Nat)(v:Nat->Rat):E0 (J7 X N i) v L=D2 (λr=>D7 X r i*E0 (D7 X r) v L) N:=by
 have e:E0 (J7 X N i) v L=D2 (λj=>D2 (λr=>D7 X r i*D7 X r j*v j) N) L:=H5 λj _=>by
  rw[B61,Rat.mul_comm,<-S5];exact H5 λr _=>by grind
 rw[e,A3M];refine H5 λr _=>?_;unfold E0;rw[<-S5];exact H5 λj _=>by grind
theorem A7k(X:List (List Rat))(N L:Nat)(v u:Nat->Rat):frm (J7 X N) L v u=D2 (λr=>E0 (D7 X r) v L*E0 (D7 X r) u L) N:=by
 have e:frm (J7 X N) L v u=D2 (λi=>D2 (λr=>v i*D7 X r i*E0 (D7 X r) u L) N) L:=H5 λi _=>by
  rw[A83,<-S5];exact H5 λr _=>by grind
 rw[e,A3M];refine H5 λr _=>?_;show _=D2 _ L*_;rw[Rat.mul_comm (D2 _ L),<-S5];exact H5 λj _=>by grind
theorem A8a(X:List (List Rat))(N L:Nat)(v:Nat->Rat):0<=frm (J7 X N) L v v:=by
 rw[A7k];exact A4o λr _=>A69 _
theorem A2H{X:List (List Rat)}{N L:Nat}(h:(C0 N L (D7 X,[]) L).2.length=L)(v:Nat->Rat)(hv:frm (J7 X N) L v v<=0):∀j,j<L->v j=0:=by
 rw[A7k]at hv;have h1:=A7O (λr _=>A69 _) hv;exact B2z h λi hi=>B2y (h1 i hi)
theorem A5S(X:List (List Rat))(y w:List Rat)(N L:Nat){j:Nat}(hj:j<L):gq (P8 X y w N L) j=gq (I1 X y N L) j-E0 (J7 X N j) (gq w) L:=by
 rw[A8X X y w N L hj,A83,show gq (I1 X y N L) j=E7 (G1 X j N) y N from S6 _ hj];unfold E7;rw[<-A2a];refine H5 λi hi=>?_;rw[A8s X y w N L hi,A0k X j N hi,A5J w];unfold C3 G0;show _*(_-E0 (D7 X i) (gq w) L)=_-D7 X i j*_;rw[show D7 X i j=gq (B6 X i) j from rfl];grind
theorem B2C{m:Nat}{M:Mx}(h:(C0 m (m+1) (M,[]) (m+1)).2=List.range m):∀i,i<m->D2 (λj=>M i j*(C0 m (m+1) (M,[]) (m+1)).1 j m) m=M i m:=by
 obtain⟨e1,e2⟩:=A4M (n:=m) (L:=m+1) M (m+1) (K2 _);obtain⟨s,hs⟩:∃s,s=C0 m (m+1) (M,[]) (m+1):=⟨_,rfl⟩
 obtain⟨V,hV⟩:∃V:Nat->Rat,V=λj=>if j<m then s.1 j m else -1:=⟨_,rfl⟩
 have hk:=(A41 (n:=m) (L:=m+1) (s:=(M,[])) (v:=V) (m+1))
 have hVl:∀j,j<m->V j=s.1 j m:=λj hj=>by rw[hV];exact if_pos hj
 have hVm:V m = -1:=by rw[hV];exact if_neg (Nat.lt_irrefl m)
 rw[<-hs]at h e1 e2 hk⊢
 have hd:∀i,i<m->∀j,j<m->s.1 i j=if i=j then 1 else 0:=λi hi j hj=>by
  have:=e2 j (by rw[h];simpa using hj) i hi;rw[h,A26 hj]at this;exact this
 have h1:ker s.1 m (m+1) V:=λi hi=>by
  unfold E0;rw[A0W,hVm,A1Q hi λj hj hne=>by rw[hd i hi j hj,if_neg (λe=>hne e.symm)];grind,hd i hi i hi,if_pos rfl,hVl i hi];grind
 intro i hi;have h2:E0 (M i) V (m+1)=0:=hk.1 h1 i hi;unfold E0 at h2;rw[A0W,hVm,H5 (λj hj=>by rw[hVl j hj]:∀j,j<m->M i j*V j=M i j*s.1 j m)]at h2;grind
theorem B7M{m:Nat}{M:Mx}(h:∀v,(∀i,i<m->E0 (M i) v m=0)->∀j,j<m->v j=0):(C0 m (m+1) (M,[]) (m+1)).2=List.range m:=by
 have h1:=A9F (n:=m) (L:=m+1) (m:=m) (M:=M) (by omega) (λv hv hk=>h v λi hi=>by
  have h2:=hk i hi;unfold E0 at h2⊢;rw[A0W,hv m (K2 _)]at h2
  grind) m (K2 _)
 show(L0 m (m+1) (C0 m (m+1) (M,[]) m) m).2=_;unfold L0;rw[if_neg ?_,h1];show ¬K8 _ m (C0 m (m+1) (M,[]) m).2.length m<m;rw[h1,List.length_range,A8F (K2 _)];omega
theorem B0X{X:List (List Rat)}{y:List Rat}{m i j:Nat}(hi:i<m)(hl:(B6 X i).length=m)(hj:j<m):D7 (aug X y m) i j=gq (B6 X i) j:=by
 have e1:B6 (aug X y m) i=B6 X i++[gq y i]:=A1c hi;show gq (B6 (aug X y m) i) j=_;rw[e1];show((B6 X i++[gq y i])[j]?).getD 0=_;rw[B9u (by omega)];rfl
theorem B3j{X:List (List Rat)}{y:List Rat}{m i:Nat}(hi:i<m)(hl:(B6 X i).length=m):D7 (aug X y m) i m=gq y i:=by
 have e1:B6 (aug X y m) i=B6 X i++[gq y i]:=A1c hi;show gq (B6 (aug X y m) i) m=_;rw[e1];show((B6 X i++[gq y i])[m]?).getD 0=_;rw[B9v (by omega),hl,B8g];rfl
theorem A5l{GR:List (List Rat)}{U:List Nat}{i:Nat}(hi:i<U.length):(B6 (M8 GR U) i).length=U.length:=by
 unfold B6 M8;rw[List.getElem?_map,B8i hi];simp
def U7(U:List Nat)(v:Nat->Rat)(t:Nat):Rat:=D2 (λk=>if nx U k=t then v k else 0) U.length
theorem A84{U:List Nat}(hU:U.Pairwise (· < ·)){i j:Nat}(hi:i<U.length)(hj:j<U.length)(h:nx U i=nx U j):i=j:=by
 have h1:=List.pairwise_iff_getElem.1 hU;unfold nx at h;rw[B8i hi,B8i hj]at h;have h2:U[i]=U[j]:=h;rcases B85 i j with h3|h3|h3
 ·have:=h1 i j hi hj h3;omega
 ·exact h3
 ·have:=h1 j i hj hi h3;omega
section
variable {U:List Nat} {n:Nat} (hU:U.Pairwise (· < ·)) (hn:∀x∈U,x<n)
include hU
theorem B4W(v:Nat->Rat){k:Nat}(hk:k<U.length):U7 U v (nx U k)=v k:=by
 unfold U7;rw[A1Q hk λj hj hne=>if_neg λe=>hne (A84 hU hj hk e),if_pos rfl]
omit hU in
theorem A6Q(v:Nat->Rat){t:Nat}(h:t∉U):U7 U v t=0 :=
 A0j λk hk=>if_neg λe=>h (by rw[<-e];exact O3 hk)
include hn
omit hU in
theorem A8U(c v:Nat->Rat):D2 (λt=>c t*U7 U v t) n=D2 (λk=>c (nx U k)*v k) U.length:=by
 have e:D2 (λt=>c t*U7 U v t) n=D2 (λt=>D2 (λk=>if nx U k=t then c t*v k else 0) U.length) n:=H5 λt _=>by
  unfold U7;rw[<-S5];exact H5 λk _=>by split<;>grind
 rw[e,A3M];refine H5 λk hk=>?_;rw[A1Q (hn _ (O3 hk)) λt ht hne=>if_neg λe=>hne e.symm,if_pos rfl]
theorem A67(v:Nat->Rat):∀k,k<=U.length->∀t,gq (J4 U v n k) t=D2 (λi=>if nx U i=t then v i else 0) k
 | 0,_,t=>by
  unfold gq J4;rw[B9f];split<;>rfl
 | k+1,hk,t=>by
  show gq ((J4 U v n k).set (nx U k) (v k)) t=_;rw[A8e,A0W,Y0];have hlt:=hn _ (O3 (l:=U) (i:=k) (by omega));by_cases e:t=nx U k
  ·rw[if_pos ⟨e,hlt⟩,if_pos e.symm,A0j λi hi=>if_neg λe2=>by
    have:=A84 hU (i:=i) (j:=k) (by omega) (by omega) (e2.trans e)
    omega]
   grind
  ·rw[if_neg λh=>e h.1,if_neg λh=>e h.symm,A67 v k (by omega) t];grind
theorem A82(v:Nat->Rat)(t:Nat):gq (J4 U v n U.length) t=U7 U v t:=A67 hU hn v _ (K2 _) t
end
theorem A3e(sg:List Int)(i:Nat):(F8 sg i).Pairwise (· < ·):=by
 unfold F8;exact List.Pairwise.filter _ (List.pairwise_lt_range)
theorem A8Q{sg:List Int}{n i:Nat}:i∈F8 sg n↔i<n/\gi sg i≠0:=by
 unfold F8;rw[List.mem_filter,List.mem_range];simp
theorem A8h{U:List Nat}{x:Nat}(h:x∈U):∃k,k<U.length/\nx U k=x:=by
 obtain⟨k,hk,e⟩:=B9w h;exact⟨k,hk,by unfold nx;rw[B8i hk];exact e⟩
section
variable {GR:List (List Rat)} {U:List Nat} {n:Nat} {G:Mx} (hU:U.Pairwise (· < ·)) (hn:∀x∈U,x<n) (hG:∀i,i<n->∀j,j<n->gq (B6 GR i) j=G i j) (hD:∀x,frm G n x x<=0->∀j,j<n->x j=0)
include hU hn hG hD
theorem A3H(y:List Rat):A1k GR U y:=λ_=>B7M λv hv j hj=>by
 have hx:∀t,t∉U->U7 U v t=0:=λt ht=>A6Q v ht
 have h1:=hD (U7 U v) (by
  unfold frm;rw[A0j λi hi=>?_]
  ·exact C0D
  ·by_cases hi2:i∈U
   ·obtain⟨k,hk,rfl⟩:=A8h hi2;have h2:=hv k hk;have h3:E0 (G (nx U k)) (U7 U v) n=0:=by
     rw[show E0 (G (nx U k)) (U7 U v) n=_ from A8U hn (G (nx U k)) v,<-h2];exact H5 λl hl=>by rw[B0X hk (A5l hk) hl,A20 hk hl,hG _ (hn _ (O3 hk)) _ (hn _ (O3 hl))]
    rw[h3];grind
   ·rw[hx i hi2];grind) (nx U j) (hn _ (O3 hj))
 rwa [B4W hU v hj]at h1
theorem A9g(y:List Rat)(v:Nat->Rat)(hv:∀k,k<U.length->v k=P9 GR U y k){k:Nat}(hk:k<U.length):E0 (G (nx U k)) (U7 U v) n=gq y k:=by
 rw[show E0 (G (nx U k)) (U7 U v) n=_ from A8U hn (G (nx U k)) v];have h1:=B2C (A3H hU hn hG hD y (by omega)) k hk;rw[B3j hk (A5l hk)]at h1;rw[<-h1];exact H5 λl hl=>by rw[B0X hk (A5l hk) hl,A20 hk hl,hG _ (hn _ (O3 hk)) _ (hn _ (O3 hl)),hv l hl];rfl
end
theorem B6K{GR:List (List Rat)}{PL:List Rat}{n:Nat}{G:Mx}(hG:∀i,i<n->∀j,j<n->gq (B6 GR i) j=G i j)(hD:∀x,frm G n x x<=0->∀j,j<n->x j=0)(sg:List Int)(a:Rat) :
  SolW G n (gq PL) a (gi sg) (gq (M6 (Y8 GR PL sg n) (Y5 GR sg n) n a)):=by
 obtain⟨U,hUe⟩:∃U,U=F8 sg n:=⟨_,rfl⟩
 have hU:=A3e sg n;have hn:∀x∈F8 sg n,x<n:=A0e;have hw:∀t,t<n->gq (M6 (Y8 GR PL sg n) (Y5 GR sg n) n a) t=U7 U (P9 GR U (N3 PL U)) t+a*U7 U (P9 GR U (N6 sg U)) t:=λt ht=>by
  have e1:gq (M6 (Y8 GR PL sg n) (Y5 GR sg n) n a) t=G9 (gq (Y8 GR PL sg n) t) (C3 (gq (Y5 GR sg n) t) a):=S6 _ ht;rw[e1,hUe];unfold Y8 Y5 G9 C3;rw[A82 hU hn,A82 hU hn];grind
 rw[<-hUe]at hU hn;constructor
 ·intro i hi hs;obtain⟨k,hk,e⟩:=A8h (U:=U) (x:=i) (by rw[hUe];exact A8Q.2 ⟨hi,hs⟩);subst e;have e2:E0 (G (nx U k)) (gq (M6 (Y8 GR PL sg n) (Y5 GR sg n) n a)) n=E0 (G (nx U k)) (λt=>U7 U (P9 GR U (N3 PL U)) t+a*U7 U (P9 GR U (N6 sg U)) t) n:=H5 λt ht=>by rw[hw t ht]
  rw[e2,A4L,A9g hU hn hG hD (N3 PL U) _ (λ_ _=>rfl) hk,A9g hU hn hG hD (N6 sg U) _ (λ_ _=>rfl) hk];unfold N3 N6;rw[A0z hk,A0z hk];have e3:B9 (-(gi sg (nx U k))) = -((gi sg (nx U k):Int):Rat):=by unfold B9;exact Rat.intCast_neg _
  rw[e3];grind
 ·intro i hi hs;have hm:i∉U:=by rw[hUe];exact λh=>(A8Q.1 h).2 hs
  rw[hw i hi,A6Q _ hm,A6Q _ hm];grind
theorem A80{GR:List (List Rat)}{PL:List Rat}{n:Nat}{G:Mx}(hG:∀i,i<n->∀j,j<n->gq (B6 GR i) j=G i j)(sg:List Int)(F B:List Rat)(a:Rat):∀i,i<=n ->
  (J8 a (Z8 GR PL F B sg n i)=true↔∀t,t<i->if gi sg t≠0 then 0<=(gi sg t:Rat)*gq (M6 F B n a) t else H7 (gq PL t-E0 (G t) (gq (M6 F B n a)) n)<=a)
 | 0,_=>by
  constructor
  ·intro _ t ht;exact absurd ht (C0C _)
  ·intro _;rfl
 | i+1,hi=>by
  have ih:=A80 (PL:=PL) hG sg F B a i (by omega);rw[A4W];have e:J8 a (Z8 GR PL F B sg n i++Y9 GR PL F B sg n i)=(J8 a (Z8 GR PL F B sg n i)&&J8 a (Y9 GR PL F B sg n i)):=by
   unfold J8;rw[List.all_append]
  rw[e,Bool.and_eq_true,ih];have hwt:∀t,t<n->gq (M6 F B n a) t=gq F t+gq B t*a:=λt ht=>S6 _ ht
  have key:J8 a (Y9 GR PL F B sg n i)=true↔if gi sg i≠0 then 0<=(gi sg i:Rat)*gq (M6 F B n a) i else H7 (gq PL i-E0 (G i) (gq (M6 F B n a)) n)<=a:=by
   unfold Y9 J8;by_cases hs:gi sg i≠0
   ·rw[if_pos hs,if_pos hs,hwt i (by omega)];simp only[List.all_cons,List.all_nil,Bool.and_true];unfold A1t;rw[C0O];unfold G9 C3 B9;constructor<;>intro h<;>grind
   ·rw[if_neg hs,if_neg hs];simp only[List.all_cons,List.all_nil,Bool.and_true,Bool.and_eq_true];unfold A1t;rw[C0O,C0O];have e1:E0 (G i) (gq (M6 F B n a)) n=E7 (B6 GR i) F n+a*E7 (B6 GR i) B n:=by
     rw[A8v,A8v,show E0 (G i) (gq (M6 F B n a)) n=E0 (G i) (λt=>gq F t+a*gq B t) n from H5 λt ht=>by rw[hwt t ht];grind,A4L,A8O (λj hj=>(hG i (by omega) j hj).symm),A8O (λj hj=>(hG i (by omega) j hj).symm)]
    rw[e1];unfold G9 C3 G0 K4;have e2:B9 1=1:=rfl;rw[e2];rcases A0r (gq PL i-(E7 (B6 GR i) F n+a*E7 (B6 GR i) B n))with⟨h1,h2⟩|⟨h1,h2⟩<;>rw[h2]<;>constructor
    ·rintro⟨g1,g2⟩;grind
    ·intro g;constructor<;>grind
    ·rintro⟨g1,g2⟩;grind
    ·intro g;constructor<;>grind
  rw[key];constructor
  ·rintro⟨g1,g2⟩ t ht;by_cases e:t=i
   ·rw[e];exact g2
   ·exact g1 t (by omega)
  ·intro g;exact⟨λt ht=>g t (by omega),g i (by omega)⟩
theorem A1r{X:List (List Rat)}{N L i j:Nat}(hi:i<L)(hj:j<L):gq (B6 (J3 X N L) i) j=J7 X N i j:=by
 have e1:B6 (J3 X N L) i=C9 (J7 X N) L i:=A1c hi;rw[e1];exact S6 _ hj
theorem A9T{n c t:Nat}(h:t<n):gi (F6 n c) t=sgI c t:=by
 unfold gi F6;rw[List.getElem?_map,B98 h];rfl
theorem A6L(n c:Nat):Sgn n (gi (F6 n c)):=λi hi=>by
 rw[A9T hi];unfold sgI;have:c/3^i%3<3:=B8b _ (by omega);omega
theorem A7Q(s:Nat->Int):∀n,Sgn n s->∃c,c<3^n/\∀t,t<n->sgI c t=s t
 | 0,_=>⟨0,by simp,λt ht=>absurd ht (C0C _)⟩
 | n+1,h=>by
  obtain⟨c,hc,he⟩:=A7Q s n λi hi=>h i (by omega);obtain⟨d,hd⟩:∃d:Nat,(d:Int)=s n+1:=⟨(s n+1).toNat,by have:=h n (by omega);omega⟩
  have hd3:d<3:=by have:=h n (by omega);omega
  have h3:d*3^n<=2*3^n:=B8q _ (by omega);refine⟨c+d*3^n,by rw[Nat.pow_succ];omega,λt ht=>?_⟩;by_cases e:t=n
  ·subst e;unfold sgI;have e1:(c+d*3^t)/3^t=d:=by
    rw[Nat.add_mul_div_right _ _ (B9t (by omega)),B80 hc];omega
   rw[e1,Nat.mod_eq_of_lt hd3];omega
  ·have e1:(c+d*3^n)/3^t%3=c/3^t%3:=by
    obtain⟨m,hm⟩:∃m,n=t+(m+1):=⟨n-t-1,by omega⟩
    rw[hm,B8a,<-B9Q,Nat.mul_right_comm,Nat.add_mul_div_right _ _ (B9t (by omega)),Nat.pow_succ,<-B9Q,Nat.add_mul_mod_self_right]
   rw[<-he t (by omega)];unfold sgI;rw[e1]
def N4(X:List (List Rat))(y:List Rat)(N L k:Nat):List Rat:=Y8 (J3 X N L) (I1 X y N L) (F6 L k) L
def N1(X:List (List Rat))(N L k:Nat):List Rat:=Y5 (J3 X N L) (F6 L k) L
def W9(X:List (List Rat))(y:List Rat)(N L k:Nat):List Lm:=Z8 (J3 X N L) (I1 X y N L) (N4 X y N L k) (N1 X N L k) (F6 L k) L L
def U6(X:List (List Rat))(y:List Rat)(N L:Nat)(a:Rat):Nat:=X6 (λk=>!J8 a (W9 X y N L k)) (3^L) 0
def I9(X:List (List Rat))(y:List Rat)(N L:Nat)(a:Rat)(k:Nat):List Rat:=M6 (N4 X y N L k) (N1 X N L k) L a
def V7(X:List (List Rat))(y:List Rat)(N L:Nat)(a:Rat):List Rat:=I9 X y N L a (U6 X y N L a)
def A1T(X:List (List Rat))(N L:Nat):Prop:=(C0 N L (D7 X,[]) L).2.length=L
section
variable {X:List (List Rat)} {N L:Nat} (hF:A1T X N L)
include hF
theorem A9X(y:List Rat)(a:Rat)(k:Nat):SolW (J7 X N) L (gq (I1 X y N L)) a (gi (F6 L k)) (gq (I9 X y N L a k)) :=
 B6K (λi hi j hj=>A1r hi hj) (A2H hF) (F6 L k) a
omit hF in
theorem A7G(y:List Rat)(a:Rat)(k:Nat):J8 a (W9 X y N L k)=true↔A6Z (J7 X N) L (gq (I1 X y N L)) a (gi (F6 L k)) (gq (I9 X y N L a k)) :=
 A80 (G:=J7 X N) (λi hi j hj=>A1r hi hj) (F6 L k) _ _ a L (K2 _)
theorem B7c(y:List Rat)(a:Rat):∃k,k<3^L/\J8 a (W9 X y N L k)=true:=by
 obtain⟨k,hk,h⟩:=B3N (G:=J7 X N) (n:=L) (p:=gq (I1 X y N L)) (a:=a) (λi _ j _=>A9E X N i j) (A8a X N L) (A2H hF) (3^L) (λk=>gi (F6 L k)) (λk=>gq (I9 X y N L a k)) (λk _=>A6L L k) (λk _=>A9X hF y a k) (λs hs=>by
  obtain⟨c,hc,he⟩:=A7Q s L hs
  exact⟨c,hc,λi hi=>by rw[A9T hi];exact he i hi⟩)
 exact⟨k,hk,(A7G y a k).2 h⟩
theorem A6K(y:List Rat)(a:Rat):U6 X y N L a<3^L/\J8 a (W9 X y N L (U6 X y N L a))=true/\∀j,j<U6 X y N L a->J8 a (W9 X y N L j)=false:=by
 obtain⟨h1,h2,h3,h4⟩:=A16 (λk=>!J8 a (W9 X y N L k)) (3^L) 0;have hlt:U6 X y N L a<3^L:=by
  rcases B73 (U6 X y N L a) (3^L)with h|h
  ·exact h
  ·obtain⟨k,hk,hh⟩:=B7c hF y a;have:=h3 k (B8k _) (by unfold U6 at h;omega);simp only[hh]at this;cases this
 refine⟨hlt,?_,λj hj=>?_⟩
 ·have:=h4 (by unfold U6 at hlt;omega)
  simpa [U6]using this
 ·have:=h3 j (B8k _) hj
  simpa using this
theorem A8Z(y:List Rat){a:Rat}(ha:0<=a):Kkt (J7 X N) L (gq (I1 X y N L)) a (gq (V7 X y N L a)) :=
 B7K (A6L L _) ha (A9X hF y a _) ((A7G y a _).1 (A6K hF y a).2.1)
theorem B46(y:List Rat){a:Rat}(ha:0<=a){w:Nat->Rat}(h:Kkt (J7 X N) L (gq (I1 X y N L)) a w):∀i,i<L->w i=gq (V7 X y N L a) i :=
 B5I (λi _ j _=>A9E X N i j) (A8a X N L) (A2H hF) ha (A8Z hF y ha) h
end
theorem A6V(X:List (List Rat))(y:List Rat)(N L:Nat)(a:Rat):(V7 X y N L a).length=L:=by
 unfold V7 I9 M6;simp
theorem A8V{X:List (List Rat)}{y w:List Rat}{N L:Nat}{a:Rat}:M9 X y w N L a=L↔Kkt (J7 X N) L (gq (I1 X y N L)) a (gq w):=by
 obtain⟨h1,h2,h3⟩:=A5T X y w N L a;constructor
 ·intro h i hi;have:=h2 i (by omega)
  rwa [A5S X y w N L hi]at this
 ·intro h;rcases B73 (M9 X y w N L a) L with h4|h4
  ·have h5:=h3 h4;rw[A5S X y w N L h4,h _ h4]at h5;cases h5
  ·omega
theorem A6u{l m:List Rat}{n:Nat}(h1:l.length=n)(h2:m.length=n)(h:∀i,i<n->gq l i=gq m i):l=m:=by
 apply B8I (by omega);intro i hi hj;have:=h i (by omega);unfold gq at this;rw[B8i hi,B8i hj]at this;exact this
section
variable {X:List (List Rat)} {y:List Rat} {N L s g:Nat} (hN:N<=300) (hX:∀i,i<N->∀j,j<L->qs (gq (B6 X i) j)<=s) (hys:∀i,i<N->qs (gq y i)<=s) (hg:N*(s+s+1)+1<=g)
include hX hg
theorem A34{i j:Nat}(hi:i<L)(hj:j<L):qs (gq (B6 (J3 X N L) i) j)<=g:=by
 rw[A1r hi hj];have h1:=A0h (a:=G1 X i N) (b:=G1 X j N) (n:=N) (s:=s) (t:=s) (λr hr=>by rw[A0k X i N hr];exact hX r hr i hi) (λr hr=>by rw[A0k X j N hr];exact hX r hr j hj) N (K2 _);exact B8K h1 hg
include hys
theorem A33{i:Nat}(hi:i<L):qs (gq (I1 X y N L) i)<=g:=by
 rw[show gq (I1 X y N L) i=E7 (G1 X i N) y N from S6 _ hi];have h1:=A0h (a:=G1 X i N) (b:=y) (n:=N) (s:=s) (t:=s) (λr hr=>by rw[A0k X i N hr];exact hX r hr i hi) hys N (K2 _);exact B8K h1 hg
end
theorem A7E(x:Int)(h1 : -1<=x)(h2:x<=1):qs (B9 x)<=1:=by
 have:x = -1\/x=0\/x=1:=by omega
 rcases this with rfl|rfl|rfl<;>decide
theorem A8w(n c:Nat):(F6 n c).length=n:=by unfold F6;simp
theorem A4O{n c i:Nat}(hi:i<n) : -1<=gi (F6 n c) i/\gi (F6 n c) i<=1:=by
 have:=A6L n c i hi;omega
theorem A4U{X:List (List Rat)}{y:List Rat}{N L g:Nat}(hg1:1<=g)(hL:L<=6)(hG:∀i,i<L->∀j,j<L->qs (gq (B6 (J3 X N L) i) j)<=g)(hP:∀i,i<L->qs (gq (I1 X y N L) i)<=g)(k:Nat) :
  (∀i,qs (gq (N4 X y N L k) i)<=g*10^(L+1))/\(∀i,qs (gq (N1 X N L k) i)<=g*10^(L+1))/\∀x∈W9 X y N L k,qs x.1<=20*(g*10^(L+1))/\qs x.2<=20*(g*10^(L+1)):=by
 obtain⟨Z,hZ⟩:∃Z,Z=g*10^(L+1):=⟨_,rfl⟩
 have hgZ:10*g<=Z:=by
  rw[hZ,Nat.pow_succ,B8t (10^L) 10,<-B9Q,B8t g 10];exact B9O _ (B9t (by omega))
 have hv1:=A31 (y:=N3 (I1 X y N L) (F8 (F6 L k) L)) (U:=F8 (F6 L k) L) (n:=L) A0e (A2e _ _) hG hg1 (λj hj=>by unfold N3;rw[A0z hj];exact hP _ (A0e _ (O3 hj)))
 have hv2:=A31 (y:=N6 (F6 L k) (F8 (F6 L k) L)) (U:=F8 (F6 L k) L) (n:=L) A0e (A2e _ _) hG hg1 (λj hj=>by
  unfold N6;rw[A0z hj];obtain⟨h1,h2⟩:=A4O (c:=k) (A0e _ (O3 hj))
  exact B8K (A7E _ (by omega) (by omega)) hg1)
 rw[<-hZ]at hv1 hv2⊢;have hF:∀i,qs (gq (N4 X y N L k) i)<=Z:=λi=>A23 hv1 (by omega) _ (K2 _) i;have hB:∀i,qs (gq (N1 X N L k) i)<=Z:=λi=>A23 hv2 (by omega) _ (K2 _) i;refine⟨hF,hB,λx hx=>?_⟩;unfold W9 Z8 at hx;obtain⟨i,hi,hx⟩:=List.mem_flatMap.1 hx;have hi:=List.mem_range.1 hi;obtain⟨h1,h2⟩:=A4O (c:=k) hi;have q1:=A7E _ h1 h2;have q2:qs (B9 1)<=1:=by decide
 unfold Y9 at hx;split at hx
 ·rw[List.mem_singleton]at hx;subst hx;have z1:=Y4 (gq (N1 X N L k) i) (B9 (gi (F6 L k) i));have z2:=Y4 (gq (N4 X y N L k) i) (B9 (gi (F6 L k) i));have z3:=hF i;have z4:=hB i;unfold C3;exact⟨by simp only;omega,by simp only;omega⟩
 ·have hd:=λ(W:List Rat) (hW:∀i,qs (gq W i)<=Z)=>A0h (a:=B6 (J3 X N L) i) (b:=W) (n:=L) (s:=g) (t:=Z) (λj hj=>hG i hi j hj) (λj _=>hW j) L (K2 _);have d1:=hd _ hF;have d2:=hd _ hB;have d3:L*(g+Z+1)<=6*(g+Z+1):=B8q _ hL;have z5:=hP i hi;have z1:=A28 (B9 1) (E7 (B6 (J3 X N L) i) (N1 X N L k) L);have z2:=A28 (gq (I1 X y N L) i) (E7 (B6 (J3 X N L) i) (N4 X y N L k) L);have z3:=A2t (B9 1) (E7 (B6 (J3 X N L) i) (N1 X N L k) L);simp only[List.mem_cons,List.not_mem_nil,or_false]at hx;rcases hx with rfl|rfl
  ·unfold G0;exact⟨by simp only;omega,by simp only;omega⟩
  ·have z4:qs (K4 (G0 (gq (I1 X y N L) i) (E7 (B6 (J3 X N L) i) (N4 X y N L k) L)))=qs (G0 (gq (I1 X y N L) i) (E7 (B6 (J3 X N L) i) (N4 X y N L k) L)):=A3Y _;simp only;rw[z4];unfold G0 G9;exact⟨by omega,by omega⟩
theorem A7i(X:List (List Rat))(y:List Rat)(N L k:Nat)(hL:L<=6):(N4 X y N L k).length=L/\(N1 X N L k).length=L/\(W9 X y N L k).length<=1000 :=
 ⟨Y0 _ _ _ _,Y0 _ _ _ _,B8K (A5H L) (by omega)⟩
theorem B2S(X:List (List Rat))(N L:Nat):(J3 X N L).length=L/\∀r∈J3 X N L,r.length=L:=by
 refine⟨by unfold J3;simp,λr hr=>?_⟩;unfold J3 at hr;obtain⟨i,-,rfl⟩:=List.mem_map.1 hr;unfold C9;simp
theorem B5d{X:List (List Rat)}{y:List Rat}{N L g:Nat}(hF:A1T X N L)(hL1:1<=L)(hL:L<=6)(hg1:1<=g)(hG:∀i,i<L->∀j,j<L->qs (gq (B6 (J3 X N L) i) j)<=g)(hP:∀i,i<L->qs (gq (I1 X y N L) i)<=g)(hBz:100*(g*10^(L+1))<=BIG)(k:Nat) :
  A2z L (J3 X N L) (I1 X y N L) (F6 L k) (N4 X y N L k) (N1 X N L k) (W9 X y N L k):=by
 obtain⟨g1,g2⟩:=B2S X N L
 exact A8D L hL1 hL _ _ _ g1 g2 (by unfold I1;simp) (A8w L k) (λi hi=>A4O hi) g hg1 hG hP hBz
  (A3H (A3e _ _) A0e (λi hi j hj=>A1r hi hj) (A2H hF) _) (A3H (A3e _ _) A0e (λi hi j hj=>A1r hi hj) (A2H hF) _)
theorem B3w{a:Rat}(ha:0<=a):¬a.num<0:=by
 have:=Rat.num_nonneg.2 ha;omega
theorem B3o(A:Option Addr)(rs:List Rq)(N Lw c:Nat)(Y:Ax)(y:List Rat)(hn:rs.length=N)(hN1:1<=N)(hN2:N<=300)(hL1:1<=Lw)(hL2:Lw<=6)(hrl:∀r∈rs,r.2.2.length=Lw)(hy:y.length=N)(s g:Nat)(hs1:1<=s)(hs:s<=10000)(hX:∀i,i<N->∀j,j<Lw->qs (gq (B6 (rs.map (·.2.2)) i) j)<=s)(hys:∀i,i<N->qs (gq y i)<=s)(hg:N*(s+s+1)+1<=g)(hBz:100*(g*10^(Lw+1))<=BIG)(a:Rat)(ha0:0<=a)(haz:qs a<=g)
  (hun:A1T (rs.map (·.2.2)) N Lw) (w:World) (h:Lrq w A rs) (h2:Lq w Y.1 y) (HT:Tab w) :
  Calls Tryz.prog 14 #[.slice A N c,.slice Y.1 N Y.2,qV a] w (E9 (λx:Ax=>.tuple #[.slice x.1 Lw x.2,.int .i64 0]) (λx W=>Lq W x.1 (V7 (rs.map (·.2.2)) y N Lw a)) w):=by
 have hG:=λi (hi:i<Lw) j (hj:j<Lw)=>A34 hX hg hi hj;have hP:=λi (hi:i<Lw)=>A33 hX hys hg hi;obtain⟨k1,k2,k3⟩:=A6K hun y a;have hgZ:10*g<=g*10^(Lw+1):=by
  rw[Nat.pow_succ,B8t (10^Lw) 10,<-B9Q,B8t g 10];exact B9O _ (B9t (by omega))
 have hz1:qs a<=20*(g*10^(Lw+1)):=by
  generalize g*10^(Lw+1)=Z at *;omega
 have hz2:4*(20*(g*10^(Lw+1)))+10<=BIG:=by
  generalize g*10^(Lw+1)=Z at *;omega
 have hsz:∀k,k<3^Lw->(∀i,i<Lw->qs (gq (N4 (rs.map (·.2.2)) y N Lw k) i)<=20*(g*10^(Lw+1)))/\(∀i,i<Lw->qs (gq (N1 (rs.map (·.2.2)) N Lw k) i)<=20*(g*10^(Lw+1)))/\∀x∈W9 (rs.map (·.2.2)) y N Lw k,qs x.1<=20*(g*10^(Lw+1))/\qs x.2<=20*(g*10^(Lw+1)):=λk _=>by
  obtain⟨z1,z2,z3⟩:=A4U (by omega) hL2 hG hP k;generalize g*10^(Lw+1)=Z at *;exact⟨λi _=>B8K (z1 i) (by omega),λi _=>B8K (z2 i) (by omega),z3⟩
 have hsv:∀k,k<3^Lw->A2z Lw (J3 (rs.map (·.2.2)) N Lw) (I1 (rs.map (·.2.2)) y N Lw) (F6 Lw k) (N4 (rs.map (·.2.2)) y N Lw k) (N1 (rs.map (·.2.2)) N Lw k) (W9 (rs.map (·.2.2)) y N Lw k):=λk _=>B5d hun hL1 hL2 (by omega) hG hP hBz k;have hln:∀k,k<3^Lw->(N4 (rs.map (·.2.2)) y N Lw k).length=Lw/\(N1 (rs.map (·.2.2)) N Lw k).length=Lw/\(W9 (rs.map (·.2.2)) y N Lw k).length<=1000:=λk _=>A7i _ y N Lw k hL2;unfold V7 I9;obtain⟨kk,hkk⟩:∃kk,kk=U6 (rs.map (·.2.2)) y N Lw a:=⟨_,rfl⟩
 rw[<-hkk]at k1 k2 k3⊢;obtain⟨Z,hZ⟩:∃Z,Z=20*(g*10^(Lw+1)):=⟨_,rfl⟩
 rw[<-hZ]at hz1 hz2;simp only[<-hZ]at hsz;obtain⟨F,hF⟩:∃F,F=N4 (rs.map (·.2.2)) y N Lw:=⟨_,rfl⟩
 obtain⟨B,hB⟩:∃B,B=N1 (rs.map (·.2.2)) N Lw:=⟨_,rfl⟩
 obtain⟨LM,hLM⟩:∃LM,LM=W9 (rs.map (·.2.2)) y N Lw:=⟨_,rfl⟩
 rw[<-hLM]at k2 k3;simp only[<-hF,<-hB,<-hLM]at hsz hsv hln⊢;exact A77 A rs N Lw c Y y hn hN1 hN2 hL1 hL2 hrl hy s hs1 hs hX hys a (B3w ha0) hun F B LM Z hz1 hz2 hln hsz hsv kk k1 k2 k3 w h h2 HT
theorem B7y(A Y:Option Addr)(N M c d:Nat)(a:Rat)(hs:∀W,Calls Tryz.prog 57 #[.slice A N c,.slice Y M d] W λe w'=>e = .returned (.bool false)/\A4 W w')(w:World) :
  Calls Tryz.prog 14 #[.slice A N c,.slice Y M d,qV a] w λe w'=>e = .returned (.tuple #[.slice none 0 0,.int .i64 5])/\A4 w w':=by
 go_enter Tryz.func14,Tryz.ntmps14;refine en3 ?_;intro u hG b7 b6 b5 hB hF;refine B8N ?_;refine B8N (rsE G7 [0,0,1,0] hB hG λL hL=>?_);refine gs ?_;refine gmw (C:=λv=>hs _) ?_;refine gs ?_;refine geT hL ?_;clear hB hG hL L;rintro u ⟨-,hB,hG,-⟩;refine B8V (rfl) ?_;have hD:b6≠b7/\b7≠b6:=⟨hF.ne 1 2 rfl rfl (by decide),hF.ne 2 1 rfl rfl (by decide)⟩
 refine r0T ?_;clear hD;refine st2 hB hF hG 1 0 [_] 2 0 [_] ?_;clear hB hG;intro u hB hG;refine rt Tryz.results14 ?_;exact⟨rfl,hG⟩
theorem B1p(A Y:Option Addr)(N M c d:Nat)(a:Rat)(ha:a<0)(haz:qs a<=BIG)(w:World)(hs:∀W,A4 w W->Calls Tryz.prog 57 #[.slice A N c,.slice Y M d] W λe w'=>e = .returned (.bool true)/\A4 W w') :
  Calls Tryz.prog 14 #[.slice A N c,.slice Y M d,qV a] w λe w'=>e = .returned (.tuple #[.slice none 0 0,.int .i64 1])/\A4 w w':=by
 have hfs:=λ(W:World)=>U4 a (by have:=G6 a;have:=I6;omega) W;rw[A2q.2 ha]at hfs;have Hs:=B8S hs;have Hfs:=B8S hfs;clear hs hfs ha haz;go_enter Tryz.func14,Tryz.ntmps14;refine en3 ?_;intro u hG b7 b6 b5 hB hF;refine B8N ?_;refine B8N (rsE G7 [0,0,1,0] hB hG λL hL=>?_);refine gs ?_;refine gmd (C:=λv ⟨hgu,hB,hG,_⟩=>Hs.out _ hG) ?_;refine gs ?_;refine geT hL ?_;clear hB hG hL L;rintro u ⟨-,hB,hG,-⟩;refine B8T (rfl) ?_;refine B8U ?_;refine A6 ?_;refine B8N ?_;refine B8N (rsE G7 [0,1,0] hB hG λL hL=>?_);refine gs ?_;refine gmw (C:=λv=>Hfs.out _) ?_;refine gs ?_;refine geT hL ?_;clear hB hG hL L;rintro u ⟨-,hB,hG,-⟩;refine B8V (rfl) ?_;have hD:b6≠b7/\b7≠b6:=⟨hF.ne 1 2 rfl rfl (by decide),hF.ne 2 1 rfl rfl (by decide)⟩
 refine r0T ?_;clear hD;refine st2 hB hF hG 1 0 [_] 2 0 [_] ?_;clear hB hG;intro u hB hG;refine rt Tryz.results14 ?_;exact⟨rfl,hG⟩
theorem B63(A Y:Option Addr)(N M c d:Nat)(a:Rat)(ha:0<=a)(haz:qs a<=BIG)(z:Int)(hz:(z != 0)=true)(w:World)(hs:∀W,A4 w W->Calls Tryz.prog 57 #[.slice A N c,.slice Y M d] W λe w'=>e = .returned (.bool true)/\A4 W w')
  (hu:∀W,A4 w W->Calls Tryz.prog 58 #[.slice A N c] W λe w'=>e = .returned (.int .i64 z)/\A4 W w') :
  Calls Tryz.prog 14 #[.slice A N c,.slice Y M d,qV a] w λe w'=>e = .returned (.tuple #[.slice none 0 0,.int .i64 z])/\A4 w w':=by
 have hfs:=λ(W:World)=>U4 a (by have:=G6 a;have:=I6;omega) W;have hsg:decide (a.num.sign<0)=false:=by
  have h1:¬a<0:=by grind
  have h2:=@A2q a;rcases A4I a with e|e|e
  ·rw[e];rfl
  ·exact absurd (h2.1 e) h1
  ·rw[e];rfl
 obtain⟨S,hS⟩:∃S,S=a.num.sign:=⟨_,rfl⟩
 rw[<-hS]at hsg;simp only[<-hS]at hfs;have Hs:=B8S hs;have Hu:=B8S hu;have Hfs:=B8S hfs;clear hs hu hfs ha haz hS;go_enter Tryz.func14,Tryz.ntmps14;refine en3 ?_;intro u hG b7 b6 b5 hB hF;refine B8N ?_;refine B8N (rsE G7 [0,0,1,0] hB hG λL hL=>?_);refine gs ?_;refine gmd (C:=λv ⟨hgu,hB,hG,_⟩=>Hs.out _ hG) ?_;refine gs ?_;refine geT hL ?_;clear hB hG hL L;rintro u ⟨-,hB,hG,-⟩;refine B8T (rfl) ?_;refine B8U ?_;refine A6 ?_;refine B8N ?_;refine B8N (rsE G7 [0,1,0] hB hG λL hL=>?_);refine gs ?_;refine gmw (C:=λv=>Hfs.out _) ?_;refine gs ?_;refine geT hL ?_;clear hB hG hL L;rintro u ⟨-,hB,hG,-⟩;refine B8T (rfl) ?_;refine B8U ?_;refine A6 ?_;refine B8N ?_;refine B8N (rsE G7 [0,1,0] hB hG λL hL=>?_);refine gs ?_;refine gmd (C:=λv ⟨hgu,hB,hG,_⟩=>Hu.out _ hG) ?_;refine gs ?_;refine geT hL ?_;clear hB hG hL L;rintro u ⟨-,hB,hG,-⟩;refine r0T ?_;refine B8V (rfl) ?_;have hD:b6≠b7/\b7≠b6:=⟨hF.ne 1 2 rfl rfl (by decide),hF.ne 2 1 rfl rfl (by decide)⟩
 refine r0T ?_;clear hD;refine st2 hB hF hG 1 0 [_] 2 0 [_] ?_;clear hB hG;intro u hB hG;refine rt Tryz.results14 ?_;exact⟨rfl,hG⟩
end Go.Proofs.YtgpglgbcobeogaaGreatDoor
