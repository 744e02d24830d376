/-
  The claim's theorem: LsPq LsPr LsWa LassoFitsZ.
-/
import Derived.Test.YtgpglgbcobeogaaGreatDoorF49
set_option linter.unusedSimpArgs false
set_option linter.unusedVariables false
set_option maxHeartbeats 16000000
set_option maxRecDepth 100000
namespace Go.Proofs.YtgpglgbcobeogaaGreatDoor
open Go Go.RowKit
theorem B3b(A Y:Option Addr)(N M c d:Nat)(q:Rat)(z:Int)(hz:(z != 0)=true)(w:World)(ht:∀W,A4 w W->Calls Tryz.prog 35 #[.slice A N c,.slice Y M d] W λe w'=>e = .returned (.tuple #[qV q,.int .i64 0])/\A4 W w')
  (hu:∀W,A4 w W->Calls Tryz.prog 58 #[.slice A N c] W λe w'=>e = .returned (.int .i64 z)/\A4 W w') :
  Calls Tryz.prog 49 #[.slice A N c,.slice Y M d] w λe w'=>e = .returned (.tuple #[.slice none 0 0,.int .i64 z])/\A4 w w':=by
 have Ht:=C0P ht;have Hu:=C0P hu;clear ht hu;go_enter Tryz.func49,Tryz.ntmps49;refine en0 ?_;intro u hG hB hF;refine C0K (rsC O1 [0,0,1,0,0,0,2] hB hG λK L hN hL=>?_);refine gs ?_;refine gmd (C:=λv ⟨hgu,hB,hG,_⟩=>Ht.out _ hG) ?_;refine gs ?_;refine gaa (G8 _ _ _ _ _) λb6 hb6 hn6=>?_;replace hF:=hF.n1 [] hB hG hb6 hn6;refine geC hL ?_;clear hB hG hL L;rintro u ⟨⟨-,hB,hG,-⟩,h6⟩;replace hB:=hB.cons' h6;clear h6;clear hb6 hn6;refine gtT ?_;clear hN K;refine st hB hF hG 0 0 [_,_,_,_,_] ?_;clear hB hG;intro u hB hG;refine C0K ?_;refine r0T ?_;refine C0Q (rfl) ?_;refine C0R ?_;refine A6 ?_;refine C0K ?_;refine C0K (rsE O1 [0,1,0] hB hG λL hL=>?_);refine gs ?_;refine gmd (C:=λv ⟨hgu,hB,hG,_⟩=>Hu.out _ hG) ?_;refine gs ?_;refine geT hL ?_;clear hB hG hL L;rintro u ⟨-,hB,hG,-⟩;refine r0T ?_;refine C0S (rfl) ?_;refine r0T ?_;refine rt Tryz.results49 ?_;exact⟨rfl,hG⟩
theorem B1U{X:List (List Rat)}{y:List Rat}{N L S:Nat}(h1:1<=S)(h:∀i,i<L->qs (gq (H5 X y N L) i)<=S):qs (I9 X y N L)<=S :=
 A7e h1 (λj hj=>by rw[B0p X y N L hj];exact h j hj) L (B9z _)
theorem B2R(A:Option Addr)(rs:List Rq)(N Lw c:Nat)(Y:Ax)(y:List Rat)(hn:rs.length=N)(hN1:1<=N)(hN2:N<=20)(hL1:1<=Lw)(hL2:Lw<=6)(hrl:∀r∈rs,r.2.2.length=Lw)(hy:y.length=N)(s g:Nat)(hs1:1<=s)(hs:s<=1000)(hX:∀i,i<N->∀j,j<Lw->qs (gq (B7 (rs.map (·.2.2)) i) j)<=s)(hys:∀i,i<N->qs (gq y i)<=s)(hg1:1<=g)
  (hG:∀i,i<Lw->∀j,j<Lw->qs (gq (B7 (L7 (rs.map (·.2.2)) N Lw) i) j)<=g) (hP:∀i,i<Lw->qs (gq (H5 (rs.map (·.2.2)) y N Lw) i)<=g) (hBz:1600*(g*10^(Lw+1))+100<=BIG)
  (hun:A13 (rs.map (·.2.2)) N Lw) (w:World) (h:Lrq w A rs) (h2:Lq w Y.1 y) (HT:Tab w) :
  Calls Tryz.prog 49 #[.slice A N c,.slice Y.1 N Y.2] w λe w'=>∃(ks:List Kq) (v:Value),e = .returned (.tuple #[v,.int .i64 0])/\w'.ownsRow w.heap.size 84 6 v ks.length (ks.flatMap kqL)/\(∀x∈ks,Lq w' x.2.1.1 x.2.2)/\ks.map D0=J5 (rs.map (·.2.2)) y N Lw/\A4 w w':=by
 have hgZ:10*g<=g*10^(Lw+1):=by
  rw[Nat.pow_succ,C0q (10^Lw) 10,<-C1N,C0q g 10];exact C1L _ (C1q (by omega))
 have htp:=B1U hg1 hP;have hsz:∀k,k<3^Lw->(∀i,i<Lw->qs (gq (O0 (rs.map (·.2.2)) y N Lw k) i)<=20*(g*10^(Lw+1)))/\(∀i,i<Lw->qs (gq (O6 (rs.map (·.2.2)) N Lw k) i)<=20*(g*10^(Lw+1)))/\∀x∈I0 (rs.map (·.2.2)) y N Lw k,qs x.1<=20*(g*10^(Lw+1))/\qs x.2<=20*(g*10^(Lw+1)):=λk _=>by
  obtain⟨z1,z2,z3⟩:=A4S hg1 hL2 hG hP k;generalize g*10^(Lw+1)=Z at *;exact⟨λi _=>C0H (z1 i) (by omega),λi _=>C0H (z2 i) (by omega),z3⟩
 have hsv:∀k,k<3^Lw->A2G Lw (L7 (rs.map (·.2.2)) N Lw) (H5 (rs.map (·.2.2)) y N Lw) (F5 Lw k) (O0 (rs.map (·.2.2)) y N Lw k) (O6 (rs.map (·.2.2)) N Lw k) (I0 (rs.map (·.2.2)) y N Lw k):=λk _=>A8x hun hL1 hL2 hg1 hG hP (by generalize g*10^(Lw+1)=Z at *;omega) k;have hln:∀k,k<3^Lw->(O0 (rs.map (·.2.2)) y N Lw k).length=Lw/\(O6 (rs.map (·.2.2)) N Lw k).length=Lw/\(I0 (rs.map (·.2.2)) y N Lw k).length<=1000:=λk _=>A9y _ y N Lw k hL2;have hall:=B2H (y:=y) hun;have hne:1<=(H4 (rs.map (·.2.2)) y N Lw).length:=by rw[A0x];exact A37.1
 unfold J5;rw[<-hall]at hne⊢;generalize g*10^(Lw+1)=Z at *;exact B81 A rs N Lw c Y y hn hN1 hN2 hL1 hL2 hrl hy s hs1 hs hX hys hun _ _ _ (20*Z) (40*Z) (by omega) (by omega) (by omega) (by omega) hln hsz hsv hne w h h2 HT
theorem B7G{X:List (List Rat)}{N L:Nat}(hF:A13 X N L)(y o:List Rat)(ho:o.length=L){s:Rat}(hs:0<=s):Q7 X y (J6 X y N L s) N L s=L/\S5 X y (J6 X y N L s) N L s<=S5 X y o N L s /\
  (Q7 X y o N L s=L↔J6 X y N L s=o)/\(S5 X y (J6 X y N L s) N L s=S5 X y o N L s↔J6 X y N L s=o):=by
 have hk:=A77 hF y hs;have h1:=B13 X y (J6 X y N L s) N L s;have h2:=B13 X y o N L s;have h3:=A61 (u:=gq o) (λi _ j _=>A4R X N i j) hs hk;have h4:=A7C X N L (λi=>gq o i-gq (J6 X y N L s) i);have hl:=A12 X y N L s;refine⟨A6Q.2 hk,by grind,⟨λh=>?_,λh=>by rw[<-h];exact A6Q.2 hk⟩,⟨λh=>?_,λh=>by rw[h]⟩⟩
 ·exact A5I hl ho λi hi=>(A7s hF y hs (A6Q.1 h) i hi).symm
 ·exact A5I hl ho λi hi=>(A8a (λi _ j _=>A4R X N i j) (A2y hF) hs hk (by grind) i hi).symm
theorem B5C{X:List (List Rat)}{y:List Rat}{N L g:Nat}(hg1:1<=g)(hL:L<=6)(hG:∀i,i<L->∀j,j<L->qs (gq (B7 (L7 X N L) i) j)<=g)(hP:∀i,i<L->qs (gq (H5 X y N L) i)<=g):∀t,t<(J5 X y N L).length->qs (knQ (J5 X y N L) t)<=40*(g*10^(L+1))/\∀j,qs (gq (knW (J5 X y N L) t) j)<=60*(g*10^(L+1)):=λt ht=>by
 obtain⟨i,hi,-,e1,e2,-⟩:=A1k ht;have hZ1:1<=g*10^(L+1):=C0k hg1 (C1q (by omega));have hgZ:g<=g*10^(L+1):=C1L _ (C1q (by omega));have hz:=λk=>A4S hg1 hL hG hP (y:=y) k;have h1:qs (knQ (J5 X y N L) t)<=40*(g*10^(L+1)):=by
  rw[e1,(A06 hi).1];refine B1L (z:=20*(g*10^(L+1))) (by omega) (C0H (B1U hg1 hP) (by omega)) (by omega) (λk _=>(hz k).2.2) _ (A0H.1 (A1t (by rw[<-A0x];exact hi)))
 refine⟨h1,λj=>?_⟩;rw[e2];rcases B90 j L with hj|hj
 ·have:=B2C (λi _=>(hz (S6 X y N L (knQ (J5 X y N L) t))).1 i) (λi _=>(hz (S6 X y N L (knQ (J5 X y N L) t))).2.1 i) h1 hj;refine C0H this ?_;generalize g*10^(L+1)=Z at *;omega
 ·unfold gq;rw[C1k (by rw[A12];exact hj)];exact C0H (show qs (0:Rat)<=1 by decide) (show 1<=60*(g*10^(L+1))by omega)
theorem A9O{X:List (List Rat)}{y w:List Rat}{N L s:Nat}{a:Rat}(hN:N<=20)(hL:L<=20)(hs:s<=10000000)(hX:∀i,i<N->∀j,j<L->qs (gq (B7 X i) j)<=s)(hy:∀i,i<N->qs (gq y i)<=s)(hw:∀j,j<L->qs (gq w j)<=s)(ha:qs a<=s):qs (S5 X y w N L a)<=31000000000:=by
 have h1:=A5i (X:=X) (y:=y) (w:=w) hN hL hs hX hy hw;have h2:=A1I h1 h1 N (B9z _);have h3:N*(500000000+500000000+1)<=20*(500000000+500000000+1):=C0n _ hN;have h4:=A9L hw L (B9z _);have h5:L*(s+1)<=20*(s+1):=C0n _ hL;unfold S5;have h6:=A1u (E4 (R9 X y w N L) (R9 X y w N L) N) (C1 2);have h7:=Z5 a (A1P w L);have h8:=A2C (G9 (E4 (R9 X y w N L) (R9 X y w N L) N) (C1 2)) (C9 a (A1P w L));have h9:qs (C1 2)<=41:=B1T 2 (by omega);unfold G6;unfold G9 C9 at *;omega
def A2K(X:List (List Rat))(y:List Rat)(N L:Nat):List Kn:=if rkR X N L=L then J5 X y N L else []
section
variable {N L:Nat} {R:List (List Rat)} {y:List Rat} (hRn:R.length=N) (hRl:∀r∈R,r.length=L) (hN1:1<=N) (hN:N<=6) (hL1:1<=L) (hL:L<=3) (hX:∀i,i<N->∀j,j<L->qs (gq (B7 R i) j)<=5) (hyn:y.length=N) (hys:∀i,i<N->qs (gq y i)<=5)
theorem B1t{L:Nat}(hL:L<=3):1600*(70*10^(L+1))+100<=BIG/\60*(70*10^(L+1))<=42000000:=by
 have h1:10^(L+1)<=10^4:=C0W (by omega) (by omega);have h2:70*10^(L+1)<=70*10^4:=C1I _ h1;unfold BIG;omega
include hN hX in
theorem A8s:∀i,i<L->∀j,j<L->qs (gq (B7 (L7 R N L) i) j)<=70:=λi hi j hj=>A6n (g:=70) hX (by omega) hi hj
include hN hX hys in
theorem B0Q:∀i,i<L->qs (gq (H5 R y N L) i)<=70:=λi hi=>A6x (g:=70) hX hys (by omega) hi
include hRn hRl hN1 hN hL1 hL hX hyn hys
theorem B7a(W:World)(X Y:Ax)(rs:List Rq)(hr:rs.map (·.2.2)=R)(h1:Lrq W X.1 rs)(h2:Lq W Y.1 y)(HT:Tab W) :
  Calls Tryz.prog 49 #[.slice X.1 N X.2,.slice Y.1 N Y.2] W (G1 (λx:Ax×List Kq=>.tuple #[.slice x.1.1 (A2K R y N L).length x.1.2,.int .i64 (lsE R N L)]) (λx W'=>Lk W' x.1.1 x.2/\x.2.map D0=A2K R y N L) W):=by
 have e1:rs.length=N:=by rw[<-hRn,<-hr];simp
 have hrl:∀r∈rs,r.2.2.length=L:=λr h'=>hRl _ (by rw[<-hr];exact List.mem_map.2 ⟨r,h',rfl⟩);have hG:=A8s (N:=N) (L:=L) hN hX;have hP:=B0Q (N:=N) (L:=L) hN hX hys;have hb:=(B1t hL).1;subst hr;unfold lsE A2K;by_cases hk:rkR (rs.map (·.2.2)) N L=L
 ·rw[if_pos hk,if_pos hk];refine(B2R X.1 rs N L X.2 Y y e1 hN1 (by omega) hL1 (by omega) hrl hyn 5 70 (by omega) (by omega) hX hys (by omega) hG hP hb hk W h1 h2 HT).mono ?_;rintro e w' ⟨ks,v,rfl,g1,g2,g3,g4⟩;obtain⟨A,c,rfl,-,g5,-⟩:=A1K A7S (by omega) g1;refine⟨((A,c),ks),?_,⟨⟨g5,g2⟩,g3⟩,g4⟩;rw[<-g3,List.length_map]
 ·rw[if_neg hk,if_neg hk];have hle:=B1I (rs.map (·.2.2)) N L;refine(B3b X.1 Y.1 N N X.2 Y.2 _ 9 rfl W (λW' hg=>A6b X.1 Y.1 rs y N L X.2 Y.2 e1 hN1 (by omega) hrl hyn hL1 (by omega) 5 (by omega) (by omega) hX hys W' (h1.grow hg) (h2.grow hg) (HT.grow hg)) λW' hg=>?_).mono ?_
  ·have h:=A4p X.1 rs N L X.2 e1 hN1 (by omega) hL1 (by omega) hrl 5 (by omega) hX (by
    have h3:10^L<=10^3:=C0W (by omega) hL;have h4:5*10^L<=5*10^3:=C1I _ h3;have hBB:100000000<=BIG:=by unfold BIG;omega
    omega) W' (h1.grow hg) (HT.grow hg)
   have hlt:(D1 N L (D7 (rs.map (·.2.2)),[]) L).2.length<L:=Nat.lt_of_le_of_ne hle hk;rw[if_pos hlt]at h;exact h
  ·rintro e w' ⟨rfl,hg⟩;exact⟨((none,0),[]),rfl,⟨⟨λh=>absurd rfl h,λx hx=>absurd hx List.not_mem_nil⟩,rfl⟩,hg⟩
end
theorem B84(A:Option Addr)(la:List Int)(ca:Nat)(B:Option Addr)(lb:List Int)(cb:Nat)(C:Option Addr)(lc:List Int)(cc:Nat)(n wd at0:Int)(hla:la.length<=9223372036854775807)(hac:la.length<=ca)(hba:∀x∈la,-9223372036854775808<=x/\x<=9223372036854775807)(hlb:lb.length<=9223372036854775807)(hbb:∀x∈lb,-9223372036854775808<=x/\x<=9223372036854775807)(hlc:lc.length<=9223372036854775807)(hbc:∀x∈lc,-9223372036854775808<=x/\x<=9223372036854775807)(lo2 : -9223372036854775808<=n)(hi2:n<=9223372036854775807)(lo3 : -9223372036854775808<=wd)(hi3:wd<=9223372036854775807)(lo4 : -9223372036854775808<=at0)(hi4:at0<=9223372036854775807)
  (w:World) (h1:Li w A la) (h2:Li w B lb) (h3:Li w C lc) (HT:Tab w) :
  Calls Tryz.prog 11 #[.slice A la.length ca,.slice B lb.length cb,.slice C lc.length cc,.int .i64 n,.int .i64 wd,.int .i64 at0] w λe w'=>e = .returned (.bool true)/\A4 w w':=by
 clear lo2 hi2 lo3 hi3;obtain⟨pa,hpa⟩:∃p,p=la.length:=⟨_,rfl⟩
 obtain⟨pb,hpb⟩:∃p,p=lb.length:=⟨_,rfl⟩
 obtain⟨pc,hpc⟩:∃p,p=lc.length:=⟨_,rfl⟩
 rw[<-hpa]at hac⊢;rw[<-hpb,<-hpc];have hBB:1000000000000<=BIG:=by unfold BIG;omega
 have rN:=A2I n (m:=5) (by omega);have rL:=A2I wd (m:=3) (by omega);have hp1:=λW=>A2l n 5 (by omega) (by omega) W;obtain⟨y1,hy1⟩:∃y,y=K8 n 5:=⟨_,rfl⟩
 rw[<-hy1]at rN;simp only[<-hy1]at hp1;obtain⟨N,hN⟩:∃N:Nat,y1+1=(N:Int):=⟨(y1+1).toNat,by omega⟩
 have fy1:IntKind.i64.wrap (y1+1)=(N:Int):=by rw[C0g _ (by omega)];exact hN
 obtain⟨Lw,hLw⟩:∃Lw:Nat,K8 wd 3+1=(Lw:Int):=⟨(K8 wd 3+1).toNat,by omega⟩
 have hN1:1<=N:=by omega
 have hN5:N<=5:=by omega
 have hL1:1<=Lw:=by omega
 have hL3:Lw<=3:=by omega
 have hpN:K8 (N:Int) 6=(N:Int):=Int.emod_eq_of_lt (by omega) (by omega);have hd:=λW (hg:A4 w W)=>B8K A B la lb ca cb pa pb N Lw N (N:Int) wd 0 hpa hac hpb (by omega) (by omega) hba hbb hpN hLw (by rw[if_neg (by decide)]) W (h1.grow hg) (h2.grow hg);have lY:=A56 lb N;have sY:=A6U lb N;generalize S3 lb N=Y at *;have lO:=A56 lc Lw;have sO:=A6U lc Lw;have hro:=λW (hg:A4 w W)=>A91 C lc cc pc Lw hpc (by omega) (by omega) hbc W (h3.grow hg);generalize S3 lc Lw=O at *;have hqq:=λW hT=>B3O at0 W lo4 hi4 hT;have zr:qs (A0e at0)<=5:=A6f at0;generalize A0e at0=r at *;have hab:=λW=>A41 r (by have:=G4 r;have:=K4;omega) W;have zs:qs (Q0 r)<=5:=by rw[A3V];exact zr
 have hs0:0<=Q0 r:=by
  rw[A3E];rcases A0y r with⟨h3,h4⟩|⟨h3,h4⟩<;>grind
 generalize Q0 r=s at *;have hir:∀(W:World) (X:Ax) (rs:List Rq),A2e N Lw rs->Lrz W X.1 rs->Tab W->Calls Tryz.prog 15 #[.slice X.1 N X.2] W (G1 (λx:Ax×List Rq=>.slice x.1.1 N x.1.2) (λx W'=>x.2.map (·.2.2)=rs.map (·.2.2)/\Lrq W' x.1.1 x.2) W):=λW X rs hk hX hT =>
  (B4u X.1 rs X.2 N hk.1.symm (by omega) (λr hr=>⟨by have:=(hk.2 r hr).1;omega,λx hx=>C0H ((hk.2 r hr).2 x hx) (by omega)⟩) W hX hT).mono λe w' ⟨v,rs',he,e1,e2,e3,hg'⟩=>by
   obtain⟨A2,c2,rfl,-,hLw,-⟩:=B4A e3 e2;exact⟨((A2,c2),rs'),he,⟨e1,hLw⟩,hg'⟩
 have hip:∀(m:Nat) (P:List Rat),m<=20->P.length=m->(∀x∈P,qs x<=20)->∀(W:World) (X:Ax),Lz W X.1 P->Tab W->Calls Tryz.prog 16 #[.slice X.1 m X.2] W (G1 (λx:Ax=>.slice x.1 m x.2) (λx W=>Lq W x.1 P) W):=λm P hm hP hs W X hX hT =>
  (B3C X.1 P X.2 m hP.symm (by omega) (λx hx=>C0H (hs x hx) (by omega)) W hX hT).mono λe w' ⟨A',c',he,h,hg'⟩=>⟨(A',c'),he,h,hg'⟩
 have hyz:∀i,i<N->qs (gq Y i)<=5:=λi hi=>sY _ (A3K (by omega));have hoz:∀i,i<Lw->qs (gq O i)<=5:=λi hi=>sO _ (A3K (by omega));have hiy:=hip N Y (by omega) lY (λx hx=>C0H (sY x hx) (by omega));have hio:=hip Lw O (by omega) lO (λx hx=>C0H (sO x hx) (by omega));have Hd:=C0P hd;have Hp1:=C0P hp1;have Hro:=C0P hro;have Hqq:=C0P hqq;have Hab:=C0P hab;have Hir:=C0P hir;have Hiy:=C0P hiy;have Hio:=C0P hio;have HY:=C0P (And.intro lY hyz);have HO:=C0P (And.intro lO (And.intro hoz sO));have HS:=C0P (And.intro hs0 zs);clear hd hp1 hro hqq hab hir hip hiy hio lY sY hyz lO sO hoz hs0 zs hpN hLw hN hy1 rN rL zr h1 h2 h3 hba hbb hbc hpa hpb hpc hla hlb hlc hac lo4 hi4;go_enter Tryz.func11,Tryz.ntmps11;refine en0 ?_;intro u hG hB hF;refine C0K (rsE Y6 [0,0,0,1,0,0,1,0,0,0,0,0] hB hG λL hL=>?_);refine gs ?_;refine gmw (C:=λv=>Hp1.out _) ?_;refine gs ?_;refine gxd (X:=((Ax×Ax)×List Rq)) (λx:(Ax×Ax)×List Rq=>.tuple #[.slice x.1.1.1 N x.1.1.2,.slice x.1.2.1 N x.1.2.2]) (λx W=>(A2e N Lw x.2/\Lrz W x.1.1.1 x.2)/\Lz W x.1.2.1 Y) (λx u u' hg h=>⟨⟨h.1.1,h.1.2.grow hg⟩,Lz.grow h.2 hg⟩) (λx42=>?_) (C:=by(rintro v ⟨hgu,hB,hG,-⟩;exact Hd.out _ hG));refine gs ?_;refine geT hL ?_;clear hB hG hL L;rintro u ⟨⟨hgu,hB,hG,-⟩,hx42⟩;have HX:=C0P hx42;clear hx42;clear hgu;have HG0:=C0P hG;clear hB hF hG;obtain⟨w0,rfl⟩:=exQ w;obtain⟨w,hwu⟩:=exQ u;rw[<-hwu]at HG0 HX;have hB:=Bx.nil u;have hF:=Fr.nil w;have hG:A4 w u:=hwu ▸ A4.refl u;clear hwu;obtain⟨⟨⟨RA,RC⟩,⟨YA,YC⟩⟩,rs⟩:=x42;obtain⟨⟨hok,hLx⟩,hLy⟩:=HX.out;simp only at hok hLx hLy;obtain⟨R,hR⟩:∃R,R=rs.map (·.2.2):=⟨_,rfl⟩
 have hRn:R.length=N:=by rw[hR,List.length_map];exact hok.1
 have hRl:∀r∈R,r.length=Lw:=λr hr=>by
  rw[hR]at hr;obtain⟨z,hz,rfl⟩:=List.mem_map.1 hr;exact(hok.2 z hz).1
 have hRz:∀i,i<N->∀j,j<Lw->qs (gq (B7 R i) j)<=5:=λi hi j hj=>by rw[hR];exact B8q hok i hi j hj
 have hin:=λW (hg:A4 w W) hT=>Hir.out W (RA,RC) rs hok (hLx.grow hg) hT;simp only[<-hR]at hin;obtain⟨bb,ob,P0,eA,hP0⟩:=B2W hok.1 (λr hr=>(hok.2 r hr).1) hLx (i:=0) (by omega);have hr0:=λW hg=>(hP0.1 W hg).1;simp only[Nat.add_zero]at hr0;subst eA;have hNi:(0:Int)<(N:Int):=by omega
 have hNn:0<N:=by omega
 have HGa:=C0P HG0.out;have HT':=HT.grow HG0.out;have Hin:=C0P hin;have Hr0:=C0P hr0;have HLY:=C0P (λW (hg:A4 w W)=>hLy.grow hg);have HRR:=C0P (And.intro hRn (And.intro hRl hRz));clear HX Hd Hir hok hLx hLy hR hRn hRl hRz hin hr0 hP0 HT HG0;have HT:=HT';clear HT';refine C0K (rsE Y6 [0,1,0,1,0,0] hB hG λL hL=>?_);refine gs ?_;refine gxd (X:=(Ax×List Rq)) (λx:Ax×List Rq=>.slice x.1.1 N x.1.2) (λx W=>x.2.map (·.2.2)=R/\Lrq W x.1.1 x.2) (λx u u' hg h=>⟨h.1,h.2.grow hg⟩) (λx46=>?_) (C:=by(rintro v ⟨hgu,hB,hG,-⟩;exact Hin.out _ hG (HT.grow hG)));refine gs ?_;refine gxd (X:=Ax) (λx:Ax=>.slice x.1 N x.2) (λx W=>Lq W x.1 Y) (λx u u' hg h=>Lq.grow h hg) (λx48=>?_) (C:=by(rintro v ⟨⟨hgu,hB,hG,-⟩,hx46⟩;exact Hiy.out _ (YA,YC) (HLY.out _ hG) (HT.grow hG)));refine gs ?_;refine geT hL ?_;clear hB hG hL L;rintro u ⟨⟨⟨hgu,hB,hG,-⟩,hx46⟩,hx48⟩;have HX:=C0P (And.intro hx46 hx48);clear hx46 hx48;clear hgu;have HG0:=C0P hG;clear hB hF hG;obtain⟨w0,rfl⟩:=exQ w;obtain⟨w,hwu⟩:=exQ u;rw[<-hwu]at HG0 HX;have hB:=Bx.nil u;have hF:=Fr.nil w;have hG:A4 w u:=hwu ▸ A4.refl u;clear hwu;obtain⟨⟨XA,XC⟩,rsq⟩:=x46;obtain⟨YQ,YK⟩:=x48;have hxr:=HX.out.1.1;have hxl:=HX.out.1.2;have hyl:=HX.out.2;simp only at hxr hxl hyl;have hpa:=λW (hg:A4 w W) (hT:Tab W)=>B7a HRR.out.1 HRR.out.2.1 hN1 (by omega) hL1 hL3 HRR.out.2.2 HY.out.1 HY.out.2 W (XA,XC) (YQ,YK) rsq hxr (hxl.grow hg) (hyl.grow hg) hT;have hcase:(rkR R N Lw=Lw/\lsE R N Lw=0/\A2K R Y N Lw=J5 R Y N Lw)\/(lsE R N Lw=9/\A2K R Y N Lw=[]):=by
  unfold lsE A2K;by_cases hk:rkR R N Lw=Lw
  ·left;rw[if_pos hk,if_pos hk];exact⟨hk,rfl,rfl⟩
  ·right;rw[if_neg hk,if_neg hk];exact⟨rfl,rfl⟩
 obtain⟨ke,hke⟩:∃x,x=lsE R N Lw:=⟨_,rfl⟩
 obtain⟨PV,hPV⟩:∃x,x=A2K R Y N Lw:=⟨_,rfl⟩
 rw[<-hke,<-hPV]at hcase;simp only[<-hke,<-hPV]at hpa;obtain⟨kl,hkl⟩:=exQ PV.length;rw[<-hkl]at hpa;have Hpa:=C0P hpa;have Hcase:=C0P hcase;have Hkl:=C0P hkl;have HGb:=C0P (HGa.out.trans HG0.out);have HT':=HT.grow HG0.out;have HGr:=C0P HG0.out;have HXY:=C0P (And.intro hxr (And.intro hxl hyl));clear HX hxr hxl hyl hpa hcase hkl hke hPV HT HG0 HGa Hiy HLY Hin;have HT:=HT';clear HT';refine C0K (rsE Y6 [0,0,1,0,0,0,0,0] hB hG λL hL=>?_);refine gs ?_;refine gxd (X:=(Ax×List Kq)) (λx:Ax×List Kq=>.tuple #[.slice x.1.1 kl x.1.2,.int .i64 ke]) (λx W=>Lk W x.1.1 x.2/\x.2.map D0=PV) (λx u u' hg h=>⟨h.1.grow hg,h.2⟩) (λx52=>?_) (C:=by(rintro v ⟨hgu,hB,hG,-⟩;exact Hpa.out _ hG (HT.grow hG)));refine gs ?_;refine geT hL ?_;clear hB hG hL L;rintro u ⟨⟨hgu,hB,hG,-⟩,hx52⟩;have HX:=C0P hx52;clear hx52;clear hgu;have HG0:=C0P hG;clear hB hF hG;obtain⟨w0,rfl⟩:=exQ w;obtain⟨w,hwu⟩:=exQ u;rw[<-hwu]at HG0 HX;have hB:=Bx.nil u;have hF:=Fr.nil w;have hG:A4 w u:=hwu ▸ A4.refl u;clear hwu;obtain⟨⟨KA,KC⟩,ks⟩:=x52;have HGc:=C0P (HGb.out.trans HG0.out);have HGs:=C0P (HGr.out.trans HG0.out);have HT':=HT.grow HG0.out;have HG1:=C0P HG0.out;clear HT HG0 HGb HGr Hpa;have HT:=HT';clear HT';refine C0K ?_;rcases Hcase.out with⟨hk,e0,eP⟩|⟨e0,eP⟩
 ·subst e0;have hkk:=HX.out.2;have hkL:=HX.out.1;simp only at hkk hkL;rw[eP]at hkk;have hlen:ks.length=kl:=by rw[Hkl.out,eP,<-hkk,List.length_map]
  obtain⟨sh,od⟩:=B1j hk (y:=Y) hL1 (by omega);have hG70:=A8s (N:=N) (L:=Lw) (by omega) HRR.out.2.2;have hP70:=B0Q (N:=N) (L:=Lw) (by omega) HRR.out.2.2 HY.out.2;have hpz:=B5C (by omega) (by omega) hG70 hP70;have hb3:=B1t hL3;have h40:40*(70*10^(Lw+1))<=42000000:=by omega
  have hwd:(knW (J5 R Y N Lw) 0).length=Lw:=by
   obtain⟨-,-,-,-,e,-⟩:=A1k (X:=R) (y:=Y) (N:=N) (L:=Lw) (t:=0) A40.1;rw[e];exact A12 _ _ _ _ _
  have hat:=λW (hg:A4 w W) (hT:Tab W)=>B62 KA ks kl KC s hlen (by rw[hkk];exact sh) (by rw[hkk];exact od) HS.out.1 42000000 (by have:=HS.out.2;omega) (λi hi=>by rw[hkk];exact C0H (hpz i (by rw[<-hkk,List.length_map,hlen];exact hi)).1 h40) (λi hi=>by rw[hkk];exact λj=>C0H ((hpz i (by rw[<-hkk,List.length_map,hlen];exact hi)).2 j) hb3.2) (by omega) W (hkL.grow hg) hT;rw[hkk,hwd,B3h hk hL1 (by omega) HS.out.1]at hat;obtain⟨f1,f2,f3,f4⟩:=B7G hk Y O HO.out.1 HS.out.1;have hql:=A12 R Y N Lw s;have hqz:=B7F (R:=R) (y:=Y) (a:=s) hN5 hL3 (λi hi j hj=>C0H (HRR.out.2.2 i hi j hj) (by omega)) (λi hi=>C0H (HY.out.2 i hi) (by omega)) (by have:=HS.out.2;omega);have hla:=λW (hg:A4 w W) (hT:Tab W)=>B5z (a:=s) HRR.out.1 HRR.out.2.1 hN1 hN5 hL1 hL3 (λi hi j hj=>C0H (HRR.out.2.2 i hi j hj) (by omega)) HY.out.1 (λi hi=>C0H (HY.out.2 i hi) (by omega)) HS.out.1 (by have:=HS.out.2;omega) W (XA,XC) (YQ,YK) rsq HXY.out.1 (HXY.out.2.1.grow (HG1.out.trans hg)) (HXY.out.2.2.grow (HG1.out.trans hg)) hT;unfold lsN lsE lsV at hla;rw[if_pos hk,if_pos hk,if_pos hk]at hla;have hrn:rsq.length=N:=by rw[<-HRR.out.1,<-HXY.out.1];simp
  have hrl:∀r∈rsq,r.2.2.length=Lw:=λr h'=>HRR.out.2.1 _ (by rw[<-HXY.out.1];exact List.mem_map.2 ⟨r,h',rfl⟩);have hsn:¬s<0:=by have:=HS.out.1;grind
  have hrz:∀i,i<N->∀j,j<Lw->qs (gq (B7 (rsq.map (·.2.2)) i) j)<=10000000:=λi hi j hj=>by rw[HXY.out.1];exact C0H (HRR.out.2.2 i hi j hj) (by omega)
  have hyz7:∀i,i<N->qs (gq Y i)<=10000000:=λi hi=>C0H (HY.out.2 i hi) (by omega);have hft:∀(v:List Rat),v.length=Lw->(∀j,j<Lw->qs (gq v j)<=10000000)->∀W (V:Ax),A4 w W->Tab W->Lq W V.1 v->Calls Tryz.prog 34 #[.slice XA N XC,.slice YQ N YK,.slice V.1 Lw V.2,qV s] W λe w'=>e = .returned (.tuple #[.int .i64 (if Q7 R Y v N Lw s<Lw then(Q7 R Y v N Lw s:Nat)else -1),.bool (decide (Q7 R Y v N Lw s=Lw)),.int .i64 0])/\A4 W w':=λv hv hvz W V hg hT hL=>by
   have h:=B4S XA YQ V.1 rsq Y v N Lw XC YK V.2 s hrn hN1 (by omega) hrl HY.out.1 hv hL1 (by omega) 10000000 (by omega) hrz hyz7 hvz (by have:=HS.out.2;omega) hsn W (HXY.out.2.1.grow (HG1.out.trans hg)) (HXY.out.2.2.grow (HG1.out.trans hg)) hL hT;rw[HXY.out.1]at h;exact h
  have hpr:∀(v:List Rat),v.length=Lw->(∀j,j<Lw->qs (gq v j)<=10000000)->∀W (V:Ax),A4 w W->Tab W->Lq W V.1 v->Calls Tryz.prog 32 #[.slice XA N XC,.slice YQ N YK,.slice V.1 Lw V.2,qV s] W λe w'=>e = .returned (.tuple #[qV (S5 R Y v N Lw s),.int .i64 0])/\A4 W w':=λv hv hvz W V hg hT hL=>by
   have h:=B6G XA YQ V.1 rsq Y v N Lw XC YK V.2 s hrn hN1 (by omega) hrl HY.out.1 hv hL1 (by omega) 10000000 (by omega) hrz hyz7 hvz (by have:=HS.out.2;omega) hsn W (HXY.out.2.1.grow (HG1.out.trans hg)) (HXY.out.2.2.grow (HG1.out.trans hg)) hL hT;rw[HXY.out.1]at h;exact h
  have hoz7:∀j,j<Lw->qs (gq O j)<=10000000:=λj hj=>C0H (HO.out.2.1 j hj) (by omega);have pz1:=A9O (X:=R) (y:=Y) (w:=J6 R Y N Lw s) (N:=N) (L:=Lw) (a:=s) (s:=10000000) (by omega) (by omega) (by omega) (λi hi j hj=>C0H (HRR.out.2.2 i hi j hj) (by omega)) hyz7 hqz (by have:=HS.out.2;omega);have pz2:=A9O (X:=R) (y:=Y) (w:=O) (N:=N) (L:=Lw) (a:=s) (s:=10000000) (by omega) (by omega) (by omega) (λi hi j hj=>C0H (HRR.out.2.2 i hi j hj) (by omega)) hyz7 hoz7 (by have:=HS.out.2;omega);have hf1:=hft _ hql hqz;have hf2:=hft O HO.out.1 hoz7;have hp1:=hpr _ hql hqz;have hp2:=hpr O HO.out.1 hoz7;rw[f1,if_neg (Nat.lt_irrefl _)]at hf1;simp only[decide_true]at hf1;obtain⟨bq,hbq⟩:∃b,b=decide (J6 R Y N Lw s=O):=⟨_,rfl⟩
  have hba:decide (Q7 R Y O N Lw s=Lw)=bq:=by rw[hbq];exact decide_eq_decide.2 f3
  rw[hba]at hf2;obtain⟨z2,hz2⟩:∃z:Int,z=(if Q7 R Y O N Lw s<Lw then((Q7 R Y O N Lw s:Nat):Int)else -1):=⟨_,rfl⟩
  rw[<-hz2]at hf2;have hcm:=λW=>Y5 (S5 R Y (J6 R Y N Lw s) N Lw s) (S5 R Y O N Lw s) W (by omega);have hc1:decide (E9 (S5 R Y (J6 R Y N Lw s) N Lw s) (S5 R Y O N Lw s)<=0)=true:=C04 (A59.2 f2);have hc2:(E9 (S5 R Y (J6 R Y N Lw s) N Lw s) (S5 R Y O N Lw s) == 0)=bq:=by rw[A4b,hbq];exact decide_eq_decide.2 f4
  have hsq:∀(v v':List Rat),v.length=Lw->v'.length=Lw->(∀j,j<Lw->qs (gq v j)<=10000000)->(∀j,j<Lw->qs (gq v' j)<=10000000)->∀W (V V':Ax),Lq W V.1 v->Lq W V'.1 v'->Calls Tryz.prog 55 #[.slice V.1 Lw V.2,.slice V'.1 Lw V'.2] W λe w'=>e = .returned (.bool (decide (v=v')))/\A4 W w':=λv v' hv hv' hz hz' W V V' g1 g2=>A9b V.1 V'.1 v v' Lw V.2 V'.2 hv hv' (by omega) 10000000 (B0P hv hz) (B0P hv' hz') (by omega) W g1 g2;have hs1:=hsq _ _ hql hql hqz hqz;have hs2:=hsq _ _ hql HO.out.1 hqz hoz7;simp only[decide_true]at hs1;rw[<-hbq]at hs2;obtain⟨Q1,hQ1⟩:∃x,x=J6 R Y N Lw s:=⟨_,rfl⟩
  rw[<-hQ1]at hat hla hf1 hp1 hcm hc1 hc2 hs1 hs2;obtain⟨P1,hP1⟩:∃x,x=S5 R Y Q1 N Lw s:=⟨_,rfl⟩
  obtain⟨P2,hP2⟩:∃x,x=S5 R Y O N Lw s:=⟨_,rfl⟩
  rw[<-hP1]at hp1 hcm hc1 hc2;rw[<-hP2]at hp2 hcm hc1 hc2;obtain⟨cz,hcz⟩:∃x,x=E9 P1 P2:=⟨_,rfl⟩
  rw[<-hcz]at hcm hc1 hc2;have fbb:(bq == bq)=true:=by cases bq<;>rfl
  have Hat:=C0P hat;have Hla:=C0P hla;have Hf1:=C0P hf1;have Hf2:=C0P hf2;have Hp1:=C0P hp1;have Hp2:=C0P hp2;have Hcm:=C0P hcm;have Hs1:=C0P hs1;have Hs2:=C0P hs2;clear hk eP hkk hkL hlen sh od hG70 hP70 hpz hb3 h40 hwd hat f1 f2 f3 f4 hql hqz hla hrn hrl hsn hrz hyz7 hft hpr hoz7 pz1 pz2 hf1 hf2 hp1 hp2 hbq hba hz2 hcm hsq hs1 hs2 hQ1 hP1 hP2 hcz HX Hcase;refine r0T ?_;refine C0Q (rfl) ?_;refine C0R ?_;refine A6 ?_;refine C0K (rsC Y6 [0,1,1,2] hB hG λK L hN hL=>?_);refine gs ?_;refine gmd (C:=λv ⟨hgu,hB,hG,_⟩=>Hqq.out _ (HT.grow hG)) ?_;refine gmw (C:=λv=>Hab.out _) ?_;refine gaa (G8 _ _ _ _ _) λb19 hb19 hn19=>?_;replace hF:=hF.n1 [] hB hG hb19 hn19;refine geC hL ?_;clear hB hG hL L;rintro u ⟨⟨-,hB,hG,-⟩,h19⟩;replace hB:=hB.cons' h19;clear h19;clear hb19 hn19;refine gtT ?_;clear hN K;refine st hB hF hG 0 0 [_,_,_,_,_] ?_;clear hB hG;intro u hB hG;refine C0K (rsE Y6 [0,0,1,0,0,0,0,0] hB hG λL hL=>?_)
  repeat first|refine gya ?_|refine gyr ?_|refine gna ?_|refine gyb (by(rintro v ⟨hgu,hB,hG,-⟩ N hN;have r:=hB.r;simp only[BxR]at r;(first|(obtain⟨y1,y2,y3,y4,y5⟩:=Hr9.out v hG;simp only[Nat.zero_add]at y1 y2 y3 y4 y5)|skip);(first|have q0:=Hr0.out v (HGt.out.trans hG)|skip);go_simp;exact hN)) ?_
  refine gxd (X:=Ax) (λx:Ax=>.tuple #[.slice x.1 Lw x.2,.int .i64 0]) (λx W=>Lq W x.1 Q1) (λx u u' hg h=>Lq.grow h hg) (λx73=>?_) (C:=by(rintro v ⟨hgu,hB,hG,-⟩;exact Hat.out _ hG (HT.grow hG)));refine gs ?_;refine geT hL ?_;clear hB hG hL L;rintro u ⟨⟨hgu,hB,hG,-⟩,hx73⟩;have HQ:=C0P hx73;have HB9:=C0P hB.head;clear hx73;clear hgu;have HG0:=C0P hG;clear hB hF hG;obtain⟨w0,rfl⟩:=exQ w;obtain⟨w,hwu⟩:=exQ u;rw[<-hwu]at HG0 HQ HB9;have hB:=Bx.nil u;have hF:=Fr.nil w;have hG:A4 w u:=hwu ▸ A4.refl u;clear hwu;have hr9:∀W,A4 w W->Cq W b19 0 s:=λW hg=>by
   have h:=HB9.out.grow hg;exact⟨by rw[h.cell 0];rfl,by rw[h.cell 1];rfl,by rw[h.cell 2];rfl,by rw[h.cell 3];rfl,by rw[h.cell 4];rfl⟩
  have Hr9:=C0P hr9;have HGd:=C0P (HGc.out.trans HG0.out);have HGe:=C0P HG0.out;have HT':=HT.grow HG0.out;have HGt:=C0P (HGs.out.trans HG0.out);clear HT HG0 HGc HGs hr9 HB9;have HT:=HT';clear HT';refine C0K (rsE Y6 [0,0,0,0,1,0,0,0,0,0,0,0] hB hG λL hL=>?_)
  repeat first|refine gya ?_|refine gyr ?_|refine gna ?_|refine gyb (by(rintro v ⟨hgu,hB,hG,-⟩ N hN;have r:=hB.r;simp only[BxR]at r;(first|(obtain⟨y1,y2,y3,y4,y5⟩:=Hr9.out v hG;simp only[Nat.zero_add]at y1 y2 y3 y4 y5)|skip);(first|have q0:=Hr0.out v (HGt.out.trans hG)|skip);go_simp;exact hN)) ?_
  refine gmd (C:=λv ⟨hgu,hB,hG,_⟩=>Hf1.out _ x73 (HGe.out.trans hG) (HT.grow hG) (HQ.out.grow hG)) ?_;refine gs ?_;refine geT hL ?_;clear hB hG hL L;rintro u ⟨-,hB,hG,-⟩;refine C0K (rsE Y6 [0,0,0,1,0,0,0,0,0] hB hG λL hL=>?_)
  repeat first|refine gya ?_|refine gyr ?_|refine gna ?_|refine gyb (by(rintro v ⟨hgu,hB,hG,-⟩ N hN;have r:=hB.r;simp only[BxR]at r;(first|(obtain⟨y1,y2,y3,y4,y5⟩:=Hr9.out v hG;simp only[Nat.zero_add]at y1 y2 y3 y4 y5)|skip);(first|have q0:=Hr0.out v (HGt.out.trans hG)|skip);go_simp;exact hN)) ?_
  refine gxd (X:=Ax) (λx:Ax=>.tuple #[.slice x.1 Lw x.2,.int .i64 0]) (λx W=>Lq W x.1 Q1) (λx u u' hg h=>Lq.grow h hg) (λx89=>?_) (C:=by(rintro v ⟨hgu,hB,hG,-⟩;exact Hla.out _ (HGe.out.trans hG) (HT.grow hG)));refine gs ?_;refine geT hL ?_;clear hB hG hL L;rintro u ⟨⟨hgu,hB,hG,-⟩,hx89⟩;have HR:=C0P hx89;obtain⟨w9,hw9⟩:=exQ u;rw[<-hw9]at HR;have hg9:A4 w9 u:=hw9 ▸ A4.refl u;clear hx89 hw9;clear hgu;refine C0K (rsE Y6 [0,0,0,0,0,1,1,0] hB hG λL hL=>?_)
  repeat first|refine gya ?_|refine gyr ?_|refine gna ?_|refine gyb (by(rintro v ⟨hgu,hB,hG,-⟩ N hN;have r:=hB.r;simp only[BxR]at r;(first|(obtain⟨y1,y2,y3,y4,y5⟩:=Hr9.out v hG;simp only[Nat.zero_add]at y1 y2 y3 y4 y5)|skip);(first|have q0:=Hr0.out v (HGt.out.trans hG)|skip);go_simp;exact hN)) ?_
  refine gxd (X:=Ax) (λx:Ax=>.slice x.1 Lw x.2) (λx W=>Lz W x.1 O) (λx u u' hg h=>Lz.grow h hg) (λx97=>?_) (C:=by(rintro v ⟨hgu,hB,hG,-⟩;exact Hro.out _ (HGd.out.trans hG)));refine gxd (X:=Ax) (λx:Ax=>.slice x.1 Lw x.2) (λx W=>Lq W x.1 O) (λx u u' hg h=>Lq.grow h hg) (λx98=>?_) (C:=by(rintro v ⟨⟨hgu,hB,hG,-⟩,hx97⟩;exact Hio.out _ x97 hx97 (HT.grow hG)));refine gs ?_;refine geT hL ?_;clear hB hG hL L;rintro u ⟨⟨⟨hgu,hB,hG,-⟩,hx97⟩,hx98⟩;have HO3:=C0P (And.intro (HR.out.grow (hg9.trans hgu)) hx98);clear hx98 hx97 HR hg9;clear hgu;have HG0:=C0P hG;clear hB hF hG;obtain⟨w0,rfl⟩:=exQ w;obtain⟨w,hwu⟩:=exQ u;rw[<-hwu]at HG0 HO3;have hB:=Bx.nil u;have hF:=Fr.nil w;have hG:A4 w u:=hwu ▸ A4.refl u;clear hwu;have HGf:=C0P (HGd.out.trans HG0.out);have HGg:=C0P (HGe.out.trans HG0.out);have HT':=HT.grow HG0.out;have Hr92:=C0P (λW (hg:A4 w W)=>Hr9.out W (HG0.out.trans hg));have HQ2:=C0P (HQ.out.grow HG0.out);clear HT HG0 HGd HGe Hr9 HQ HGt;have HT:=HT';have Hr9:=Hr92;have HQ:=HQ2;clear HT' Hr92 HQ2;refine C0K (rsC Y6 [0,0,0,0,1,0,0,0,2] hB hG λK L hN hL=>?_)
  repeat first|refine gya ?_|refine gyr ?_|refine gna ?_|refine gyb (by(rintro v ⟨hgu,hB,hG,-⟩ N hN;have r:=hB.r;simp only[BxR]at r;(first|(obtain⟨y1,y2,y3,y4,y5⟩:=Hr9.out v hG;simp only[Nat.zero_add]at y1 y2 y3 y4 y5)|skip);(first|have q0:=Hr0.out v (HGt.out.trans hG)|skip);go_simp;exact hN)) ?_
  refine gmd (C:=λv ⟨hgu,hB,hG,_⟩=>Hp1.out _ x73 (HGg.out.trans hG) (HT.grow hG) (HQ.out.grow hG)) ?_;refine gs ?_;refine gaa (G8 _ _ _ _ _) λb28 hb28 hn28=>?_;replace hF:=hF.n1 [] hB hG hb28 hn28;refine geC hL ?_;clear hB hG hL L;rintro u ⟨⟨-,hB,hG,-⟩,h28⟩;replace hB:=hB.cons' h28;clear h28;clear hb28 hn28;refine gtT ?_;clear hN K;refine st hB hF hG 0 0 [_,_,_,_,_] ?_;clear hB hG;intro u hB hG;refine C0K (rsC Y6 [0,0,0,0,1,0,0,0,2] hB hG λK L hN hL=>?_)
  repeat first|refine gya ?_|refine gyr ?_|refine gna ?_|refine gyb (by(rintro v ⟨hgu,hB,hG,-⟩ N hN;have r:=hB.r;simp only[BxR]at r;(first|(obtain⟨y1,y2,y3,y4,y5⟩:=Hr9.out v hG;simp only[Nat.zero_add]at y1 y2 y3 y4 y5)|skip);(first|have q0:=Hr0.out v (HGt.out.trans hG)|skip);go_simp;exact hN)) ?_
  refine gmd (C:=λv ⟨hgu,hB,hG,_⟩=>Hp2.out _ x98 (HGg.out.trans hG) (HT.grow hG) (HO3.out.2.grow hG)) ?_;refine gs ?_;refine gaa (G8 _ _ _ _ _) λb30 hb30 hn30=>?_;replace hF:=hF.n1 [] hB hG hb30 hn30;refine geC hL ?_;clear hB hG hL L;rintro u ⟨⟨-,hB,hG,-⟩,h30⟩;replace hB:=hB.cons' h30;clear h30;clear hb30 hn30;refine gtT ?_;clear hN K;refine st hB hF hG 0 0 [_,_,_,_,_] ?_;clear hB hG;intro u hB hG;refine C0K (rsE Y6 [0,0,0,0,1,0,0,0,0,0,0,0] hB hG λL hL=>?_)
  repeat first|refine gya ?_|refine gyr ?_|refine gna ?_|refine gyb (by(rintro v ⟨hgu,hB,hG,-⟩ N hN;have r:=hB.r;simp only[BxR]at r;(first|(obtain⟨y1,y2,y3,y4,y5⟩:=Hr9.out v hG;simp only[Nat.zero_add]at y1 y2 y3 y4 y5)|skip);(first|have q0:=Hr0.out v (HGt.out.trans hG)|skip);go_simp;exact hN)) ?_
  refine gmd (C:=λv ⟨hgu,hB,hG,_⟩=>Hf2.out _ x98 (HGg.out.trans hG) (HT.grow hG) (HO3.out.2.grow hG)) ?_;refine gs ?_;refine geT hL ?_;clear hB hG hL L;rintro u ⟨-,hB,hG,-⟩;refine C0K (rsE Y6 [1,0,0,0,0,0,0,0,0,0,0,0,0,0,0,0,0,0,0,0,0,0,0,0,0,0,0,0,0,0,0,0,0,0,0,1,0,0,0,0,1,0,0,0,0,0,0,1,0,0,0,0,0,1,0,0,0,0,0] hB hG λL hL=>?_);refine gmd (C:=λv ⟨hgu,hB,hG,_⟩=>B0w _ (HT.grow hG)) ?_;refine gs ?_
  first|refine gmd (C:=λv ⟨hgu,hB,hG,_⟩=>Hs1.out _ x73 x89 (HQ.out.grow hG) (HO3.out.1.grow hG)) ?_|refine L0 ?_
  repeat first|refine gya ?_|refine gyr ?_|refine gna ?_|refine gyb (by(rintro v ⟨hgu,hB,hG,-⟩ N hN;have r:=hB.r;simp only[BxR]at r;(first|(obtain⟨y1,y2,y3,y4,y5⟩:=Hr9.out v hG;simp only[Nat.zero_add]at y1 y2 y3 y4 y5)|skip);(first|have q0:=Hr0.out v (HGt.out.trans hG)|skip);go_simp;exact hN)) ?_
  first|refine gmw (C:=λv=>Hcm.out _) ?_|refine L0 ?_
  refine gs ?_
  first|refine gmd (C:=λv ⟨hgu,hB,hG,_⟩=>Hs2.out _ x73 x98 (HQ.out.grow hG) (HO3.out.2.grow hG)) ?_|refine L0 ?_
  repeat first|refine gya ?_|refine gyr ?_|refine gna ?_|refine gyb (by(rintro v ⟨hgu,hB,hG,-⟩ N hN;have r:=hB.r;simp only[BxR]at r;(first|(obtain⟨y1,y2,y3,y4,y5⟩:=Hr9.out v hG;simp only[Nat.zero_add]at y1 y2 y3 y4 y5)|skip);(first|have q0:=Hr0.out v (HGt.out.trans hG)|skip);go_simp;exact hN)) ?_
  first|refine gmw (C:=λv=>Hcm.out _) ?_|refine L0 ?_
  refine gs ?_;refine geT hL ?_;clear hB hG hL L;rintro u ⟨-,hB,hG,-⟩;refine rt Tryz.results11 ?_;exact⟨rfl,HGf.out.trans hG⟩
 ·subst e0;have hl0:kl=0:=by rw[Hkl.out,eP];rfl
  subst hl0;clear eP Hcase HX;refine r0T ?_;refine C0S (rfl) ?_;refine C0K (rsE Y6 [1,0,0,0,0,0,0,0,0,0,0] hB hG λL hL=>?_);refine gmd (C:=λv ⟨hgu,hB,hG,_⟩=>B0w _ (HT.grow hG)) ?_;refine gs ?_;refine geT hL ?_;clear hB hG hL L;rintro u ⟨-,hB,hG,-⟩;refine rt Tryz.results11 ?_;exact⟨rfl,HGc.out.trans hG⟩
end Go.Proofs.YtgpglgbcobeogaaGreatDoor
namespace Go.Proofs.YtgpglgbcobeogaaGreatDoor.lassoFits
open Go.ChangeShapes Go.WideShapes Go.ChangeAt Go.RowKit
theorem B4h:∀t∈Tryz.f11.params.toList,Tryz.prog.readableRec t=true/\t<Tryz.prog.types.size:=by
 have h:(Tryz.f11.params.toList.all λt=>Tryz.prog.readableRec t&&decide (t<Tryz.prog.types.size))=true:=by kernel_rfl
 intro t ht;have:=List.all_eq_true.1 h t ht
 simpa using this
theorem B2U(H:Type)(enc:TypeId×Value->H)(W:World)(base:Nat)(args:Array Value)(ds gs:List (DataW H))(before:List MemPlace)
  (hval:∀(j:Nat) t v,Tryz.f11.params[j]?=some t->args[j]?=some v->Value.okWide Tryz.prog W .any base t v)
  (hW:DataW.Whole enc Tryz.prog Tryz.f11.params.toList Rows.lassoFitsSpec.vars false W args.toList ds gs before) (hL:laidMetH Tryz.prog Rows.lassoFitsRow.laid W) :
  Calls Tryz.prog 11 args W λe W'=>∃v,e = .returned v/\Rows.lassoFitsSpec.post enc Tryz.prog Tryz.f11 false true false false W args v W':=by
 have hW':=hW;obtain⟨p,q,hA0,hV,rfl,hfz,hnd⟩:=hW;have hA:DataW.TrodAll enc Tryz.prog W 0 (λ_=>true) true Tryz.f11.params.toList args.toList ds p:=hA0;rw[Tryz.params11]at hA hval;obtain⟨v0,vs0,d0,ds0,p0,q0,ha0,rfl,rfl,h0,hA1⟩:=C1x hA;obtain⟨v1,vs1,d1,ds1,p1,q1,rfl,rfl,rfl,h1,hA2⟩:=C1x hA1;obtain⟨v2,vs2,d2,ds2,p2,q2,rfl,rfl,rfl,h2,hA3⟩:=C1x hA2;obtain⟨v3,vs3,d3,ds3,p3,q3,rfl,rfl,rfl,h3,hA4⟩:=C1x hA3;obtain⟨v4,vs4,d4,ds4,p4,q4,rfl,rfl,rfl,h4,hA5⟩:=C1x hA4;obtain⟨v5,vs5,d5,ds5,p5,q5,rfl,rfl,rfl,h5,hA6⟩:=C1x hA5;obtain⟨rfl,rfl,rfl⟩:=trodAll_nil hA6;obtain rfl:args=#[v0,v1,v2,v3,v4,v5]:=by
  cases args
  simp_all
 obtain⟨rfl,rfl⟩:=trodVars_none hV;obtain⟨A0,l0,c0,rfl,hl0,hn0,hb0,hc0⟩:=B3T (hval 0 22 v0 rfl rfl) h0;obtain⟨A1,l1,c1,rfl,hl1,hn1,hb1⟩:=B0h (hval 1 22 v1 rfl rfl) h1;obtain⟨A2,l2,c2,rfl,hl2,hn2,hb2⟩:=B0h (hval 2 22 v2 rfl rfl) h2;obtain⟨n3,rfl,rfl,rfl,w3⟩:=open_int C10 (hval 3 3 v3 rfl rfl) h3;obtain⟨lo3,hi3⟩:=bounds_i64 w3;obtain⟨n4,rfl,rfl,rfl,w4⟩:=open_int C10 (hval 4 3 v4 rfl rfl) h4;obtain⟨lo4,hi4⟩:=bounds_i64 w4;obtain⟨n5,rfl,rfl,rfl,w5⟩:=open_int C10 (hval 5 3 v5 rfl rfl) h5;obtain⟨lo5,hi5⟩:=bounds_i64 w5;refine(B84 A0 l0 c0 A1 l1 c1 A2 l2 c2 n3 n4 n5 hn0 hc0 hb0 hn1 hb1 hn2 hb2 lo3 hi3 lo4 hi4 lo5 hi5 W hl0 hl1 hl2 (B6O (by kernel_rfl) hL)).mono λe W' ⟨he,hg⟩=>?_;exact⟨_,he,B6Q hW' rfl rfl rfl rfl (by kernel_rfl) B4h hg⟩
def wit:Array Value:=#[.slice none 0 0,.slice none 0 0,.slice none 0 0,.int .i64 0,.int .i64 0,.int .i64 0]
theorem B8x(os:Os):laidMet Tryz.prog Rows.lassoFitsRow.laid ((laidWorld os).forCall (λ_ _=>0) ⟨#[],wit,[]⟩).memory :=
 laidMet_of_run' 8 (by kernel_rfl) (by kernel_rfl)
theorem reads(os:Os){H:Type}(enc:TypeId×Value->H):∃places,DataW.whole enc Tryz.prog ((laidWorld os).forCall (λ_ _=>0) ⟨#[],wit,[]⟩).memory Tryz.f11.params.toList Rows.lassoFitsSpec.vars false wit.toList 8=some ([.nil,.nil,.nil,.lit (.int .i64 0),.lit (.int .i64 0),.lit (.int .i64 0)],[],places) :=
 ⟨[],by kernel_rfl⟩
theorem B2j(os:Os)(started:os.Started)(H:Type)(enc:TypeId×Value->H)(F:Stop.Interp) :
  ReturnsInHanded {} Tryz.checked os 11 .any ((OpenSpec.ofChange Rows.lassoFitsSpec).preRow enc Tryz.prog Tryz.f11 Rows.lassoFitsRow.domain false Rows.lassoFitsRow.laid) (((OpenSpec.ofChange Rows.lassoFitsSpec).at F).post enc Tryz.prog Tryz.f11 false true false false):=by
 obtain⟨places,hx⟩:=reads os enc
 refine returnsInHanded_of_row (C:=Tryz.checked) (s:=OpenSpec.ofChange Rows.lassoFitsSpec) B4C started (by kernel_rfl) Tryz.func11
  (witness_row_at (enc:=enc) (C:=Tryz.checked) false (laidWorld os) wit rfl (by kernel_rfl) (by kernel_rfl) (by kernel_rfl)
   (OpenSpec.preRow_of_cond 8 hx (by kernel_rfl) (λk hk=>by cases hk) (by kernel_rfl) (B8x os))) ?_
 intro W base args ds gs before hval hW _ _ _ hL _ _;exact B2U H enc W base args ds gs before hval hW hL
theorem B8X:Rows.LassoFitsSaid :=
 OpenClaim.holds_of_cond 11 Tryz.f11 rfl rfl rfl rfl rfl rfl rfl ⟨rfl,rfl,rfl,rfl,rfl⟩ rfl rfl rfl rfl rfl (by kernel_rfl) Tryz.func11 (by kernel_rfl)
  (C03 (by kernel_rfl)) (by unfold Func.isWrapper;first|(rw[if_pos (by decide +kernel)];kernel_rfl)|(rw[if_neg (by decide +kernel)];exact⟨rfl,rfl⟩))
  (λos started H enc _ F=>by rw[OpenClaim.pre_eq_preRow];exact B2j os started H enc F)
theorem plain(f:FuncId)(fn:Func)(hf:Tryz.pinned.checked.prog.funcNamed Rows.lassoFitsRow.func=some f)(hfn:Tryz.pinned.checked.prog.funcs[f]?=some fn) :
  false=Tryz.pinned.checked.prog.looks []/\∀(j:Nat) t,fn.params[j]?=some t->Tryz.pinned.checked.prog.wantsStandIn t=false:=by
 obtain rfl:f=11:=B95 ((show Tryz.prog.funcNamed Rows.lassoFitsRow.func=some 11 by kernel_rfl).symm.trans hf) |>.symm;obtain rfl:fn=Tryz.f11:=(B95 (Tryz.func11.symm.trans hfn)).symm;refine⟨by kernel_rfl,λj t ht=>?_⟩;have h:(Tryz.f11.params.toList.all λt=>!Tryz.prog.wantsStandIn t)=true:=by kernel_rfl
 have:=List.all_eq_true.1 h t (Array.mem_toList_iff.2 (Array.mem_of_getElem? ht));have h2:Tryz.prog.wantsStandIn t=false:=by simpa using this
 exact h2
theorem card:Rows.LassoFitsCardSaid :=
 Claim7.holds_tied_plain_at .later [] _ _ _ _ B8X (λ_ h=>by cases h) (by kernel_rfl) (λ_ h=>by cases h) lassoFits_row_tie rfl ⟨rfl,rfl⟩ (by kernel_rfl) rfl plain (by kernel_rfl)
end Go.Proofs.YtgpglgbcobeogaaGreatDoor.lassoFits
namespace Go.Proofs.YtgpglgbcobeogaaGreatDoor
theorem lassoFits_holds:Rows.LassoFitsCardSaid:=lassoFits.card
#print axioms lassoFits_holds
end Go.Proofs.YtgpglgbcobeogaaGreatDoor
