import Derived.Test.YtgpglgbcobeogaaGreatDoorK47
set_option linter.unusedSimpArgs false
set_option linter.unusedVariables false
set_option maxHeartbeats 4000000
set_option maxRecDepth 100000
namespace Go.Proofs.YtgpglgbcobeogaaGreatDoor
open Go Go.RowKit
theorem B5m(A Y:Option Addr)(N M c d:Nat)(q:Rat)(z:Int)(hz:(z != 0)=true)(w:World)(ht:∀W,A4 w W->Calls Tryz.prog 35 #[.slice A N c,.slice Y M d] W λe w'=>e = .returned (.tuple #[qV q,.int .i64 0])/\A4 W w')
  (hu:∀W,A4 w W->Calls Tryz.prog 58 #[.slice A N c] W λe w'=>e = .returned (.int .i64 z)/\A4 W w') :
  Calls Tryz.prog 49 #[.slice A N c,.slice Y M d] w λe w'=>e = .returned (.tuple #[.slice none 0 0,.int .i64 z])/\A4 w w':=by
 have Ht:=B9t ht;have Hu:=B9t hu;clear ht hu;go_enter Tryz.func49,Tryz.ntmps49;refine en0 ?_;intro u hG hB hF;refine B9o (rsC H7 [0,0,1,0,0,0,2] hB hG λK L hN hL=>?_);refine gs ?_;refine gmd (C:=λv ⟨hgu,hB,hG,_⟩=>Ht.out _ hG) ?_;refine gs ?_;refine gaa (J3 _ _ _ _ _) λb6 hb6 hn6=>?_;replace hF:=hF.n1 [] hB hG hb6 hn6;refine geC hL ?_;clear hB hG hL L;rintro u ⟨⟨-,hB,hG,-⟩,h6⟩;replace hB:=hB.cons' h6;clear h6;clear hb6 hn6;refine gtT ?_;clear hN K;refine st hB hF hG 0 0 [_,_,_,_,_] ?_;clear hB hG;intro u hB hG;refine B9o ?_;refine r0T ?_;refine B9u (rfl) ?_;refine B9v ?_;refine A6 ?_;refine B9o ?_;refine B9o (rsE H7 [0,1,0] hB hG λL hL=>?_);refine gs ?_;refine gmd (C:=λv ⟨hgu,hB,hG,_⟩=>Hu.out _ hG) ?_;refine gs ?_;refine geT hL ?_;clear hB hG hL L;rintro u ⟨-,hB,hG,-⟩;refine r0T ?_;refine B9w (rfl) ?_;refine r0T ?_;refine rt Tryz.results49 ?_;exact⟨rfl,hG⟩
theorem B1g{X:List (List Rat)}{y:List Rat}{N L S:Nat}(h1:1<=S)(h:∀i,i<L->qs (gq (I6 X y N L) i)<=S):qs (J5 X y N L)<=S :=
 A5h h1 (λj hj=>by rw[B1W X y N L hj];exact h j hj) L (K2 _)
theorem B5y(A:Option Addr)(rs:List Rq)(N Lw c:Nat)(Y:Ax)(y:List Rat)(hn:rs.length=N)(hN1:1<=N)(hN2:N<=20)(hL1:1<=Lw)(hL2:Lw<=6)(hrl:∀r∈rs,r.2.2.length=Lw)(hy:y.length=N)(s g:Nat)(hs1:1<=s)(hs:s<=1000)(hX:∀i,i<N->∀j,j<Lw->qs (gq (B7 (rs.map (·.2.2)) i) j)<=s)(hys:∀i,i<N->qs (gq y i)<=s)(hg1:1<=g)
  (hG:∀i,i<Lw->∀j,j<Lw->qs (gq (B7 (L7 (rs.map (·.2.2)) N Lw) i) j)<=g) (hP:∀i,i<Lw->qs (gq (I6 (rs.map (·.2.2)) y N Lw) i)<=g) (hBz:1600*(g*10^(Lw+1))+100<=BIG)
  (hun:A2W (rs.map (·.2.2)) N Lw) (w:World) (h:Lrq w A rs) (h2:Lq w Y.1 y) (HT:Tab w) :
  Calls Tryz.prog 49 #[.slice A N c,.slice Y.1 N Y.2] w λe w'=>∃(ks:List Kq) (v:Value),e = .returned (.tuple #[v,.int .i64 0])/\w'.ownsRow w.heap.size 84 6 v ks.length (ks.flatMap kqL)/\(∀x∈ks,Lq w' x.2.1.1 x.2.2)/\ks.map F7=I8 (rs.map (·.2.2)) y N Lw/\A4 w w':=by
 have hgZ:10*g<=g*10^(Lw+1):=by
  rw[Nat.pow_succ,C0K (10^Lw) 10,<-C0r,C0K g 10];exact C0p _ (C1K (by omega))
 have htp:=B1g hg1 hP;have hsz:∀k,k<3^Lw->(∀i,i<Lw->qs (gq (R4 (rs.map (·.2.2)) y N Lw k) i)<=20*(g*10^(Lw+1)))/\(∀i,i<Lw->qs (gq (R6 (rs.map (·.2.2)) N Lw k) i)<=20*(g*10^(Lw+1)))/\∀x∈J6 (rs.map (·.2.2)) y N Lw k,qs x.1<=20*(g*10^(Lw+1))/\qs x.2<=20*(g*10^(Lw+1)):=λk _=>by
  obtain⟨z1,z2,z3⟩:=A59 hg1 hL2 hG hP k;generalize g*10^(Lw+1)=Z at *;exact⟨λi _=>B9l (z1 i) (by omega),λi _=>B9l (z2 i) (by omega),z3⟩
 have hsv:∀k,k<3^Lw->A2h Lw (L7 (rs.map (·.2.2)) N Lw) (I6 (rs.map (·.2.2)) y N Lw) (E9 Lw k) (R4 (rs.map (·.2.2)) y N Lw k) (R6 (rs.map (·.2.2)) N Lw k) (J6 (rs.map (·.2.2)) y N Lw k):=λk _=>B5o hun hL1 hL2 hg1 hG hP (by generalize g*10^(Lw+1)=Z at *;omega) k;have hln:∀k,k<3^Lw->(R4 (rs.map (·.2.2)) y N Lw k).length=Lw/\(R6 (rs.map (·.2.2)) N Lw k).length=Lw/\(J6 (rs.map (·.2.2)) y N Lw k).length<=1000:=λk _=>B3J _ y N Lw k hL2;have hall:=B1q (y:=y) hun;have hne:1<=(H8 (rs.map (·.2.2)) y N Lw).length:=by rw[A04];exact A7T.1
 unfold I8;rw[<-hall]at hne⊢;generalize g*10^(Lw+1)=Z at *;exact B1x A rs N Lw c Y y hn hN1 hN2 hL1 hL2 hrl hy s hs1 hs hX hys hun _ _ _ (20*Z) (40*Z) (by omega) (by omega) (by omega) (by omega) hln hsz hsv hne w h h2 HT
theorem B3u{X:List (List Rat)}{y:List Rat}{N L g:Nat}(hg1:1<=g)(hL:L<=6)(hG:∀i,i<L->∀j,j<L->qs (gq (B7 (L7 X N L) i) j)<=g)(hP:∀i,i<L->qs (gq (I6 X y N L) i)<=g):∀t,t<(I8 X y N L).length->qs (knQ (I8 X y N L) t)<=40*(g*10^(L+1))/\∀j,qs (gq (knW (I8 X y N L) t) j)<=60*(g*10^(L+1)):=λt ht=>by
 obtain⟨i,hi,-,e1,e2,-⟩:=A42 ht;have hZ1:1<=g*10^(L+1):=C0E hg1 (C1K (by omega));have hgZ:g<=g*10^(L+1):=C0p _ (C1K (by omega));have hz:=λk=>A59 hg1 hL hG hP (y:=y) k;have h1:qs (knQ (I8 X y N L) t)<=40*(g*10^(L+1)):=by
  rw[e1,(A1G hi).1];refine B1I (z:=20*(g*10^(L+1))) (by omega) (B9l (B1g hg1 hP) (by omega)) (by omega) (λk _=>(hz k).2.2) _ (A0M.1 (A1o (by rw[<-A04];exact hi)))
 refine⟨h1,λj=>?_⟩;rw[e2];rcases B9U j L with hj|hj
 ·have:=B0Z (λi _=>(hz (S5 X y N L (knQ (I8 X y N L) t))).1 i) (λi _=>(hz (S5 X y N L (knQ (I8 X y N L) t))).2.1 i) h1 hj;refine B9l this ?_;generalize g*10^(L+1)=Z at *;omega
 ·unfold gq;rw[C1E (by rw[A41];exact hj)];exact B9l (show qs (0:Rat)<=1 by decide) (show 1<=60*(g*10^(L+1))by omega)
def A2U(X:List (List Rat))(y:List Rat)(N L:Nat):List Kn:=if rkR X N L=L then I8 X y N L else []
section
variable {N L:Nat} {R:List (List Rat)} {y:List Rat} (hRn:R.length=N) (hRl:∀r∈R,r.length=L) (hN1:1<=N) (hN:N<=6) (hL1:1<=L) (hL:L<=3) (hX:∀i,i<N->∀j,j<L->qs (gq (B7 R i) j)<=5) (hyn:y.length=N) (hys:∀i,i<N->qs (gq y i)<=5)
theorem A9S{L:Nat}(hL:L<=3):1600*(70*10^(L+1))+100<=BIG/\60*(70*10^(L+1))<=42000000:=by
 have h1:10^(L+1)<=10^4:=B90 (by omega) (by omega);have h2:70*10^(L+1)<=70*10^4:=C0m _ h1;unfold BIG;omega
include hN hX in
theorem A9t:∀i,i<L->∀j,j<L->qs (gq (B7 (L7 R N L) i) j)<=70:=λi hi j hj=>A9o (g:=70) hX (by omega) hi hj
include hN hX hys in
theorem A9Q:∀i,i<L->qs (gq (I6 R y N L) i)<=70:=λi hi=>B08 (g:=70) hX hys (by omega) hi
include hRn hRl hN1 hN hL1 hL hX hyn hys
theorem B73(W:World)(X Y:Ax)(rs:List Rq)(hr:rs.map (·.2.2)=R)(h1:Lrq W X.1 rs)(h2:Lq W Y.1 y)(HT:Tab W) :
  Calls Tryz.prog 49 #[.slice X.1 N X.2,.slice Y.1 N Y.2] W (G5 (λx:Ax×List Kq=>.tuple #[.slice x.1.1 (A2U R y N L).length x.1.2,.int .i64 (lsE R N L)]) (λx W'=>Lk W' x.1.1 x.2/\x.2.map F7=A2U R y N L) W):=by
 have e1:rs.length=N:=by rw[<-hRn,<-hr];simp
 have hrl:∀r∈rs,r.2.2.length=L:=λr h'=>hRl _ (by rw[<-hr];exact List.mem_map.2 ⟨r,h',rfl⟩);have hG:=A9t (N:=N) (L:=L) hN hX;have hP:=A9Q (N:=N) (L:=L) hN hX hys;have hb:=(A9S hL).1;subst hr;unfold lsE A2U;by_cases hk:rkR (rs.map (·.2.2)) N L=L
 ·rw[if_pos hk,if_pos hk];refine(B5y X.1 rs N L X.2 Y y e1 hN1 (by omega) hL1 (by omega) hrl hyn 5 70 (by omega) (by omega) hX hys (by omega) hG hP hb hk W h1 h2 HT).mono ?_;rintro e w' ⟨ks,v,rfl,g1,g2,g3,g4⟩;obtain⟨A,c,rfl,-,g5,-⟩:=A1M A6C (by omega) g1;refine⟨((A,c),ks),?_,⟨⟨g5,g2⟩,g3⟩,g4⟩;rw[<-g3,List.length_map]
 ·rw[if_neg hk,if_neg hk];have hle:=B7d (rs.map (·.2.2)) N L;refine(B5m X.1 Y.1 N N X.2 Y.2 _ 9 rfl W (λW' hg=>A3c X.1 Y.1 rs y N L X.2 Y.2 e1 hN1 (by omega) hrl hyn hL1 (by omega) 5 (by omega) (by omega) hX hys W' (h1.grow hg) (h2.grow hg) (HT.grow hg)) λW' hg=>?_).mono ?_
  ·have h:=A6o X.1 rs N L X.2 e1 hN1 (by omega) hL1 (by omega) hrl 5 (by omega) hX (by
    have h3:10^L<=10^3:=B90 (by omega) hL;have h4:5*10^L<=5*10^3:=C0m _ h3;have hBB:100000000<=BIG:=by unfold BIG;omega
    omega) W' (h1.grow hg) (HT.grow hg)
   have hlt:(C9 N L (E8 (rs.map (·.2.2)),[]) L).2.length<L:=Nat.lt_of_le_of_ne hle hk;rw[if_pos hlt]at h;exact h
  ·rintro e w' ⟨rfl,hg⟩;exact⟨((none,0),[]),rfl,⟨⟨λh=>absurd rfl h,λx hx=>absurd hx List.not_mem_nil⟩,rfl⟩,hg⟩
end
end Go.Proofs.YtgpglgbcobeogaaGreatDoor
