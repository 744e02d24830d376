/- Contracts and laws. -/
import Derived.Test.YtgpglgbcobeogaaGreatDoorT46
set_option linter.unusedSimpArgs false
set_option linter.unusedVariables false
set_option maxHeartbeats 8000000
set_option maxRecDepth 100000
namespace Go.Proofs.YtgpglgbcobeogaaGreatDoor
open Go Go.RowKit
theorem A9b (A Y V : Option Addr) (rs : List Rq) (y v : List Rat) (N L c d k : Nat) (a : Rat) (pa : Az) (hn : rs.length = N) (hN2 : N ≤ 20) (hrl : ∀ r ∈ rs,r.2.2.length = L) (hy : y.length = N) (hv : v.length = L) (hL : L ≤ 20) (s : Nat) (hs : s ≤ 1000) (hX : ∀ i,i < N → ∀ j,j < L → qs (gq (B7 (rs.map (·.2.2)) i) j) ≤ s) (hys : ∀ i,i < N → qs (gq y i) ≤ s) (hvs : ∀ j,j < L → qs (gq v j) ≤ s) (ha : qs a ≤ s) (w : World) (h : Lrz w A rs) (h2 : Lz w Y y) (h3 : Lz w V v) (h4 : Rz w pa a) :
  Calls Tryz.prog 41 #[.slice A N c,.slice Y N d,.slice V L k,rqV pa.1 pa.2 a] w (Ret (D7 (A1N (rs.map (·.2.2)) y v N L a)) w):=by
 have hBB : 100000000 ≤ BIG:=by unfold BIG;omega
 have hR:=A18 (X:=rs.map (·.2.2)) (y:=y) (w:=v) hN2 hL hs hX hys hvs
 have hat : ∀ i,i < N → ∃ (bb ob by0 oy : Nat) (P : Ax) (p1 : Az) (Z D : Rat),A = some ⟨bb,ob,none⟩ ∧ Y = some ⟨by0,oy,none⟩ ∧ (∀ W,A4 w W → W.cell? ⟨bb,ob + i,none⟩ = some (.slice P.1 L P.2) ∧ Rz W p1 Z ∧ Cz W by0 (oy + i * 3) p1 Z) ∧ (∀ W,A4 w W → Calls Tryz.prog 105 #[.slice P.1 L P.2,.slice V L k] W (Ret (D7 D) W)) ∧ qs Z + qs D + 10 ≤ BIG ∧ G5 Z D = gq (K5 (rs.map (·.2.2)) y v N L) i:=fun i hi=>by
  obtain ⟨bb,ob,P,e,hP,hl⟩:=A3Z hn hrl h hi
  obtain ⟨by0,oy,e2⟩:=h2.addr (by omega)
  subst e2
  obtain ⟨p,hp⟩:=h2.read (i:=i) (by omega)
  refine ⟨bb,ob,by0,oy,P,p,gq y i,E4 (B7 (rs.map (·.2.2)) i) v L,e,rfl,fun W hg=>⟨(hP W hg).1,hp W hg⟩,fun W hg=>?_,?_,by rw [A6g _ y v N L hi,A6T]⟩
  ·exact A4N P.1 V _ v P.2 k L hl hv hL s (by omega) (hX i hi) hvs W (hP W hg).2 (h3.grow hg)
  ·have z1:=Y7 (a:=B7 (rs.map (·.2.2)) i) (b:=v) (n:=L) (hX i hi) hvs L (Nat.le_refl _)
   have z2:=hys i hi
   have h4 : L * (s + s + 1) ≤ 20 * (s + s + 1):=Nat.mul_le_mul_right _ hL
   omega
 obtain ⟨R,hRe⟩ : ∃ R,R = K5 (rs.map (·.2.2)) y v N L:=⟨_,rfl⟩
 have hpr : A1N (rs.map (·.2.2)) y v N L a = A1Y (K3 (E4 R R N) (B9 2)) a v L:=by rw [A6t,hRe];rfl
 rw [hpr]
 simp only [← hRe] at hat
 rw [← hRe] at hR
 have hDz : ∀ j,j ≤ N → qs (E4 R R j) ≤ 3000000:=fun j hj=>by
  have h5:=Y7 hR hR j hj
  have h6 : j * (50000 + 50000 + 1) ≤ 20 * (50000 + 50000 + 1):=Nat.mul_le_mul_right _ (by omega)
  omega
 have h2z : qs (B9 2) ≤ 41:=A4y 2 (by omega)
 have hnz : B9 2 ≠ 0:=by decide
 have hSz : ∀ j,j ≤ L → qs (T9 v j) ≤ 20 * (s + 1) + 1:=fun j hj=>Nat.le_trans (A52 hvs j hj) (by have := Nat.mul_le_mul_right (s + 1) (show j ≤ 20 by omega);omega)
 have hatv : ∀ j,j < L → ∃ (bv ov : Nat) (pv : Az),V = some ⟨bv,ov,none⟩ ∧ (∀ W,A4 w W → Rz W pv (gq v j) ∧ Cz W bv (ov + j * 3) pv (gq v j)):=fun j hj=>by
  obtain ⟨bv,ov,e⟩:=h3.addr (by omega)
  subst e
  obtain ⟨p,hp⟩:=h3.read (i:=j) (by omega)
  exact ⟨bv,ov,p,rfl,hp⟩
 have Hat:=Lib.hid hat
 have Hatv:=Lib.hid hatv
 have HR:=Lib.hid hR
 have HDz:=Lib.hid hDz
 have HSz:=Lib.hid hSz
 have Hvs:=Lib.hid hvs
 have Ha:=Lib.hid (fun W (hg : A4 w W)=>h4.grow hg)
 clear hat hatv hR hDz hSz hvs hRe hpr h h2 h3 h4 hrl hn hX hys hy hv
 go_enter Tryz.func41,Tryz.ntmps41
 refine en2 ?_
 intro u hG b8 b7 hB hF
 refine wp_seq (rsC E7 [1,2] hB hG fun K L hN hL=>?_)
 refine grd (D7 (B9 0)) (fun (x13 : Ax × Ax)=>?_) (C:=fun v _=>A0C 0 (by omega) (by omega) _)
 refine gaa (A1V _ _ _ _ _) fun b9 hb9 hn9=>?_
 replace hF:=hF.n1 [] hB hG hb9 hn9
 refine geC hL ?_
 clear hB hG hL L
 rintro u ⟨⟨⟨-,hB,hG,-⟩,hx13⟩,h9⟩
 replace hB:=hB.cons' h9
 clear h9
 obtain ⟨hx13a,hx13b⟩ : Rn u x13.1 _ ∧ Rn u x13.2 _:=hx13
 clear hb9 hn9
 refine gtT ?_
 clear hN K
 refine sv hB hF hG 0 0 [_,_,_] ?_
 intro u hu hBG
 replace hx13a:=hx13a.put hB 0 rfl (by first | decide | simp) _ _ hu
 replace hx13b:=hx13b.put hB 0 rfl (by first | decide | simp) _ _ hu
 clear hB hG hu
 obtain ⟨hB,hG⟩:=hBG
 refine wp_seq ?_
 refine r0T ?_
 refine wp_block ?_
 go_loopw [10] (fun s0 wr=>∃ (j : Nat) (S : Rat) (p : Az),j ≤ N ∧ s0 = .int .i64 j ∧ S = E4 R R j ∧ Rz wr p S ∧ Bx wr [(b9,33,A1R p S),(b7,33,A1R pa a),(b8,33,A33)] ∧ A4 w wr) (fun s0 _=>N - (intOf s0).toNat)
 case atStart=>exact ⟨0,B9 0,x13,Nat.zero_le _,rfl,rfl,⟨hx13a,hx13b⟩,hB,hG⟩
 case round =>
  clear hB hG hx13a hx13b
  obtain ⟨j,S,p,hj,rfl,hSe,hS,hB,hG⟩:=hrel
  obtain ⟨u,rfl⟩ : ∃ x,x = wr:=⟨_,rfl⟩
  have z1:=HDz.out j hj
  rw [← hSe] at z1
  rcases Nat.lt_or_ge j N with hlt | hge
  ·have hdec : decide ((j : Int) < (N : Int)) = true:=by simp;omega
   have hjn : (j : Int) < (N : Int):=by omega
   obtain ⟨bb,ob,by0,oy,P,p1,Z,D,rfl,rfl,hrd,hdt,zz,e⟩:=Hat.out j hlt
   have hnx:=A8o R R j
   have z2:=HR.out j hlt
   rw [← hSe,← e] at hnx
   rw [← e] at z2
   have hsb:=fun W (q : Az) e1 e2 e3 e4=>A8Z p1.1 p1.2 q.1 q.2 Z D W e1 e2 e3 e4 (by omega)
   obtain ⟨E,hE⟩ : ∃ E,E = G5 Z D:=⟨_,rfl⟩
   rw [← hE] at hnx z2
   simp only [← hE] at hsb
   have z3:=S8 E E
   have hml:=fun W (q : Az) e1 e2=>A2U q.1 q.2 q.1 q.2 E E W e1 e2 e1 e2 (by omega)
   obtain ⟨M,hM⟩ : ∃ E',E' = C2 E E:=⟨_,rfl⟩
   rw [← hM] at hnx
   simp only [← hM] at hml
   have z4 : qs M ≤ 100000:=by rw [hM];unfold C2;omega
   have Hrd:=Lib.hid hrd
   have Hdt:=Lib.hid hdt
   have Hsb:=Lib.hid hsb
   have Hml:=Lib.hid hml
   have Hnx:=Lib.hid hnx
   clear hrd hdt hsb hml hnx e hE hM hSe z3 zz z2
   refine wp_seq ?_
   refine r0T ?_
   refine wp_cond_true (rfl) ?_
   refine wp_skip ?_
   refine A6 ?_
   refine wp_seq ?_
   refine wp_block ?_
   refine wp_seq (rdC E7 [] [(0,0),(0,1),(0,2),(0,3),(0,4),(0,5),(0,6),(0,7),(0,8),(1,9),(1,10),(2,11)] hB hG fun K L hN hL=>?_)
   repeat first | refine gya ?_ | refine gyr ?_ | refine gna ?_ | refine gyb (by (rintro v ⟨hgu,hB,hG,-⟩ N hN;have r:=hB.r;simp only [BxR] at r;obtain ⟨q0,-,q1,q2,q3⟩:=Hrd.out v hG;go_simp;exact hN)) ?_
   refine grd (D7 D) (fun (x29 : Ax × Ax)=>?_) (C:=by (rintro v ⟨hgu,hB,hG,-⟩;exact Hdt.out _ hG))
   refine grd (D7 E) (fun (x30 : Ax × Ax)=>?_) (C:=by (rintro v ⟨⟨hgu,hB,hG,-⟩,hx29⟩;obtain ⟨hx29a,hx29b⟩ : Rn v x29.1 _ ∧ Rn v x29.2 _:=hx29;exact Hsb.out _ x29 (Hrd.out _ hG).2.1.a (Hrd.out _ hG).2.1.b hx29a hx29b))
   refine gaa (A1V _ _ _ _ _) fun b11 hb11 hn11=>?_
   replace hF:=hF.n1 [] hB hG hb11 hn11
   refine geC hL ?_
   clear hB hG hL L
   rintro u ⟨⟨⟨⟨hgu,hB,hG,-⟩,hx29⟩,hx30⟩,h11⟩
   replace hB:=hB.cons' h11
   clear h11
   replace hS:=hS.grow hgu
   obtain ⟨hx29a,hx29b⟩ : Rn u x29.1 _ ∧ Rn u x29.2 _:=hx29
   obtain ⟨hx30a,hx30b⟩ : Rn u x30.1 _ ∧ Rn u x30.2 _:=hx30
   clear hb11 hn11
   clear hgu
   refine gtT ?_
   clear hN K
   refine sv hB hF hG 0 0 [_,_,_] ?_
   intro u hu hBG
   replace hS:=hS.put hB 0 rfl (by first | decide | simp) _ _ hu
   replace hx29a:=hx29a.put hB 0 rfl (by first | decide | simp) _ _ hu
   replace hx29b:=hx29b.put hB 0 rfl (by first | decide | simp) _ _ hu
   replace hx30a:=hx30a.put hB 0 rfl (by first | decide | simp) _ _ hu
   replace hx30b:=hx30b.put hB 0 rfl (by first | decide | simp) _ _ hu
   clear hB hG hu
   obtain ⟨hB,hG⟩:=hBG
   refine rdC E7 [] [(0,0),(0,1),(0,2),(1,3),(1,4)] hB hG fun K L hN hL=>?_
   repeat first | refine gya ?_ | refine gyr ?_ | refine gna ?_ | refine gyb (by (rintro v ⟨hgu,hB,hG,-⟩ N hN;have r:=hB.r;simp only [BxR] at r;obtain ⟨q0,-,q1,q2,q3⟩:=Hrd.out v hG;go_simp;exact hN)) ?_
   refine grd (D7 M) (fun (x34 : Ax × Ax)=>?_) (C:=by (rintro v ⟨hgu,hB,hG,-⟩;exact Hml.out _ x30 (hx30a.grow hgu) (hx30b.grow hgu)))
   refine grd (D7 (E6 S M)) (fun (x35 : Ax × Ax)=>?_) (C:=by (rintro v ⟨⟨hgu,hB,hG,-⟩,hx34⟩;obtain ⟨hx34a,hx34b⟩ : Rn v x34.1 _ ∧ Rn v x34.2 _:=hx34;exact A3s p.1 p.2 x34.1 x34.2 S M _ (hS.grow hgu).a (hS.grow hgu).b hx34a hx34b (by omega)))
   refine geC hL ?_
   clear hB hG hL L
   rintro u ⟨⟨⟨hgu,hB,hG,-⟩,hx34⟩,hx35⟩
   replace hS:=hS.grow hgu
   replace hx29a:=hx29a.grow hgu
   replace hx29b:=hx29b.grow hgu
   replace hx30a:=hx30a.grow hgu
   replace hx30b:=hx30b.grow hgu
   obtain ⟨hx34a,hx34b⟩ : Rn u x34.1 _ ∧ Rn u x34.2 _:=hx34
   obtain ⟨hx35a,hx35b⟩ : Rn u x35.1 _ ∧ Rn u x35.2 _:=hx35
   clear hgu
   refine gt ?_
   clear hN K
   refine sv hB hF hG 1 0 [_,_,_] ?_
   intro u hu hBG
   replace hS:=hS.put hB 1 rfl (by first | decide | simp) _ _ hu
   replace hx29a:=hx29a.put hB 1 rfl (by first | decide | simp) _ _ hu
   replace hx29b:=hx29b.put hB 1 rfl (by first | decide | simp) _ _ hu
   replace hx30a:=hx30a.put hB 1 rfl (by first | decide | simp) _ _ hu
   replace hx30b:=hx30b.put hB 1 rfl (by first | decide | simp) _ _ hu
   replace hx34a:=hx34a.put hB 1 rfl (by first | decide | simp) _ _ hu
   replace hx34b:=hx34b.put hB 1 rfl (by first | decide | simp) _ _ hu
   replace hx35a:=hx35a.put hB 1 rfl (by first | decide | simp) _ _ hu
   replace hx35b:=hx35b.put hB 1 rfl (by first | decide | simp) _ _ hu
   clear hB hG hu
   obtain ⟨hB,hG⟩:=hBG
   refine C3 ?_
   refine A6 ?_
   refine r0E ?_
   refine A6 ?_
   go_roundw
   case rel=>exact ⟨j + 1,E6 S M,x35,by omega,by go_num,Hnx.out.symm,⟨hx35a,hx35b⟩,hB.tail,hG⟩
   case measure=>simp [intOf];omega
  ·obtain rfl : N = j:=by omega
   have hdec : decide ((N : Int) < (N : Int)) = false:=by simp
   have z2:=A2u S (B9 2)
   have hdv:=fun W (q : Az) e1 e2 e3 e4=>B1S p.1 p.2 q.1 q.2 S (B9 2) W e1 e2 e3 e4 (by omega) hnz
   rw [← hSe]
   obtain ⟨E0,hE0⟩ : ∃ E,E = K3 S (B9 2):=⟨_,rfl⟩
   rw [← hE0]
   simp only [← hE0] at hdv
   have zE : qs E0 ≤ 3000041:=by rw [hE0];unfold K3;omega
   have Hdv:=Lib.hid hdv
   clear hdv hSe hE0 z2 hnz
   refine wp_seq ?_
   refine r0T ?_
   refine wp_cond_false (rfl) ?_
   refine wp_exit ?_
   refine B8 ?_
   refine B8 ?_
   refine D6 ?_
   refine A6 ?_
   refine wp_seq (rdC E7 [] [(0,0),(1,1),(1,2)] hB hG fun K L hN hL=>?_)
   refine gs ?_
   refine grd (D7 (B9 2)) (fun (x37 : Ax × Ax)=>?_) (C:=fun v _=>A0C 2 (by omega) (by omega) _)
   refine grd (D7 E0) (fun (x38 : Ax × Ax)=>?_) (C:=by (rintro v ⟨⟨hgu,hB,hG,-⟩,hx37⟩;obtain ⟨hx37a,hx37b⟩ : Rn v x37.1 _ ∧ Rn v x37.2 _:=hx37;exact Hdv.out _ x37 (hS.grow hgu).a (hS.grow hgu).b hx37a hx37b))
   refine geC hL ?_
   clear hB hG hL L
   rintro u ⟨⟨⟨hgu,hB,hG,-⟩,hx37⟩,hx38⟩
   replace hS:=hS.grow hgu
   obtain ⟨hx37a,hx37b⟩ : Rn u x37.1 _ ∧ Rn u x37.2 _:=hx37
   obtain ⟨hx38a,hx38b⟩ : Rn u x38.1 _ ∧ Rn u x38.2 _:=hx38
   clear hgu
   refine gtT ?_
   clear hN K
   refine sv hB hF hG 0 0 [_,_,_] ?_
   intro u hu hBG
   replace hS:=hS.put hB 0 rfl (by first | decide | simp) _ _ hu
   replace hx37a:=hx37a.put hB 0 rfl (by first | decide | simp) _ _ hu
   replace hx37b:=hx37b.put hB 0 rfl (by first | decide | simp) _ _ hu
   replace hx38a:=hx38a.put hB 0 rfl (by first | decide | simp) _ _ hu
   replace hx38b:=hx38b.put hB 0 rfl (by first | decide | simp) _ _ hu
   clear hB hG hu
   obtain ⟨hB,hG⟩:=hBG
   refine wp_seq ?_
   refine r0T ?_
   refine wp_block ?_
   go_loopw [12] (fun s0 wr=>∃ (j : Nat) (T : Rat) (p : Az),j ≤ L ∧ s0 = .int .i64 j ∧ T = A1Y E0 a v j ∧ Rz wr p T ∧ Bx wr [(b9,33,A1R p T),(b7,33,A1R pa a),(b8,33,A33)] ∧ A4 w wr) (fun s0 _=>L - (intOf s0).toNat)
   case atStart=>exact ⟨0,E0,x38,Nat.zero_le _,rfl,rfl,⟨hx38a,hx38b⟩,hB,hG⟩
   case round =>
    clear hB hG hx38a hx38b
    obtain ⟨j,T,p,hj2,rfl,hTe,hS,hB,hG⟩:=hrel
    obtain ⟨u,rfl⟩ : ∃ x,x = wr:=⟨_,rfl⟩
    rcases Nat.lt_or_ge j L with hlt | hge2
    ·have hdec2 : decide ((j : Int) < (L : Int)) = true:=by simp;omega
     have hjn2 : (j : Int) < (L : Int):=by omega
     obtain ⟨bv,ov,pv,rfl,hrd⟩:=Hatv.out j hlt
     have z0:=HSz.out j hj2
     have z1:=S8 a (T9 v j)
     have z2:=A2F E0 (C2 a (T9 v j))
     have z3:=Hvs.out j hlt
     have zT : qs T ≤ 3100000:=by
      rw [hTe,A6t]
      unfold E6
      unfold C2 at z2 ⊢
      omega
     have hnx : A1Y E0 a v (j + 1) = E6 (A1Y E0 a v j) (C2 a (I7 (gq v j))):=rfl
     rw [← hTe] at hnx
     obtain ⟨X,hX⟩ : ∃ X,X = gq v j:=⟨_,rfl⟩
     rw [← hX] at hnx z3
     simp only [← hX] at hrd
     have z5:=A0o X
     have hab:=fun W=>A5h pv.1 pv.2 X W
     have hpv:=fun W hg=>And.intro (A4S (hrd W hg).1.a) (A5V (hrd W hg).1.b)
     obtain ⟨B1,hB1⟩ : ∃ X',X' = I7 X:=⟨_,rfl⟩
     rw [← hB1] at hnx z5
     simp only [← hB1] at hab hpv
     have hml:=fun W (hg : A4 w W)=>A2U pa.1 pa.2 pv.1 pv.2 a B1 W (Ha.out W hg).a (Ha.out W hg).b (hpv W hg).1 (hpv W hg).2 (by omega)
     have z6:=S8 a B1
     obtain ⟨M,hM⟩ : ∃ X,X = C2 a B1:=⟨_,rfl⟩
     rw [← hM] at hnx
     simp only [← hM] at hml
     have z7 : qs M ≤ 2000:=by rw [hM];unfold C2;omega
     have Hrd:=Lib.hid hrd
     have Hab:=Lib.hid hab
     have Hml:=Lib.hid hml
     have Hnx:=Lib.hid hnx
     clear hrd hab hml hnx hpv hX hB1 hM hTe z0 z1 z2 z3 z5 z6
     refine wp_seq ?_
     refine r0T ?_
     refine wp_cond_true (rfl) ?_
     refine wp_skip ?_
     refine A6 ?_
     refine wp_seq ?_
     refine wp_block ?_
     refine rdC E7 [] [(0,0),(0,1),(0,2),(0,3),(0,4),(0,5),(1,6),(1,7),(1,8)] hB hG fun K L hN hL=>?_
     repeat first | refine gya ?_ | refine gyr ?_ | refine gna ?_ | refine gyb (by (rintro v ⟨hgu,hB,hG,-⟩ N hN;have r:=hB.r;simp only [BxR] at r;obtain ⟨-,q1,q2,q3⟩:=Hrd.out v hG;go_simp;exact hN)) ?_
     refine gmw (C:=fun v=>Hab.out _) ?_
     refine grd (D7 M) (fun (x52 : Ax × Ax)=>?_) (C:=by (rintro v ⟨hgu,hB,hG,-⟩;exact Hml.out _ hG))
     refine grd (D7 (E6 T M)) (fun (x53 : Ax × Ax)=>?_) (C:=by (rintro v ⟨⟨hgu,hB,hG,-⟩,hx52⟩;obtain ⟨hx52a,hx52b⟩ : Rn v x52.1 _ ∧ Rn v x52.2 _:=hx52;exact A3s p.1 p.2 x52.1 x52.2 T M _ (hS.grow hgu).a (hS.grow hgu).b hx52a hx52b (by omega)))
     refine geC hL ?_
     clear hB hG hL L
     rintro u ⟨⟨⟨hgu,hB,hG,-⟩,hx52⟩,hx53⟩
     replace hS:=hS.grow hgu
     obtain ⟨hx52a,hx52b⟩ : Rn u x52.1 _ ∧ Rn u x52.2 _:=hx52
     obtain ⟨hx53a,hx53b⟩ : Rn u x53.1 _ ∧ Rn u x53.2 _:=hx53
     clear hgu
     refine gt ?_
     clear hN K
     refine sv hB hF hG 0 0 [_,_,_] ?_
     intro u hu hBG
     replace hS:=hS.put hB 0 rfl (by first | decide | simp) _ _ hu
     replace hx52a:=hx52a.put hB 0 rfl (by first | decide | simp) _ _ hu
     replace hx52b:=hx52b.put hB 0 rfl (by first | decide | simp) _ _ hu
     replace hx53a:=hx53a.put hB 0 rfl (by first | decide | simp) _ _ hu
     replace hx53b:=hx53b.put hB 0 rfl (by first | decide | simp) _ _ hu
     clear hB hG hu
     obtain ⟨hB,hG⟩:=hBG
     refine C3 ?_
     refine A6 ?_
     refine r0E ?_
     refine A6 ?_
     go_roundw
     case rel=>exact ⟨j + 1,E6 T M,x53,by omega,by go_num,Hnx.out.symm,⟨hx53a,hx53b⟩,hB,hG⟩
     case measure=>simp [intOf];omega
    ·obtain rfl : L = j:=by omega
     have hdec2 : decide ((L : Int) < (L : Int)) = false:=by simp
     have HS0:=Lib.hid hTe
     clear hTe
     refine wp_seq ?_
     refine r0T ?_
     refine wp_cond_false (rfl) ?_
     refine wp_exit ?_
     refine B8 ?_
     refine B8 ?_
     refine D6 ?_
     refine A6 ?_
     refine r0T ?_
     refine sv hB hF hG 2 0 [_,_,_] ?_
     intro u hu hBG
     replace hS:=hS.put hB 2 rfl (by first | decide | simp) _ _ hu
     clear hB hG hu
     obtain ⟨hB,hG⟩:=hBG
     refine rt Tryz.results41 ?_
     exact A5m HS0.out hS.a hS.b hG
abbrev Tr:=Value × Value × Value
def trL (t : Tr) : List Value:=[t.1,t.2.1,t.2.2]
def tr0 : Tr:=(.bool false,.slice none 0 0,.slice none 0 0)
def trZ (p : Az) : Tr:=(.bool (E5 (B9 0).num),.slice p.1.1 (ln (B9 0).num.natAbs) p.1.2,.slice p.2.1 (ln (B9 0).den) p.2.2)
def Z4 (ps : List Az) (n : Nat) : List Tr:=ps.map trZ ++ List.replicate (n - ps.length) tr0
theorem A4U {ps : List Az} {n : Nat} (h : ps.length ≤ n) : (Z4 ps n).length = n:=by unfold Z4;simp;omega
theorem B4Q {ps : List Az} {n : Nat} (h : ps.length < n) (p : Az) : (Z4 ps n).set ps.length (trZ p) = Z4 (ps ++ [p]) n:=by
 unfold Z4
 rw [show n - ps.length = (n - (ps ++ [p]).length) + 1 by simp;omega,List.replicate_succ,List.set_append_right _ _ (by simp)]
 simp
theorem B43 {ps : List Az} {n : Nat} (h : ps.length = n) : (Z4 ps n).flatMap trL = (ps.map fun p=>((p,B9 0) : Zr)).flatMap zrL:=by
 unfold Z4
 rw [h,Nat.sub_self,List.replicate_zero,List.append_nil,List.flatMap_map,List.flatMap_map]
 rfl
theorem A9U : (Tryz.prog.info? 33).map (fun i=>(i.zero,i.size,i.bytes)) = some (some (.agg (trL tr0).toArray),3,56):=by kernel_rfl
theorem B4V (n : Nat) : madeCells (Value.agg (trL tr0).toArray).cells (n * 3) = ((List.replicate n tr0).flatMap trL).toArray:=by
 unfold madeCells
 have hl:=A12 (enc:=trL) (size:=3) (fun _=>rfl) (List.replicate n tr0)
 rw [List.length_replicate] at hl
 refine Array.ext (by rw [show (((List.replicate n tr0).flatMap trL).toArray).size = n * 3 from hl];simp) fun i h1 h2=>?_
 have h1' : i < n * 3:=by simpa using h1
 have hg:=A5I (enc:=trL) (size:=3) (fun _=>rfl) (List.replicate n tr0) (i / 3) (i % 3) (by rw [List.length_replicate];omega) (by omega)
 rw [show i / 3 * 3 + i % 3 = i by omega,List.getElem_replicate] at hg
 have h3 : ((List.replicate n tr0).flatMap trL)[i]? = some ((List.replicate n tr0).flatMap trL)[i]:=List.getElem?_eq_getElem _
 rw [h3] at hg
 have h4 : (trL tr0)[i % 3]? = some ((trL tr0)[i % 3]'(by show i % 3 < 3;omega)):=List.getElem?_eq_getElem _
 rw [h4] at hg
 injection hg with hg
 simp only [List.getElem_toArray,Value.cells,Array.getElem_ofFn]
 rw [hg]
 simp [show (trL tr0).length = 3 from rfl]
 rw [h4]
 rfl
theorem A9D (n : Nat) (hn : n ≤ 1048576) (x : Int) (hx : x = n) (W : World) : (Instr.makeSlice 25 (.int .i64 x) (.int .i64 x)).run Tryz.prog W =
  .ok (.slice (some ⟨W.heap.size,0,none⟩) n n) (W.alloc (.cells ((List.replicate n tr0).flatMap trL).toArray 33)):=by
 obtain ⟨i0,hi0,hz0,hz1,hz2⟩:=info_parts A9U
 have hr:=run_make (P:=Tryz.prog) W 25 33 i0 (.agg (trL tr0).toArray) Tryz.underlying25 hi0 hz0 .i64 .i64 n n (by omega) (by omega) (by rw [hz2];omega) (by omega)
 rw [hx]
 rw [hr,hz1]
 simp only [Int.toNat_natCast]
 rw [B4V]
theorem B4Y {u v : World} {B n : Nat} (hB : B ≤ u.heap.size) (hn : n ≤ 1048576) (hv : u.alloc (.cells ((List.replicate n tr0).flatMap trL).toArray 33) = v) : v.ownsRow B 33 3 (.slice (some ⟨u.heap.size,0,none⟩) n n) n ((Z4 [] n).flatMap trL):=by
 subst hv
 have hl:=A12 (enc:=trL) (size:=3) (fun _=>rfl) (List.replicate n tr0)
 rw [List.length_replicate] at hl
 have h:=World.ownsRow_lit (base:=B) (e:=33) (size:=3) u ((List.replicate n tr0).flatMap trL).toArray n hB (by unfold maxLen;omega) (by simp only [List.size_toArray];exact hl)
 simpa [Z4] using h
theorem B0x {α : Type} {enc : α → List Value} {B : Nat} {e : TypeId} {g cap n : Nat} (he : ∀ x,(enc x).length = 3) {u : World} {ps : List α} (h : u.ownsRow B e 3 (.slice (some ⟨g,0,none⟩) n cap) n (ps.flatMap enc)) (hn : n = ps.length) (k : Nat) (hk : k < ps.length) :
  ∃ y0 y1 y2,u.cell? ⟨g,k * 3,none⟩ = some y0 ∧ u.cell? ⟨g,k * 3 + 1,none⟩ = some y1 ∧ u.cell? ⟨g,k * 3 + 2,none⟩ = some y2 ∧ ∀ j,u.frozen? ⟨g,j,none⟩ = false:=by
 have hl:=he ps[k]
 have h0:=T2 he h hn k 0 hk (by omega)
 have h1:=T2 he h hn k 1 hk (by omega)
 have h2:=T2 he h hn k 2 hk (by omega)
 rw [List.getElem?_eq_getElem (by omega)] at h0 h1 h2
 exact ⟨_,_,_,h0,h1,h2,fun j=>h.frozenAt j⟩
theorem G7.row {u u' : World} {ps : List Zr} {B size n cap g i : Nat} {xs vs : List Value} (hl : G7 u ps) (h : u.ownsRow B 33 size (.slice (some ⟨g,0,none⟩) n cap) n xs) (hu : D3 u g i vs = u') : G7 u' ps:=by
 obtain ⟨h0,h1 | ⟨g',cap',cur,e1,hb,hh,-⟩⟩:=h
 ·exact absurd h1.1 (by simp)
 ·obtain rfl : g = g':=by cases e1;rfl
  exact hl.put (bl:=[(g,33,cur)]) (Bx.cons hh (Bx.nil u)) 0 rfl (by decide) i vs hu
theorem B0j (N : Nat) (hN : N ≤ 20) (w : World) : Calls Tryz.prog 102 #[.int .i64 (N : Nat),.slice none 0 0] w (F8 (fun x : Ax=>.slice x.1 N x.2) (fun x W=>Lz W x.1 (I4 N)) w):=by
 have hmk:=A9D N (by omega) (N : Int) rfl
 have Hmk:=Lib.hid hmk
 clear hmk
 go_enter Tryz.func102,Tryz.ntmps102
 refine en0 ?_
 intro u hG hB hF
 refine wp_seq ?_
 have hmk:=Hmk.out
 refine K7 ?_
 intro K hN
 go_wp2_with fail
 generalize hv : World.alloc u _ = v
 have hrow:=B4Y hG.sz (by omega) hv
 have hgv : A4 u v:=hv ▸ A4.alloc u _
 have hG2:=hG.trans hgv
 clear hv hG hB hmk hgv
 generalize u.heap.size = g at hrow ⊢
 have Ho:=Lib.hid hrow
 have hG:=hG2
 have hB:=Bx.nil v
 have hF:=Fr.nil w
 clear hrow hG2
 obtain ⟨u,rfl⟩ : ∃ x,x = v:=⟨_,rfl⟩
 refine NoK.norm (hN _ _ ?_)
 clear hN K
 refine A6 ?_
 refine wp_seq ?_
 refine r0T ?_
 refine wp_block ?_
 clear hB hF
 go_loopw [6] (fun s0 wr=>∃ ps : List Az,ps.length ≤ N ∧ s0 = .int .i64 (ps.length : Nat) ∧ G7 wr (ps.map fun p=>((p,B9 0) : Zr)) ∧ wr.ownsRow w.heap.size 33 3 (.slice (some ⟨g,0,none⟩) N N) N ((Z4 ps N).flatMap trL) ∧ A4 w wr) (fun s0 _=>N - (intOf s0).toNat)
 case atStart=>exact ⟨[],Nat.zero_le _,rfl,G7.nil _,Ho.out,hG⟩
 case round =>
  clear hG Ho
  obtain ⟨ps,hi,rfl,hA,ho,hG⟩:=hrel
  obtain ⟨u,rfl⟩ : ∃ x,x = wr:=⟨_,rfl⟩
  have Ho:=Lib.hid ho
  have hB:=Bx.nil u
  have hF:=Fr.nil w
  clear ho
  obtain ⟨i,hie⟩ : ∃ i,i = ps.length:=⟨_,rfl⟩
  rw [← hie] at hi ⊢
  rcases Nat.lt_or_ge i N with hlt | hge
  ·have hdec : decide ((i : Int) < (N : Int)) = true:=by simp;omega
   have hin : (i : Int) < (N : Int):=by omega
   have hst:=fun p=>B4Q (ps:=ps) (n:=N) (by omega) p
   rw [← hie] at hst
   have Hst:=Lib.hid hst
   have Hie:=Lib.hid hie
   clear hst hie
   refine wp_seq ?_
   refine r0T ?_
   refine wp_cond_true (rfl) ?_
   refine wp_skip ?_
   refine A6 ?_
   refine wp_seq ?_
   refine wp_block ?_
   refine rsC A8 [0,0,1,0] hB hG fun K L hN hL=>?_
   refine gs ?_
   refine grd (D7 (B9 0)) (fun (x17 : Ax × Ax)=>?_) (C:=fun v _=>A0C 0 (by omega) (by omega) _)
   refine gs ?_
   refine geC hL ?_
   clear hB hG hL L
   rintro u ⟨⟨hgu,hB,hG,-⟩,hx17⟩
   replace hA:=hA.grow hgu
   obtain ⟨hx17a,hx17b⟩ : Rn u x17.1 _ ∧ Rn u x17.2 _:=hx17
   have Ho2:=Lib.hid (D1 Ho.out hgu)
   clear Ho
   have Ho:=Ho2
   clear Ho2
   obtain ⟨z0,z1,z2,o0,o1,o2,hfz⟩:=B0x (enc:=trL) (fun _=>rfl) Ho.out (A4U (by rw [← Hie.out];exact hi)).symm i (by rw [A4U (by rw [← Hie.out];exact hi)];exact hlt)
   clear hgu
   refine gt ?_
   clear hN K
   clear o0 o1 o2 hfz
   generalize hu0 : World.setCell (World.setCell (World.setCell u _ _) _ _) _ _ = u0
   have hu1 : D3 u g (i * 3) (trL (trZ x17)) = u0:=hu0
   have hP:=R4 (enc:=trL) (size:=3) (ps:=Z4 ps N) (fun _=>rfl) Ho.out i (trZ x17) (by rw [A4U (by rw [← Hie.out];exact hi)];exact hlt)
   rw [Hst.out,hu1] at hP
   have hG2:=Q8 Ho.out hG hP.2
   have hA2 : G7 u0 ((ps ++ [x17]).map fun p=>((p,B9 0) : Zr)):=by
    rw [List.map_append]
    exact G7.row (hA.snoc hx17a hx17b) Ho.out hu1
   have Ho2:=Lib.hid hP.1
   clear hG hB Ho hP hu1 hu0 hA hx17a hx17b
   have hG:=hG2
   have hB:=Bx.nil u0
   have hF:=Fr.nil w
   have Ho:=Ho2
   have hA:=hA2
   clear hG2 Ho2 hA2
   obtain ⟨u,rfl⟩ : ∃ x,x = u0:=⟨_,rfl⟩
   refine C3 ?_
   refine A6 ?_
   refine r0E ?_
   refine A6 ?_
   go_roundw
   case rel=>exact ⟨ps ++ [x17],by rw [List.length_append,← Hie.out];exact hlt,by rw [List.length_append,← Hie.out];go_num,hA,Ho.out,hG⟩
   case measure=>simp [intOf];omega
  ·obtain rfl : N = i:=by omega
   have hdec : decide ((N : Int) < (N : Int)) = false:=by simp
   have ho:=Ho.out
   rw [B43 hie.symm] at ho
   obtain ⟨A9,c9,e9,-,-,hL,-⟩:=A1A ho hA
   cases e9
   have ez : (ps.map fun p=>((p,B9 0) : Zr)).map (·.2) = I4 N:=by
    rw [List.map_map,hie]
    unfold I4
    apply List.ext_getElem
    ·simp
    ·intro j h1 h2;simp;rfl
   rw [ez] at hL
   have HL:=Lib.hid hL
   clear ho hL Ho ez hA hie
   refine wp_seq ?_
   refine r0T ?_
   refine wp_cond_false (rfl) ?_
   refine wp_exit ?_
   refine B8 ?_
   refine B8 ?_
   refine D6 ?_
   refine A6 ?_
   refine wp_seq ?_
   refine r0T ?_
   refine wp_block ?_
   clear hB hF
   go_loopw [7] (fun s0 wr=>s0 = .int .i64 0 ∧ A4 w wr ∧ Lz wr (some ⟨g,0,none⟩) (I4 N)) (fun s0 _=>0)
   case atStart=>exact ⟨rfl,hG,HL.out⟩
   case round =>
    clear hG HL
    obtain ⟨rfl,hG,hL⟩:=hrel
    obtain ⟨u,rfl⟩ : ∃ x,x = wr:=⟨_,rfl⟩
    have hB:=Bx.nil u
    have hF:=Fr.nil w
    have HL:=Lib.hid hL
    clear hL
    refine wp_seq ?_
    refine r0T ?_
    refine wp_cond_false (rfl) ?_
    refine wp_exit ?_
    refine B8 ?_
    refine B8 ?_
    refine D6 ?_
    refine A6 ?_
    refine r0T ?_
    refine rt Tryz.results102 ?_
    exact ⟨(some ⟨g,0,none⟩,N),rfl,HL.out,hG⟩
end Go.Proofs.YtgpglgbcobeogaaGreatDoor
