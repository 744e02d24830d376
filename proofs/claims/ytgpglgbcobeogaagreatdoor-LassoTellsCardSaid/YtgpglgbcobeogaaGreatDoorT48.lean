/- Contracts and laws. -/
import Derived.Test.YtgpglgbcobeogaaGreatDoorT38
import Derived.Test.YtgpglgbcobeogaaGreatDoorT47
set_option linter.unusedSimpArgs false
set_option linter.unusedVariables false
set_option maxHeartbeats 8000000
set_option maxRecDepth 100000
namespace Go.Proofs.YtgpglgbcobeogaaGreatDoor
open Go Go.RowKit
theorem A9n (A Y : Option Addr) (rs : List Rq) (y : List Rat) (N Lw c d : Nat) (hn : rs.length = N) (hN : 1 ≤ N) (hN2 : N ≤ 20) (hrl : ∀ r ∈ rs,r.2.2.length = Lw) (hy : y.length = N) (hL1 : 1 ≤ Lw) (hL : Lw ≤ 20) (s : Nat) (hs1 : 1 ≤ s) (hs : s ≤ 1000) (hX : ∀ i,i < N → ∀ j,j < Lw → qs (gq (B7 (rs.map (·.2.2)) i) j) ≤ s) (hys : ∀ i,i < N → qs (gq y i) ≤ s) (w : World) (h : Lrz w A rs) (h2 : Lz w Y y) :
  Calls Tryz.prog 38 #[.slice A N c,.slice Y N d] w (Ret (D7 (V4 (rs.map (·.2.2)) y N Lw)) w):=by
 have hBB : 100000000 ≤ BIG:=by unfold BIG;omega
 have hzl : (I4 Lw).length = Lw:=by unfold I4;simp
 have hpl:=fun W (x : Ax) (hg : A4 w W) (hz : Lz W x.1 (I4 Lw))=>A55 A Y x.1 rs y (I4 Lw) N Lw c d x.2 hn hN2 hrl hy hzl hL s hs hX hys (fun j hj=>Nat.le_trans (A3R Lw j hj) hs1) W (h.grow hg) (h2.grow hg) hz
 have hPs:=A1n (X:=rs.map (·.2.2)) (y:=y) (w:=I4 Lw) hN2 hL hs hX hys (fun j hj=>Nat.le_trans (A3R Lw j hj) hs1)
 have hPl:=A1e (rs.map (·.2.2)) y (I4 Lw) N Lw
 unfold V4
 obtain ⟨PL,hPe⟩ : ∃ R,R = J7 (rs.map (·.2.2)) y (I4 Lw) N Lw:=⟨_,rfl⟩
 rw [← hPe] at hPs hPl ⊢
 simp only [← hPe] at hpl
 have hTs:=A3H (p:=PL) (n:=Lw) (s:=1100000) (by omega) hPs
 obtain ⟨bb,ob,P0,eA,hP0,-⟩:=A3Z hn hrl h (i:=0) (by omega)
 have hr0:=fun W hg=>(hP0 W hg).1
 simp only [Nat.add_zero] at hr0
 subst eA
 have hNi : (0 : Int) < (N : Int):=by omega
 have hNn : 0 < N:=by omega
 have fN : decide ((0 : Int) < (N : Int)) = true:=by simp;omega
 have fNn : decide (0 < N) = true:=by simp;omega
 have Hun:=Lib.hid (fun W=>B0j Lw hL W)
 have Hpl:=Lib.hid hpl
 have Hr0:=Lib.hid hr0
 have HPs:=Lib.hid hPs
 have HPl:=Lib.hid hPl
 have HTs:=Lib.hid hTs
 clear hpl hr0 hPs hPl hTs hPe hP0 hX hys hs hs1 h h2 hrl hn hy hzl
 go_enter Tryz.func38,Tryz.ntmps38
 refine en1 ?_
 intro u hG b4 hB hF
 refine wp_seq (rsE E7 [0,0,0,0,0,0,1,1,0] hB hG fun L hL=>?_)
 repeat first | refine gya ?_ | refine gyr ?_ | refine gna ?_ | refine gyb (by (rintro v ⟨hgu,hB,hG,-⟩ N hN;have r:=hB.r;simp only [BxR] at r;have q0:=Hr0.out v hG;go_simp;exact hN)) ?_
 refine gxd (X:=Ax) (fun x : Ax=>.slice x.1 Lw x.2) (fun x W=>Lz W x.1 (I4 Lw)) (fun x u u' hg h=>Lz.grow h hg) (fun x14=>?_) (C:=fun v _=>Hun.out _)
 refine gxd (X:=Ax) (fun x : Ax=>.slice x.1 Lw x.2) (fun x W=>Lz W x.1 PL) (fun x u u' hg h=>Lz.grow h hg) (fun x15=>?_) (C:=by (rintro v ⟨⟨hgu,hB,hG,-⟩,hx14⟩;exact Hpl.out _ x14 hG hx14))
 refine gs ?_
 refine geT hL ?_
 clear hB hG hL L
 rintro u ⟨⟨⟨hgu,hB,hG,-⟩,hx14⟩,hx15⟩
 obtain ⟨xa,xc⟩:=x15
 obtain ⟨w1,hw1⟩ : ∃ x,x = u:=⟨_,rfl⟩
 have HP:=Lib.hid (show Lz w1 xa PL from hw1 ▸ hx15)
 have hG1 : A4 w1 u:=hw1 ▸ A4.refl u
 clear hx14 hx15 hw1
 obtain ⟨bp,op,rfl⟩ : ∃ b o,xa = some ⟨b,o,none⟩:=HP.out.addr (by rw [HPl.out];omega)
 clear hgu
 refine wp_seq (rsC E7 [1,2] hB hG fun K L hN hL=>?_)
 refine grd (D7 (B9 0)) (fun (x16 : Ax × Ax)=>?_) (C:=fun v _=>A0C 0 (by omega) (by omega) _)
 refine gaa (A1V _ _ _ _ _) fun b6 hb6 hn6=>?_
 replace hF:=hF.n1 [] hB hG hb6 hn6
 refine geC hL ?_
 clear hB hG hL L
 rintro u ⟨⟨⟨hgu,hB,hG,-⟩,hx16⟩,h6⟩
 replace hB:=hB.cons' h6
 clear h6
 obtain ⟨hx16a,hx16b⟩ : Rn u x16.1 _ ∧ Rn u x16.2 _:=hx16
 have hw6 : w1.heap.size ≤ b6:=Nat.le_trans hG1.size hb6
 replace hG1:=hG1.trans hgu
 clear hb6 hn6
 clear hgu
 refine gtT ?_
 clear hN K
 refine sv hB hF hG 0 0 [_,_,_] ?_
 intro u hu hBG
 replace hG1:=Q7 hG1 hw6 hu
 replace hx16a:=hx16a.put hB 0 rfl (by decide) _ _ hu
 replace hx16b:=hx16b.put hB 0 rfl (by decide) _ _ hu
 clear hB hG hu
 obtain ⟨hB,hG⟩:=hBG
 refine wp_seq ?_
 refine r0T ?_
 refine wp_block ?_
 go_loopw [7] (fun s0 wr=>∃ (j : Nat) (S : Rat) (p : Az),j ≤ Lw ∧ s0 = .int .i64 j ∧ S = X5 PL j ∧ Rz wr p S ∧ Bx wr [(b6,33,A1R p S),(b4,33,A33)] ∧ A4 w wr ∧ A4 w1 wr) (fun s0 _=>Lw - (intOf s0).toNat)
 case atStart=>exact ⟨0,B9 0,x16,Nat.zero_le _,rfl,rfl,⟨hx16a,hx16b⟩,hB,hG,hG1⟩
 case round =>
  clear hB hG hG1 hx16a hx16b
  obtain ⟨j,S,p,hj,rfl,hSe,hS,hB,hG,hG1⟩:=hrel
  obtain ⟨u,rfl⟩ : ∃ x,x = wr:=⟨_,rfl⟩
  have z1:=HTs.out j hj
  rw [← hSe] at z1
  rcases Nat.lt_or_ge j Lw with hlt | hge
  ·have hdec : decide ((j : Int) < (Lw : Int)) = true:=by simp;omega
   have hjn : (j : Int) < (Lw : Int):=by omega
   obtain ⟨pv,hrd⟩:=HP.out.read (i:=j) (by rw [HPl.out];exact hlt)
   have z2:=HPs.out j hlt
   have hnx : X5 PL (j + 1) = A0P (X5 PL j) (I7 (gq PL j)):=rfl
   rw [← hSe] at hnx
   obtain ⟨X,hX⟩ : ∃ X,X = gq PL j:=⟨_,rfl⟩
   rw [← hX] at z2 hnx
   simp only [← hX] at hrd
   have z3:=A0o X
   have hab:=fun W=>A5h pv.1 pv.2 X W
   have hpv:=fun W hg=>And.intro (A4S (hrd W hg).1.a) (A5V (hrd W hg).1.b)
   obtain ⟨B1,hB1⟩ : ∃ X',X' = I7 X:=⟨_,rfl⟩
   rw [← hB1] at hnx z3
   simp only [← hB1] at hab hpv
   have hcm:=fun W e1 e2 (hg : A4 w1 W)=>A3W pv.1 pv.2 p.1 p.2 B1 S W (hpv W hg).1 (hpv W hg).2 e1 e2 (by omega)
   have hz:=@A6V B1 S
   obtain ⟨Z,hZ⟩ : ∃ Z,Z = G9 B1 S:=⟨_,rfl⟩
   rw [← hZ] at hz
   simp only [← hZ] at hcm
   have Hrd:=Lib.hid hrd
   have Hab:=Lib.hid hab
   have Hcm:=Lib.hid hcm
   have Hpv:=Lib.hid hpv
   clear hrd hab hcm hpv hX hB1 hSe hZ z1 z2 z3
   by_cases hsb : S < B1
   ·have fZ : decide (0 < Z) = true:=by rw [hz];exact decide_eq_true hsb
    have Hnx:=Lib.hid (show B1 = X5 PL (j + 1) by rw [hnx];exact (if_pos hsb).symm)
    clear hz hnx hsb
    refine wp_seq ?_
    refine r0T ?_
    refine wp_cond_true (rfl) ?_
    refine wp_skip ?_
    refine A6 ?_
    refine wp_seq ?_
    refine wp_block ?_
    refine wp_seq (rdC E7 [] [(0,0),(0,1),(0,2),(0,3),(0,5),(1,4),(1,6)] hB hG fun K L hN hL=>?_)
    repeat first | refine gya ?_ | refine gyr ?_ | refine gna ?_ | refine gyb (by (rintro v ⟨hgu,hB,hG,-⟩ N hN;have r:=hB.r;simp only [BxR] at r;obtain ⟨-,q1,q2,q3⟩:=Hrd.out v (hG1.trans hgu);go_simp;exact hN)) ?_
    refine gmw (C:=fun v=>Hab.out _) ?_
    refine gmd (C:=fun v ⟨hgu,hB,hG,_⟩=>Hcm.out _ (hS.grow hgu).a (hS.grow hgu).b (hG1.trans hgu)) ?_
    refine geC hL ?_
    clear hB hG hL L
    rintro u ⟨hgu,hB,hG,-⟩
    replace hS:=hS.grow hgu
    replace hG1:=hG1.trans hgu
    clear hgu
    refine gtT ?_
    clear hN K
    refine wp_cond_true (rfl) ?_
    refine rsC E7 [0,0,0,0,1] hB hG fun K L hN hL=>?_
    repeat first | refine gya ?_ | refine gyr ?_ | refine gna ?_ | refine gyb (by (rintro v ⟨hgu,hB,hG,-⟩ N hN;have r:=hB.r;simp only [BxR] at r;obtain ⟨-,q1,q2,q3⟩:=Hrd.out v (hG1.trans hgu);go_simp;exact hN)) ?_
    refine gmw (C:=fun v=>Hab.out _) ?_
    refine geC hL ?_
    clear hB hG hL L
    rintro u ⟨hgu,hB,hG,-⟩
    replace hS:=hS.grow hgu
    replace hG1:=hG1.trans hgu
    clear hgu
    refine gt ?_
    clear hN K
    refine sv hB hF hG 0 0 [_,_,_] ?_
    intro u hu hBG
    replace hG1:=Q7 hG1 hw6 hu
    clear hB hG hu hS
    obtain ⟨hB,hG⟩:=hBG
    refine C3 ?_
    refine A6 ?_
    refine r0E ?_
    refine A6 ?_
    go_roundw
    case rel=>exact ⟨j + 1,B1,pv,by omega,by go_num,Hnx.out,⟨(Hpv.out _ hG1).1,(Hpv.out _ hG1).2⟩,hB,hG,hG1⟩
    case measure=>simp [intOf];omega
   ·have fZ : decide (0 < Z) = false:=by rw [hz];exact decide_eq_false hsb
    have Hnx:=Lib.hid (show S = X5 PL (j + 1) by rw [hnx];exact (if_neg hsb).symm)
    clear hz hnx hsb
    refine wp_seq ?_
    refine r0T ?_
    refine wp_cond_true (rfl) ?_
    refine wp_skip ?_
    refine A6 ?_
    refine wp_seq ?_
    refine wp_block ?_
    refine wp_seq (rdC E7 [] [(0,0),(0,1),(0,2),(0,3),(0,5),(1,4),(1,6)] hB hG fun K L hN hL=>?_)
    repeat first | refine gya ?_ | refine gyr ?_ | refine gna ?_ | refine gyb (by (rintro v ⟨hgu,hB,hG,-⟩ N hN;have r:=hB.r;simp only [BxR] at r;obtain ⟨-,q1,q2,q3⟩:=Hrd.out v (hG1.trans hgu);go_simp;exact hN)) ?_
    refine gmw (C:=fun v=>Hab.out _) ?_
    refine gmd (C:=fun v ⟨hgu,hB,hG,_⟩=>Hcm.out _ (hS.grow hgu).a (hS.grow hgu).b (hG1.trans hgu)) ?_
    refine geC hL ?_
    clear hB hG hL L
    rintro u ⟨hgu,hB,hG,-⟩
    replace hS:=hS.grow hgu
    replace hG1:=hG1.trans hgu
    clear hgu
    refine gtT ?_
    clear hN K
    refine wp_cond_false (rfl) ?_
    refine wp_skip ?_
    refine C3 ?_
    refine A6 ?_
    refine r0E ?_
    refine A6 ?_
    go_roundw
    case rel=>exact ⟨j + 1,S,p,by omega,by go_num,Hnx.out,hS,hB,hG,hG1⟩
    case measure=>simp [intOf];omega
  ·obtain rfl : Lw = j:=by omega
   have hdec : decide ((Lw : Int) < (Lw : Int)) = false:=by simp
   have HS0:=Lib.hid hSe
   clear hSe z1 hG1
   refine wp_seq ?_
   refine r0T ?_
   refine wp_cond_false (rfl) ?_
   refine wp_exit ?_
   refine B8 ?_
   refine B8 ?_
   refine D6 ?_
   refine A6 ?_
   refine r0T ?_
   refine sv hB hF hG 1 0 [_,_,_] ?_
   intro u hu hBG
   replace hS:=hS.put hB 1 rfl (by first | decide | simp) _ _ hu
   clear hB hG hu
   obtain ⟨hB,hG⟩:=hBG
   refine rt Tryz.results38 ?_
   exact A5m HS0.out hS.a hS.b hG
theorem B2y (a : Rat) : C2 (B9 1) a = a:=by unfold C2;show (1 : Rat) * a = a;exact Rat.one_mul a
theorem B1N (a : Rat) : C2 (B9 (-1)) a = K9 a:=by unfold C2 K9;show (-1 : Rat) * a = -a;grind
theorem B13 {a b : Rat} : decide (0 < G9 a b) = !(decide (G9 a b ≤ 0)):=by
 by_cases h : G9 a b ≤ 0
 ·have : ¬ 0 < G9 a b:=by omega
  simp [h,this]
 ·have : 0 < G9 a b:=by omega
  simp [h,this]
theorem B0M (A Y V : Option Addr) (rs : List Rq) (y v : List Rat) (N Lw c d k : Nat) (a : Rat) (pa : Az) (hn : rs.length = N) (hN2 : N ≤ 20) (hrl : ∀ r ∈ rs,r.2.2.length = Lw) (hy : y.length = N) (hv : v.length = Lw) (hL1 : 1 ≤ Lw) (hL : Lw ≤ 20) (s : Nat) (hs : s ≤ 1000) (hX : ∀ i,i < N → ∀ j,j < Lw → qs (gq (B7 (rs.map (·.2.2)) i) j) ≤ s) (hys : ∀ i,i < N → qs (gq y i) ≤ s) (hvs : ∀ j,j < Lw → qs (gq v j) ≤ s) (ha : qs a ≤ s) (w : World) (h : Lrz w A rs) (h2 : Lz w Y y) (h3 : Lz w V v) (h4 : Rz w pa a) :
  Calls Tryz.prog 40 #[.slice A N c,.slice Y N d,.slice V Lw k,rqV pa.1 pa.2 a] w fun e w'=>e = .returned (.int .i64 (if L6 (rs.map (·.2.2)) y v N Lw a < Lw then (L6 (rs.map (·.2.2)) y v N Lw a : Nat) else -1)) ∧ A4 w w':=by
 have hBB : 100000000 ≤ BIG:=by unfold BIG;omega
 have hpl:=fun W (hg : A4 w W)=>A55 A Y V rs y v N Lw c d k hn hN2 hrl hy hv hL s hs hX hys hvs W (h.grow hg) (h2.grow hg) (h3.grow hg)
 have hPs:=A1n (X:=rs.map (·.2.2)) (y:=y) (w:=v) hN2 hL hs hX hys hvs
 have hPl:=A1e (rs.map (·.2.2)) y v N Lw
 obtain ⟨F1,F2,F3⟩:=A4Z (rs.map (·.2.2)) y v N Lw a
 obtain ⟨PL,hPe⟩ : ∃ R,R = J7 (rs.map (·.2.2)) y v N Lw:=⟨_,rfl⟩
 rw [← hPe] at hPs hPl F2 F3
 simp only [← hPe] at hpl
 obtain ⟨F,hFe⟩ : ∃ F,F = L6 (rs.map (·.2.2)) y v N Lw a:=⟨_,rfl⟩
 rw [← hFe] at F1 F2 F3 ⊢
 have hrv : ∀ i,i < Lw → ∃ (bv ov : Nat) (pv : Az),V = some ⟨bv,ov,none⟩ ∧ ∀ W,A4 w W → Rz W pv (gq v i) ∧ Cz W bv (ov + i * 3) pv (gq v i):=fun i hi=>by
  obtain ⟨bv,ov,e⟩:=h3.addr (by omega)
  subst e
  obtain ⟨p,hp⟩:=h3.read (i:=i) (by omega)
  exact ⟨bv,ov,p,rfl,hp⟩
 obtain ⟨cF,hcF⟩ : ∃ z : Int,z = (if F < Lw then (F : Int) else -1):=⟨_,rfl⟩
 rw [← hcF]
 have Hcb:=Lib.hid hcF
 have Hpl:=Lib.hid hpl
 have Hrv:=Lib.hid hrv
 have HPs:=Lib.hid hPs
 have HPl:=Lib.hid hPl
 have HF2:=Lib.hid F2
 have HF3:=Lib.hid F3
 have Hvs:=Lib.hid hvs
 have Ha:=Lib.hid (fun W (hg : A4 w W)=>h4.grow hg)
 clear hpl hrv hPs hPl F2 F3 hPe hFe hX hys hvs h h2 h3 h4 hrl hn hy hv hcF
 go_enter Tryz.func40,Tryz.ntmps40
 refine en1 ?_
 intro u hG b7 hB hF
 refine wp_seq (rsE E7 [0,0,0,1,0] hB hG fun L hL=>?_)
 refine gs ?_
 refine gxd (X:=Ax) (fun x : Ax=>.slice x.1 Lw x.2) (fun x W=>Lz W x.1 PL) (fun x u u' hg h=>Lz.grow h hg) (fun x15=>?_) (C:=by (rintro v ⟨hgu,hB,hG,-⟩;exact Hpl.out _ hG))
 refine gs ?_
 refine geT hL ?_
 clear hB hG hL L
 rintro u ⟨⟨hgu,hB,hG,-⟩,hx15⟩
 obtain ⟨xa,xc⟩:=x15
 obtain ⟨w1,hw1⟩ : ∃ x,x = u:=⟨_,rfl⟩
 have HP:=Lib.hid (show Lz w1 xa PL from hw1 ▸ hx15)
 have hG1 : A4 w1 u:=hw1 ▸ A4.refl u
 clear hx15 hw1
 obtain ⟨bp,op,rfl⟩ : ∃ b o,xa = some ⟨b,o,none⟩:=HP.out.addr (by rw [HPl.out];omega)
 clear hgu
 refine wp_seq ?_
 refine r0T ?_
 refine wp_block ?_
 go_loopw [10] (fun s0 wr=>∃ (i : Nat),i ≤ F ∧ s0 = .int .i64 i ∧ Bx wr [(b7,33,A1R pa a)] ∧ A4 w wr ∧ A4 w1 wr) (fun s0 _=>Lw - (intOf s0).toNat)
 case atStart=>exact ⟨0,Nat.zero_le _,rfl,hB,hG,hG1⟩
 case round =>
  clear hB hG hG1
  obtain ⟨i,hi,rfl,hB,hG,hG1⟩:=hrel
  obtain ⟨u,rfl⟩ : ∃ x,x = wr:=⟨_,rfl⟩
  rcases Nat.lt_or_ge i Lw with hlt | hge
  ·have hdec : decide ((i : Int) < (Lw : Int)) = true:=by simp;omega
   have hiL : (i : Int) < (Lw : Int):=by omega
   obtain ⟨bv,ov,pv,rfl,hrv⟩:=Hrv.out i hlt
   obtain ⟨pp,hrp⟩:=HP.out.read (i:=i) (by rw [HPl.out];exact hlt)
   have z1:=HPs.out i hlt
   have z2:=Hvs.out i hlt
   have hyes:=fun h=>HF2.out i h
   have hno : ¬ i < F → V6 (gq PL i) (gq v i) a = false:=fun h=>by
    have e : F = i:=by omega
    have h4:=HF3.out (by omega)
    rw [e] at h4
    exact h4
   obtain ⟨X,hX⟩ : ∃ X,X = gq v i:=⟨_,rfl⟩
   obtain ⟨P,hP⟩ : ∃ X,X = gq PL i:=⟨_,rfl⟩
   rw [← hX] at z2 hyes hno
   rw [← hP] at z1 hyes hno
   simp only [← hX] at hrv
   simp only [← hP] at hrp
   have hsg:=fun W=>A8c pv.1 pv.2 X W
   have Hrv2:=Lib.hid hrv
   have Hrp:=Lib.hid hrp
   clear hrv hX hP
   rcases A3c X with e1 | e1 | e1
   ·rw [e1] at hsg
    rw [A7F e1] at hyes hno
    have hml:=fun W (q : Az) e3 e4 (hg : A4 w W)=>A2U q.1 q.2 pa.1 pa.2 (B9 1) a W e3 e4 (Ha.out W hg).a (Ha.out W hg).b (by have h9 : qs (B9 1) ≤ 1:=(by decide);omega)
    rw [B2y] at hml
    have hcm:=fun W (q : Az) e3 e4 (hg : A4 w1 W)=>A3W pp.1 pp.2 q.1 q.2 P a W (hrp W hg).1.a (hrp W hg).1.b e3 e4 (by omega)
    obtain ⟨Z,hZ⟩ : ∃ Z,Z = G9 P a:=⟨_,rfl⟩
    rw [← hZ] at hyes hno
    simp only [← hZ] at hcm
    have Hsg:=Lib.hid hsg
    have Hcm:=Lib.hid hcm
    have Hml:=Lib.hid hml
    clear hsg hcm hml hZ e1 z1 z2 hrp
    by_cases hiF : i < F
    ·have fZ0:=hyes hiF
     have fZ : (Z != 0) = false:=by simpa using fZ0
     clear hyes hno fZ0
     refine wp_seq ?_
     refine r0T ?_
     refine wp_cond_true (rfl) ?_
     refine wp_skip ?_
     refine A6 ?_
     refine wp_seq ?_
     refine wp_block ?_
     refine wp_seq (rsE E7 [0,0,0,0,1,0] hB hG fun L hL=>?_)
     repeat first | refine gya ?_ | refine gyr ?_ | refine gna ?_ | refine gyb (by (rintro v ⟨hgu,hB,hG,-⟩ N hN;have r:=hB.r;simp only [BxR] at r;obtain ⟨-,y1,y2,y3⟩:=Hrv2.out v hG;obtain ⟨-,p1,p2,p3⟩:=Hrp.out v (hG1.trans hgu);go_simp;exact hN)) ?_
     refine gmw (C:=fun v=>Hsg.out _) ?_
     refine gs ?_
     refine geT hL ?_
     clear hB hG hL L
     rintro u ⟨hgu,hB,hG,-⟩
     replace hG1:=hG1.trans hgu
     clear hgu
     refine wp_seq (rdC E7 [] [(0,0),(0,1),(0,2),(0,3),(0,4),(0,5),(0,6),(0,8),(1,7),(1,9),(0,10),(0,11),(0,12),(0,13),(0,14),(0,15),(0,16),(0,17),(0,18),(0,19),(0,20),(0,22),(1,21),(1,23),(1,24),(0,25),(0,26)] hB hG (hs:=A1j [0,1,3,7,7,31,63,127,7,511,1023,2047,4095,8191,16383,32767,65535,65535,262143,524287,65535,1114111,65535,7405567,16777215,33554431,67108863,134217727] (by kernel_rfl)) fun K L hN hL=>?_)
     repeat first | refine gya ?_ | refine gyr ?_ | refine gna ?_ | refine gyb (by (rintro v ⟨hgu,hB,hG,-⟩ N hN;have r:=hB.r;simp only [BxR] at r;obtain ⟨-,y1,y2,y3⟩:=Hrv2.out v hG;obtain ⟨-,p1,p2,p3⟩:=Hrp.out v (hG1.trans hgu);go_simp;exact hN)) ?_
     refine gmn (by exact rfl) ?_
     refine okf (by simp only [Act.put,List.setIfInBounds_toArray,List.set_cons_succ,List.set_cons_zero];exact rfl) ?_
     refine gmn (by exact rfl) ?_
     refine okf (by simp only [Act.put,List.setIfInBounds_toArray,List.set_cons_succ,List.set_cons_zero];exact rfl) ?_
     repeat first | refine gya ?_ | refine gyr ?_ | refine gna ?_ | refine gyb (by (rintro v ⟨hgu,hB,hG,-⟩ N hN;have r:=hB.r;simp only [BxR] at r;obtain ⟨-,y1,y2,y3⟩:=Hrv2.out v hG;obtain ⟨-,p1,p2,p3⟩:=Hrp.out v (hG1.trans hgu);go_simp;exact hN)) ?_
     refine grd (D7 (B9 1)) (fun (x48 : Ax × Ax)=>?_) (C:=fun v _=>A0C 1 (by omega) (by omega) _)
     refine grd (D7 a) (fun (x50 : Ax × Ax)=>?_) (C:=by (rintro v ⟨⟨hgu,hB,hG,-⟩,hx48⟩;obtain ⟨hx48a,hx48b⟩ : Rn v x48.1 _ ∧ Rn v x48.2 _:=hx48;exact Hml.out _ x48 hx48a hx48b hG))
     first | refine gmd (C:=by (rintro v ⟨⟨⟨hgu,hB,hG,-⟩,hx48⟩,hx50⟩;obtain ⟨hx48a,hx48b⟩ : Rn v x48.1 _ ∧ Rn v x48.2 _:=hx48;obtain ⟨hx50a,hx50b⟩ : Rn v x50.1 _ ∧ Rn v x50.2 _:=hx50;exact Hcm.out _ x50 hx50a hx50b (hG1.trans hgu))) ?_ | refine H4 ?_
     refine gs ?_
     refine geC hL ?_
     clear hB hG hL L
     rintro u ⟨⟨⟨hgu,hB,hG,-⟩,hx48⟩,hx50⟩
     obtain ⟨hx48a,hx48b⟩ : Rn u x48.1 _ ∧ Rn u x48.2 _:=hx48
     obtain ⟨hx50a,hx50b⟩ : Rn u x50.1 _ ∧ Rn u x50.2 _:=hx50
     replace hG1:=hG1.trans hgu
     clear hgu
     refine gtT ?_
     clear hN K
     refine wp_cond_false (rfl) ?_
     refine wp_skip ?_
     refine C3 ?_
     refine A6 ?_
     refine r0E ?_
     refine A6 ?_
     go_roundw
     case rel=>exact ⟨i + 1,by omega,by go_num,hB,hG,hG1⟩
     case measure=>simp [intOf];omega
    ·have fZ0:=hno hiF
     have fZ : (Z != 0) = true:=by simpa using fZ0
     have eF : F = i:=by omega
     subst eF
     have Hc2:=Lib.hid (show cF = (F : Int) by rw [Hcb.out,if_pos hlt])
     clear hyes hno hiF fZ0
     refine wp_seq ?_
     refine r0T ?_
     refine wp_cond_true (rfl) ?_
     refine wp_skip ?_
     refine A6 ?_
     refine wp_seq ?_
     refine wp_block ?_
     refine wp_seq (rsE E7 [0,0,0,0,1,0] hB hG fun L hL=>?_)
     repeat first | refine gya ?_ | refine gyr ?_ | refine gna ?_ | refine gyb (by (rintro v ⟨hgu,hB,hG,-⟩ N hN;have r:=hB.r;simp only [BxR] at r;obtain ⟨-,y1,y2,y3⟩:=Hrv2.out v hG;obtain ⟨-,p1,p2,p3⟩:=Hrp.out v (hG1.trans hgu);go_simp;exact hN)) ?_
     refine gmw (C:=fun v=>Hsg.out _) ?_
     refine gs ?_
     refine geT hL ?_
     clear hB hG hL L
     rintro u ⟨hgu,hB,hG,-⟩
     replace hG1:=hG1.trans hgu
     clear hgu
     refine wp_seq (rdC E7 [] [(0,0),(0,1),(0,2),(0,3),(0,4),(0,5),(0,6),(0,8),(1,7),(1,9),(0,10),(0,11),(0,12),(0,13),(0,14),(0,15),(0,16),(0,17),(0,18),(0,19),(0,20),(0,22),(1,21),(1,23),(1,24),(0,25),(0,26)] hB hG (hs:=A1j [0,1,3,7,7,31,63,127,7,511,1023,2047,4095,8191,16383,32767,65535,65535,262143,524287,65535,1114111,65535,7405567,16777215,33554431,67108863,134217727] (by kernel_rfl)) fun K L hN hL=>?_)
     repeat first | refine gya ?_ | refine gyr ?_ | refine gna ?_ | refine gyb (by (rintro v ⟨hgu,hB,hG,-⟩ N hN;have r:=hB.r;simp only [BxR] at r;obtain ⟨-,y1,y2,y3⟩:=Hrv2.out v hG;obtain ⟨-,p1,p2,p3⟩:=Hrp.out v (hG1.trans hgu);go_simp;exact hN)) ?_
     refine gmn (by exact rfl) ?_
     refine okf (by simp only [Act.put,List.setIfInBounds_toArray,List.set_cons_succ,List.set_cons_zero];exact rfl) ?_
     refine gmn (by exact rfl) ?_
     refine okf (by simp only [Act.put,List.setIfInBounds_toArray,List.set_cons_succ,List.set_cons_zero];exact rfl) ?_
     repeat first | refine gya ?_ | refine gyr ?_ | refine gna ?_ | refine gyb (by (rintro v ⟨hgu,hB,hG,-⟩ N hN;have r:=hB.r;simp only [BxR] at r;obtain ⟨-,y1,y2,y3⟩:=Hrv2.out v hG;obtain ⟨-,p1,p2,p3⟩:=Hrp.out v (hG1.trans hgu);go_simp;exact hN)) ?_
     refine grd (D7 (B9 1)) (fun (x48 : Ax × Ax)=>?_) (C:=fun v _=>A0C 1 (by omega) (by omega) _)
     refine grd (D7 a) (fun (x50 : Ax × Ax)=>?_) (C:=by (rintro v ⟨⟨hgu,hB,hG,-⟩,hx48⟩;obtain ⟨hx48a,hx48b⟩ : Rn v x48.1 _ ∧ Rn v x48.2 _:=hx48;exact Hml.out _ x48 hx48a hx48b hG))
     first | refine gmd (C:=by (rintro v ⟨⟨⟨hgu,hB,hG,-⟩,hx48⟩,hx50⟩;obtain ⟨hx48a,hx48b⟩ : Rn v x48.1 _ ∧ Rn v x48.2 _:=hx48;obtain ⟨hx50a,hx50b⟩ : Rn v x50.1 _ ∧ Rn v x50.2 _:=hx50;exact Hcm.out _ x50 hx50a hx50b (hG1.trans hgu))) ?_ | refine H4 ?_
     refine gs ?_
     refine geC hL ?_
     clear hB hG hL L
     rintro u ⟨⟨⟨hgu,hB,hG,-⟩,hx48⟩,hx50⟩
     obtain ⟨hx48a,hx48b⟩ : Rn u x48.1 _ ∧ Rn u x48.2 _:=hx48
     obtain ⟨hx50a,hx50b⟩ : Rn u x50.1 _ ∧ Rn u x50.2 _:=hx50
     replace hG1:=hG1.trans hgu
     clear hgu
     refine gtT ?_
     clear hN K
     refine wp_cond_true (rfl) ?_
     refine r0T ?_
     refine rt Tryz.results40 ?_
     exact ⟨by rw [Hc2.out],hG⟩
   ·rw [e1] at hsg
    rw [A8P e1] at hyes hno
    have hml:=fun W (q : Az) e3 e4 (hg : A4 w W)=>A2U q.1 q.2 pa.1 pa.2 (B9 (-1)) a W e3 e4 (Ha.out W hg).a (Ha.out W hg).b (by have h9 : qs (B9 (-1)) ≤ 1:=(by decide);omega)
    rw [B1N] at hml
    have z4:=A3I a
    obtain ⟨m,hm⟩ : ∃ Z,Z = K9 a:=⟨_,rfl⟩
    rw [← hm] at z4 hyes hno
    simp only [← hm] at hml
    have hcm:=fun W (q : Az) e3 e4 (hg : A4 w1 W)=>A3W pp.1 pp.2 q.1 q.2 P m W (hrp W hg).1.a (hrp W hg).1.b e3 e4 (by omega)
    obtain ⟨Z,hZ⟩ : ∃ Z,Z = G9 P m:=⟨_,rfl⟩
    rw [← hZ] at hyes hno
    simp only [← hZ] at hcm
    have Hsg:=Lib.hid hsg
    have Hcm:=Lib.hid hcm
    have Hml:=Lib.hid hml
    clear hsg hcm hml hZ hm e1 z1 z2 z4 hrp
    by_cases hiF : i < F
    ·have fZ0:=hyes hiF
     have fZ : (Z != 0) = false:=by simpa using fZ0
     clear hyes hno fZ0
     refine wp_seq ?_
     refine r0T ?_
     refine wp_cond_true (rfl) ?_
     refine wp_skip ?_
     refine A6 ?_
     refine wp_seq ?_
     refine wp_block ?_
     refine wp_seq (rsE E7 [0,0,0,0,1,0] hB hG fun L hL=>?_)
     repeat first | refine gya ?_ | refine gyr ?_ | refine gna ?_ | refine gyb (by (rintro v ⟨hgu,hB,hG,-⟩ N hN;have r:=hB.r;simp only [BxR] at r;obtain ⟨-,y1,y2,y3⟩:=Hrv2.out v hG;obtain ⟨-,p1,p2,p3⟩:=Hrp.out v (hG1.trans hgu);go_simp;exact hN)) ?_
     refine gmw (C:=fun v=>Hsg.out _) ?_
     refine gs ?_
     refine geT hL ?_
     clear hB hG hL L
     rintro u ⟨hgu,hB,hG,-⟩
     replace hG1:=hG1.trans hgu
     clear hgu
     refine wp_seq (rdC E7 [] [(0,0),(0,1),(0,2),(0,3),(0,4),(0,5),(0,6),(0,8),(1,7),(1,9),(0,10),(0,11),(0,12),(0,13),(0,14),(0,15),(0,16),(0,17),(0,18),(0,19),(0,20),(0,22),(1,21),(1,23),(1,24),(0,25),(0,26)] hB hG (hs:=A1j [0,1,3,7,7,31,63,127,7,511,1023,2047,4095,8191,16383,32767,65535,65535,262143,524287,65535,1114111,65535,7405567,16777215,33554431,67108863,134217727] (by kernel_rfl)) fun K L hN hL=>?_)
     repeat first | refine gya ?_ | refine gyr ?_ | refine gna ?_ | refine gyb (by (rintro v ⟨hgu,hB,hG,-⟩ N hN;have r:=hB.r;simp only [BxR] at r;obtain ⟨-,y1,y2,y3⟩:=Hrv2.out v hG;obtain ⟨-,p1,p2,p3⟩:=Hrp.out v (hG1.trans hgu);go_simp;exact hN)) ?_
     refine gmn (by exact rfl) ?_
     refine okf (by simp only [Act.put,List.setIfInBounds_toArray,List.set_cons_succ,List.set_cons_zero];exact rfl) ?_
     refine gmn (by exact rfl) ?_
     refine okf (by simp only [Act.put,List.setIfInBounds_toArray,List.set_cons_succ,List.set_cons_zero];exact rfl) ?_
     repeat first | refine gya ?_ | refine gyr ?_ | refine gna ?_ | refine gyb (by (rintro v ⟨hgu,hB,hG,-⟩ N hN;have r:=hB.r;simp only [BxR] at r;obtain ⟨-,y1,y2,y3⟩:=Hrv2.out v hG;obtain ⟨-,p1,p2,p3⟩:=Hrp.out v (hG1.trans hgu);go_simp;exact hN)) ?_
     refine grd (D7 (B9 (-1))) (fun (x48 : Ax × Ax)=>?_) (C:=fun v _=>A0C (-1) (by omega) (by omega) _)
     refine grd (D7 m) (fun (x50 : Ax × Ax)=>?_) (C:=by (rintro v ⟨⟨hgu,hB,hG,-⟩,hx48⟩;obtain ⟨hx48a,hx48b⟩ : Rn v x48.1 _ ∧ Rn v x48.2 _:=hx48;exact Hml.out _ x48 hx48a hx48b hG))
     first | refine gmd (C:=by (rintro v ⟨⟨⟨hgu,hB,hG,-⟩,hx48⟩,hx50⟩;obtain ⟨hx48a,hx48b⟩ : Rn v x48.1 _ ∧ Rn v x48.2 _:=hx48;obtain ⟨hx50a,hx50b⟩ : Rn v x50.1 _ ∧ Rn v x50.2 _:=hx50;exact Hcm.out _ x50 hx50a hx50b (hG1.trans hgu))) ?_ | refine H4 ?_
     refine gs ?_
     refine geC hL ?_
     clear hB hG hL L
     rintro u ⟨⟨⟨hgu,hB,hG,-⟩,hx48⟩,hx50⟩
     obtain ⟨hx48a,hx48b⟩ : Rn u x48.1 _ ∧ Rn u x48.2 _:=hx48
     obtain ⟨hx50a,hx50b⟩ : Rn u x50.1 _ ∧ Rn u x50.2 _:=hx50
     replace hG1:=hG1.trans hgu
     clear hgu
     refine gtT ?_
     clear hN K
     refine wp_cond_false (rfl) ?_
     refine wp_skip ?_
     refine C3 ?_
     refine A6 ?_
     refine r0E ?_
     refine A6 ?_
     go_roundw
     case rel=>exact ⟨i + 1,by omega,by go_num,hB,hG,hG1⟩
     case measure=>simp [intOf];omega
    ·have fZ0:=hno hiF
     have fZ : (Z != 0) = true:=by simpa using fZ0
     have eF : F = i:=by omega
     subst eF
     have Hc2:=Lib.hid (show cF = (F : Int) by rw [Hcb.out,if_pos hlt])
     clear hyes hno hiF fZ0
     refine wp_seq ?_
     refine r0T ?_
     refine wp_cond_true (rfl) ?_
     refine wp_skip ?_
     refine A6 ?_
     refine wp_seq ?_
     refine wp_block ?_
     refine wp_seq (rsE E7 [0,0,0,0,1,0] hB hG fun L hL=>?_)
     repeat first | refine gya ?_ | refine gyr ?_ | refine gna ?_ | refine gyb (by (rintro v ⟨hgu,hB,hG,-⟩ N hN;have r:=hB.r;simp only [BxR] at r;obtain ⟨-,y1,y2,y3⟩:=Hrv2.out v hG;obtain ⟨-,p1,p2,p3⟩:=Hrp.out v (hG1.trans hgu);go_simp;exact hN)) ?_
     refine gmw (C:=fun v=>Hsg.out _) ?_
     refine gs ?_
     refine geT hL ?_
     clear hB hG hL L
     rintro u ⟨hgu,hB,hG,-⟩
     replace hG1:=hG1.trans hgu
     clear hgu
     refine wp_seq (rdC E7 [] [(0,0),(0,1),(0,2),(0,3),(0,4),(0,5),(0,6),(0,8),(1,7),(1,9),(0,10),(0,11),(0,12),(0,13),(0,14),(0,15),(0,16),(0,17),(0,18),(0,19),(0,20),(0,22),(1,21),(1,23),(1,24),(0,25),(0,26)] hB hG (hs:=A1j [0,1,3,7,7,31,63,127,7,511,1023,2047,4095,8191,16383,32767,65535,65535,262143,524287,65535,1114111,65535,7405567,16777215,33554431,67108863,134217727] (by kernel_rfl)) fun K L hN hL=>?_)
     repeat first | refine gya ?_ | refine gyr ?_ | refine gna ?_ | refine gyb (by (rintro v ⟨hgu,hB,hG,-⟩ N hN;have r:=hB.r;simp only [BxR] at r;obtain ⟨-,y1,y2,y3⟩:=Hrv2.out v hG;obtain ⟨-,p1,p2,p3⟩:=Hrp.out v (hG1.trans hgu);go_simp;exact hN)) ?_
     refine gmn (by exact rfl) ?_
     refine okf (by simp only [Act.put,List.setIfInBounds_toArray,List.set_cons_succ,List.set_cons_zero];exact rfl) ?_
     refine gmn (by exact rfl) ?_
     refine okf (by simp only [Act.put,List.setIfInBounds_toArray,List.set_cons_succ,List.set_cons_zero];exact rfl) ?_
     repeat first | refine gya ?_ | refine gyr ?_ | refine gna ?_ | refine gyb (by (rintro v ⟨hgu,hB,hG,-⟩ N hN;have r:=hB.r;simp only [BxR] at r;obtain ⟨-,y1,y2,y3⟩:=Hrv2.out v hG;obtain ⟨-,p1,p2,p3⟩:=Hrp.out v (hG1.trans hgu);go_simp;exact hN)) ?_
     refine grd (D7 (B9 (-1))) (fun (x48 : Ax × Ax)=>?_) (C:=fun v _=>A0C (-1) (by omega) (by omega) _)
     refine grd (D7 m) (fun (x50 : Ax × Ax)=>?_) (C:=by (rintro v ⟨⟨hgu,hB,hG,-⟩,hx48⟩;obtain ⟨hx48a,hx48b⟩ : Rn v x48.1 _ ∧ Rn v x48.2 _:=hx48;exact Hml.out _ x48 hx48a hx48b hG))
     first | refine gmd (C:=by (rintro v ⟨⟨⟨hgu,hB,hG,-⟩,hx48⟩,hx50⟩;obtain ⟨hx48a,hx48b⟩ : Rn v x48.1 _ ∧ Rn v x48.2 _:=hx48;obtain ⟨hx50a,hx50b⟩ : Rn v x50.1 _ ∧ Rn v x50.2 _:=hx50;exact Hcm.out _ x50 hx50a hx50b (hG1.trans hgu))) ?_ | refine H4 ?_
     refine gs ?_
     refine geC hL ?_
     clear hB hG hL L
     rintro u ⟨⟨⟨hgu,hB,hG,-⟩,hx48⟩,hx50⟩
     obtain ⟨hx48a,hx48b⟩ : Rn u x48.1 _ ∧ Rn u x48.2 _:=hx48
     obtain ⟨hx50a,hx50b⟩ : Rn u x50.1 _ ∧ Rn u x50.2 _:=hx50
     replace hG1:=hG1.trans hgu
     clear hgu
     refine gtT ?_
     clear hN K
     refine wp_cond_true (rfl) ?_
     refine r0T ?_
     refine rt Tryz.results40 ?_
     exact ⟨by rw [Hc2.out],hG⟩
   ·rw [e1] at hsg
    rw [A7y e1] at hyes hno
    have hab:=fun W=>A5h pp.1 pp.2 P W
    have hpv:=fun W hg=>And.intro (A4S (hrp W hg).1.a) (A5V (hrp W hg).1.b)
    have z4:=A0o P
    obtain ⟨m,hm⟩ : ∃ Z,Z = I7 P:=⟨_,rfl⟩
    rw [← hm] at z4 hyes hno
    simp only [← hm] at hab hpv
    have hcm:=fun W (hg : A4 w W) (hg1 : A4 w1 W)=>A3W pp.1 pp.2 pa.1 pa.2 m a W (hpv W hg1).1 (hpv W hg1).2 (Ha.out W hg).a (Ha.out W hg).b (by omega)
    have hgl:=@B13 m a
    obtain ⟨Z,hZ⟩ : ∃ Z,Z = G9 m a:=⟨_,rfl⟩
    rw [← hZ] at hyes hno hgl
    simp only [← hZ] at hcm
    have Hsg:=Lib.hid hsg
    have Hcm:=Lib.hid hcm
    have Hab:=Lib.hid hab
    clear hsg hcm hab hpv hZ hm e1 z1 z2 z4 hrp
    by_cases hiF : i < F
    ·have fZ : decide (0 < Z) = false:=by rw [hgl,hyes hiF];rfl
     clear hyes hno hgl
     refine wp_seq ?_
     refine r0T ?_
     refine wp_cond_true (rfl) ?_
     refine wp_skip ?_
     refine A6 ?_
     refine wp_seq ?_
     refine wp_block ?_
     refine wp_seq (rsE E7 [0,0,0,0,1,0] hB hG fun L hL=>?_)
     repeat first | refine gya ?_ | refine gyr ?_ | refine gna ?_ | refine gyb (by (rintro v ⟨hgu,hB,hG,-⟩ N hN;have r:=hB.r;simp only [BxR] at r;obtain ⟨-,y1,y2,y3⟩:=Hrv2.out v hG;obtain ⟨-,p1,p2,p3⟩:=Hrp.out v (hG1.trans hgu);go_simp;exact hN)) ?_
     refine gmw (C:=fun v=>Hsg.out _) ?_
     refine gs ?_
     refine geT hL ?_
     clear hB hG hL L
     rintro u ⟨hgu,hB,hG,-⟩
     replace hG1:=hG1.trans hgu
     clear hgu
     refine wp_seq (rdC E7 [] [(0,0),(0,1),(0,2),(0,3),(0,4),(0,5),(0,6),(0,8),(1,7),(1,9),(0,10),(0,11),(0,12),(0,13),(0,14),(0,15),(0,16),(0,17),(0,18),(0,19),(0,20),(0,22),(1,21),(1,23),(1,24),(0,25),(0,26)] hB hG (hs:=A1j [0,1,3,7,7,31,63,127,7,511,1023,2047,4095,8191,16383,32767,65535,65535,262143,524287,65535,1114111,65535,7405567,16777215,33554431,67108863,134217727] (by kernel_rfl)) fun K L hN hL=>?_)
     repeat first | refine gya ?_ | refine gyr ?_ | refine gna ?_ | refine gyb (by (rintro v ⟨hgu,hB,hG,-⟩ N hN;have r:=hB.r;simp only [BxR] at r;obtain ⟨-,y1,y2,y3⟩:=Hrv2.out v hG;obtain ⟨-,p1,p2,p3⟩:=Hrp.out v (hG1.trans hgu);go_simp;exact hN)) ?_
     first | refine gmw (C:=fun v=>Hab.out _) ?_ | refine H4 ?_
     first | refine gmd (C:=fun v ⟨hgu,hB,hG,_⟩=>Hcm.out _ hG (hG1.trans hgu)) ?_ | refine H4 ?_
     repeat first | refine gya ?_ | refine gyr ?_ | refine gna ?_ | refine gyb (by (rintro v ⟨hgu,hB,hG,-⟩ N hN;have r:=hB.r;simp only [BxR] at r;obtain ⟨-,y1,y2,y3⟩:=Hrv2.out v hG;obtain ⟨-,p1,p2,p3⟩:=Hrp.out v (hG1.trans hgu);go_simp;exact hN)) ?_
     refine gmn (by exact rfl) ?_
     refine okf (by simp only [Act.put,List.setIfInBounds_toArray,List.set_cons_succ,List.set_cons_zero];exact rfl) ?_
     refine gmn (by exact rfl) ?_
     refine okf (by simp only [Act.put,List.setIfInBounds_toArray,List.set_cons_succ,List.set_cons_zero];exact rfl) ?_
     refine gmn (by exact rfl) ?_
     refine okf (by simp only [Act.put,List.setIfInBounds_toArray,List.set_cons_succ,List.set_cons_zero];exact rfl) ?_
     refine gs ?_
     refine geC hL ?_
     clear hB hG hL L
     rintro u ⟨hgu,hB,hG,-⟩
     replace hG1:=hG1.trans hgu
     clear hgu
     refine gtT ?_
     clear hN K
     refine wp_cond_false (rfl) ?_
     refine wp_skip ?_
     refine C3 ?_
     refine A6 ?_
     refine r0E ?_
     refine A6 ?_
     go_roundw
     case rel=>exact ⟨i + 1,by omega,by go_num,hB,hG,hG1⟩
     case measure=>simp [intOf];omega
    ·have fZ : decide (0 < Z) = true:=by rw [hgl,hno hiF];rfl
     have eF : F = i:=by omega
     subst eF
     have Hc2:=Lib.hid (show cF = (F : Int) by rw [Hcb.out,if_pos hlt])
     clear hyes hno hiF hgl
     refine wp_seq ?_
     refine r0T ?_
     refine wp_cond_true (rfl) ?_
     refine wp_skip ?_
     refine A6 ?_
     refine wp_seq ?_
     refine wp_block ?_
     refine wp_seq (rsE E7 [0,0,0,0,1,0] hB hG fun L hL=>?_)
     repeat first | refine gya ?_ | refine gyr ?_ | refine gna ?_ | refine gyb (by (rintro v ⟨hgu,hB,hG,-⟩ N hN;have r:=hB.r;simp only [BxR] at r;obtain ⟨-,y1,y2,y3⟩:=Hrv2.out v hG;obtain ⟨-,p1,p2,p3⟩:=Hrp.out v (hG1.trans hgu);go_simp;exact hN)) ?_
     refine gmw (C:=fun v=>Hsg.out _) ?_
     refine gs ?_
     refine geT hL ?_
     clear hB hG hL L
     rintro u ⟨hgu,hB,hG,-⟩
     replace hG1:=hG1.trans hgu
     clear hgu
     refine wp_seq (rdC E7 [] [(0,0),(0,1),(0,2),(0,3),(0,4),(0,5),(0,6),(0,8),(1,7),(1,9),(0,10),(0,11),(0,12),(0,13),(0,14),(0,15),(0,16),(0,17),(0,18),(0,19),(0,20),(0,22),(1,21),(1,23),(1,24),(0,25),(0,26)] hB hG (hs:=A1j [0,1,3,7,7,31,63,127,7,511,1023,2047,4095,8191,16383,32767,65535,65535,262143,524287,65535,1114111,65535,7405567,16777215,33554431,67108863,134217727] (by kernel_rfl)) fun K L hN hL=>?_)
     repeat first | refine gya ?_ | refine gyr ?_ | refine gna ?_ | refine gyb (by (rintro v ⟨hgu,hB,hG,-⟩ N hN;have r:=hB.r;simp only [BxR] at r;obtain ⟨-,y1,y2,y3⟩:=Hrv2.out v hG;obtain ⟨-,p1,p2,p3⟩:=Hrp.out v (hG1.trans hgu);go_simp;exact hN)) ?_
     first | refine gmw (C:=fun v=>Hab.out _) ?_ | refine H4 ?_
     first | refine gmd (C:=fun v ⟨hgu,hB,hG,_⟩=>Hcm.out _ hG (hG1.trans hgu)) ?_ | refine H4 ?_
     repeat first | refine gya ?_ | refine gyr ?_ | refine gna ?_ | refine gyb (by (rintro v ⟨hgu,hB,hG,-⟩ N hN;have r:=hB.r;simp only [BxR] at r;obtain ⟨-,y1,y2,y3⟩:=Hrv2.out v hG;obtain ⟨-,p1,p2,p3⟩:=Hrp.out v (hG1.trans hgu);go_simp;exact hN)) ?_
     refine gmn (by exact rfl) ?_
     refine okf (by simp only [Act.put,List.setIfInBounds_toArray,List.set_cons_succ,List.set_cons_zero];exact rfl) ?_
     refine gmn (by exact rfl) ?_
     refine okf (by simp only [Act.put,List.setIfInBounds_toArray,List.set_cons_succ,List.set_cons_zero];exact rfl) ?_
     refine gmn (by exact rfl) ?_
     refine okf (by simp only [Act.put,List.setIfInBounds_toArray,List.set_cons_succ,List.set_cons_zero];exact rfl) ?_
     refine gs ?_
     refine geC hL ?_
     clear hB hG hL L
     rintro u ⟨hgu,hB,hG,-⟩
     replace hG1:=hG1.trans hgu
     clear hgu
     refine gtT ?_
     clear hN K
     refine wp_cond_true (rfl) ?_
     refine r0T ?_
     refine rt Tryz.results40 ?_
     exact ⟨by rw [Hc2.out],hG⟩
  ·have eF : F = Lw:=by omega
   have hdec : decide ((Lw : Int) < (Lw : Int)) = false:=by simp
   obtain rfl : Lw = i:=by omega
   have Hc2:=Lib.hid (show cF = -1 by rw [Hcb.out,if_neg (by omega)])
   clear eF
   refine wp_seq ?_
   refine r0T ?_
   refine wp_cond_false (rfl) ?_
   refine wp_exit ?_
   refine B8 ?_
   refine B8 ?_
   refine D6 ?_
   refine A6 ?_
   refine r0T ?_
   refine rt Tryz.results40 ?_
   exact ⟨by rw [Hc2.out],hG⟩
end Go.Proofs.YtgpglgbcobeogaaGreatDoor
