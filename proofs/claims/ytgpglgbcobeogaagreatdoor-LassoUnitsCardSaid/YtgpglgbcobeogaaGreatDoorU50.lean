/-
  The claim's theorem: LsUb LassoUnitsZ.
-/
import Derived.Test.YtgpglgbcobeogaaGreatDoorU49
set_option linter.unusedSimpArgs false
set_option linter.unusedVariables false
set_option maxHeartbeats 16000000
set_option maxRecDepth 100000
namespace Go.Proofs.YtgpglgbcobeogaaGreatDoor
open Go Go.RowKit
theorem B4T : ∀ a : Fin 9,∀ b : Fin 5,qs (F9 ((a.1 : Int) + 1) ((b.1 : Int) + 1)) ≤ 5 ∧ 0 < F9 ((a.1 : Int) + 1) ((b.1 : Int) + 1):=by decide +kernel
theorem A89 (A : Option Addr) (la : List Int) (ca : Nat) (B : Option Addr) (lb : List Int) (cb : Nat) (n wd at0 by0 : Int) (hla : la.length ≤ 9223372036854775807) (hac : la.length ≤ ca) (hba : ∀ x ∈ la,-9223372036854775808 ≤ x ∧ x ≤ 9223372036854775807) (hlb : lb.length ≤ 9223372036854775807) (hbb : ∀ x ∈ lb,-9223372036854775808 ≤ x ∧ x ≤ 9223372036854775807) (lo2 : -9223372036854775808 ≤ n) (hi2 : n ≤ 9223372036854775807) (lo3 : -9223372036854775808 ≤ wd) (hi3 : wd ≤ 9223372036854775807) (lo4 : -9223372036854775808 ≤ at0) (hi4 : at0 ≤ 9223372036854775807) (lo5 : -9223372036854775808 ≤ by0) (hi5 : by0 ≤ 9223372036854775807)
  (w : World) (h1 : Li w A la) (h2 : Li w B lb) (HT : Tab w) :
  Calls Tryz.prog 4 #[.slice A la.length ca,.slice B lb.length cb,.int .i64 n,.int .i64 wd,.int .i64 at0,.int .i64 by0] w fun e w'=>e = .returned (.bool true) ∧ A4 w w':=by
 clear lo2 hi2 lo3 hi3
 obtain ⟨pa,hpa⟩ : ∃ p,p = la.length:=⟨_,rfl⟩
 obtain ⟨pb,hpb⟩ : ∃ p,p = lb.length:=⟨_,rfl⟩
 rw [← hpa] at hac ⊢
 rw [← hpb]
 have hBB : 100000000 ≤ BIG:=by unfold BIG;omega
 have rN:=A0r n (m:=5) (by omega)
 have rL:=A0r wd (m:=3) (by omega)
 have r2:=A0r by0 (m:=9) (by omega)
 have hp1:=fun W=>A1B n 5 (by omega) (by omega) W
 have hp2:=fun W=>A1B by0 9 (by omega) (by omega) W
 obtain ⟨x,hx⟩ : ∃ x,x = by0.tdiv 9:=⟨_,rfl⟩
 have fx : by0.tdiv 9 = x:=hx.symm
 have hxb : -9223372036854775808 ≤ x ∧ x ≤ 9223372036854775807:=by
  have h : by0.tdiv 9 = by0 / 9 ∨ by0.tdiv 9 = by0 / 9 + 1:=by
   rw [Int.tdiv_eq_ediv]
   split
   ·left;omega
   ·right;rfl
  omega
 have fxw : IntKind.i64.wrap x = x:=IntWalk.i64_in _ hxb
 have r3:=A0r x (m:=5) (by omega)
 have hp3:=fun W=>A1B x 5 (by omega) (by omega) W
 obtain ⟨y1,hy1⟩ : ∃ y,y = I2 n 5:=⟨_,rfl⟩
 obtain ⟨y2,hy2⟩ : ∃ y,y = I2 by0 9:=⟨_,rfl⟩
 obtain ⟨y3,hy3⟩ : ∃ y,y = I2 x 5:=⟨_,rfl⟩
 rw [← hy1] at rN
 rw [← hy2] at r2
 rw [← hy3] at r3
 simp only [← hy1] at hp1
 simp only [← hy2] at hp2
 simp only [← hy3] at hp3
 obtain ⟨N,hN⟩ : ∃ N : Nat,y1 + 1 = (N : Int):=⟨(y1 + 1).toNat,by omega⟩
 obtain ⟨d1,hd1⟩ : ∃ d,d = y2 + 1:=⟨_,rfl⟩
 obtain ⟨d2,hd2⟩ : ∃ d,d = y3 + 1:=⟨_,rfl⟩
 have fy1 : IntKind.i64.wrap (y1 + 1) = (N : Int):=by rw [IntWalk.i64_in _ (by omega)];exact hN
 have fy2 : IntKind.i64.wrap (y2 + 1) = d1:=by rw [IntWalk.i64_in _ (by omega)];exact hd1.symm
 have fy3 : IntKind.i64.wrap (y3 + 1) = d2:=by rw [IntWalk.i64_in _ (by omega)];exact hd2.symm
 obtain ⟨Lw,hLw⟩ : ∃ Lw : Nat,I2 wd 3 + 1 = (Lw : Int):=⟨(I2 wd 3 + 1).toNat,by omega⟩
 have hN1 : 1 ≤ N:=by omega
 have hN5 : N ≤ 5:=by omega
 have hL1 : 1 ≤ Lw:=by omega
 have hL3 : Lw ≤ 3:=by omega
 have hpN : I2 (N : Int) 6 = (N : Int):=Int.emod_eq_of_lt (by omega) (by omega)
 have hd:=fun W (hg : A4 w W)=>A9d A B la lb ca cb pa pb N Lw N (N : Int) wd 0 hpa hac hpb (by omega) (by omega) hba hbb hpN hLw (by rw [if_neg (by decide)]) W (h1.grow hg) (h2.grow hg)
 have lY:=A8P lb N
 have sY:=A6H lb N
 generalize N8 lb N = Y at *
 have hov:=fun W=>A4i d1 d2 (by omega) (by omega) (by omega) (by omega) (by omega) W
 have zov : qs (F9 d1 d2) ≤ 5 ∧ 0 < F9 d1 d2:=by
  have h:=B4T ⟨y2.toNat,by omega⟩ ⟨y3.toNat,by omega⟩
  have e1 : ((y2.toNat : Int) + 1) = d1:=by omega
  have e2 : ((y3.toNat : Int) + 1) = d2:=by omega
  simp only [e1,e2] at h
  exact h
 generalize F9 d1 d2 = q at *
 have hr:=fun W=>A81 at0 W lo4 hi4
 have zr : qs (A0m at0) ≤ 5:=A6K at0
 generalize A0m at0 = r at *
 have hab:=fun W (p : Az)=>B5m p.1 p.2 r W
 have zs : qs (M3 r) ≤ 5:=by rw [A44];exact zr
 have hs0 : 0 ≤ M3 r:=by
  rw [A4N]
  rcases U8 r with ⟨h3,h4⟩ | ⟨h3,h4⟩ <;> grind
 have hrs : ∀ W (p : Az),Rz W p r → Rz W p (M3 r):=fun W p h=>⟨A9Q h.1,B2u h.2⟩
 generalize M3 r = s at *
 have zm : qs (C2 s q) ≤ 10:=by have := T4 s q;unfold C2;omega
 have hm0 : 0 ≤ C2 s q:=Rat.mul_nonneg hs0 (Rat.le_of_lt zov.2)
 have hml:=fun W (p1 p2 : Az) e1 e2=>A79 p1.1 p1.2 p2.1 p2.2 s q W (Rz.a e1) (Rz.b e1) (Rz.a e2) (Rz.b e2) (by omega)
 have hir : ∀ (W : World) (X : Ax) (rs : List Rq),A1S N Lw rs → Lrz W X.1 rs → Tab W → Calls Tryz.prog 15 #[.slice X.1 N X.2] W (G5 (fun x : Ax × List Rq=>.slice x.1.1 N x.1.2) (fun x W'=>x.2.map (·.2.2) = rs.map (·.2.2) ∧ Lrq W' x.1.1 x.2) W):=fun W X rs hk hX hT =>
  (B0n X.1 rs X.2 N hk.1.symm (by omega) (fun r hr=>⟨by have := (hk.2 r hr).1;omega,fun x hx=>Nat.le_trans ((hk.2 r hr).2 x hx) (by omega)⟩) W hX hT).mono fun e w' ⟨v,rs',he,e1,e2,e3,hg'⟩=>by
   obtain ⟨A2,c2,rfl,-,hLw,-⟩:=A98 e3 e2
   exact ⟨((A2,c2),rs'),he,⟨e1,hLw⟩,hg'⟩
 have hip : ∀ (P : List Rat),P.length = N → (∀ x ∈ P,qs x ≤ 20) → ∀ (W : World) (X : Ax),Lz W X.1 P → Tab W → Calls Tryz.prog 16 #[.slice X.1 N X.2] W (G5 (fun x : Ax=>.slice x.1 N x.2) (fun x W=>Lq W x.1 P) W):=fun P hP hs W X hX hT =>
  (B46 X.1 P X.2 N hP.symm (by omega) (fun x hx=>Nat.le_trans (hs x hx) (by omega)) W hX hT).mono fun e w' ⟨A',c',he,h,hg'⟩=>⟨(A',c'),he,h,hg'⟩
 have hyz : ∀ i,i < N → qs (gq Y i) ≤ 5:=fun i hi=>sY _ (A5l (by omega))
 have hiy:=hip Y lY (fun x hx=>Nat.le_trans (sY x hx) (by omega))
 have hy2z : ∀ i,i < N → qs (gq (A0Q Y q N) i) ≤ 20:=fun i hi=>by
  rw [show gq (A0Q Y q N) i = C2 (gq Y i) q from R7 _ hi]
  have h3:=T4 (gq Y i) q
  have h4:=hyz i hi
  unfold C2
  omega
 have l2 : (A0Q Y q N).length = N:=by unfold A0Q;simp
 have hiy2:=hip (A0Q Y q N) l2 (A93 l2 hy2z)
 have htm:=fun W (X : Ax) (p : Az) (g1 : Lz W X.1 Y) (g2 : Rz W p q)=>B20 X.1 Y N X.2 q p lY (by omega) 5 hyz (by omega) W g1 g2
 have hsc : ∀ r,r < N → gq (A0Q Y q N) r = q * gq Y r:=fun r hr=>by
  rw [show gq (A0Q Y q N) r = C2 (gq Y r) q from R7 _ hr]
  unfold C2
  exact Rat.mul_comm _ _
 obtain ⟨Y2,hY2⟩ : ∃ Y2,Y2 = A0Q Y q N:=⟨_,rfl⟩
 rw [← hY2] at hy2z l2 hiy2 hsc
 simp only [← hY2] at htm
 obtain ⟨s2,hs2⟩ : ∃ s2,s2 = C2 s q:=⟨_,rfl⟩
 rw [← hs2] at zm hm0
 simp only [← hs2] at hml
 have hs2q : s2 = q * s:=by rw [hs2];exact Rat.mul_comm _ _
 have Hd:=Lib.hid hd
 have Hp1:=Lib.hid hp1
 have Hp2:=Lib.hid hp2
 have Hp3:=Lib.hid hp3
 have Hov:=Lib.hid hov
 have Hr:=Lib.hid hr
 have Hab:=Lib.hid hab
 have Hrs:=Lib.hid hrs
 have Hml:=Lib.hid hml
 have Hir:=Lib.hid hir
 have Hiy:=Lib.hid hiy
 have Hiy2:=Lib.hid hiy2
 have Htm:=Lib.hid htm
 have Hsc:=Lib.hid hsc
 have HY:=Lib.hid (And.intro lY (And.intro hyz (And.intro l2 hy2z)))
 have HS:=Lib.hid (And.intro hs2q (And.intro hs0 hm0))
 have Hq0:=Lib.hid zov.2
 have zq:=zov.1
 have zqB : qs q ≤ BIG:=by omega
 have zsB : qs s ≤ BIG:=by omega
 have zmB : qs s2 ≤ BIG:=by omega
 clear hd hp1 hp2 hp3 hov hr hab hrs hml hir hip hiy hiy2 htm hsc lY sY hyz l2 hy2z hs2q hs0 hm0 zov hs2 hY2 hpN hLw hN hd1 hd2 hy1 hy2 hy3 hx hxb rN rL r2 r3 zr h1 h2 hba hbb hpa hpb hla hlb hac lo4 hi4 lo5 hi5
 go_enter Tryz.func4,Tryz.ntmps4
 refine en0 ?_
 intro u hG hB hF
 refine wp_seq (rsE A0T [0,0,0,1,0,0,1,0,0,0,0,0] hB hG fun L hL=>?_)
 refine gs ?_
 refine gmw (C:=fun v=>Hp1.out _) ?_
 refine gs ?_
 refine gxd (X:=((Ax × Ax) × List Rq)) (fun x : (Ax × Ax) × List Rq=>.tuple #[.slice x.1.1.1 N x.1.1.2,.slice x.1.2.1 N x.1.2.2]) (fun x W=>(A1S N Lw x.2 ∧ Lrz W x.1.1.1 x.2) ∧ Lz W x.1.2.1 Y) (fun x u u' hg h=>⟨⟨h.1.1,h.1.2.grow hg⟩,Lz.grow h.2 hg⟩) (fun x29=>?_) (C:=by (rintro v ⟨hgu,hB,hG,-⟩;exact Hd.out _ hG))
 refine gs ?_
 refine geT hL ?_
 clear hB hG hL L
 rintro u ⟨⟨hgu,hB,hG,-⟩,hx29⟩
 have HX:=Lib.hid hx29
 clear hx29
 clear hgu
 have HG0:=Lib.hid hG
 clear hB hF hG
 obtain ⟨w0,rfl⟩ : ∃ x,x = w:=⟨_,rfl⟩
 obtain ⟨w,hwu⟩ : ∃ x,x = u:=⟨_,rfl⟩
 rw [← hwu] at HG0 HX
 have hB:=Bx.nil u
 have hF:=Fr.nil w
 have hG : A4 w u:=hwu ▸ A4.refl u
 clear hwu
 obtain ⟨⟨⟨RA,RC⟩,⟨YA,YC⟩⟩,rs⟩:=x29
 obtain ⟨⟨hok,hLx⟩,hLy⟩:=HX.out
 simp only at hok hLx hLy
 obtain ⟨R,hR⟩ : ∃ R,R = rs.map (·.2.2):=⟨_,rfl⟩
 have hRn : R.length = N:=by rw [hR,List.length_map];exact hok.1
 have hRl : ∀ r ∈ R,r.length = Lw:=fun r hr=>by
  rw [hR] at hr
  obtain ⟨z,hz,rfl⟩:=List.mem_map.1 hr
  exact (hok.2 z hz).1
 have hRz : ∀ i,i < N → ∀ j,j < Lw → qs (gq (B6 R i) j) ≤ 20:=fun i hi j hj=>by rw [hR];exact Nat.le_trans (B4w hok i hi j hj) (by omega)
 have hin:=fun W (hg : A4 w W) hT=>Hir.out W (RA,RC) rs hok (hLx.grow hg) hT
 simp only [← hR] at hin
 have hl1:=fun W X' Y' rs' e g1 g2 hT=>A75 (a:=s) hRn hRl hN1 hN5 hL1 hL3 hRz HY.out.1 (fun i hi=>Nat.le_trans (HY.out.2.1 i hi) (by omega)) HS.out.2.1 (by omega) W X' Y' rs' e g1 g2 hT
 have hl2:=fun W X' Y' rs' e g1 g2 hT=>A75 (a:=s2) hRn hRl hN1 hN5 hL1 hL3 hRz HY.out.2.2.1 HY.out.2.2.2 HS.out.2.2 (by omega) W X' Y' rs' e g1 g2 hT
 have hv : ∀ i,i < lsN R N Lw → qs (gq (lsV R Y N Lw s) i) ≤ 10000000 ∧ qs (gq (lsV R Y2 N Lw s2) i) ≤ 10000000 ∧ gq (lsV R Y2 N Lw s2) i = C2 (gq (lsV R Y N Lw s) i) q:=fun i hi=>by
  unfold lsN at hi
  unfold lsV
  by_cases hk : rkR R N Lw = Lw
  ·rw [if_pos hk] at hi
   rw [if_pos hk,if_pos hk]
   refine ⟨A6m hN5 hL3 hRz (fun i hi=>Nat.le_trans (HY.out.2.1 i hi) (by omega)) (by omega) i hi,A6m hN5 hL3 hRz HY.out.2.2.2 (by omega) i hi,?_⟩
   have h3:=A9j (u:=q) hk Hq0.out HS.out.2.1 Hsc.out i hi
   rw [HS.out.1,h3]
   exact Rat.mul_comm _ _
  ·rw [if_neg hk] at hi
   exact absurd hi (Nat.not_lt_zero _)
 have hn1:=A55 R Y N Lw s
 have hn2:=A55 R Y2 N Lw s2
 have hn3 : lsN R N Lw ≤ 3:=by unfold lsN;split <;> omega
 obtain ⟨ke,hke⟩ : ∃ x,x = lsE R N Lw:=⟨_,rfl⟩
 obtain ⟨ls,hls⟩ : ∃ x,x = lsN R N Lw:=⟨_,rfl⟩
 obtain ⟨P1,hP1⟩ : ∃ x,x = lsV R Y N Lw s:=⟨_,rfl⟩
 obtain ⟨P2,hP2⟩ : ∃ x,x = lsV R Y2 N Lw s2:=⟨_,rfl⟩
 simp only [← hke,← hls,← hP1] at hl1 hv hn1 hn3
 simp only [← hke,← hls,← hP2] at hl2 hv hn2
 have HGa:=Lib.hid HG0.out
 have HT':=HT.grow HG0.out
 have Hin:=Lib.hid hin
 have Hl1:=Lib.hid hl1
 have Hl2:=Lib.hid hl2
 have Hv:=Lib.hid hv
 have HPn:=Lib.hid (And.intro hn1 hn2)
 have HLY:=Lib.hid (fun W (hg : A4 w W)=>hLy.grow hg)
 have fke : (ke != ke) = false:=by simp
 clear HX Hd Hir hok hLx hLy hR hRn hRl hRz hin hl1 hl2 hv hn1 hn2 hke hls hP1 hP2 HT HG0 HS Hsc HY Hq0
 have HT:=HT'
 clear HT'
 refine wp_seq (rsC A0T [0,1,0,0,0,1,0,1,2] hB hG fun K L hN hL=>?_)
 refine gs ?_
 refine gmw (C:=fun v=>Hp2.out _) ?_
 refine gs ?_
 refine gmw (C:=fun v=>Hp3.out _) ?_
 refine gs ?_
 refine grd (K5 q) (fun (x39 : Ax × Ax)=>?_) (C:=fun v _=>Hov.out _)
 refine gaa (A3b _ _ _ _ _) fun b15 hb15 hn15=>?_
 replace hF:=hF.n1 [] hB hG hb15 hn15
 refine geC hL ?_
 clear hB hG hL L
 rintro u ⟨⟨⟨-,hB,hG,-⟩,hx39⟩,h15⟩
 replace hB:=hB.cons' h15
 clear h15
 obtain ⟨hx39a,hx39b⟩ : Rn u x39.1 _ ∧ Rn u x39.2 _:=hx39
 clear hb15 hn15
 refine gtT ?_
 clear hN K
 refine sv hB hF hG 0 0 [_,_,_] ?_
 intro u hu hBG
 replace hx39a:=hx39a.put hB 0 rfl (by first | decide | simp) _ _ hu
 replace hx39b:=hx39b.put hB 0 rfl (by first | decide | simp) _ _ hu
 clear hB hG hu
 obtain ⟨hB,hG⟩:=hBG
 refine wp_seq (rsC A0T [0,1,1,2] hB hG fun K L hN hL=>?_)
 refine gs ?_
 refine grd (K5 r) (fun (x41 : Ax × Ax)=>?_) (C:=fun v _=>Hr.out _)
 refine gmd (C:=by (rintro v ⟨⟨hgu,hB,hG,-⟩,hx41⟩;obtain ⟨hx41a,hx41b⟩ : Rn v x41.1 _ ∧ Rn v x41.2 _:=hx41;exact Hab.out _ x41)) ?_
 refine gaa (A3b _ _ _ _ _) fun b16 hb16 hn16=>?_
 replace hF:=hF.n1 [] hB hG hb16 hn16
 refine geC hL ?_
 clear hB hG hL L
 rintro u ⟨⟨⟨hgu,hB,hG,-⟩,hx41⟩,h16⟩
 replace hB:=hB.cons' h16
 clear h16
 replace hx39a:=hx39a.grow hgu
 replace hx39b:=hx39b.grow hgu
 obtain ⟨hx41a,hx41b⟩ : Rn u x41.1 _ ∧ Rn u x41.2 _:=hx41
 clear hb16 hn16
 clear hgu
 refine gtT ?_
 clear hN K
 refine sv hB hF hG 0 0 [_,_,_] ?_
 intro u hu hBG
 replace hx39a:=hx39a.put hB 0 rfl (by first | decide | simp) _ _ hu
 replace hx39b:=hx39b.put hB 0 rfl (by first | decide | simp) _ _ hu
 replace hx41a:=hx41a.put hB 0 rfl (by first | decide | simp) _ _ hu
 replace hx41b:=hx41b.put hB 0 rfl (by first | decide | simp) _ _ hu
 clear hB hG hu
 obtain ⟨hB,hG⟩:=hBG
 refine wp_seq ?_
 have HBK:=Lib.hid (And.intro (A4Y hB.head) (A4Y (p:=x39) (q:=q) hB.tail.head))
 have HRz:=Lib.hid (And.intro (Hrs.out _ x41 (A69 hx41a hx41b)) (A69 hx39a hx39b))
 have HRY:=Lib.hid (HLY.out u hG)
 have HIN:=Lib.hid (fun W (hg : A4 u W)=>Hin.out W (hG.trans hg))
 clear hx41a hx41b hx39a hx39b HLY Hin
 obtain ⟨w0,rfl⟩ : ∃ x,x = w:=⟨_,rfl⟩
 obtain ⟨w,hwu⟩ : ∃ x,x = u:=⟨_,rfl⟩
 have HGb:=Lib.hid (HGa.out.trans hG)
 have HT':=HT.grow hG
 rw [← hwu] at HBK HRz HRY HIN HGb HT'
 clear HT hB hF hG HGa
 have HT:=HT'
 clear HT'
 have hB:=Bx.nil u
 have hF:=Fr.nil w
 have hG : A4 w u:=hwu ▸ A4.refl u
 clear hwu
 refine rdC A0T [] [(0,0),(0,2),(0,4),(1,1),(1,3),(1,5),(1,6),(0,7),(0,8),(0,9),(0,10)] hB hG fun K L hN hL=>?_
 repeat first | refine gya ?_ | refine gyr ?_ | refine gna ?_ | refine gyb (by (rintro v ⟨hgu,hB,hG,-⟩ N hN;have r:=hB.r;simp only [BxR] at r;obtain ⟨k1,k2,k3⟩:=HBK.out.1 v hG;obtain ⟨k4,k5,k6⟩:=HBK.out.2 v hG;go_simp;exact hN)) ?_
 refine gxd (X:=(Ax × List Rq)) (fun x : Ax × List Rq=>.slice x.1.1 N x.1.2) (fun x W=>x.2.map (·.2.2) = R ∧ Lrq W x.1.1 x.2) (fun x u u' hg h=>⟨h.1,h.2.grow hg⟩) (fun x45=>?_) (C:=by (rintro v ⟨hgu,hB,hG,-⟩;exact HIN.out _ hG (HT.grow hG)))
 refine gxd (X:=Ax) (fun x : Ax=>.slice x.1 N x.2) (fun x W=>Lq W x.1 Y) (fun x u u' hg h=>Lq.grow h hg) (fun x47=>?_) (C:=by (rintro v ⟨⟨hgu,hB,hG,-⟩,hx45⟩;exact Hiy.out _ (YA,YC) (HRY.out.grow hG) (HT.grow hG)))
 refine gmd (C:=fun v ⟨⟨⟨hgu,hB,hG,_⟩,hx45⟩,hx47⟩=>A3S x41.1 x41.2 s _ (HRz.out.1.1.grow hG) (HRz.out.1.2.grow hG) zsB (HT.grow hG)) ?_
 refine gxd (X:=Ax) (fun x : Ax=>.tuple #[.slice x.1 ls x.2,.int .i64 ke]) (fun x W=>Lq W x.1 P1) (fun x u u' hg h=>Lq.grow h hg) (fun x50=>?_) (C:=by (rintro v ⟨⟨⟨hgu,hB,hG,-⟩,hx45⟩,hx47⟩;exact Hl1.out _ x45.1 x47 x45.2 hx45.1 hx45.2 hx47 (HT.grow hG)))
 refine gs ?_
 refine geC hL ?_
 clear hB hG hL L
 rintro u ⟨⟨⟨⟨hgu,hB,hG,-⟩,hx45⟩,hx47⟩,hx50⟩
 clear hx45 hx47
 obtain ⟨w4,hw4⟩ : ∃ x,x = u:=⟨_,rfl⟩
 have HP1:=Lib.hid (show Lq w4 x50.1 P1 from hw4 ▸ hx50)
 have hG4 : A4 w4 u:=hw4 ▸ A4.refl u
 clear hx50 hw4
 clear hgu
 refine gtT ?_
 clear hN K
 refine wp_seq (rdC A0T [] [(0,0),(0,2),(0,3),(0,6),(0,7),(1,1),(1,4),(1,5),(1,8),(1,9),(1,10),(0,11),(0,12),(0,13),(0,14)] hB hG fun K L hN hL=>?_)
 repeat first | refine gya ?_ | refine gyr ?_ | refine gna ?_ | refine gyb (by (rintro v ⟨hgu,hB,hG,-⟩ N hN;have r:=hB.r;simp only [BxR] at r;obtain ⟨k1,k2,k3⟩:=HBK.out.1 v hG;obtain ⟨k4,k5,k6⟩:=HBK.out.2 v hG;go_simp;exact hN)) ?_
 refine gxd (X:=(Ax × List Rq)) (fun x : Ax × List Rq=>.slice x.1.1 N x.1.2) (fun x W=>x.2.map (·.2.2) = R ∧ Lrq W x.1.1 x.2) (fun x u u' hg h=>⟨h.1,h.2.grow hg⟩) (fun x55=>?_) (C:=by (rintro v ⟨hgu,hB,hG,-⟩;exact HIN.out _ hG (HT.grow hG)))
 refine gxd (X:=Ax) (fun x : Ax=>.slice x.1 N x.2) (fun x W=>Lz W x.1 Y2) (fun x u u' hg h=>Lz.grow h hg) (fun x58=>?_) (C:=by (rintro v ⟨⟨hgu,hB,hG,-⟩,hx55⟩;exact Htm.out _ (YA,YC) x39 (HRY.out.grow hG) (HRz.out.2.grow hG)))
 refine gxd (X:=Ax) (fun x : Ax=>.slice x.1 N x.2) (fun x W=>Lq W x.1 Y2) (fun x u u' hg h=>Lq.grow h hg) (fun x59=>?_) (C:=by (rintro v ⟨⟨⟨hgu,hB,hG,-⟩,hx55⟩,hx58⟩;exact Hiy2.out _ x58 hx58 (HT.grow hG)))
 refine grd (K5 s2) (fun (x62 : Ax × Ax)=>?_) (C:=by (rintro v ⟨⟨⟨⟨hgu,hB,hG,-⟩,hx55⟩,hx58⟩,hx59⟩;exact Hml.out _ x41 x39 (HRz.out.1.grow hG) (HRz.out.2.grow hG)))
 refine gmd (C:=by (rintro v ⟨⟨⟨⟨⟨hgu,hB,hG,-⟩,hx55⟩,hx58⟩,hx59⟩,hx62⟩;obtain ⟨hx62a,hx62b⟩ : Rn v x62.1 _ ∧ Rn v x62.2 _:=hx62;exact A3S x62.1 x62.2 s2 _ hx62a hx62b zmB (HT.grow hG))) ?_
 refine gxd (X:=Ax) (fun x : Ax=>.tuple #[.slice x.1 ls x.2,.int .i64 ke]) (fun x W=>Lq W x.1 P2) (fun x u u' hg h=>Lq.grow h hg) (fun x64=>?_) (C:=by (rintro v ⟨⟨⟨⟨⟨hgu,hB,hG,-⟩,hx55⟩,hx58⟩,hx59⟩,hx62⟩;obtain ⟨hx62a,hx62b⟩ : Rn v x62.1 _ ∧ Rn v x62.2 _:=hx62;exact Hl2.out _ x55.1 x59 x55.2 hx55.1 hx55.2 hx59 (HT.grow hG)))
 refine gs ?_
 refine geC hL ?_
 clear hB hG hL L
 rintro u ⟨⟨⟨⟨⟨⟨hgu,hB,hG,-⟩,hx55⟩,hx58⟩,hx59⟩,hx62⟩,hx64⟩
 obtain ⟨hx62a,hx62b⟩ : Rn u x62.1 _ ∧ Rn u x62.2 _:=hx62
 clear hx55 hx58 hx59
 replace hG4:=hG4.trans hgu
 clear hgu
 refine gtT ?_
 clear hN K
 refine wp_seq ?_
 refine wp_seq ?_
 have HP:=Lib.hid (And.intro (HP1.out.grow hG4) hx64)
 clear HP1 hx64 hG4 hx62a hx62b
 obtain ⟨w5,hw5⟩ : ∃ x,x = u:=⟨_,rfl⟩
 rw [← hw5] at HP
 have hG5 : A4 w5 u:=hw5 ▸ A4.refl u
 clear hw5
 refine r0N ?_
 refine wp_cond_false (rfl) ?_
 refine wp_skip ?_
 refine A6 ?_
 refine wp_seq ?_
 refine r0T ?_
 refine wp_block ?_
 go_loopw [21] (fun s0 wr=>∃ (i : Nat),i ≤ ls ∧ s0 = .int .i64 i ∧ A4 w5 wr ∧ A4 w wr) (fun s0 _=>ls - (intOf s0).toNat)
 case atStart=>exact ⟨0,Nat.zero_le _,rfl,hG5,hG⟩
 case round =>
  clear hB hG hG5
  obtain ⟨i,hi,rfl,hG5,hG⟩:=hrel
  obtain ⟨u,rfl⟩ : ∃ x,x = wr:=⟨_,rfl⟩
  have hB:=Bx.nil u
  rcases Nat.lt_or_ge i ls with hlt | hge
  ·have hdec : decide ((i : Int) < (ls : Int)) = true:=by simp;omega
   have hin : (i : Int) < (ls : Int):=by omega
   obtain ⟨v1,v2,v3⟩:=Hv.out i hlt
   obtain ⟨xa,xc⟩:=x50
   obtain ⟨za,zc⟩:=x64
   obtain ⟨bp,op,ep⟩:=HP.out.1.addr (by rw [HPn.out.1];omega)
   obtain ⟨bq,oq,eq⟩:=HP.out.2.addr (by rw [HPn.out.2];omega)
   simp only at ep eq
   subst ep eq
   have hrd : ∀ W,A4 w5 W → Cq W bp (op + i * 5) (gq P1 i) ∧ Cq W bq (oq + i * 5) (gq P2 i):=fun W hg=>⟨(HP.out.1.grow hg).read (by rw [HPn.out.1];exact hlt),(HP.out.2.grow hg).read (by rw [HPn.out.2];exact hlt)⟩
   obtain ⟨X1,hX1⟩ : ∃ x,x = gq P1 i:=⟨_,rfl⟩
   obtain ⟨X2,hX2⟩ : ∃ x,x = gq P2 i:=⟨_,rfl⟩
   rw [← hX1] at v1 v3
   rw [← hX2] at v2 v3
   simp only [← hX1,← hX2] at hrd
   have h3:=T4 X1 q
   have hmu:=fun W hT=>A0f X1 q W (by omega) hT
   rw [← v3] at hmu
   have hcm:=fun W=>A8u X2 X2 W (by omega)
   have hc0 : R8 X2 X2 = 0:=by
    have h4:=@B3Z X2 X2
    simpa using h4
   rw [hc0] at hcm
   have Hrd:=Lib.hid hrd
   have Hmu:=Lib.hid hmu
   have Hcm:=Lib.hid hcm
   clear hrd hmu hcm v1 v2 v3 h3 hc0 hX1 hX2
   refine wp_seq ?_
   refine r0T ?_
   refine wp_cond_true (rfl) ?_
   refine wp_skip ?_
   refine A6 ?_
   refine wp_seq ?_
   refine wp_block ?_
   refine wp_seq (rdC A0T [] [(0,0),(0,1),(0,2),(0,3),(0,4),(0,7),(0,8),(0,9),(0,10),(1,5),(1,6),(1,11)] hB hG fun K L hN hL=>?_)
   repeat first | refine gya ?_ | refine gyr ?_ | refine gna ?_ | refine gyb (by (rintro v ⟨hgu,hB,hG,-⟩ N hN;have r:=hB.r;simp only [BxR] at r;obtain ⟨⟨y1,y2,y3,y4,y5⟩,z1,z2,z3,z4,z5⟩:=Hrd.out v (hG5.trans hgu);obtain ⟨k4,k5,k6⟩:=HBK.out.2 v hG;go_simp;exact hN)) ?_
   refine gmd (C:=fun v ⟨hgu,hB,hG,_⟩=>A3S x39.1 x39.2 q _ (HRz.out.2.1.grow hG) (HRz.out.2.2.grow hG) zqB (HT.grow hG)) ?_
   refine gmd (C:=fun v ⟨hgu,hB,hG,_⟩=>Hmu.out _ (HT.grow hG)) ?_
   refine gmw (C:=fun v=>Hcm.out _) ?_
   refine geC hL ?_
   clear hB hG hL L
   rintro u ⟨hgu,hB,hG,-⟩
   replace hG5:=hG5.trans hgu
   clear hgu
   refine gtT ?_
   clear hN K
   refine wp_cond_false (rfl) ?_
   refine wp_skip ?_
   refine E3 ?_
   refine A6 ?_
   refine r0E ?_
   refine A6 ?_
   go_roundw
   case rel=>exact ⟨i + 1,by omega,by go_num,hG5,hG⟩
   case measure=>simp [intOf];omega
  ·obtain rfl : ls = i:=by omega
   have hdec : decide ((ls : Int) < (ls : Int)) = false:=by simp
   refine wp_seq ?_
   refine r0T ?_
   refine wp_cond_false (rfl) ?_
   refine wp_exit ?_
   refine B9 ?_
   refine B9 ?_
   refine E9 ?_
   refine A6 ?_
   refine wp_seq (rsE A0T [1,0] hB hG fun L hL=>?_)
   refine gmd (C:=fun v ⟨hgu,hB,hG,_⟩=>B2S _ (HT.grow hG)) ?_
   refine gs ?_
   refine geT hL ?_
   clear hB hG hL L
   rintro u ⟨-,hB,hG,-⟩
   refine rt Tryz.results4 ?_
   exact ⟨rfl,HGb.out.trans hG⟩
end Go.Proofs.YtgpglgbcobeogaaGreatDoor
namespace Go.Proofs.YtgpglgbcobeogaaGreatDoor.lassoUnits
open Go.ChangeShapes Go.WideShapes Go.ChangeAt Go.RowKit
theorem B4v : ∀ t ∈ Tryz.f4.params.toList,Tryz.prog.readableRec t = true ∧ t < Tryz.prog.types.size:=by
 have h : (Tryz.f4.params.toList.all fun t=>Tryz.prog.readableRec t && decide (t < Tryz.prog.types.size)) = true:=by kernel_rfl
 intro t ht
 have := List.all_eq_true.1 h t ht
 simpa using this
theorem B2G (H : Type) (enc : TypeId × Value → H) (W : World) (base : Nat) (args : Array Value) (ds gs : List (DataW H)) (before : List MemPlace)
  (hval : ∀ (j : Nat) t v,Tryz.f4.params[j]? = some t → args[j]? = some v → Value.okWide Tryz.prog W .any base t v)
  (hW : DataW.Whole enc Tryz.prog Tryz.f4.params.toList Rows.lassoUnitsSpec.vars false W args.toList ds gs before) (hL : laidMetH Tryz.prog Rows.lassoUnitsRow.laid W) :
  Calls Tryz.prog 4 args W fun e W'=>∃ v,e = .returned v ∧ Rows.lassoUnitsSpec.post enc Tryz.prog Tryz.f4 false true false false W args v W':=by
 have hW':=hW
 obtain ⟨p,q,hA0,hV,rfl,hfz,hnd⟩:=hW
 have hA : DataW.TrodAll enc Tryz.prog W 0 (fun _=>true) true Tryz.f4.params.toList args.toList ds p:=hA0
 rw [Tryz.params4] at hA hval
 obtain ⟨v0,vs0,d0,ds0,p0,q0,ha0,rfl,rfl,h0,hA1⟩:=trodAll_cons hA
 obtain ⟨v1,vs1,d1,ds1,p1,q1,rfl,rfl,rfl,h1,hA2⟩:=trodAll_cons hA1
 obtain ⟨v2,vs2,d2,ds2,p2,q2,rfl,rfl,rfl,h2,hA3⟩:=trodAll_cons hA2
 obtain ⟨v3,vs3,d3,ds3,p3,q3,rfl,rfl,rfl,h3,hA4⟩:=trodAll_cons hA3
 obtain ⟨v4,vs4,d4,ds4,p4,q4,rfl,rfl,rfl,h4,hA5⟩:=trodAll_cons hA4
 obtain ⟨v5,vs5,d5,ds5,p5,q5,rfl,rfl,rfl,h5,hA6⟩:=trodAll_cons hA5
 obtain ⟨rfl,rfl,rfl⟩:=trodAll_nil hA6
 obtain rfl : args = #[v0,v1,v2,v3,v4,v5]:=by
  cases args
  simp_all
 obtain ⟨rfl,rfl⟩:=trodVars_none hV
 obtain ⟨A0,l0,c0,rfl,hl0,hn0,hb0,hc0⟩:=B0L (hval 0 22 v0 rfl rfl) h0
 obtain ⟨A1,l1,c1,rfl,hl1,hn1,hb1⟩:=B1j (hval 1 22 v1 rfl rfl) h1
 obtain ⟨n2,rfl,rfl,rfl,w2⟩:=open_int Tryz.underlying3 (hval 2 3 v2 rfl rfl) h2
 obtain ⟨lo2,hi2⟩:=bounds_i64 w2
 obtain ⟨n3,rfl,rfl,rfl,w3⟩:=open_int Tryz.underlying3 (hval 3 3 v3 rfl rfl) h3
 obtain ⟨lo3,hi3⟩:=bounds_i64 w3
 obtain ⟨n4,rfl,rfl,rfl,w4⟩:=open_int Tryz.underlying3 (hval 4 3 v4 rfl rfl) h4
 obtain ⟨lo4,hi4⟩:=bounds_i64 w4
 obtain ⟨n5,rfl,rfl,rfl,w5⟩:=open_int Tryz.underlying3 (hval 5 3 v5 rfl rfl) h5
 obtain ⟨lo5,hi5⟩:=bounds_i64 w5
 refine (A89 A0 l0 c0 A1 l1 c1 n2 n3 n4 n5 hn0 hc0 hb0 hn1 hb1 lo2 hi2 lo3 hi3 lo4 hi4 lo5 hi5 W hl0 hl1 (B31 (by kernel_rfl) hL)).mono fun e W' ⟨he,hg⟩=>?_
 exact ⟨_,he,B13 hW' rfl rfl rfl rfl (by kernel_rfl) B4v hg⟩
def wit : Array Value:=#[.slice none 0 0,.slice none 0 0,.int .i64 0,.int .i64 0,.int .i64 0,.int .i64 0]
theorem A9G (os : Os) : laidMet Tryz.prog Rows.lassoUnitsRow.laid ((laidWorld os).forCall (fun _ _=>0) ⟨#[],wit,[]⟩).memory :=
 laidMet_of_run' 8 (by kernel_rfl) (by kernel_rfl)
theorem reads (os : Os) {H : Type} (enc : TypeId × Value → H) : ∃ places,DataW.whole enc Tryz.prog ((laidWorld os).forCall (fun _ _=>0) ⟨#[],wit,[]⟩).memory Tryz.f4.params.toList Rows.lassoUnitsSpec.vars false wit.toList 8 = some ([.nil,.nil,.lit (.int .i64 0),.lit (.int .i64 0),.lit (.int .i64 0),.lit (.int .i64 0)],[],places) :=
 ⟨[],by kernel_rfl⟩
theorem A90 (os : Os) (started : os.Started) (H : Type) (enc : TypeId × Value → H) (F : Stop.Interp) :
  ReturnsInHanded {} Tryz.checked os 4 .any ((OpenSpec.ofChange Rows.lassoUnitsSpec).preRow enc Tryz.prog Tryz.f4 Rows.lassoUnitsRow.domain false Rows.lassoUnitsRow.laid) (((OpenSpec.ofChange Rows.lassoUnitsSpec).at F).post enc Tryz.prog Tryz.f4 false true false false):=by
 obtain ⟨places,hx⟩:=reads os enc
 refine returnsInHanded_of_row (C:=Tryz.checked) (s:=OpenSpec.ofChange Rows.lassoUnitsSpec) B2Y started (by kernel_rfl) Tryz.func4
  (witness_row_at (enc:=enc) (C:=Tryz.checked) false (laidWorld os) wit rfl (by kernel_rfl) (by kernel_rfl) (by kernel_rfl)
   (OpenSpec.preRow_of_cond 8 hx (by kernel_rfl) (fun k hk=>by cases hk) (by kernel_rfl) (A9G os))) ?_
 intro W base args ds gs before hval hW _ _ _ hL _ _
 exact B2G H enc W base args ds gs before hval hW hL
theorem B2W : Rows.LassoUnitsSaid :=
 OpenClaim.holds_of_cond 4 Tryz.f4 rfl rfl rfl rfl rfl rfl rfl ⟨rfl,rfl,rfl,rfl,rfl⟩ rfl rfl rfl rfl rfl (by kernel_rfl) Tryz.func4 (by kernel_rfl)
  (of_decide_eq_true (by kernel_rfl)) (by unfold Func.isWrapper;first | (rw [if_pos (by decide +kernel)];kernel_rfl) | (rw [if_neg (by decide +kernel)];exact ⟨rfl,rfl⟩))
  (fun os started H enc _ F=>by rw [OpenClaim.pre_eq_preRow];exact A90 os started H enc F)
theorem plain (f : FuncId) (fn : Func) (hf : Tryz.pinned.checked.prog.funcNamed Rows.lassoUnitsRow.func = some f) (hfn : Tryz.pinned.checked.prog.funcs[f]? = some fn) :
  false = Tryz.pinned.checked.prog.looks [] ∧ ∀ (j : Nat) t,fn.params[j]? = some t → Tryz.pinned.checked.prog.wantsStandIn t = false:=by
 obtain rfl : f = 4:=Option.some.inj ((show Tryz.prog.funcNamed Rows.lassoUnitsRow.func = some 4 by kernel_rfl).symm.trans hf) |>.symm
 obtain rfl : fn = Tryz.f4:=(Option.some.inj (Tryz.func4.symm.trans hfn)).symm
 refine ⟨by kernel_rfl,fun j t ht=>?_⟩
 have h : (Tryz.f4.params.toList.all fun t=>!Tryz.prog.wantsStandIn t) = true:=by kernel_rfl
 have := List.all_eq_true.1 h t (Array.mem_toList_iff.2 (Array.mem_of_getElem? ht))
 have h2 : Tryz.prog.wantsStandIn t = false:=by simpa using this
 exact h2
theorem card : Rows.LassoUnitsCardSaid :=
 Claim7.holds_tied_plain_at .later [] _ _ _ _ B2W (fun _ h=>by cases h) (by kernel_rfl) (fun _ h=>by cases h) lassoUnits_row_tie rfl ⟨rfl,rfl⟩ (by kernel_rfl) rfl plain (by kernel_rfl)
end Go.Proofs.YtgpglgbcobeogaaGreatDoor.lassoUnits
namespace Go.Proofs.YtgpglgbcobeogaaGreatDoor
theorem lassoUnits_holds : Rows.LassoUnitsCardSaid:=lassoUnits.card
#print axioms lassoUnits_holds
end Go.Proofs.YtgpglgbcobeogaaGreatDoor
