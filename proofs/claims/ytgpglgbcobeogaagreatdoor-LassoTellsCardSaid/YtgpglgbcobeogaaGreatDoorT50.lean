/-
  The claim's theorem: LsTe LassoTellsZ.
-/
import Derived.Test.YtgpglgbcobeogaaGreatDoorT49
set_option linter.unusedSimpArgs false
set_option linter.unusedVariables false
set_option maxHeartbeats 16000000
set_option maxRecDepth 100000
namespace Go.Proofs.YtgpglgbcobeogaaGreatDoor
open Go Go.RowKit
theorem B44 (A : Option Addr) (la : List Int) (ca : Nat) (B : Option Addr) (lb : List Int) (cb : Nat) (C : Option Addr) (lc : List Int) (cc : Nat) (n wd odd at0 more : Int) (hla : la.length ≤ 9223372036854775807) (hac : la.length ≤ ca) (hba : ∀ x ∈ la,-9223372036854775808 ≤ x ∧ x ≤ 9223372036854775807) (hlb : lb.length ≤ 9223372036854775807) (hbb : ∀ x ∈ lb,-9223372036854775808 ≤ x ∧ x ≤ 9223372036854775807) (hlc : lc.length ≤ 9223372036854775807) (hbc : ∀ x ∈ lc,-9223372036854775808 ≤ x ∧ x ≤ 9223372036854775807) (lo3 : -9223372036854775808 ≤ n) (hi3 : n ≤ 9223372036854775807) (lo4 : -9223372036854775808 ≤ wd) (hi4 : wd ≤ 9223372036854775807) (lo5 : -9223372036854775808 ≤ odd) (hi5 : odd ≤ 9223372036854775807) (lo6 : -9223372036854775808 ≤ at0) (hi6 : at0 ≤ 9223372036854775807) (lo7 : -9223372036854775808 ≤ more) (hi7 : more ≤ 9223372036854775807)
  (w : World) (h1 : Li w A la) (h2 : Li w B lb) (h3 : Li w C lc) (HT : Tab w) :
  Calls Tryz.prog 5 #[.slice A la.length ca,.slice B lb.length cb,.slice C lc.length cc,.int .i64 n,.int .i64 wd,.int .i64 odd,.int .i64 at0,.int .i64 more] w fun e w'=>e = .returned (.bool true) ∧ A4 w w':=by
 clear lo3 hi3 lo4 hi4 lo5 hi5 lo7 hi7
 obtain ⟨pa,hpa⟩ : ∃ p,p = la.length:=⟨_,rfl⟩
 obtain ⟨pb,hpb⟩ : ∃ p,p = lb.length:=⟨_,rfl⟩
 obtain ⟨pc,hpc⟩ : ∃ p,p = lc.length:=⟨_,rfl⟩
 rw [← hpa] at hac ⊢
 rw [← hpb,← hpc]
 have hBB : 100000 ≤ BIG:=by unfold BIG;omega
 have hLIM : LIM = 1099511627760:=rfl
 have rN:=A1J n (m:=6) (by omega)
 have rL:=A1J wd (m:=3) (by omega)
 obtain ⟨N,hN⟩ : ∃ N : Nat,H8 n 6 = (N : Int):=⟨(H8 n 6).toNat,by omega⟩
 obtain ⟨Lw,hLw⟩ : ∃ Lw : Nat,H8 wd 3 + 1 = (Lw : Int):=⟨(H8 wd 3 + 1).toNat,by omega⟩
 obtain ⟨M,hM⟩ : ∃ M : Nat,M = if H8 odd 10 = 9 then N + 1 else N:=⟨_,rfl⟩
 have hN5 : N ≤ 5:=by omega
 have hL1 : 1 ≤ Lw:=by omega
 have hL3 : Lw ≤ 3:=by omega
 have hM6 : M ≤ 6:=by split at hM <;> omega
 have hd:=fun W (hg : A4 w W)=>B05 A B la lb ca cb pa pb N Lw M n wd odd hpa hac hpb (by omega) (by omega) hba hbb hN hLw hM W (h1.grow hg) (h2.grow hg)
 have hp1:=fun W=>A1I wd 3 (by omega) (by omega) W
 have hp2:=fun W=>A1I more 11 (by omega) (by omega) W
 obtain ⟨y,hy⟩ : ∃ y,y = H8 wd 3:=⟨_,rfl⟩
 rw [← hy] at hLw rL
 simp only [← hy] at hp1
 have fy : IntKind.i64.wrap (y + 1) = (Lw : Int):=by rw [IntWalk.i64_in _ (by omega)];exact hLw
 obtain ⟨od,hod⟩ : ∃ y,y = H8 more 11:=⟨_,rfl⟩
 simp only [← hod] at hp2
 obtain ⟨KW,hK⟩ : ∃ KW : Nat,KW = if od = 10 then Lw + 1 else Lw:=⟨_,rfl⟩
 have hK4 : KW ≤ 4:=by split at hK <;> omega
 have hq : ∀ W,A4 w W → Calls Tryz.prog 31 #[.slice C pc cc,.int .i64 KW] W (F8 (fun x : Ax=>.slice x.1 KW x.2) (fun x W=>Lz W x.1 (L0 lc KW)) W):=fun W hg=>A72 C lc cc pc KW hpc (by omega) (by omega) hbc W (h3.grow hg)
 have lY:=A4z lb M
 have sY:=A54 lb M
 have lQ:=A4z lc KW
 have sQ:=A54 lc KW
 generalize L0 lb M = Y at *
 generalize L0 lc KW = Q at *
 have hr:=fun W=>A73 at0 W lo6 hi6
 have sa : qs (A0Y at0) ≤ 5:=A8p at0
 generalize A0Y at0 = a at *
 have saB : qs a ≤ BIG:=by omega
 have hsg:=fun W (x : Az)=>A8c x.1 x.2 a W
 have hsn:=@A3O a
 obtain ⟨sg,hsge⟩ : ∃ s,s = a.num.sign:=⟨_,rfl⟩
 rw [← hsge] at hsn
 simp only [← hsge] at hsg
 have hsg3 : sg = 1 ∨ sg = -1 ∨ sg = 0:=by rw [hsge];exact A3c a
 have hir : ∀ (W : World) (X : Ax) (rs : List Rq),A1B N Lw rs → Lrz W X.1 rs → Tab W → Calls Tryz.prog 15 #[.slice X.1 N X.2] W (F8 (fun x : Ax × List Rq=>.slice x.1.1 N x.1.2) (fun x W'=>x.2.map (·.2.2) = rs.map (·.2.2) ∧ Lrq W' x.1.1 x.2) W):=fun W X rs hk hX hT =>
  (A9X X.1 rs X.2 N hk.1.symm (by omega) (fun r hr=>⟨by have := (hk.2 r hr).1;omega,fun x hx=>Nat.le_trans ((hk.2 r hr).2 x hx) (by omega)⟩) W hX hT).mono fun e w' ⟨v,rs',he,e1,e2,e3,hg'⟩=>by
   obtain ⟨A2,c2,rfl,-,hLw,-⟩:=B4C e3 e2
   exact ⟨((A2,c2),rs'),he,⟨e1,hLw⟩,hg'⟩
 have hip : ∀ (P : List Rat) (m : Nat),P.length = m → m ≤ 6 → (∀ x ∈ P,qs x ≤ 5) → ∀ (W : World) (X : Ax),Lz W X.1 P → Tab W → Calls Tryz.prog 16 #[.slice X.1 m X.2] W (F8 (fun x : Ax=>.slice x.1 m x.2) (fun x W=>Lq W x.1 P) W):=fun P m hP hm hs W X hX hT =>
  (B3i X.1 P X.2 m hP.symm (by omega) (fun x hx=>Nat.le_trans (hs x hx) (by omega)) W hX hT).mono fun e w' ⟨A',c',he,h,hg'⟩=>⟨(A',c'),he,h,hg'⟩
 have Hiy0:=Lib.hid (hip Y M lY hM6 sY)
 have Hiq0:=Lib.hid (hip Q KW lQ (by omega) sQ)
 have Hd:=Lib.hid hd
 have Hp1:=Lib.hid hp1
 have Hp2:=Lib.hid hp2
 have Hq:=Lib.hid hq
 have Hr:=Lib.hid hr
 have Hir:=Lib.hid hir
 have Hsg:=Lib.hid hsg
 have Hsn:=Lib.hid (And.intro hsn hsg3)
 have HY:=Lib.hid (And.intro lY sY)
 have HQ:=Lib.hid (And.intro lQ sQ)
 have HM:=Lib.hid hM
 have HK:=Lib.hid hK
 have fL : IntKind.i64.wrap ((Lw : Int) + 1) = ((Lw + 1 : Nat) : Int):=by rw [IntWalk.i64_in _ (by omega)];rfl
 clear hLw rL rN hN hd hp1 hp2 hq hr hip hir hsg hsn hsg3 hsge lY sY lQ sQ hM hK hy hod h1 h2 h3 hba hbb hbc hpa hpb hpc hla hlb hlc hac lo6 hi6
 go_enter Tryz.func5,Tryz.ntmps5
 refine en0 ?_
 intro u hG hB hF
 refine wp_seq (rsE E7 [0,0,0,0,0,1,0,0,0,0,0] hB hG fun L hL=>?_)
 refine gs ?_
 refine gxd (X:=((Ax × Ax) × List Rq)) (fun x : (Ax × Ax) × List Rq=>.tuple #[.slice x.1.1.1 N x.1.1.2,.slice x.1.2.1 M x.1.2.2]) (fun x W=>(A1B N Lw x.2 ∧ Lrz W x.1.1.1 x.2) ∧ Lz W x.1.2.1 Y) (fun x u u' hg h=>⟨⟨h.1.1,h.1.2.grow hg⟩,Lz.grow h.2 hg⟩) (fun x38=>?_) (C:=by (rintro v ⟨hgu,hB,hG,-⟩;exact Hd.out _ hG))
 refine gs ?_
 refine geT hL ?_
 clear hB hG hL L
 rintro u ⟨⟨hgu,hB,hG,-⟩,hx38⟩
 have HX:=Lib.hid hx38
 clear hx38
 clear hgu
 have HG0:=Lib.hid hG
 clear hB hF hG
 obtain ⟨w0,rfl⟩ : ∃ x,x = w:=⟨_,rfl⟩
 obtain ⟨w,hwu⟩ : ∃ x,x = u:=⟨_,rfl⟩
 rw [← hwu] at HG0 HX
 have hB:=Bx.nil u
 have hF:=Fr.nil w
 have hG : A4 w u:=hwu ▸ A4.refl u
 clear hwu
 obtain ⟨⟨⟨RA,RC⟩,⟨YA,YC⟩⟩,rs⟩:=x38
 have hq2:=fun W (hg : A4 w W)=>Hq.out W (HG0.out.trans hg)
 have HGa:=HG0
 have HT':=HT.grow HG0.out
 clear Hd HG0 HT Hq
 have HT:=HT'
 have Hq:=Lib.hid hq2
 clear HT' hq2
 refine wp_seq (rsE E7 [0,1,0,0] hB hG fun L hL=>?_)
 refine gs ?_
 refine gmw (C:=fun v=>Hp1.out _) ?_
 refine gs ?_
 refine geT hL ?_
 clear hB hG hL L
 rintro u ⟨-,hB,hG,-⟩
 refine A7o fun Kj hKj=>?_
 go_cut [19] from 44 to 48 (fun s19 wx=>s19 = .int .i64 (KW : Nat) ∧ A4 w wx)
 case first =>
  rename_i Jj Kk hJj hMj
  by_cases ho : od = 10
  ·have fo : (od == 10) = true:=by simp [ho]
   have fod : decide (od = 10) = true:=by simp [ho]
   have hKe:=Lib.hid (show KW = Lw + 1 by rw [HK.out,if_pos ho])
   clear ho
   refine wp_seq (rsE E7 [0,1,0] hB hG fun L hL=>?_)
   refine gs ?_
   refine gmw (C:=fun v=>Hp2.out _) ?_
   refine gs ?_
   refine geT hL ?_
   clear hB hG hL L
   rintro u ⟨-,hB,hG,-⟩
   refine wp_cond_true (rfl) ?_
   refine r0N ?_
   refine hMj _ _ (Met.intro (hJj _ _ ?_))
   repeat apply Exists.intro
   refine ⟨?rel,rfl⟩
   case rel =>
    exact ⟨congrArg (Value.int .i64) (by have := hKe.out;omega),hG⟩
  ·have fo : (od == 10) = false:=by simp [ho]
   have fod : decide (od = 10) = false:=by simp [ho]
   have hKe:=Lib.hid (show KW = Lw by rw [HK.out,if_neg ho])
   clear ho
   refine wp_seq (rsE E7 [0,1,0] hB hG fun L hL=>?_)
   refine gs ?_
   refine gmw (C:=fun v=>Hp2.out _) ?_
   refine gs ?_
   refine geT hL ?_
   clear hB hG hL L
   rintro u ⟨-,hB,hG,-⟩
   refine wp_cond_false (rfl) ?_
   refine wp_skip ?_
   refine A6 ?_
   refine hMj _ _ (Met.intro (hJj _ _ ?_))
   repeat apply Exists.intro
   refine ⟨?rel,rfl⟩
   case rel =>
    exact ⟨congrArg (Value.int .i64) (by have := hKe.out;omega),hG⟩
 case rest =>
  clear hB hG
  obtain ⟨rfl,hG⟩:=hcut
  obtain ⟨u,rfl⟩ : ∃ x,x = wc:=⟨_,rfl⟩
  have hB:=Bx.nil u
  refine hKj _ _ ?_
  clear hKj Kj
  refine wp_seq (rsE E7 [0,0,1,0] hB hG fun L hL=>?_)
  refine gs ?_
  refine gxd (X:=Ax) (fun x : Ax=>.slice x.1 KW x.2) (fun x W=>Lz W x.1 Q) (fun x u u' hg h=>Lz.grow h hg) (fun x51=>?_) (C:=by (rintro v ⟨hgu,hB,hG,-⟩;exact Hq.out _ hG))
  refine gs ?_
  refine geT hL ?_
  clear hB hG hL L
  rintro u ⟨⟨hgu,hB,hG,-⟩,hx51⟩
  have HP:=Lib.hid hx51
  clear hx51
  clear hgu
  have HG0:=Lib.hid hG
  clear hB hF hG
  obtain ⟨w0,rfl⟩ : ∃ x,x = w:=⟨_,rfl⟩
  obtain ⟨w,hwu⟩ : ∃ x,x = u:=⟨_,rfl⟩
  rw [← hwu] at HG0 HP
  have hB:=Bx.nil u
  have hF:=Fr.nil w
  have hG : A4 w u:=hwu ▸ A4.refl u
  clear hwu
  obtain ⟨QA,QC⟩:=x51
  obtain ⟨⟨hok,hLx⟩,hLy⟩:=HX.out
  simp only at hok hLx hLy
  replace hLx:=hLx.grow HG0.out
  replace hLy:=hLy.grow HG0.out
  have hLq : Lz w QA Q:=HP.out
  obtain ⟨R,hR⟩ : ∃ R,R = rs.map (·.2.2):=⟨_,rfl⟩
  have hRn : R.length = N:=by rw [hR,List.length_map];exact hok.1
  have hRl : ∀ r ∈ R,r.length = Lw:=fun r hr=>by
   rw [hR] at hr
   obtain ⟨z,hz,rfl⟩:=List.mem_map.1 hr
   exact (hok.2 z hz).1
  have hRz : ∀ i,i < N → ∀ j,j < Lw → qs (gq (B7 R i) j) ≤ 5:=by rw [hR];exact B0u hok
  have hYz : ∀ i,i < M → qs (gq Y i) ≤ 5:=fun i hi=>HY.out.2 _ (A1S (by rw [HY.out.1];exact hi))
  have hQz : ∀ i,i < KW → qs (gq Q i) ≤ 5:=fun i hi=>HQ.out.2 _ (A1S (by rw [HQ.out.1];exact hi))
  obtain ⟨pv,ke,PL,ls,kf,fc,fb,kg,tv,kh,tc,td⟩:=B1r (a:=a) hRn hRl (by omega) hL1 (by omega) hRz HY.out.1 hYz sa HQ.out.1 hQz
  have Hin:=Lib.hid (fun W (hg : A4 w W) hT=>by have h:=Hir.out W (RA,RC) rs hok (hLx.grow hg) hT;rw [← hR] at h;exact h)
  have Hiy:=Lib.hid (fun W (hg : A4 w W) hT=>Hiy0.out W (YA,YC) (hLy.grow hg) hT)
  have Hiq:=Lib.hid (fun W (hg : A4 w W) hT=>Hiq0.out W (QA,QC) (hLq.grow hg) hT)
  have TC:=Lib.hid tc
  have TD:=Lib.hid td
  have HOK:=Lib.hid (And.intro hok hR)
  have HLX:=Lib.hid (And.intro hLx (And.intro hLy hLq))
  have HZ:=Lib.hid (And.intro hRz (And.intro hYz hQz))
  have HT':=HT.grow HG0.out
  have HGb:=Lib.hid (HGa.out.trans HG0.out)
  clear HX HP Hir Hiy0 Hiq0 Hq hok hLx hLy hLq hRn hRl hRz hYz hQz tc td HT HGa HG0 hR
  have HT:=HT'
  clear HT'
  refine wp_seq (rsC E7 [0,1,2] hB hG fun K L hN hL=>?_)
  refine gs ?_
  refine grd (D7 a) (fun (x53 : Ax × Ax)=>?_) (C:=fun v _=>Hr.out _)
  refine gaa (A1V _ _ _ _ _) fun b21 hb21 hn21=>?_
  replace hF:=hF.n1 [] hB hG hb21 hn21
  refine geC hL ?_
  clear hB hG hL L
  rintro u ⟨⟨⟨-,hB,hG,-⟩,hx53⟩,h21⟩
  replace hB:=hB.cons' h21
  clear h21
  obtain ⟨hx53a,hx53b⟩ : Rn u x53.1 _ ∧ Rn u x53.2 _:=hx53
  clear hb21 hn21
  refine gtT ?_
  clear hN K
  refine sv hB hF hG 0 0 [_,_,_] ?_
  intro u hu hBG
  replace hx53a:=hx53a.put hB 0 rfl (by first | decide | simp) _ _ hu
  replace hx53b:=hx53b.put hB 0 rfl (by first | decide | simp) _ _ hu
  clear hB hG hu
  obtain ⟨hB,hG⟩:=hBG
  refine wp_seq (rdC E7 [11] [(0,0),(0,2),(0,4),(0,6),(1,1),(1,3),(1,5),(1,7),(1,8),(0,9),(0,10),(0,11),(2,12)] hB hG fun K L hN hL=>?_)
  refine gs ?_
  refine gxd (X:=(Ax × List Rq)) (fun x : Ax × List Rq=>.slice x.1.1 N x.1.2) (fun x W=>x.2.map (·.2.2) = R ∧ Lrq W x.1.1 x.2) (fun x u u' hg h=>⟨h.1,h.2.grow hg⟩) (fun x56=>?_) (C:=by (rintro v ⟨hgu,hB,hG,-⟩;exact Hin.out _ hG (HT.grow hG)))
  refine gxd (X:=Ax) (fun x : Ax=>.slice x.1 M x.2) (fun x W=>Lq W x.1 Y) (fun x u u' hg h=>Lq.grow h hg) (fun x58=>?_) (C:=by (rintro v ⟨⟨hgu,hB,hG,-⟩,hx56⟩;exact Hiy.out _ hG (HT.grow hG)))
  refine gxd (X:=Ax) (fun x : Ax=>.slice x.1 KW x.2) (fun x W=>Lq W x.1 Q) (fun x u u' hg h=>Lq.grow h hg) (fun x60=>?_) (C:=by (rintro v ⟨⟨⟨hgu,hB,hG,-⟩,hx56⟩,hx58⟩;exact Hiq.out _ hG (HT.grow hG)))
  refine gmd (C:=fun v ⟨⟨⟨⟨hgu,hB,hG,_⟩,hx56⟩,hx58⟩,hx60⟩=>A4T x53.1 x53.2 a _ (hx53a.grow hgu) (hx53b.grow hgu) saB (HT.grow hG)) ?_
  refine gmd (C:=fun v ⟨⟨⟨⟨hgu,hB,hG,_⟩,hx56⟩,hx58⟩,hx60⟩=>TC.out.price _ x56.1 x58 x60 x56.2 hx56.1 hx56.2 hx58 hx60 (HT.grow hG)) ?_
  refine gs ?_
  refine gaa (H7 _ _ _ _ _) fun b22 hb22 hn22=>?_
  replace hF:=hF.n1 [] hB hG hb22 hn22
  refine geC hL ?_
  clear hB hG hL L
  rintro u ⟨⟨⟨⟨⟨hgu,hB,hG,-⟩,hx56⟩,hx58⟩,hx60⟩,h22⟩
  replace hB:=hB.cons' h22
  clear h22
  replace hx53a:=hx53a.grow hgu
  replace hx53b:=hx53b.grow hgu
  clear hx56 hx58 hx60
  clear hb22 hn22
  clear hgu
  refine gtT ?_
  clear hN K
  refine sv hB hF hG 0 0 [_,_,_,_,_] ?_
  intro u hu hBG
  replace hx53a:=hx53a.put hB 0 rfl (by first | decide | simp) _ _ hu
  replace hx53b:=hx53b.put hB 0 rfl (by first | decide | simp) _ _ hu
  clear hB hG hu
  obtain ⟨hB,hG⟩:=hBG
  refine wp_seq (rsE E7 [0,1,0,1,0,1,1,0,0,0,0,0] hB hG fun L hL=>?_)
  refine gs ?_
  refine gxd (X:=(Ax × List Rq)) (fun x : Ax × List Rq=>.slice x.1.1 N x.1.2) (fun x W=>x.2.map (·.2.2) = R ∧ Lrq W x.1.1 x.2) (fun x u u' hg h=>⟨h.1,h.2.grow hg⟩) (fun x68=>?_) (C:=by (rintro v ⟨hgu,hB,hG,-⟩;exact Hin.out _ hG (HT.grow hG)))
  refine gs ?_
  refine gxd (X:=Ax) (fun x : Ax=>.slice x.1 M x.2) (fun x W=>Lq W x.1 Y) (fun x u u' hg h=>Lq.grow h hg) (fun x70=>?_) (C:=by (rintro v ⟨⟨hgu,hB,hG,-⟩,hx68⟩;exact Hiy.out _ hG (HT.grow hG)))
  refine gs ?_
  refine gxd (X:=Ax) (fun x : Ax=>.slice x.1 KW x.2) (fun x W=>Lq W x.1 Q) (fun x u u' hg h=>Lq.grow h hg) (fun x72=>?_) (C:=by (rintro v ⟨⟨⟨hgu,hB,hG,-⟩,hx68⟩,hx70⟩;exact Hiq.out _ hG (HT.grow hG)))
  refine gxd (X:=Ax) (fun x : Ax=>.tuple #[.slice x.1 ls x.2,.int .i64 kf]) (fun x W=>Lq W x.1 PL) (fun x u u' hg h=>Lq.grow h hg) (fun x73=>?_) (C:=by (rintro v ⟨⟨⟨⟨hgu,hB,hG,-⟩,hx68⟩,hx70⟩,hx72⟩;exact TC.out.pull _ x68.1 x70 x72 x68.2 hx68.1 hx68.2 hx70 hx72 (HT.grow hG)))
  refine gs ?_
  refine geT hL ?_
  clear hB hG hL L
  rintro u ⟨⟨⟨⟨⟨hgu,hB,hG,-⟩,hx68⟩,hx70⟩,hx72⟩,hx73⟩
  replace hx53a:=hx53a.grow hgu
  replace hx53b:=hx53b.grow hgu
  clear hx68 hx70 hx72
  obtain ⟨w8,hw8⟩ : ∃ x,x = u:=⟨_,rfl⟩
  have HPL:=Lib.hid (show Lq w8 x73.1 PL from hw8 ▸ hx73)
  have hG8 : A4 w8 u:=hw8 ▸ A4.refl u
  clear hx73 hw8
  clear hgu
  refine wp_seq (rdC E7 [] [(0,0),(0,2),(0,4),(0,6),(1,1),(1,3),(1,5),(1,7),(1,8),(0,9),(0,10),(0,11),(0,12),(0,13),(0,14)] hB hG fun K L hN hL=>?_)
  refine gs ?_
  refine gxd (X:=(Ax × List Rq)) (fun x : Ax × List Rq=>.slice x.1.1 N x.1.2) (fun x W=>x.2.map (·.2.2) = R ∧ Lrq W x.1.1 x.2) (fun x u u' hg h=>⟨h.1,h.2.grow hg⟩) (fun x78=>?_) (C:=by (rintro v ⟨hgu,hB,hG,-⟩;exact Hin.out _ hG (HT.grow hG)))
  refine gxd (X:=Ax) (fun x : Ax=>.slice x.1 M x.2) (fun x W=>Lq W x.1 Y) (fun x u u' hg h=>Lq.grow h hg) (fun x80=>?_) (C:=by (rintro v ⟨⟨hgu,hB,hG,-⟩,hx78⟩;exact Hiy.out _ hG (HT.grow hG)))
  refine gxd (X:=Ax) (fun x : Ax=>.slice x.1 KW x.2) (fun x W=>Lq W x.1 Q) (fun x u u' hg h=>Lq.grow h hg) (fun x82=>?_) (C:=by (rintro v ⟨⟨⟨hgu,hB,hG,-⟩,hx78⟩,hx80⟩;exact Hiq.out _ hG (HT.grow hG)))
  refine gmd (C:=fun v ⟨⟨⟨⟨hgu,hB,hG,_⟩,hx78⟩,hx80⟩,hx82⟩=>A4T x53.1 x53.2 a _ (hx53a.grow hgu) (hx53b.grow hgu) saB (HT.grow hG)) ?_
  refine gmd (C:=fun v ⟨⟨⟨⟨hgu,hB,hG,_⟩,hx78⟩,hx80⟩,hx82⟩=>TC.out.fits _ x78.1 x80 x82 x78.2 hx78.1 hx78.2 hx80 hx82 (HT.grow hG)) ?_
  refine gs ?_
  refine geC hL ?_
  clear hB hG hL L
  rintro u ⟨⟨⟨⟨hgu,hB,hG,-⟩,hx78⟩,hx80⟩,hx82⟩
  replace hx53a:=hx53a.grow hgu
  replace hx53b:=hx53b.grow hgu
  clear hx78 hx80 hx82
  replace hG8:=hG8.trans hgu
  clear hgu
  refine gtT ?_
  clear hN K
  refine wp_seq (rsC E7 [0,1,0,1,1,0,0,0,2] hB hG fun K L hN hL=>?_)
  refine gs ?_
  refine gxd (X:=(Ax × List Rq)) (fun x : Ax × List Rq=>.slice x.1.1 N x.1.2) (fun x W=>x.2.map (·.2.2) = R ∧ Lrq W x.1.1 x.2) (fun x u u' hg h=>⟨h.1,h.2.grow hg⟩) (fun x91=>?_) (C:=by (rintro v ⟨hgu,hB,hG,-⟩;exact Hin.out _ hG (HT.grow hG)))
  refine gs ?_
  refine gxd (X:=Ax) (fun x : Ax=>.slice x.1 M x.2) (fun x W=>Lq W x.1 Y) (fun x u u' hg h=>Lq.grow h hg) (fun x93=>?_) (C:=by (rintro v ⟨⟨hgu,hB,hG,-⟩,hx91⟩;exact Hiy.out _ hG (HT.grow hG)))
  refine gmd (C:=fun v ⟨⟨⟨hgu,hB,hG,_⟩,hx91⟩,hx93⟩=>TC.out.top _ x91.1 x93 x91.2 hx91.1 hx91.2 hx93 (HT.grow hG)) ?_
  refine gs ?_
  refine gaa (H7 _ _ _ _ _) fun b29 hb29 hn29=>?_
  replace hF:=hF.n1 [] hB hG hb29 hn29
  refine geC hL ?_
  clear hB hG hL L
  rintro u ⟨⟨⟨⟨hgu,hB,hG,-⟩,hx91⟩,hx93⟩,h29⟩
  replace hB:=hB.cons' h29
  clear h29
  replace hx53a:=hx53a.grow hgu
  replace hx53b:=hx53b.grow hgu
  clear hx91 hx93
  have hw8 : w8.heap.size ≤ b29:=Nat.le_trans hG8.size hb29
  replace hG8:=hG8.trans hgu
  clear hb29 hn29
  clear hgu
  refine gtT ?_
  clear hN K
  refine sv hB hF hG 0 0 [_,_,_,_,_] ?_
  intro u hu hBG
  replace hx53a:=hx53a.put hB 0 rfl (by first | decide | simp) _ _ hu
  replace hx53b:=hx53b.put hB 0 rfl (by first | decide | simp) _ _ hu
  replace hG8:=Q7 hG8 hw8 hu
  clear hB hG hu
  obtain ⟨hB,hG⟩:=hBG
  refine wp_seq ?_
  refine wp_seq (rsE E7 [1,0] hB hG fun L hL=>?_)
  refine gmd (C:=fun v ⟨hgu,hB,hG,_⟩=>B2U _ (HT.grow hG)) ?_
  refine gs ?_
  refine geT hL ?_
  clear hB hG hL L
  rintro u ⟨hgu,hB,hG,-⟩
  replace hx53a:=hx53a.grow hgu
  replace hx53b:=hx53b.grow hgu
  replace hG8:=hG8.trans hgu
  clear hgu
  refine wp_cond_false (rfl) ?_
  refine wp_skip ?_
  refine A6 ?_
  refine wp_seq ?_
  rcases TD.out with ⟨hw,t1,t2,t3,t4,t5,t6,t7,t8,t9⟩ | ⟨hN1,hMN,t4,t9,td⟩
  ·have hwr : ∀ W,A4 w W → Calls Tryz.prog 18 #[.slice RA N RC,.slice YA M YC] W fun e w'=>e = .returned (.bool true) ∧ A4 W w':=fun W hg=>by
    rcases Nat.eq_zero_or_pos N with h0 | h0
    ·subst h0;exact B1A RA YA RC M YC W
    ·have h:=A78 RA YA rs N Lw RC M YC HOK.out.1.1 h0 (by omega) hL1 (by omega) (fun r hr=>(HOK.out.1.2 r hr).1) W (HLX.out.1.grow hg)
     rw [show decide (M ≠ N) = true from decide_eq_true fun e=>hw ⟨h0,e⟩] at h
     exact h
   have hz0 : bl (0 : Rat).num.natAbs ≤ 1099511627776:=by decide
   have hsp : ∀ W,Calls Tryz.prog 36 #[qV pv] W fun e w'=>e = .returned (.int .i64 0) ∧ A4 W w':=by rw [t5];exact fun W=>M5 0 hz0 W
   have hst : ∀ W,Calls Tryz.prog 36 #[qV tv] W fun e w'=>e = .returned (.int .i64 0) ∧ A4 W w':=by rw [t9];exact fun W=>M5 0 hz0 W
   have Hwr:=Lib.hid hwr
   have Hsp:=Lib.hid hsp
   have Hst:=Lib.hid hst
   clear hwr hsp hst hw t5 t9 hz0 TC TD HM
   subst t1 t2 t3 t4 t6 t7 t8
   refine wp_seq (rsE E7 [0,0,1] hB hG fun L hL=>?_)
   refine gs ?_
   refine gmd (C:=fun v ⟨hgu,hB,hG,_⟩=>Hwr.out _ hG) ?_
   refine geT hL ?_
   clear hB hG hL L
   rintro u ⟨hgu,hB,hG,-⟩
   replace hx53a:=hx53a.grow hgu
   replace hx53b:=hx53b.grow hgu
   replace hG8:=hG8.trans hgu
   clear hgu
   refine wp_cond_true (rfl) ?_
   refine wp_seq (rsE E7 [0,0,0,0,0,0,0,0,0,0,0,0,0,0,0,0,1,0,0,0,0,0,0,0,0,0,0,0,0,0,0,0,0,0,1,0,0,0] hB hG fun L hL=>?_)
   refine gs ?_
   first | refine gmw (C:=fun v=>Hsp.out _) ?_ | refine H4 ?_
   refine gs ?_
   first | refine gmw (C:=fun v=>Hst.out _) ?_ | refine H4 ?_
   refine gs ?_
   refine geT hL ?_
   clear hB hG hL L
   rintro u ⟨hgu,hB,hG,-⟩
   replace hx53a:=hx53a.grow hgu
   replace hx53b:=hx53b.grow hgu
   clear hgu
   refine rt Tryz.results5 ?_
   exact ⟨rfl,HGb.out.trans hG⟩
  ·have hrow0 : ∃ (bb ob : Nat) (Ar : Option Addr) (cr : Nat),RA = some ⟨bb,ob,none⟩ ∧ ∀ W,A4 w W → W.cell? ⟨bb,ob,none⟩ = some (.slice Ar Lw cr):=by
    obtain ⟨bb,ob,e⟩:=HLX.out.1.addr (by have := HOK.out.1.1;omega)
    subst e
    have hil : 0 < rs.length:=by have := HOK.out.1.1;omega
    refine ⟨bb,ob,rs[0].1,rs[0].2.1,rfl,fun W hg=>?_⟩
    have h3:=((HLX.out.1.grow hg).read (List.getElem?_eq_getElem hil)).1
    rw [(HOK.out.1.2 _ (List.getElem_mem hil)).1,Nat.add_zero] at h3
    exact h3
   have hwr : ∀ W,A4 w W → Calls Tryz.prog 18 #[.slice RA N RC,.slice YA M YC] W fun e w'=>e = .returned (.bool false) ∧ A4 W w':=fun W hg=>by
    have h:=A78 RA YA rs N Lw RC M YC HOK.out.1.1 hN1 (by omega) hL1 (by omega) (fun r hr=>(HOK.out.1.2 r hr).1) W (HLX.out.1.grow hg)
    rw [show decide (M ≠ N) = false from decide_eq_false fun e=>e hMN] at h
    exact h
   have hrt : ∀ W,A4 w W → Calls Tryz.prog 38 #[.slice RA N RC,.slice YA M YC] W (Ret (D7 tv) W):=fun W hg=>by
    subst hMN
    have h:=A9n RA YA rs Y M Lw RC YC HOK.out.1.1 hN1 (by omega) (fun r hr=>(HOK.out.1.2 r hr).1) HY.out.1 hL1 (by omega) 5 (by omega) (by omega) (by rw [← HOK.out.2];exact HZ.out.1) HZ.out.2.1 W (HLX.out.1.grow hg) (HLX.out.2.1.grow hg)
    rw [← HOK.out.2,← t9] at h
    exact h
   obtain ⟨bb,ob,Ar,cr,rfl,hr0⟩:=hrow0
   have hni : (0 : Int) < (N : Int):=by omega
   have hzt:=TC.out.zt
   have Hrt:=Lib.hid hrt
   have Hwr:=Lib.hid hwr
   have Hr0:=Lib.hid hr0
   have Hmn:=Lib.hid hMN
   have Htd:=Lib.hid td
   clear hwr hr0 hrt TD td hMN HM t9
   subst t4
   refine wp_seq (rsE E7 [0,0,1] hB hG fun L hL=>?_)
   refine gs ?_
   refine gmd (C:=fun v ⟨hgu,hB,hG,_⟩=>Hwr.out _ hG) ?_
   refine geT hL ?_
   clear hB hG hL L
   rintro u ⟨hgu,hB,hG,-⟩
   replace hx53a:=hx53a.grow hgu
   replace hx53b:=hx53b.grow hgu
   replace hG8:=hG8.trans hgu
   clear hgu
   refine wp_cond_false (rfl) ?_
   refine wp_skip ?_
   refine A6 ?_
   refine wp_seq ?_
   refine wp_seq (rdC E7 [] [(0,0),(0,1),(0,2),(0,3),(0,4),(0,5),(1,6),(1,7),(0,8)] hB hG fun K L hN hL=>?_)
   repeat first | refine gya ?_ | refine gyr ?_ | refine gna ?_ | refine gyb (by (rintro v ⟨hgu,hB,hG,-⟩ N hN;have r:=hB.r;simp only [BxR] at r;have q0:=Hr0.out v hG;go_simp;exact hN)) ?_
   refine grd (D7 tv) (fun (x145 : Ax × Ax)=>?_) (C:=by (rintro v ⟨hgu,hB,hG,-⟩;exact Hrt.out _ hG))
   first | refine gmd (C:=by (rintro v ⟨⟨hgu,hB,hG,-⟩,hx145⟩;obtain ⟨hx145a,hx145b⟩ : Rn v x145.1 _ ∧ Rn v x145.2 _:=hx145;exact A3h tv x145.1 x145.2 hzt _ hx145a hx145b)) ?_ | refine H4 ?_
   refine gs ?_
   refine geC hL ?_
   clear hB hG hL L
   rintro u ⟨⟨hgu,hB,hG,-⟩,hx145⟩
   replace hx53a:=hx53a.grow hgu
   replace hx53b:=hx53b.grow hgu
   obtain ⟨hx145a,hx145b⟩ : Rn u x145.1 _ ∧ Rn u x145.2 _:=hx145
   replace hG8:=hG8.trans hgu
   clear hgu
   refine gtT ?_
   clear hN K
   refine wp_cond_false (rfl) ?_
   refine wp_skip ?_
   refine A6 ?_
   refine wp_seq ?_
   rcases Htd.out with ⟨hKL,t1,t2,t3⟩ | ⟨hKL,t2,t6,hPL,td⟩
   ·have fkl : ((KW : Int) != (Lw : Int)) = true:=by simp;omega
    clear hKL TC Htd
    subst t1 t2 t3
    refine wp_seq ?_
    (first | have q0:=Hr0.out u hG | skip)
    refine r0N ?_
    refine wp_cond_true (rfl) ?_
    refine r0T ?_
    refine rt Tryz.results5 ?_
    exact ⟨rfl,HGb.out.trans hG⟩
   ·have fkl : ((KW : Int) != (Lw : Int)) = false:=by simp;omega
    have hrp : ∀ W,A4 w W → Calls Tryz.prog 39 #[.slice (some ⟨bb,ob,none⟩) N RC,.slice YA M YC,.slice QA KW QC] W (F8 (fun x : Ax=>.slice x.1 KW x.2) (fun x W=>Lz W x.1 PL) W):=fun W hg=>by
     have e1:=Hmn.out
     subst e1 hKL
     have h:=A55 (some ⟨bb,ob,none⟩) YA QA rs Y Q M KW RC YC QC HOK.out.1.1 (by omega) (fun r hr=>(HOK.out.1.2 r hr).1) HY.out.1 HQ.out.1 (by omega) 5 (by omega) (by rw [← HOK.out.2];exact HZ.out.1) HZ.out.2.1 HZ.out.2.2 W (HLX.out.1.grow hg) (HLX.out.2.1.grow hg) (HLX.out.2.2.grow hg)
     rw [← HOK.out.2,← hPL] at h
     exact h
    obtain ⟨hzl,hzs⟩:=TC.out.zl
    have hls : ls = KW:=by omega
    have Hrp:=Lib.hid hrp
    have Hzs:=Lib.hid (And.intro (hzl.trans hls) hzs)
    have Hkl:=Lib.hid hKL
    have Htd2:=Lib.hid td
    clear hrp hzl hzs hKL Htd td hPL t6
    subst hls t2
    refine wp_seq ?_
    (first | have q0:=Hr0.out u hG | skip)
    refine r0N ?_
    refine wp_cond_false (rfl) ?_
    refine wp_skip ?_
    refine A6 ?_
    refine wp_seq ?_
    refine wp_seq (rsE E7 [0,0,0,0,0,0,0,1,1,0,0] hB hG fun L hL=>?_)
    refine gs ?_
    refine gxd (X:=Ax) (fun x : Ax=>.slice x.1 ls x.2) (fun x W=>Lz W x.1 PL) (fun x u u' hg h=>Lz.grow h hg) (fun x173=>?_) (C:=by (rintro v ⟨hgu,hB,hG,-⟩;exact Hrp.out _ hG))
    first | refine gmd (C:=fun v ⟨⟨hgu,hB,hG,_⟩,hx173⟩=>B0z x73.1 x173.1 PL ls x73.2 x173.2 Hzs.out.1 (by omega) Hzs.out.2 _ (HPL.out.grow (hG8.trans hgu)) hx173) ?_ | refine H4 ?_
    refine gs ?_
    refine geT hL ?_
    clear hB hG hL L
    rintro u ⟨⟨hgu,hB,hG,-⟩,hx173⟩
    replace hx53a:=hx53a.grow hgu
    replace hx53b:=hx53b.grow hgu
    replace hx145a:=hx145a.grow hgu
    replace hx145b:=hx145b.grow hgu
    clear hgu
    refine wp_cond_false (rfl) ?_
    refine wp_skip ?_
    refine A6 ?_
    refine wp_seq ?_
    rcases Htd2.out with ⟨h0,t1,t3,t5,t7,t8⟩ | ⟨h0,t1,t3,t5,t7,t8⟩
    ·have fs : decide (sg < 0) = true:=by rw [Hsn.out.1.2 h0];rfl
     have hz0 : bl (0 : Rat).num.natAbs ≤ 1099511627776:=by decide
     have hsp : ∀ W,Calls Tryz.prog 36 #[qV pv] W fun e w'=>e = .returned (.int .i64 0) ∧ A4 W w':=by rw [t5];exact fun W=>M5 0 hz0 W
     have Hsp:=Lib.hid hsp
     clear hsp hz0 t5 h0 TC Htd2 Hsn
     subst t1 t3 t7 t8
     refine wp_seq (rsE E7 [0,1,0] hB hG fun L hL=>?_)
     repeat first | refine gya ?_ | refine gyr ?_ | refine gna ?_ | refine gyb (by (rintro v ⟨hgu,hB,hG,-⟩ N hN;have r:=hB.r;simp only [BxR] at r;have q0:=Hr0.out v hG;go_simp;exact hN)) ?_
     refine gmw (C:=fun v=>Hsg.out _ x53) ?_
     refine gs ?_
     refine geT hL ?_
     clear hB hG hL L
     rintro u ⟨hgu,hB,hG,-⟩
     replace hx53a:=hx53a.grow hgu
     replace hx53b:=hx53b.grow hgu
     replace hx145a:=hx145a.grow hgu
     replace hx145b:=hx145b.grow hgu
     clear hgu
     refine wp_cond_true (rfl) ?_
     refine wp_seq (rsE E7 [0,0,0,0,0,0,0,0,1,0,0,0,0,0,0,0,0,0,0,0] hB hG fun L hL=>?_)
     repeat first | refine gya ?_ | refine gyr ?_ | refine gna ?_ | refine gyb (by (rintro v ⟨hgu,hB,hG,-⟩ N hN;have r:=hB.r;simp only [BxR] at r;have q0:=Hr0.out v hG;go_simp;exact hN)) ?_
     first | refine gmw (C:=fun v=>Hsp.out _) ?_ | refine H4 ?_
     refine gs ?_
     refine geT hL ?_
     clear hB hG hL L
     rintro u ⟨hgu,hB,hG,-⟩
     replace hx53a:=hx53a.grow hgu
     replace hx53b:=hx53b.grow hgu
     replace hx145a:=hx145a.grow hgu
     replace hx145b:=hx145b.grow hgu
     clear hgu
     refine rt Tryz.results5 ?_
     exact ⟨rfl,HGb.out.trans hG⟩
    ·have fs : decide (sg < 0) = false:=by
      have h4:=Hsn.out
      rcases h4.2 with e | e | e
      ·rw [e];rfl
      ·exact absurd (h4.1.1 e) h0
      ·rw [e];rfl
     have hrf : ∀ W (x : Az),A4 w W → Rz W x a → Calls Tryz.prog 40 #[.slice (some ⟨bb,ob,none⟩) N RC,.slice YA M YC,.slice QA ls QC,rqV x.1 x.2 a] W fun e w'=>e = .returned (.int .i64 fc) ∧ A4 W w':=fun W x hg hx=>by
      have e1:=Hmn.out
      have e2:=Hkl.out
      subst e1 e2
      have h:=B0M (some ⟨bb,ob,none⟩) YA QA rs Y Q M ls RC YC QC a x HOK.out.1.1 (by omega) (fun r hr=>(HOK.out.1.2 r hr).1) HY.out.1 HQ.out.1 (by omega) (by omega) 5 (by omega) (by rw [← HOK.out.2];exact HZ.out.1) HZ.out.2.1 HZ.out.2.2 sa W (HLX.out.1.grow hg) (HLX.out.2.1.grow hg) (HLX.out.2.2.grow hg) hx
      rw [← HOK.out.2,← t7] at h
      exact h
     have hrc : ∀ W (x : Az),A4 w W → Rz W x a → Calls Tryz.prog 41 #[.slice (some ⟨bb,ob,none⟩) N RC,.slice YA M YC,.slice QA ls QC,rqV x.1 x.2 a] W (Ret (D7 pv) W):=fun W x hg hx=>by
      have e1:=Hmn.out
      have e2:=Hkl.out
      subst e1 e2
      have h:=A9b (some ⟨bb,ob,none⟩) YA QA rs Y Q M ls RC YC QC a x HOK.out.1.1 (by omega) (fun r hr=>(HOK.out.1.2 r hr).1) HY.out.1 HQ.out.1 (by omega) 5 (by omega) (by rw [← HOK.out.2];exact HZ.out.1) HZ.out.2.1 HZ.out.2.2 sa W (HLX.out.1.grow hg) (HLX.out.2.1.grow hg) (HLX.out.2.2.grow hg) hx
      rw [← HOK.out.2,← t5] at h
      exact h
     have hzp:=TC.out.zp
     have Hrf:=Lib.hid hrf
     have Hrc:=Lib.hid hrc
     have f24 : decide (fc < 0) = fb:=t8.symm
     clear hrf hrc t5 t7 t8 h0 TC Htd2 Hsn
     subst t1 t3
     refine wp_seq (rsE E7 [0,1,0] hB hG fun L hL=>?_)
     repeat first | refine gya ?_ | refine gyr ?_ | refine gna ?_ | refine gyb (by (rintro v ⟨hgu,hB,hG,-⟩ N hN;have r:=hB.r;simp only [BxR] at r;have q0:=Hr0.out v hG;go_simp;exact hN)) ?_
     refine gmw (C:=fun v=>Hsg.out _ x53) ?_
     refine gs ?_
     refine geT hL ?_
     clear hB hG hL L
     rintro u ⟨hgu,hB,hG,-⟩
     replace hx53a:=hx53a.grow hgu
     replace hx53b:=hx53b.grow hgu
     replace hx145a:=hx145a.grow hgu
     replace hx145b:=hx145b.grow hgu
     clear hgu
     refine wp_cond_false (rfl) ?_
     refine wp_skip ?_
     refine A6 ?_
     refine wp_seq (rsE E7 [0,0,0,0,1,0] hB hG fun L hL=>?_)
     repeat first | refine gya ?_ | refine gyr ?_ | refine gna ?_ | refine gyb (by (rintro v ⟨hgu,hB,hG,-⟩ N hN;have r:=hB.r;simp only [BxR] at r;have q0:=Hr0.out v hG;go_simp;exact hN)) ?_
     refine gmd (C:=fun v ⟨hgu,hB,hG,_⟩=>Hrf.out _ x53 hG (A7b (hx53a.grow hgu) (hx53b.grow hgu))) ?_
     refine gs ?_
     refine geT hL ?_
     clear hB hG hL L
     rintro u ⟨hgu,hB,hG,-⟩
     replace hx53a:=hx53a.grow hgu
     replace hx53b:=hx53b.grow hgu
     replace hx145a:=hx145a.grow hgu
     replace hx145b:=hx145b.grow hgu
     clear hgu
     refine wp_seq (rdC E7 [] [(0,0),(0,1),(0,2),(0,3),(0,4),(0,5),(0,6),(0,7),(0,8),(0,9),(0,10),(0,11),(1,12),(1,13),(0,14),(0,15),(0,16),(0,17),(0,18),(0,19),(0,20),(0,21),(0,22),(0,23),(0,24),(0,25)] hB hG fun K L hN hL=>?_)
     repeat first | refine gya ?_ | refine gyr ?_ | refine gna ?_ | refine gyb (by (rintro v ⟨hgu,hB,hG,-⟩ N hN;have r:=hB.r;simp only [BxR] at r;have q0:=Hr0.out v hG;go_simp;exact hN)) ?_
     refine grd (D7 pv) (fun (x216 : Ax × Ax)=>?_) (C:=by (rintro v ⟨hgu,hB,hG,-⟩;exact Hrc.out _ x53 hG (A7b (hx53a.grow hgu) (hx53b.grow hgu))))
     first | refine gmd (C:=by (rintro v ⟨⟨hgu,hB,hG,-⟩,hx216⟩;obtain ⟨hx216a,hx216b⟩ : Rn v x216.1 _ ∧ Rn v x216.2 _:=hx216;exact A3h pv x216.1 x216.2 hzp _ hx216a hx216b)) ?_ | refine H4 ?_
     refine gs ?_
     refine geC hL ?_
     clear hB hG hL L
     rintro u ⟨⟨hgu,hB,hG,-⟩,hx216⟩
     replace hx53a:=hx53a.grow hgu
     replace hx53b:=hx53b.grow hgu
     replace hx145a:=hx145a.grow hgu
     replace hx145b:=hx145b.grow hgu
     obtain ⟨hx216a,hx216b⟩ : Rn u x216.1 _ ∧ Rn u x216.2 _:=hx216
     clear hgu
     refine gtT ?_
     clear hN K
     refine rt Tryz.results5 ?_
     exact ⟨rfl,HGb.out.trans hG⟩
end Go.Proofs.YtgpglgbcobeogaaGreatDoor
namespace Go.Proofs.YtgpglgbcobeogaaGreatDoor.lassoTells
open Go.ChangeShapes Go.WideShapes Go.ChangeAt Go.RowKit
theorem B3I : ∀ t ∈ Tryz.f5.params.toList,Tryz.prog.readableRec t = true ∧ t < Tryz.prog.types.size:=by
 have h : (Tryz.f5.params.toList.all fun t=>Tryz.prog.readableRec t && decide (t < Tryz.prog.types.size)) = true:=by kernel_rfl
 intro t ht
 have := List.all_eq_true.1 h t ht
 simpa using this
theorem B4L (H : Type) (enc : TypeId × Value → H) (W : World) (base : Nat) (args : Array Value) (ds gs : List (DataW H)) (before : List MemPlace)
  (hval : ∀ (j : Nat) t v,Tryz.f5.params[j]? = some t → args[j]? = some v → Value.okWide Tryz.prog W .any base t v)
  (hW : DataW.Whole enc Tryz.prog Tryz.f5.params.toList Rows.lassoTellsSpec.vars false W args.toList ds gs before) (hL : laidMetH Tryz.prog Rows.lassoTellsRow.laid W) :
  Calls Tryz.prog 5 args W fun e W'=>∃ v,e = .returned v ∧ Rows.lassoTellsSpec.post enc Tryz.prog Tryz.f5 false true false false W args v W':=by
 have hW':=hW
 obtain ⟨p,q,hA0,hV,rfl,hfz,hnd⟩:=hW
 have hA : DataW.TrodAll enc Tryz.prog W 0 (fun _=>true) true Tryz.f5.params.toList args.toList ds p:=hA0
 rw [Tryz.params5] at hA hval
 obtain ⟨v0,vs0,d0,ds0,p0,q0,ha0,rfl,rfl,h0,hA1⟩:=trodAll_cons hA
 obtain ⟨v1,vs1,d1,ds1,p1,q1,rfl,rfl,rfl,h1,hA2⟩:=trodAll_cons hA1
 obtain ⟨v2,vs2,d2,ds2,p2,q2,rfl,rfl,rfl,h2,hA3⟩:=trodAll_cons hA2
 obtain ⟨v3,vs3,d3,ds3,p3,q3,rfl,rfl,rfl,h3,hA4⟩:=trodAll_cons hA3
 obtain ⟨v4,vs4,d4,ds4,p4,q4,rfl,rfl,rfl,h4,hA5⟩:=trodAll_cons hA4
 obtain ⟨v5,vs5,d5,ds5,p5,q5,rfl,rfl,rfl,h5,hA6⟩:=trodAll_cons hA5
 obtain ⟨v6,vs6,d6,ds6,p6,q6,rfl,rfl,rfl,h6,hA7⟩:=trodAll_cons hA6
 obtain ⟨v7,vs7,d7,ds7,p7,q7,rfl,rfl,rfl,h7,hA8⟩:=trodAll_cons hA7
 obtain ⟨rfl,rfl,rfl⟩:=trodAll_nil hA8
 obtain rfl : args = #[v0,v1,v2,v3,v4,v5,v6,v7]:=by
  cases args
  simp_all
 obtain ⟨rfl,rfl⟩:=trodVars_none hV
 obtain ⟨A0,l0,c0,rfl,hl0,hn0,hb0,hc0⟩:=B1W (hval 0 22 v0 rfl rfl) h0
 obtain ⟨A1,l1,c1,rfl,hl1,hn1,hb1⟩:=A8d (hval 1 22 v1 rfl rfl) h1
 obtain ⟨A2,l2,c2,rfl,hl2,hn2,hb2⟩:=A8d (hval 2 22 v2 rfl rfl) h2
 obtain ⟨n3,rfl,rfl,rfl,w3⟩:=open_int Tryz.underlying3 (hval 3 3 v3 rfl rfl) h3
 obtain ⟨lo3,hi3⟩:=bounds_i64 w3
 obtain ⟨n4,rfl,rfl,rfl,w4⟩:=open_int Tryz.underlying3 (hval 4 3 v4 rfl rfl) h4
 obtain ⟨lo4,hi4⟩:=bounds_i64 w4
 obtain ⟨n5,rfl,rfl,rfl,w5⟩:=open_int Tryz.underlying3 (hval 5 3 v5 rfl rfl) h5
 obtain ⟨lo5,hi5⟩:=bounds_i64 w5
 obtain ⟨n6,rfl,rfl,rfl,w6⟩:=open_int Tryz.underlying3 (hval 6 3 v6 rfl rfl) h6
 obtain ⟨lo6,hi6⟩:=bounds_i64 w6
 obtain ⟨n7,rfl,rfl,rfl,w7⟩:=open_int Tryz.underlying3 (hval 7 3 v7 rfl rfl) h7
 obtain ⟨lo7,hi7⟩:=bounds_i64 w7
 refine (B44 A0 l0 c0 A1 l1 c1 A2 l2 c2 n3 n4 n5 n6 n7 hn0 hc0 hb0 hn1 hb1 hn2 hb2 lo3 hi3 lo4 hi4 lo5 hi5 lo6 hi6 lo7 hi7 W hl0 hl1 hl2 (B2q (by kernel_rfl) hL)).mono fun e W' ⟨he,hg⟩=>?_
 exact ⟨_,he,B5H hW' rfl rfl rfl rfl (by kernel_rfl) B3I hg⟩
def wit : Array Value:=#[.slice none 0 0,.slice none 0 0,.slice none 0 0,.int .i64 0,.int .i64 0,.int .i64 0,.int .i64 0,.int .i64 0]
theorem B41 (os : Os) : laidMet Tryz.prog Rows.lassoTellsRow.laid ((laidWorld os).forCall (fun _ _=>0) ⟨#[],wit,[]⟩).memory :=
 laidMet_of_run' 8 (by kernel_rfl) (by kernel_rfl)
theorem reads (os : Os) {H : Type} (enc : TypeId × Value → H) : ∃ places,DataW.whole enc Tryz.prog ((laidWorld os).forCall (fun _ _=>0) ⟨#[],wit,[]⟩).memory Tryz.f5.params.toList Rows.lassoTellsSpec.vars false wit.toList 8 = some ([.nil,.nil,.nil,.lit (.int .i64 0),.lit (.int .i64 0),.lit (.int .i64 0),.lit (.int .i64 0),.lit (.int .i64 0)],[],places) :=
 ⟨[],by kernel_rfl⟩
theorem B3n (os : Os) (started : os.Started) (H : Type) (enc : TypeId × Value → H) (F : Stop.Interp) :
  ReturnsInHanded {} Tryz.checked os 5 .any ((OpenSpec.ofChange Rows.lassoTellsSpec).preRow enc Tryz.prog Tryz.f5 Rows.lassoTellsRow.domain false Rows.lassoTellsRow.laid) (((OpenSpec.ofChange Rows.lassoTellsSpec).at F).post enc Tryz.prog Tryz.f5 false true false false):=by
 obtain ⟨places,hx⟩:=reads os enc
 refine returnsInHanded_of_row (C:=Tryz.checked) (s:=OpenSpec.ofChange Rows.lassoTellsSpec) B3V started (by kernel_rfl) Tryz.func5
  (witness_row_at (enc:=enc) (C:=Tryz.checked) false (laidWorld os) wit rfl (by kernel_rfl) (by kernel_rfl) (by kernel_rfl)
   (OpenSpec.preRow_of_cond 8 hx (by kernel_rfl) (fun k hk=>by cases hk) (by kernel_rfl) (B41 os))) ?_
 intro W base args ds gs before hval hW _ _ _ hL _ _
 exact B4L H enc W base args ds gs before hval hW hL
theorem B0T : Rows.LassoTellsSaid :=
 OpenClaim.holds_of_cond 5 Tryz.f5 rfl rfl rfl rfl rfl rfl rfl ⟨rfl,rfl,rfl,rfl,rfl⟩ rfl rfl rfl rfl rfl (by kernel_rfl) Tryz.func5 (by kernel_rfl)
  (of_decide_eq_true (by kernel_rfl)) (by unfold Func.isWrapper;first | (rw [if_pos (by decide +kernel)];kernel_rfl) | (rw [if_neg (by decide +kernel)];exact ⟨rfl,rfl⟩))
  (fun os started H enc _ F=>by rw [OpenClaim.pre_eq_preRow];exact B3n os started H enc F)
theorem plain (f : FuncId) (fn : Func) (hf : Tryz.pinned.checked.prog.funcNamed Rows.lassoTellsRow.func = some f) (hfn : Tryz.pinned.checked.prog.funcs[f]? = some fn) :
  false = Tryz.pinned.checked.prog.looks [] ∧ ∀ (j : Nat) t,fn.params[j]? = some t → Tryz.pinned.checked.prog.wantsStandIn t = false:=by
 obtain rfl : f = 5:=Option.some.inj ((show Tryz.prog.funcNamed Rows.lassoTellsRow.func = some 5 by kernel_rfl).symm.trans hf) |>.symm
 obtain rfl : fn = Tryz.f5:=(Option.some.inj (Tryz.func5.symm.trans hfn)).symm
 refine ⟨by kernel_rfl,fun j t ht=>?_⟩
 have h : (Tryz.f5.params.toList.all fun t=>!Tryz.prog.wantsStandIn t) = true:=by kernel_rfl
 have := List.all_eq_true.1 h t (Array.mem_toList_iff.2 (Array.mem_of_getElem? ht))
 have h2 : Tryz.prog.wantsStandIn t = false:=by simpa using this
 exact h2
theorem card : Rows.LassoTellsCardSaid :=
 Claim7.holds_tied_plain_at .later [] _ _ _ _ B0T (fun _ h=>by cases h) (by kernel_rfl) (fun _ h=>by cases h) lassoTells_row_tie rfl ⟨rfl,rfl⟩ (by kernel_rfl) rfl plain (by kernel_rfl)
end Go.Proofs.YtgpglgbcobeogaaGreatDoor.lassoTells
namespace Go.Proofs.YtgpglgbcobeogaaGreatDoor
theorem lassoTells_holds : Rows.LassoTellsCardSaid:=lassoTells.card
#print axioms lassoTells_holds
end Go.Proofs.YtgpglgbcobeogaaGreatDoor
