/- Contracts and laws. -/
import Derived.Test.YtjmopgepnndckaaGreatDoorW48
set_option linter.unusedSimpArgs false
set_option linter.unusedVariables false
set_option maxHeartbeats 16000000
set_option maxRecDepth 100000
namespace Go.Proofs.YtjmopgepnndckaaGreatDoor
open Go Go.RowKit
theorem H9 : ∀ t ∈ [79,57],K3 Tryz.prog t:=by
 intro t ht
 simp only [List.mem_cons,List.not_mem_nil,or_false] at ht
 rcases ht with rfl | rfl
 ·exact fun _ _ _ _ _ _=>by rw [A2i];kernel_rfl
 ·exact fun _ _ _ _ _ _=>by rw [A0r];kernel_rfl
theorem B2p {K : Nat} {S : List Ht} (h0 : 0 < (C9 K S).length) : ∃ D : Rat,((C9 K S)[(C9 K S).length - 1]'(by omega)).2 = D ∧ ∃ T,F5 D S = C9 K S ++ T:=by
 have hne : C9 K S ≠ []:=fun e=>by rw [e] at h0;simp at h0
 obtain ⟨T,hT⟩:=B5x hne
 refine ⟨_,rfl,T,?_⟩
 rw [← hT,List.getLast_eq_getElem]
theorem A8b (l l' : List Rat) : ∀ n,0 ≤ L6 (sqQ l l') n
 | 0=>Rat.le_refl
 | n + 1=>by
  have h1:=A8b l l' n
  have h2:=A8m (G4 (gq l n) (gq l' n))
  show 0 ≤ L6 (sqQ l l') n + G4 (gq l n) (gq l' n) * G4 (gq l n) (gq l' n)
  exact Rat.add_nonneg h1 h2
structure NwB (b16 b18 bb ob gp cp N Lw RC : Nat) (R1 N1 Ar : Ax) (rs rs1 : List Rq) (ns : List NdT) (P : List Rat) (pz : Az) (F : Rat) (W : World) : Prop where
 t0 : W.cell? ⟨b16,0,none⟩ = some (.slice R1.1 N R1.2)
 t1 : W.cell? ⟨b16,1,none⟩ = some (.slice N1.1 N N1.2)
 r0 : W.cell? ⟨bb,ob,none⟩ = some (.slice Ar.1 Lw Ar.2)
 f0 : W.cell? ⟨b18,0,none⟩ = some (.bool (B7 F.num))
 f1 : W.cell? ⟨b18,1,none⟩ = some (.slice pz.1.1 (ln F.num.natAbs) pz.1.2)
 f2 : W.cell? ⟨b18,2,none⟩ = some (.slice pz.2.1 (ln F.den) pz.2.2)
 lz : Lz W (some ⟨gp,0,none⟩) P
 rz : Lrz W (some ⟨bb,ob,none⟩) rs
 lr : Lrq W R1.1 rs1
 nd : Le ndL 4 W N1.1 ns
 fz : Rz W pz F
 tab : Tab W
theorem NwB.grow {b16 b18 bb ob gp cp N Lw RC : Nat} {R1 N1 Ar : Ax} {rs rs1 : List Rq} {ns : List NdT} {P : List Rat} {pz : Az} {F : Rat} {W W' : World} (h : NwB b16 b18 bb ob gp cp N Lw RC R1 N1 Ar rs rs1 ns P pz F W) (hg : A3 W W') : NwB b16 b18 bb ob gp cp N Lw RC R1 N1 Ar rs rs1 ns P pz F W' :=
 have key : ∀ (b o : Nat) (v : Value),W.cell? ⟨b,o,none⟩ = some v → W'.cell? ⟨b,o,none⟩ = some v:=fun b o v h=>(hg.cell (p:=⟨b,o,none⟩) (World.block_lt_of_cell? W _ h)).trans h
 ⟨key _ _ _ h.t0,key _ _ _ h.t1,key _ _ _ h.r0,key _ _ _ h.f0,key _ _ _ h.f1,key _ _ _ h.f2,h.lz.grow hg,h.rz.grow hg,h.lr.grow hg,Le.grow h.nd hg,h.fz.grow hg,h.tab.grow hg⟩
theorem NwB.cells {b16 b18 bb ob gp cp N Lw RC : Nat} {R1 N1 Ar : Ax} {rs rs1 : List Rq} {ns : List NdT} {P : List Rat} {pz : Az} {F : Rat} {W : World} (h : NwB b16 b18 bb ob gp cp N Lw RC R1 N1 Ar rs rs1 ns P pz F W) : W.cell? ⟨b16,0,none⟩ = some (.slice R1.1 N R1.2) ∧ W.cell? ⟨b16,1,none⟩ = some (.slice N1.1 N N1.2) ∧ W.cell? ⟨bb,ob,none⟩ = some (.slice Ar.1 Lw Ar.2) ∧ W.cell? ⟨b18,0,none⟩ = some (.bool (B7 F.num)) ∧ W.cell? ⟨b18,1,none⟩ = some (.slice pz.1.1 (ln F.num.natAbs) pz.1.2) ∧ W.cell? ⟨b18,2,none⟩ = some (.slice pz.2.1 (ln F.den) pz.2.2):=⟨h.t0,h.t1,h.r0,h.f0,h.f1,h.f2⟩
theorem B4S (A : Option Addr) (la : List Int) (ca : Nat) (B : Option Addr) (lb : List Int) (cb : Nat) (n wd same far odd : Int) (hla : la.length ≤ 9223372036854775807) (hac : la.length ≤ ca) (hba : ∀ x ∈ la,-9223372036854775808 ≤ x ∧ x ≤ 9223372036854775807) (hlb : lb.length ≤ 9223372036854775807) (hbb : ∀ x ∈ lb,-9223372036854775808 ≤ x ∧ x ≤ 9223372036854775807) (lo2 : -9223372036854775808 ≤ n) (hi2 : n ≤ 9223372036854775807) (lo3 : -9223372036854775808 ≤ wd) (hi3 : wd ≤ 9223372036854775807) (lo4 : -9223372036854775808 ≤ same) (hi4 : same ≤ 9223372036854775807) (lo5 : -9223372036854775808 ≤ far) (hi5 : far ≤ 9223372036854775807) (lo6 : -9223372036854775808 ≤ odd) (hi6 : odd ≤ 9223372036854775807)
  (w : World) (h1 : Li w A la) (h2 : Li w B lb) (HT : Tab w) :
  Calls Tryz.prog 9 #[.slice A la.length ca,.slice B lb.length cb,.int .i64 n,.int .i64 wd,.int .i64 same,.int .i64 far,.int .i64 odd] w fun e w'=>e = .returned (.bool true) ∧ A3 w w':=by
 clear lo2 hi2 lo3 hi3 lo4 hi4 lo6 hi6
 obtain ⟨pa,hpa⟩ : ∃ p,p = la.length:=⟨_,rfl⟩
 obtain ⟨pb,hpb⟩ : ∃ p,p = lb.length:=⟨_,rfl⟩
 rw [← hpa] at hac ⊢
 rw [← hpb]
 have hBB : 100000 ≤ BIG:=by unfold BIG;omega
 have hLIM : LIM = 1099511627760:=rfl
 have rN:=A0C n (m:=12) (by omega)
 have rL:=A0C wd (m:=3) (by omega)
 have rK:=A0C far (m:=4) (by omega)
 obtain ⟨N,hN⟩ : ∃ N : Nat,F8 n 12 = (N : Int):=⟨(F8 n 12).toNat,by omega⟩
 obtain ⟨Lw,hLw⟩ : ∃ Lw : Nat,F8 wd 3 + 1 = (Lw : Int):=⟨(F8 wd 3 + 1).toNat,by omega⟩
 have hN11 : N ≤ 11:=by omega
 have hL1 : 1 ≤ Lw:=by omega
 have hL3 : Lw ≤ 3:=by omega
 have hr : ∀ W,A3 w W → Calls Tryz.prog 12 #[.slice A pa ca,.int .i64 n,.int .i64 wd,.int .i64 same] W (G8 (fun x : Ax × List Rq=>.slice x.1.1 N x.1.2) (fun x W=>A0N N Lw x.2 ∧ Lrz W x.1.1 x.2) W):=fun W hg=>B5Q A la ca pa N Lw n wd same hpa hac hN hLw (by omega) hba W (h1.grow hg)
 have hp4:=fun W=>A0W far 4 (by omega) (by omega) W
 have hp5:=fun W=>A0W odd 5 (by omega) (by omega) W
 obtain ⟨kp,hkp⟩ : ∃ y,y = F8 far 4:=⟨_,rfl⟩
 rw [← hkp] at rK
 simp only [← hkp] at hp4
 obtain ⟨od,hod⟩ : ∃ y,y = F8 odd 5:=⟨_,rfl⟩
 simp only [← hod] at hp5
 obtain ⟨K,hK⟩ : ∃ K : Nat,kp + 1 = (K : Int):=⟨(kp + 1).toNat,by omega⟩
 have fk : IntKind.i64.wrap (kp + 1) = (K : Int):=by rw [IntWalk.i64_in _ (by omega)];exact hK
 have hK1 : 1 ≤ K:=by omega
 have hK2 : K ≤ 4:=by omega
 have hrR:=fun W=>A7l far W lo5 hi5
 have zF:=A8x far
 obtain ⟨F,hF0⟩ : ∃ F,F = Z2 far:=⟨_,rfl⟩
 rw [← hF0] at zF
 simp only [← hF0] at hrR
 have hq : ∀ W,A3 w W → Calls Tryz.prog 13 #[.slice B pb cb,.int .i64 Lw] W (G8 (fun x : Nat × Nat=>.slice (some ⟨x.1,0,none⟩) Lw x.2) (fun x W'=>Lw ≤ x.2 ∧ Lz W' (some ⟨x.1,0,none⟩) (P6 lb Lw)) W):=fun W hg =>
  (A6q B lb cb pb Lw hpb (by omega) (by omega) hbb W (h2.grow hg)).mono fun e w' ⟨v,ps,he,e1,e2,e3,hg'⟩=>by
   obtain ⟨A2,c2,rfl,-,-,hLz,-⟩:=A4k e3 e2
   obtain ⟨g,cap,e9,-,hcap⟩:=A0L e3 (by omega)
   cases e9
   rw [e1] at hLz
   exact ⟨(g,c2),he,⟨hcap,hLz⟩,hg'⟩
 have lP:=A8d lb Lw
 have sP:=A8Q lb Lw
 generalize P6 lb Lw = P at *
 have hip : ∀ (Q : List Rat) (m : Nat),Q.length = m → m ≤ 3 → (∀ x ∈ Q,qs x ≤ 50) → ∀ (W : World) (X : Ax),Lz W X.1 Q → Tab W → Calls Tryz.prog 17 #[.slice X.1 m X.2] W (G8 (fun x : Ax=>.slice x.1 m x.2) (fun x W=>Lq W x.1 Q) W):=fun Q m hQ hm hs W X hX hT =>
  (B4q X.1 Q X.2 m hQ.symm (by omega) (fun x hx=>Nat.le_trans (hs x hx) (by omega)) W hX hT).mono fun e w' ⟨A',c',he,h,hg'⟩=>⟨(A',c'),he,h,hg'⟩
 have Hr:=Lib.hid hr
 have Hq:=Lib.hid hq
 have Hip:=Lib.hid hip
 have Hp4:=Lib.hid hp4
 have Hp5:=Lib.hid hp5
 have HrR:=Lib.hid hrR
 have LP:=Lib.hid lP
 have SP:=Lib.hid sP
 clear hLw hr hq hip hp4 hp5 hrR lP sP h1 h2 hba hbb hpa hpb hla hlb hac rN rL rK hN hK hkp hod hF0 lo5 hi5
 go_enter Tryz.func9,Tryz.ntmps9
 refine en0 ?_
 intro u hG hB hF
 refine wp_seq (rsE H9 [0,0,0,0,1,0] hB hG fun L hL=>?_)
 refine gs ?_
 refine gxd (X:=(Ax × List Rq)) (fun x : Ax × List Rq=>.slice x.1.1 N x.1.2) (fun x W=>A0N N Lw x.2 ∧ Lrz W x.1.1 x.2) (fun x u u' hg h=>⟨h.1,h.2.grow hg⟩) (fun x31=>?_) (C:=by (rintro v ⟨hgu,hB,hG,-⟩;exact Hr.out _ hG))
 refine gs ?_
 refine geT hL ?_
 clear hB hG hL L
 rintro u ⟨⟨hgu,hB,hG,-⟩,hx31⟩
 have HX:=Lib.hid hx31
 clear hx31
 clear hgu
 have HG0:=Lib.hid hG
 clear hB hF hG
 obtain ⟨w0,rfl⟩ : ∃ x,x = w:=⟨_,rfl⟩
 obtain ⟨w,hwu⟩ : ∃ x,x = u:=⟨_,rfl⟩
 rw [← hwu] at HG0 HX
 have hB:=Bx.nil u
 have hF:=Fr.nil w
 have hG : A3 w u:=hwu ▸ A3.refl u
 clear hwu
 obtain ⟨⟨RA,RC⟩,rs⟩:=x31
 obtain ⟨hok,hLx⟩:=HX.out
 simp only at hok hLx
 have HT':=HT.grow HG0.out
 have Hq2:=Lib.hid (fun W (hg : A3 w W)=>Hq.out W (HG0.out.trans hg))
 have HRZ:=Lib.hid hLx
 have Hok:=Lib.hid hok
 clear HT HX Hr hLx hok Hq
 have HT:=HT'
 clear HT'
 refine wp_seq ?_
 rcases Nat.eq_zero_or_pos N with hN0 | hN0
 ·subst hN0
  have Hle:=Lib.hid (fun W=>B2R RA RC W)
  refine wp_seq (rsE H9 [0,1,0] hB hG fun L hL=>?_)
  refine gs ?_
  refine gmw (C:=fun v=>Hle.out _) ?_
  refine gs ?_
  refine geT hL ?_
  clear hB hG hL L
  rintro u ⟨-,hB,hG,-⟩
  refine wp_cond_true (rfl) ?_
  refine wp_seq (rsE H9 [1,0] hB hG fun L hL=>?_)
  refine gmd (C:=fun v ⟨hgu,hB,hG,_⟩=>A2Q _ (HT.grow hG)) ?_
  refine gs ?_
  refine geT hL ?_
  clear hB hG hL L
  rintro u ⟨-,hB,hG,-⟩
  refine rt Tryz.results9 ?_
  exact ⟨rfl,HG0.out.trans hG⟩
 ·have hok:=Hok.out
  obtain ⟨X,hXe⟩ : ∃ X,X = rs.map (·.2.2):=⟨_,rfl⟩
  have hXl : X.length = N:=by rw [hXe,List.length_map];exact hok.1
  have hfl : (E8 (F6 X Lw (List.range N) 0) 0).length = N:=by rw [T7,A18,List.length_range]
  have hbo:=(B0F X Lw hL1 (by omega)).1
  rw [hXl] at hbo
  obtain ⟨ns,hns⟩ : ∃ l,l = E8 (F6 X Lw (List.range N) 0) 0:=⟨_,rfl⟩
  rw [← hns] at hfl hbo
  have hle:=fun W (hg : A3 w W)=>B3U RA rs N Lw RC hok.1 hN0 (by omega) hL1 (by omega) (fun r hr=>(hok.2 r hr).1) W (HRZ.out.grow hg)
  have hrb : ∀ W,A3 w W → Calls Tryz.prog 28 #[.slice RA N RC] W (G8 (fun x : Ax=>I6 (RA,RC) N x N) (fun x W=>Le ndL 4 W x.1 ns) W):=fun W hg=>by
   have h:=A85 RA rs N Lw RC hok.1 hN0 (by omega) hL1 (by omega) (fun r hr=>(hok.2 r hr).1) 50 (fun r hr=>(hok.2 r hr).2) (by omega) W (HRZ.out.grow hg)
   rw [← hXe,← hns] at h
   exact h.mono fun e w' ⟨x,h1,h2,h3⟩=>⟨x,h1,B2N h2,h3⟩
  have hof:=fun (W : World) (N2 : Ax) (hg : A3 w W) (h : Le ndL 4 W N2.1 ns) (hT : Tab W)=>B0i RA N2.1 RC N2.2 N N Lw rs ns hok (by omega) (by omega) hfl (by omega) W (HRZ.out.grow hg) h hT
  obtain ⟨bb,ob,e⟩:=HRZ.out.addr (by have := hok.1;omega)
  subst e
  have hil : 0 < rs.length:=by have := hok.1;omega
  have hr0 : ∀ W,A3 w W → W.cell? ⟨bb,ob,none⟩ = some (.slice rs[0].1 Lw rs[0].2.1):=fun W hg=>by
   have h3:=((HRZ.out.grow hg).read (List.getElem?_eq_getElem hil)).1
   rw [(hok.2 _ (List.getElem_mem hil)).1,Nat.add_zero] at h3
   exact h3
  obtain ⟨Ar,hAr⟩ : ∃ x,x = rs[0].1:=⟨_,rfl⟩
  obtain ⟨cr,hcr⟩ : ∃ x,x = rs[0].2.1:=⟨_,rfl⟩
  simp only [← hAr,← hcr] at hr0
  have hNi : (0 : Int) < (N : Int):=by omega
  have Hle:=Lib.hid hle
  have Hrb:=Lib.hid hrb
  have Hof:=Lib.hid hof
  have Hbo:=Lib.hid (And.intro hfl hbo)
  have HXe:=Lib.hid hXe
  have Hr0:=Lib.hid hr0
  clear hle hrb hof hns hfl hbo hXe hXl hok hr0 hAr hcr hil
  refine wp_seq (rsE H9 [0,1,0] hB hG fun L hL=>?_)
  refine gs ?_
  refine gmd (C:=fun v ⟨hgu,hB,hG,_⟩=>Hle.out _ hG) ?_
  refine gs ?_
  refine geT hL ?_
  clear hB hG hL L
  rintro u ⟨-,hB,hG,-⟩
  refine wp_cond_false (rfl) ?_
  refine wp_skip ?_
  refine A4 ?_
  refine wp_seq (rsC H9 [0,1,1,2] hB hG fun K L hN hL=>?_)
  refine gs ?_
  refine gxd (X:=Ax) (fun x : Ax=>I6 (some ⟨bb,ob,none⟩,RC) N x N) (fun x W=>Le ndL 4 W x.1 ns) (fun x u u' hg h=>Le.grow h hg) (fun x37=>?_) (C:=by (rintro v ⟨hgu,hB,hG,-⟩;exact Hrb.out _ hG))
  refine gxd (X:=((Ax × Ax) × List Rq)) (fun x : (Ax × Ax) × List Rq=>I6 x.1.1 N x.1.2 N) (fun x W=>(Lrq W x.1.1.1 x.2 ∧ Le ndL 4 W x.1.2.1 ns) ∧ x.2.map (·.2.2) = rs.map (·.2.2)) (fun x u u' hg h=>⟨⟨h.1.1.grow hg,h.1.2.grow hg⟩,h.2⟩) (fun x38=>?_) (C:=by (rintro v ⟨⟨hgu,hB,hG,-⟩,hx37⟩;exact Hof.out _ x37 hG hx37 (HT.grow hG)))
  refine gaa (A2i _ _ _ _ _) fun b16 hb16 hn16=>?_
  replace hF:=hF.n1 [] hB hG hb16 hn16
  refine geC hL ?_
  clear hB hG hL L
  rintro u ⟨⟨⟨⟨hgu,hB,hG,-⟩,hx37⟩,hx38⟩,h16⟩
  replace hB:=hB.cons' h16
  clear h16
  obtain ⟨⟨⟨R1,R1c⟩,⟨N1,N1c⟩⟩,rs1⟩:=x38
  obtain ⟨⟨ht1,ht2⟩,ht3⟩:=hx38
  simp only at ht1 ht2 ht3
  have hk1:=B4b Hok.out ht3
  clear hb16 hn16
  clear hgu
  refine gtT ?_
  clear hN K
  refine sv hB hF hG 0 0 [_,_] ?_
  intro u hu hBG
  have ht4:=ht1.keep (fun r hr=>by rw [(hk1.2 r hr).1];omega) hB.head A7L hu
  have ht5:=LeN.keep ht2 hB.head A7L hu
  clear ht1 ht2 hB hG hu hx37
  obtain ⟨hB,hG⟩:=hBG
  have hb16:=fun W (hg : A3 u W)=>And.intro ((hB.head.grow hg).cell 0) ((hB.head.grow hg).cell 1)
  have Hb16:=Lib.hid hb16
  have HLR:=Lib.hid ht4
  have HLN:=Lib.hid ht5
  have Hk1:=Lib.hid (And.intro hk1 ht3)
  have HGa:=HG0
  clear ht4 ht5 hb16 hk1 ht3 HG0
  have HG0:=Lib.hid hG
  clear hB hF hG
  obtain ⟨w0,rfl⟩ : ∃ x,x = w:=⟨_,rfl⟩
  obtain ⟨w,hwu⟩ : ∃ x,x = u:=⟨_,rfl⟩
  rw [← hwu] at HG0 Hb16 HLR HLN
  have hB:=Bx.nil u
  have hF:=Fr.nil w
  have hG : A3 w u:=hwu ▸ A3.refl u
  clear hwu
  have HT':=HT.grow HG0.out
  have hr0:=fun W (hg : A3 w W)=>Hr0.out W (HG0.out.trans hg)
  have hq2:=fun W (hg : A3 w W)=>Hq2.out W (HG0.out.trans hg)
  have hrz:=HRZ.out.grow HG0.out
  have HG1:=Lib.hid (HGa.out.trans HG0.out)
  clear HT Hr0 Hq2 HRZ HGa HG0 Hle Hrb Hof
  have HT:=HT'
  have Hr0:=Lib.hid hr0
  have Hq2:=Lib.hid hq2
  have HRZ:=Lib.hid hrz
  clear HT' hr0 hq2 hrz
  refine wp_seq (rsE H9 [0,0,0,0,0,1,0] hB hG fun L hL=>?_)
  repeat first | refine gya ?_ | refine gyr ?_ | refine gna ?_ | refine gyb (by (rintro v ⟨hgu,hB,hG,-⟩ N hN;have r:=hB.r;simp only [BxR] at r;(first | obtain ⟨q0,q1,q2,q3,q4,q5⟩:=(HN.out.grow hG).cells | have q2:=Hr0.out v hG);go_simp;exact hN)) ?_
  refine gxd (X:=(Nat × Nat)) (fun x : Nat × Nat=>.slice (some ⟨x.1,0,none⟩) Lw x.2) (fun x W=>Lw ≤ x.2 ∧ Lz W (some ⟨x.1,0,none⟩) P) (fun x u u' hg h=>⟨h.1,h.2.grow hg⟩) (fun x44=>?_) (C:=by (rintro v ⟨hgu,hB,hG,-⟩;exact Hq2.out _ hG))
  refine gs ?_
  refine geT hL ?_
  clear hB hG hL L
  rintro u ⟨⟨hgu,hB,hG,-⟩,hx44⟩
  obtain ⟨gp,cp⟩:=x44
  have hcp : Lw ≤ cp:=hx44.1
  have HPZ:=Lib.hid (show Lz u (some ⟨gp,0,none⟩) P from hx44.2)
  have HGa:=HG1
  clear hx44 HG1
  clear hgu
  have HG0:=Lib.hid hG
  clear hB hF hG
  obtain ⟨w0,rfl⟩ : ∃ x,x = w:=⟨_,rfl⟩
  obtain ⟨w,hwu⟩ : ∃ x,x = u:=⟨_,rfl⟩
  rw [← hwu] at HG0 HPZ
  have hB:=Bx.nil u
  have hF:=Fr.nil w
  have hG : A3 w u:=hwu ▸ A3.refl u
  clear hwu
  have HT':=HT.grow HG0.out
  have hr0:=fun W (hg : A3 w W)=>Hr0.out W (HG0.out.trans hg)
  have hb16:=fun W (hg : A3 w W)=>Hb16.out W (HG0.out.trans hg)
  have hrz:=HRZ.out.grow HG0.out
  have hlr:=HLR.out.grow HG0.out
  have hln:=HLN.out.grow HG0.out
  have HG1:=Lib.hid (HGa.out.trans HG0.out)
  clear HT Hr0 Hq2 HRZ HGa HG0 Hb16 HLR HLN
  have HT:=HT'
  have Hr0:=Lib.hid hr0
  have HRZ:=Lib.hid hrz
  have Hb16:=Lib.hid hb16
  have HLR:=Lib.hid hlr
  have HLN:=Lib.hid hln
  clear HT' hr0 hb16 hrz hlr hln
  refine wp_seq (rsC H9 [0,1,2] hB hG fun K L hN hL=>?_)
  refine gs ?_
  refine grd (G5 F) (fun (x46 : Ax × Ax)=>?_) (C:=fun v _=>HrR.out _)
  refine gaa (A0r _ _ _ _ _) fun b18 hb18 hn18=>?_
  replace hF:=hF.n1 [] hB hG hb18 hn18
  refine geC hL ?_
  clear hB hG hL L
  rintro u ⟨⟨⟨-,hB,hG,-⟩,hx46⟩,h18⟩
  replace hB:=hB.cons' h18
  clear h18
  obtain ⟨hx46a,hx46b⟩ : Rn u x46.1 _ ∧ Rn u x46.2 _:=hx46
  clear hb18 hn18
  refine gtT ?_
  clear hN K
  refine sv hB hF hG 0 0 [_,_,_] ?_
  intro u hu hBG
  replace hx46a:=hx46a.put hB 0 rfl (by first | decide | simp) _ _ hu
  replace hx46b:=hx46b.put hB 0 rfl (by first | decide | simp) _ _ hu
  clear hB hG hu
  obtain ⟨hB,hG⟩:=hBG
  obtain ⟨e1,e2⟩:=Hb16.out u hG
  have hnb : NwB b16 b18 bb ob gp cp N Lw RC (R1,R1c) (N1,N1c) (Ar,cr) rs rs1 ns P x46 F u:=⟨e1,e2,Hr0.out u hG,hB.head.cell 0,hB.head.cell 1,hB.head.cell 2,HPZ.out.grow hG,HRZ.out.grow hG,HLR.out.grow hG,Le.grow HLN.out hG,⟨hx46a,hx46b⟩,HT.grow hG⟩
  have HN:=Lib.hid hnb
  have HGa:=HG1
  clear hnb e1 e2 HG1 hx46a hx46b Hb16 Hr0 HRZ HLR HLN HT
  have HG0:=Lib.hid hG
  clear hB hF hG
  obtain ⟨w0,rfl⟩ : ∃ x,x = w:=⟨_,rfl⟩
  obtain ⟨w,hwu⟩ : ∃ x,x = u:=⟨_,rfl⟩
  rw [← hwu] at HG0 HN
  have hB:=Bx.nil u
  have hF:=Fr.nil w
  have hG : A3 w u:=hwu ▸ A3.refl u
  clear hwu
  have HG1:=Lib.hid (HGa.out.trans HG0.out)
  have hpz:=HN.out.lz
  clear HGa HG0 HPZ
  obtain ⟨S,hS⟩ : ∃ S,S = F.num.sign:=⟨_,rfl⟩
  have hsg:=fun W=>B4y x46.1 x46.2 F W
  simp only [← hS] at hsg
  have Hsg:=Lib.hid hsg
  have HS:=Lib.hid hS
  have Hin:=Lib.hid (fun W (h : NwB b16 b18 bb ob gp cp N Lw RC (R1,R1c) (N1,N1c) (Ar,cr) rs rs1 ns P x46 F W)=>A6c x46.1 x46.2 F W h.fz.1 h.fz.2 (by omega) h.tab)
  have hc0 : H6 (rs1.map (·.2.2)) Lw ns = 0:=by rw [Hk1.out.2,← HXe.out];exact Hbo.out.2
  have Hc0:=Lib.hid hc0
  clear hsg hS hc0
  refine wp_seq ?_
  by_cases ho : od = 4
  ·have fo : (od == 4) = true:=by simp [ho]
   have fod : decide (od = 4) = true:=by simp [ho]
   obtain ⟨PA,hsl,hLq⟩:=B4n gp Lw cp P LP.out hL1 hcp w hpz
   obtain ⟨L1,hL1e⟩ : ∃ x,x = Lw - 1:=⟨_,rfl⟩
   obtain ⟨cp1,hcp1⟩ : ∃ x,x = cp - 1:=⟨_,rfl⟩
   simp only [← hL1e,← hcp1] at hsl
   have hi:=Hip.out (P.drop 1) L1 (by rw [List.length_drop,LP.out,hL1e]) (by omega) (fun x hx=>SP.out x (List.mem_of_mem_drop hx))
   have Hi:=Lib.hid (fun W (hg : A3 w W)=>hi W (PA,cp1) (hLq.grow hg) (HN.out.grow hg).tab)
   have hL1n : L1 ≠ Lw:=by omega
   clear ho hi hLq hcp1 hL1e hpz
   by_cases hF0 : F < 0
   ·have fS : decide (S < 0) = true:=by
     rw [HS.out]
     simp only [decide_eq_true_eq]
     exact Int.sign_neg_iff.2 (A49 hF0)
    have Hwi:=Lib.hid (fun W (Q : Ax) (h : NwB b16 b18 bb ob gp cp N Lw RC (R1,R1c) (N1,N1c) (Ar,cr) rs rs1 ns P x46 F W)=>A51 (R1,R1c) (N1,N1c) Q rs1 N Lw N L1 F ns Hk1.out.1.1 hN0 (by omega) hL1 (by omega) (fun r hr=>(Hk1.out.1.2 r hr).1) Hbo.out.1 (by omega) hF0 50 (by omega) (fun r hr=>(Hk1.out.1.2 r hr).2) (by omega) Hc0.out W h.lr h.nd)
    clear hF0
    refine wp_seq (rsE H9 [0,1,0] hB hG fun L hL=>?_)
    refine gs ?_
    refine gmw (C:=fun v=>Hp5.out _) ?_
    refine gs ?_
    refine geT hL ?_
    clear hB hG hL L
    rintro u ⟨-,hB,hG,-⟩
    refine wp_cond_true (rfl) ?_
    refine r0N ?_
    refine wp_seq (rdC H9 [] [(0,0),(0,1),(0,3),(1,2),(1,4),(1,5),(0,6),(0,7),(0,8),(0,9)] hB hG fun K L hN hL=>?_)
    repeat first | refine gya ?_ | refine gyr ?_ | refine gna ?_ | refine gyb (by (rintro v ⟨hgu,hB,hG,-⟩ N hN;have r:=hB.r;simp only [BxR] at r;(first | obtain ⟨q0,q1,q2,q3,q4,q5⟩:=(HN.out.grow hG).cells | have q2:=Hr0.out v hG);go_simp;exact hN)) ?_
    refine gxd (X:=Ax) (fun x : Ax=>.slice x.1 L1 x.2) (fun x W=>Lq W x.1 (P.drop 1)) (fun x u u' hg h=>Lq.grow h hg) (fun x55=>?_) (C:=by (rintro v ⟨hgu,hB,hG,-⟩;exact Hi.out _ hG))
    refine gmd (C:=fun v ⟨⟨hgu,hB,hG,_⟩,hx55⟩=>Hin.out _ (HN.out.grow hG)) ?_
    refine gmd (C:=fun v ⟨⟨hgu,hB,hG,_⟩,hx55⟩=>Hwi.out _ x55 (HN.out.grow hG)) ?_
    refine gs ?_
    refine geC hL ?_
    clear hB hG hL L
    rintro u ⟨⟨hgu,hB,hG,-⟩,hx55⟩
    clear hx55
    clear hgu
    refine gtT ?_
    clear hN K
    refine wp_seq ?_
    refine wp_block ?_
    refine wp_seq (rsE H9 [0,1,0,0] hB hG fun L hL=>?_)
    repeat first | refine gya ?_ | refine gyr ?_ | refine gna ?_ | refine gyb (by (rintro v ⟨hgu,hB,hG,-⟩ N hN;have r:=hB.r;simp only [BxR] at r;(first | obtain ⟨q0,q1,q2,q3,q4,q5⟩:=(HN.out.grow hG).cells | have q2:=Hr0.out v hG);go_simp;exact hN)) ?_
    refine gmw (C:=fun v=>Hsg.out _) ?_
    refine gs ?_
    refine geT hL ?_
    clear hB hG hL L
    rintro u ⟨-,hB,hG,-⟩
    refine wp_cond_true (rfl) ?_
    refine wp_seq (rsE H9 [1,0,0,0,0,0,0,0,0,0,0] hB hG fun L hL=>?_)
    refine gmd (C:=fun v ⟨hgu,hB,hG,_⟩=>A2Q _ (HN.out.grow hG).tab) ?_
    refine gs ?_
    refine geT hL ?_
    clear hB hG hL L
    rintro u ⟨-,hB,hG,-⟩
    refine rt Tryz.results9 ?_
    exact ⟨rfl,HG1.out.trans hG⟩
   ·have fS : decide (S < 0) = false:=by
     rw [HS.out]
     simp only [decide_eq_false_iff_not,Int.not_lt]
     exact Int.sign_nonneg_iff.2 (Rat.num_nonneg.2 (Rat.not_lt.1 hF0))
    have Hwi:=Lib.hid (fun W (Q : Ax) (h : NwB b16 b18 bb ob gp cp N Lw RC (R1,R1c) (N1,N1c) (Ar,cr) rs rs1 ns P x46 F W)=>A95 (R1,R1c) (N1,N1c) Q rs1 N Lw N L1 F ns Hk1.out.1.1 hN0 (by omega) hL1 (by omega) hL1n (fun r hr=>(Hk1.out.1.2 r hr).1) Hbo.out.1 (by omega) (Rat.not_lt.1 hF0) 50 (by omega) (fun r hr=>(Hk1.out.1.2 r hr).2) (by omega) Hc0.out W h.lr h.nd)
    have fL : ((L1 : Int) != (Lw : Int)) = true:=by simp;omega
    clear hF0
    refine wp_seq (rsE H9 [0,1,0] hB hG fun L hL=>?_)
    refine gs ?_
    refine gmw (C:=fun v=>Hp5.out _) ?_
    refine gs ?_
    refine geT hL ?_
    clear hB hG hL L
    rintro u ⟨-,hB,hG,-⟩
    refine wp_cond_true (rfl) ?_
    refine r0N ?_
    refine wp_seq (rdC H9 [] [(0,0),(0,1),(0,3),(1,2),(1,4),(1,5),(0,6),(0,7),(0,8),(0,9)] hB hG fun K L hN hL=>?_)
    repeat first | refine gya ?_ | refine gyr ?_ | refine gna ?_ | refine gyb (by (rintro v ⟨hgu,hB,hG,-⟩ N hN;have r:=hB.r;simp only [BxR] at r;(first | obtain ⟨q0,q1,q2,q3,q4,q5⟩:=(HN.out.grow hG).cells | have q2:=Hr0.out v hG);go_simp;exact hN)) ?_
    refine gxd (X:=Ax) (fun x : Ax=>.slice x.1 L1 x.2) (fun x W=>Lq W x.1 (P.drop 1)) (fun x u u' hg h=>Lq.grow h hg) (fun x55=>?_) (C:=by (rintro v ⟨hgu,hB,hG,-⟩;exact Hi.out _ hG))
    refine gmd (C:=fun v ⟨⟨hgu,hB,hG,_⟩,hx55⟩=>Hin.out _ (HN.out.grow hG)) ?_
    refine gmd (C:=fun v ⟨⟨hgu,hB,hG,_⟩,hx55⟩=>Hwi.out _ x55 (HN.out.grow hG)) ?_
    refine gs ?_
    refine geC hL ?_
    clear hB hG hL L
    rintro u ⟨⟨hgu,hB,hG,-⟩,hx55⟩
    clear hx55
    clear hgu
    refine gtT ?_
    clear hN K
    refine wp_seq ?_
    refine wp_block ?_
    refine wp_seq (rsE H9 [0,1,0,0] hB hG fun L hL=>?_)
    repeat first | refine gya ?_ | refine gyr ?_ | refine gna ?_ | refine gyb (by (rintro v ⟨hgu,hB,hG,-⟩ N hN;have r:=hB.r;simp only [BxR] at r;(first | obtain ⟨q0,q1,q2,q3,q4,q5⟩:=(HN.out.grow hG).cells | have q2:=Hr0.out v hG);go_simp;exact hN)) ?_
    refine gmw (C:=fun v=>Hsg.out _) ?_
    refine gs ?_
    refine geT hL ?_
    clear hB hG hL L
    rintro u ⟨-,hB,hG,-⟩
    refine wp_cond_false (rfl) ?_
    refine wp_seq ?_
    (first | obtain ⟨q0,q1,q2,q3,q4,q5⟩:=(HN.out.grow hG).cells | have q2:=Hr0.out u hG)
    refine r0N ?_
    refine wp_cond_true (rfl) ?_
    refine wp_seq (rsE H9 [1,0,0,0,0,0,0,0,0,0,0] hB hG fun L hL=>?_)
    refine gmd (C:=fun v ⟨hgu,hB,hG,_⟩=>A2Q _ (HN.out.grow hG).tab) ?_
    refine gs ?_
    refine geT hL ?_
    clear hB hG hL L
    rintro u ⟨-,hB,hG,-⟩
    refine rt Tryz.results9 ?_
    exact ⟨rfl,HG1.out.trans hG⟩
  ·have fo : (od == 4) = false:=by simp [ho]
   have fod : decide (od = 4) = false:=by simp [ho]
   have hi:=Hip.out P Lw LP.out hL3 SP.out
   have Hi:=Lib.hid (fun W (h : NwB b16 b18 bb ob gp cp N Lw RC (R1,R1c) (N1,N1c) (Ar,cr) rs rs1 ns P x46 F W)=>hi W (some ⟨gp,0,none⟩,cp) h.lz h.tab)
   clear ho hi hpz
   by_cases hF0 : F < 0
   ·have fS : decide (S < 0) = true:=by
     rw [HS.out]
     simp only [decide_eq_true_eq]
     exact Int.sign_neg_iff.2 (A49 hF0)
    have Hwi:=Lib.hid (fun W (Q : Ax) (h : NwB b16 b18 bb ob gp cp N Lw RC (R1,R1c) (N1,N1c) (Ar,cr) rs rs1 ns P x46 F W)=>A51 (R1,R1c) (N1,N1c) Q rs1 N Lw N Lw F ns Hk1.out.1.1 hN0 (by omega) hL1 (by omega) (fun r hr=>(Hk1.out.1.2 r hr).1) Hbo.out.1 (by omega) hF0 50 (by omega) (fun r hr=>(Hk1.out.1.2 r hr).2) (by omega) Hc0.out W h.lr h.nd)
    clear hF0
    refine wp_seq (rsE H9 [0,1,0] hB hG fun L hL=>?_)
    refine gs ?_
    refine gmw (C:=fun v=>Hp5.out _) ?_
    refine gs ?_
    refine geT hL ?_
    clear hB hG hL L
    rintro u ⟨-,hB,hG,-⟩
    refine wp_cond_false (rfl) ?_
    refine wp_skip ?_
    refine A4 ?_
    refine wp_seq (rdC H9 [] [(0,0),(0,1),(0,3),(1,2),(1,4),(1,5),(0,6),(0,7),(0,8),(0,9)] hB hG fun K L hN hL=>?_)
    repeat first | refine gya ?_ | refine gyr ?_ | refine gna ?_ | refine gyb (by (rintro v ⟨hgu,hB,hG,-⟩ N hN;have r:=hB.r;simp only [BxR] at r;(first | obtain ⟨q0,q1,q2,q3,q4,q5⟩:=(HN.out.grow hG).cells | have q2:=Hr0.out v hG);go_simp;exact hN)) ?_
    refine gxd (X:=Ax) (fun x : Ax=>.slice x.1 Lw x.2) (fun x W=>Lq W x.1 P) (fun x u u' hg h=>Lq.grow h hg) (fun x55=>?_) (C:=by (rintro v ⟨hgu,hB,hG,-⟩;exact Hi.out _ (HN.out.grow hG)))
    refine gmd (C:=fun v ⟨⟨hgu,hB,hG,_⟩,hx55⟩=>Hin.out _ (HN.out.grow hG)) ?_
    refine gmd (C:=fun v ⟨⟨hgu,hB,hG,_⟩,hx55⟩=>Hwi.out _ x55 (HN.out.grow hG)) ?_
    refine gs ?_
    refine geC hL ?_
    clear hB hG hL L
    rintro u ⟨⟨hgu,hB,hG,-⟩,hx55⟩
    clear hx55
    clear hgu
    refine gtT ?_
    clear hN K
    refine wp_seq ?_
    refine wp_block ?_
    refine wp_seq (rsE H9 [0,1,0,0] hB hG fun L hL=>?_)
    repeat first | refine gya ?_ | refine gyr ?_ | refine gna ?_ | refine gyb (by (rintro v ⟨hgu,hB,hG,-⟩ N hN;have r:=hB.r;simp only [BxR] at r;(first | obtain ⟨q0,q1,q2,q3,q4,q5⟩:=(HN.out.grow hG).cells | have q2:=Hr0.out v hG);go_simp;exact hN)) ?_
    refine gmw (C:=fun v=>Hsg.out _) ?_
    refine gs ?_
    refine geT hL ?_
    clear hB hG hL L
    rintro u ⟨-,hB,hG,-⟩
    refine wp_cond_true (rfl) ?_
    refine wp_seq (rsE H9 [1,0,0,0,0,0,0,0,0,0,0] hB hG fun L hL=>?_)
    refine gmd (C:=fun v ⟨hgu,hB,hG,_⟩=>A2Q _ (HN.out.grow hG).tab) ?_
    refine gs ?_
    refine geT hL ?_
    clear hB hG hL L
    rintro u ⟨-,hB,hG,-⟩
    refine rt Tryz.results9 ?_
    exact ⟨rfl,HG1.out.trans hG⟩
   ·have fS : decide (S < 0) = false:=by
     rw [HS.out]
     simp only [decide_eq_false_iff_not,Int.not_lt]
     exact Int.sign_nonneg_iff.2 (Rat.num_nonneg.2 (Rat.not_lt.1 hF0))
    obtain ⟨Sh,hSh⟩ : ∃ S,S = D5 (fun i=>G0 (F7 (rs.map (·.2.2)) i) P Lw) N:=⟨_,rfl⟩
    have eS : D5 (I4 (rs1.map (·.2.2)) P Lw) N = Sh:=by
     rw [hSh,Hk1.out.2]
     have e : I4 (rs.map (·.2.2)) P Lw = fun i=>G0 (F7 (rs.map (·.2.2)) i) P Lw:=funext fun i=>A30 _ _ _ _
     rw [e]
    have hnl:=Rat.not_lt.1 hF0
    have hwW : ∀ (f : Rat),0 ≤ f → qs f ≤ 5200 → ∀ W (Q : Ax),NwB b16 b18 bb ob gp cp N Lw RC (R1,R1c) (N1,N1c) (Ar,cr) rs rs1 ns P x46 F W → Lq W Q.1 P → Calls Tryz.prog 40 #[I6 (R1,R1c) N (N1,N1c) N,.slice Q.1 Lw Q.2,qV f] W (G8 (fun x : Ax=>.tuple #[.slice x.1 (F5 f Sh).length x.2,.int .i64 0]) (fun x W=>Lh W x.1 (F5 f Sh)) W):=fun f h0 hz W Q h hQ=>by
     have hh:=A9M (R1,R1c) (N1,N1c) Q rs1 N Lw N f ns P Hk1.out.1.1 hN0 (by omega) hL1 (by omega) (fun r hr=>(Hk1.out.1.2 r hr).1) Hbo.out.1 LP.out h0 50 (by omega) (fun r hr=>(Hk1.out.1.2 r hr).2) SP.out (by omega) Hc0.out W h.lr h.nd hQ h.tab
     rw [eS] at hh
     exact hh.mono fun e w' ⟨x,g1,g2,g3⟩=>⟨x,g1,g2.1,g3⟩
    obtain ⟨HL,hHL⟩ : ∃ l,l = C9 K Sh:=⟨_,rfl⟩
    obtain ⟨M,hM⟩ : ∃ M,M = min K N:=⟨_,rfl⟩
    have hne : ∀ W (Q : Ax),NwB b16 b18 bb ob gp cp N Lw RC (R1,R1c) (N1,N1c) (Ar,cr) rs rs1 ns P x46 F W → Lq W Q.1 P → Calls Tryz.prog 38 #[I6 (R1,R1c) N (N1,N1c) N,.slice Q.1 Lw Q.2,.int .i64 (K : Nat)] W (G8 (fun x : Ax × Nat=>.tuple #[.slice x.1.1 M x.1.2,.int .i64 (x.2 : Nat),.int .i64 0]) (fun x W=>Lh W x.1.1 HL) W):=fun W Q h hQ=>by
     have hh:=B3n (R1,R1c) (N1,N1c) Q rs1 N Lw N K ns P Hk1.out.1.1 hN0 (by omega) hL1 (by omega) (fun r hr=>(Hk1.out.1.2 r hr).1) Hbo.out.1 LP.out hK1 (by omega) 50 (fun r hr=>(Hk1.out.1.2 r hr).2) SP.out (by omega) Hc0.out W h.lr h.nd hQ h.tab
     rw [eS,← hHL,← hM] at hh
     exact hh.mono fun e w' ⟨x,g1,g2,g3⟩=>⟨x,g1,g2.1,g3⟩
    have hrw : ∀ W,NwB b16 b18 bb ob gp cp N Lw RC (R1,R1c) (N1,N1c) (Ar,cr) rs rs1 ns P x46 F W → Calls Tryz.prog 43 #[.slice (some ⟨bb,ob,none⟩) N RC,.slice (some ⟨gp,0,none⟩) Lw cp,rqV x46.1 x46.2 F] W (G8 (fun x : Ax=>.slice x.1 (F5 F Sh).length x.2) (fun x W=>Lhz W x.1 (F5 F Sh)) W):=fun W h=>by
     have hh:=B2r (some ⟨bb,ob,none⟩) (some ⟨gp,0,none⟩) rs N Lw RC cp P x46.1 x46.2 F Hok.out.1 (by omega) (by omega) (fun r hr=>(Hok.out.2 r hr).1) LP.out 50 (fun r hr=>(Hok.out.2 r hr).2) SP.out (by omega) (by omega) W h.rz h.lz h.fz
     rw [← hSh] at hh
     exact hh
    have hzS : ∀ x ∈ Sh,qs x.2 ≤ 1000 ∧ 0 ≤ x.2:=fun x hx=>by
     rw [hSh] at hx
     refine ⟨B2z (rs:=rs.map (·.2.2)) (by rw [List.length_map];exact Hok.out.1) (fun r hr=>by obtain ⟨z,hz,rfl⟩:=List.mem_map.1 hr;exact Hok.out.2 z hz) LP.out SP.out hL3 x hx,?_⟩
     unfold D5 at hx
     obtain ⟨i,_,rfl⟩:=List.mem_map.1 hx
     exact A8b _ _ _
    have hll : HL.length = M:=by rw [hHL,hM,A2A,hSh];unfold D5;simp
    have hM1 : 1 ≤ M:=by omega
    obtain ⟨D,hD,T,hT⟩:=B2p (K:=K) (S:=Sh) (by rw [← hHL,hll];exact hM1)
    have hDm : ∃ x ∈ Sh,x.2 = D:=⟨_,B2J (List.getElem_mem _),hD⟩
    obtain ⟨xD,hxD,hxDe⟩:=hDm
    have hzD:=hzS xD hxD
    rw [hxDe] at hzD
    simp only [← hHL] at hD hT
    have hwF:=hwW F hnl (by omega)
    have hwD:=hwW D hzD.2 (by omega)
    rw [hT] at hwD
    obtain ⟨WL,hWL⟩ : ∃ l,l = F5 F Sh:=⟨_,rfl⟩
    obtain ⟨l1,hl1⟩ : ∃ l,l = WL.length:=⟨_,rfl⟩
    obtain ⟨l2,hl2⟩ : ∃ l,l = (HL ++ T).length:=⟨_,rfl⟩
    simp only [← hWL,← hl1] at hwF hrw
    simp only [← hl2] at hwD
    have hls : ∀ x ∈ WL,qs x.2 ≤ LIM:=fun x hx=>by
     rw [hWL] at hx
     unfold F5 at hx
     have h1:=(List.mem_filter.1 ((Q3 _).mem_iff.1 hx)).1
     have := (hzS x h1).1
     omega
    have hl1N : l1 ≤ N:=by
     rw [hl1,hWL]
     refine Nat.le_trans (A4d F Sh) ?_
     rw [hSh]
     unfold D5
     simp
    have hsm:=fun W (X Y : Ax) hX hY=>B21 X.1 Y.1 WL l1 X.2 Y.2 hl1 (by omega) hls W hX hY
    have hl2M : M ≤ l2:=by rw [hl2,List.length_append,hll];omega
    obtain ⟨M1,hM1e⟩ : ∃ x,x = M - 1:=⟨_,rfl⟩
    have fM1 : IntKind.i64.wrap ((M : Int) - 1) = (M1 : Int):=by rw [IntWalk.i64_in _ (by omega)];omega
    have hM1i : (M1 : Int) < (M : Int):=by omega
    have hDi : ∀ h : M1 < HL.length,HL[M1].2 = D:=fun h=>by
     rw [← hD]
     congr 2
     rw [hll,hM1e]
    have fM0 : ((M : Int) == 0) = false:=by simp;omega
    have fM0n : decide (M = 0) = false:=by simp;omega
    have fl2 : decide ((l2 : Int) < (M : Int)) = false:=by simp;omega
    have fl2n : decide (l2 < M) = false:=by simp;omega
    have fL : ((Lw : Int) != (Lw : Int)) = false:=by simp
    have hl2i : ∀ i : Nat,i < M → (i : Int) < (l2 : Int):=fun i h=>by omega
    have Hwi:=Lib.hid hwF
    have Hwd:=Lib.hid hwD
    have Hne:=Lib.hid hne
    have Hrw:=Lib.hid hrw
    have Hsm:=Lib.hid hsm
    have Hll:=Lib.hid (And.intro hll hM1e)
    have HDi:=Lib.hid hDi
    have Hl2i:=Lib.hid hl2i
    have hMle : M ≤ 11:=by omega
    clear hF0 hnl eS hwW hwF hwD hne hrw hzS hll hM1 hD hT hxD hxDe hzD hls hl1N hsm hl2M hM1e hDi hl2i hHL hM hSh hWL hl1 hl2
    refine wp_seq (rsE H9 [0,1,0] hB hG fun L hL=>?_)
    refine gs ?_
    refine gmw (C:=fun v=>Hp5.out _) ?_
    refine gs ?_
    refine geT hL ?_
    clear hB hG hL L
    rintro u ⟨-,hB,hG,-⟩
    refine wp_cond_false (rfl) ?_
    refine wp_skip ?_
    refine A4 ?_
    refine wp_seq (rdC H9 [] [(0,0),(0,1),(0,3),(1,2),(1,4),(1,5),(0,6),(0,7),(0,8),(0,9)] hB hG fun K L hN hL=>?_)
    repeat first | refine gya ?_ | refine gyr ?_ | refine gna ?_ | refine gyb (by (rintro v ⟨hgu,hB,hG,-⟩ N hN;have r:=hB.r;simp only [BxR] at r;obtain ⟨q0,q1,q2,q3,q4,q5⟩:=(HN.out.grow hG).cells;(try obtain ⟨a1,a2,a3,a4,a5⟩:=Hka.out v hG);go_simp;exact hN)) ?_
    refine gxd (X:=Ax) (fun x : Ax=>.slice x.1 Lw x.2) (fun x W=>Lq W x.1 P) (fun x u u' hg h=>Lq.grow h hg) (fun x55=>?_) (C:=by (rintro v ⟨hgu,hB,hG,-⟩;exact Hi.out _ (HN.out.grow hG)))
    refine gmd (C:=fun v ⟨⟨hgu,hB,hG,_⟩,hx55⟩=>Hin.out _ (HN.out.grow hG)) ?_
    refine gxd (X:=Ax) (fun x : Ax=>.tuple #[.slice x.1 l1 x.2,.int .i64 0]) (fun x W=>Lh W x.1 WL) (fun x u u' hg h=>Lh.grow h hg) (fun x58=>?_) (C:=by (rintro v ⟨⟨hgu,hB,hG,-⟩,hx55⟩;exact Hwi.out _ x55 (HN.out.grow hG) hx55))
    refine gs ?_
    refine geC hL ?_
    clear hB hG hL L
    rintro u ⟨⟨⟨hgu,hB,hG,-⟩,hx55⟩,hx58⟩
    have HW:=Lib.hid hx58
    have HGa:=HG1
    clear hx55 hx58 HG1
    clear hgu
    refine gtT ?_
    clear hN K
    have HG0:=Lib.hid hG
    clear hB hF hG
    obtain ⟨w0,rfl⟩ : ∃ x,x = w:=⟨_,rfl⟩
    obtain ⟨w,hwu⟩ : ∃ x,x = u:=⟨_,rfl⟩
    rw [← hwu] at HG0 HW
    have hB:=Bx.nil u
    have hF:=Fr.nil w
    have hG : A3 w u:=hwu ▸ A3.refl u
    clear hwu
    have HG1:=Lib.hid (HGa.out.trans HG0.out)
    have hn2:=HN.out.grow HG0.out
    clear HN HGa HG0
    have HN:=Lib.hid hn2
    clear hn2
    refine wp_seq ?_
    refine wp_block ?_
    refine wp_seq (rsE H9 [0,1,0,0] hB hG fun L hL=>?_)
    repeat first | refine gya ?_ | refine gyr ?_ | refine gna ?_ | refine gyb (by (rintro v ⟨hgu,hB,hG,-⟩ N hN;have r:=hB.r;simp only [BxR] at r;obtain ⟨q0,q1,q2,q3,q4,q5⟩:=(HN.out.grow hG).cells;(try obtain ⟨a1,a2,a3,a4,a5⟩:=Hka.out v hG);go_simp;exact hN)) ?_
    refine gmw (C:=fun v=>Hsg.out _) ?_
    refine gs ?_
    refine geT hL ?_
    clear hB hG hL L
    rintro u ⟨-,hB,hG,-⟩
    refine wp_cond_false (rfl) ?_
    refine wp_seq ?_
    (first | obtain ⟨q0,q1,q2,q3,q4,q5⟩:=(HN.out.grow hG).cells | have q2:=Hr0.out u hG)
    refine r0N ?_
    refine wp_cond_false (rfl) ?_
    refine wp_skip ?_
    refine D4 ?_
    refine A4 ?_
    refine wp_seq (rdC H9 [] [(0,0),(0,1),(0,3),(1,2),(1,4),(0,5),(1,6),(0,7),(0,8),(0,9),(0,10),(0,11),(0,12)] hB hG fun K L hN hL=>?_)
    repeat first | refine gya ?_ | refine gyr ?_ | refine gna ?_ | refine gyb (by (rintro v ⟨hgu,hB,hG,-⟩ N hN;have r:=hB.r;simp only [BxR] at r;obtain ⟨q0,q1,q2,q3,q4,q5⟩:=(HN.out.grow hG).cells;(try obtain ⟨a1,a2,a3,a4,a5⟩:=Hka.out v hG);go_simp;exact hN)) ?_
    refine gxd (X:=Ax) (fun x : Ax=>.slice x.1 Lw x.2) (fun x W=>Lq W x.1 P) (fun x u u' hg h=>Lq.grow h hg) (fun x96=>?_) (C:=by (rintro v ⟨hgu,hB,hG,-⟩;exact Hi.out _ (HN.out.grow hG)))
    refine gmw (C:=fun v=>Hp4.out _) ?_
    refine gs ?_
    refine gxd (X:=(Ax × Nat)) (fun x : Ax × Nat=>.tuple #[.slice x.1.1 M x.1.2,.int .i64 (x.2 : Nat),.int .i64 0]) (fun x W=>Lh W x.1.1 HL) (fun x u u' hg h=>Lh.grow h hg) (fun x100=>?_) (C:=by (rintro v ⟨⟨hgu,hB,hG,-⟩,hx96⟩;exact Hne.out _ x96 (HN.out.grow hG) hx96))
    refine gs ?_
    refine geC hL ?_
    clear hB hG hL L
    rintro u ⟨⟨⟨hgu,hB,hG,-⟩,hx96⟩,hx100⟩
    obtain ⟨⟨A100,c100⟩,lk100⟩:=x100
    have HK:=Lib.hid (show Lh u A100 HL from hx100)
    have HGa:=HG1
    clear hx96 hx100 HG1
    clear hgu
    refine gtT ?_
    clear hN K
    have HG0:=Lib.hid hG
    clear hB hF hG
    obtain ⟨w0,rfl⟩ : ∃ x,x = w:=⟨_,rfl⟩
    obtain ⟨w,hwu⟩ : ∃ x,x = u:=⟨_,rfl⟩
    rw [← hwu] at HG0 HK
    have hB:=Bx.nil u
    have hF:=Fr.nil w
    have hG : A3 w u:=hwu ▸ A3.refl u
    clear hwu
    have HG1:=Lib.hid (HGa.out.trans HG0.out)
    have hn2:=HN.out.grow HG0.out
    have hw2:=HW.out.grow HG0.out
    clear HN HGa HG0 HW
    have HN:=Lib.hid hn2
    have HW:=Lib.hid hw2
    clear hn2 hw2
    obtain ⟨gk,ok,rfl,hka⟩:=HK.out.at (i:=M1) (by have := Hll.out;omega)
    have hka2 : ∀ W,A3 w W → Cq W gk (ok + M1 * 6 + 1) D:=fun W hg=>by
     have h:=(hka W hg).2
     rw [HDi.out _] at h
     exact ⟨h.1,h.2.1,h.2.2.1,h.2.2.2.1,h.2.2.2.2⟩
    have Hka:=Lib.hid hka2
    clear hka hka2
    refine wp_seq ?_
    refine r0T ?_
    refine wp_cond_false (rfl) ?_
    refine wp_skip ?_
    refine A4 ?_
    refine wp_seq (rdC H9 [] [(0,0),(0,1),(0,3),(0,4),(0,5),(0,6),(0,7),(0,8),(0,9),(1,2),(1,10),(0,11),(0,12),(0,13),(0,14)] hB hG fun K L hN hL=>?_)
    repeat first | refine gya ?_ | refine gyr ?_ | refine gna ?_ | refine gyb (by (rintro v ⟨hgu,hB,hG,-⟩ N hN;have r:=hB.r;simp only [BxR] at r;obtain ⟨q0,q1,q2,q3,q4,q5⟩:=(HN.out.grow hG).cells;(try obtain ⟨a1,a2,a3,a4,a5⟩:=Hka.out v hG);go_simp;exact hN)) ?_
    refine gxd (X:=Ax) (fun x : Ax=>.slice x.1 Lw x.2) (fun x W=>Lq W x.1 P) (fun x u u' hg h=>Lq.grow h hg) (fun x110=>?_) (C:=by (rintro v ⟨hgu,hB,hG,-⟩;exact Hi.out _ (HN.out.grow hG)))
    refine gxd (X:=Ax) (fun x : Ax=>.tuple #[.slice x.1 l2 x.2,.int .i64 0]) (fun x W=>Lh W x.1 (HL ++ T)) (fun x u u' hg h=>Lh.grow h hg) (fun x118=>?_) (C:=by (rintro v ⟨⟨hgu,hB,hG,-⟩,hx110⟩;exact Hwd.out _ x110 (HN.out.grow hG) hx110))
    refine gs ?_
    refine geC hL ?_
    clear hB hG hL L
    rintro u ⟨⟨⟨hgu,hB,hG,-⟩,hx110⟩,hx118⟩
    have HA:=Lib.hid hx118
    have HGa:=HG1
    clear hx110 hx118 HG1 Hka
    clear hgu
    refine gtT ?_
    clear hN K
    have HG0:=Lib.hid hG
    clear hB hF hG
    obtain ⟨w0,rfl⟩ : ∃ x,x = w:=⟨_,rfl⟩
    obtain ⟨w,hwu⟩ : ∃ x,x = u:=⟨_,rfl⟩
    rw [← hwu] at HG0 HA
    have hB:=Bx.nil u
    have hF:=Fr.nil w
    have hG : A3 w u:=hwu ▸ A3.refl u
    clear hwu
    have HG1:=Lib.hid (HGa.out.trans HG0.out)
    have hn2:=HN.out.grow HG0.out
    have hw2:=HW.out.grow HG0.out
    have hk2:=HK.out.grow HG0.out
    clear HN HGa HG0 HW HK
    have HN:=Lib.hid hn2
    have HW:=Lib.hid hw2
    have HK:=Lib.hid hk2
    clear hn2 hw2 hk2
    refine wp_seq ?_
    refine r0T ?_
    refine wp_cond_false (rfl) ?_
    refine wp_skip ?_
    refine A4 ?_
    refine wp_seq ?_
    refine r0T ?_
    refine wp_block ?_
    clear hB hF
    go_loopw [26] (fun s0 wr=>∃ i : Nat,i ≤ M ∧ s0 = .int .i64 i ∧ A3 w wr) (fun s0 _=>M - (intOf s0).toNat)
    case atStart=>exact ⟨0,Nat.zero_le _,rfl,hG⟩
    case round =>
     clear hG
     obtain ⟨i,hi,rfl,hG⟩:=hrel
     obtain ⟨u,rfl⟩ : ∃ x,x = wr:=⟨_,rfl⟩
     have hB:=Bx.nil u
     have hF:=Fr.nil w
     rcases Nat.lt_or_ge i M with hlt | hge
     ·have hdec : decide ((i : Int) < (M : Int)) = true:=by simp;omega
      have hiM : (i : Int) < (M : Int):=by omega
      have hi2:=Hl2i.out i hlt
      have hil : i < HL.length:=by have := Hll.out;omega
      obtain ⟨g1,o1,e1,hk1⟩:=HK.out.at (i:=i) hil
      obtain ⟨g2,o2,hA2,hk2⟩:=HA.out.at (i:=i) (by rw [List.length_append];omega)
      cases e1
      rw [List.getElem_append_left hil] at hk2
      obtain ⟨I,hI⟩ : ∃ I,I = HL[i].1:=⟨_,rfl⟩
      have hc1 : ∀ W,A3 w W → W.cell? ⟨gk,ok + i * 6,none⟩ = some (.int .i64 (I : Nat)):=fun W hg=>by rw [hI];exact (hk1 W hg).1
      have hc2 : ∀ W,A3 w W → W.cell? ⟨g2,o2 + i * 6,none⟩ = some (.int .i64 (I : Nat)):=fun W hg=>by rw [hI];exact (hk2 W hg).1
      have fI : ((I : Int) != (I : Int)) = false:=by simp
      obtain ⟨A118,c118⟩:=x118
      simp only at hA2
      subst hA2
      have Hc1:=Lib.hid hc1
      have Hc2:=Lib.hid hc2
      clear hk1 hk2 hI hc1 hc2 hil
      refine wp_seq ?_
      refine r0T ?_
      refine wp_cond_true (rfl) ?_
      refine wp_skip ?_
      refine A4 ?_
      refine wp_seq ?_
      refine wp_block ?_
      refine wp_seq (rdC H9 [] [(0,0),(0,1),(0,2),(0,3),(0,4),(0,5),(0,6),(0,7),(0,8),(0,9)] hB hG fun K L hN hL=>?_)
      repeat first | refine gya ?_ | refine gyr ?_ | refine gna ?_ | refine gyb (by (rintro v ⟨hgu,hB,hG,-⟩ N hN;have r:=hB.r;simp only [BxR] at r;have c1:=Hc1.out v hG;have c2:=Hc2.out v hG;go_simp;exact hN)) ?_
      refine geC hL ?_
      clear hB hG hL L
      rintro u ⟨-,hB,hG,-⟩
      refine gtT ?_
      clear hN K
      refine wp_cond_false (rfl) ?_
      refine wp_skip ?_
      refine D4 ?_
      refine A4 ?_
      refine r0E ?_
      refine A4 ?_
      go_roundw
      case rel=>exact ⟨i + 1,by omega,by go_num,hG⟩
      case measure=>simp [intOf];omega
     ·obtain rfl : M = i:=by omega
      have hdec : decide ((M : Int) < (M : Int)) = false:=by simp
      refine wp_seq ?_
      refine r0T ?_
      refine wp_cond_false (rfl) ?_
      refine wp_exit ?_
      refine B1 ?_
      refine B1 ?_
      refine E3 ?_
      refine A4 ?_
      refine wp_seq (rsE H9 [1,0,0,0,0,0,0,0,0,0,1,1,0,0] hB hG fun L hL=>?_)
      refine gmd (C:=fun v ⟨hgu,hB,hG,_⟩=>A2Q _ (HN.out.grow hG).tab) ?_
      repeat first | refine gya ?_ | refine gyr ?_ | refine gna ?_ | refine gyb (by (rintro v ⟨hgu,hB,hG,-⟩ N hN;have r:=hB.r;simp only [BxR] at r;obtain ⟨q0,q1,q2,q3,q4,q5⟩:=(HN.out.grow hG).cells;(try obtain ⟨a1,a2,a3,a4,a5⟩:=Hka.out v hG);go_simp;exact hN)) ?_
      refine gxd (X:=Ax) (fun x : Ax=>.slice x.1 l1 x.2) (fun x W=>Lhz W x.1 WL) (fun x u u' hg h=>Lhz.grow h hg) (fun x157=>?_) (C:=by (rintro v ⟨hgu,hB,hG,-⟩;exact Hrw.out _ (HN.out.grow hG)))
      first | refine gmd (C:=fun v ⟨⟨hgu,hB,hG,_⟩,hx157⟩=>Hsm.out _ x58 x157 (HW.out.grow hG) hx157) ?_ | refine E4 ?_
      refine gs ?_
      refine geT hL ?_
      clear hB hG hL L
      rintro u ⟨⟨-,hB,hG,-⟩,hx157⟩
      refine rt Tryz.results9 ?_
      exact ⟨rfl,HG1.out.trans hG⟩
end Go.Proofs.YtjmopgepnndckaaGreatDoor
