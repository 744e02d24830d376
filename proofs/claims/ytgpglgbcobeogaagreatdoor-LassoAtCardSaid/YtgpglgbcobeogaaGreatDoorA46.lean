/- Contracts and laws. -/
import Derived.Test.YtgpglgbcobeogaaGreatDoorA44
import Derived.Test.YtgpglgbcobeogaaGreatDoorA45
set_option linter.unusedSimpArgs false
set_option linter.unusedVariables false
set_option maxHeartbeats 8000000
set_option maxRecDepth 100000
namespace Go.Proofs.YtgpglgbcobeogaaGreatDoor
open Go Go.RowKit
theorem B4L (A : Option Addr) (ks : List Kz) (n c : Nat) (a : Rat) (pa : Az) (hn : ks.length = n) (sh : ShapeK (ks.map H8)) (od : OrderK (ks.map H8)) (ha : 0 ≤ a) (s : Nat) (haz : qs a ≤ s) (hs : ∀ i,i < n → qs (knQ (ks.map H8) i) ≤ s) (hsw : ∀ i,i < n → ∀ j,qs (gq (knW (ks.map H8) i) j) ≤ s) (hB : 20 * s + 20 ≤ BIG) (w : World) (h : Lkz w A ks) (hp : Rz w pa a) :
  Calls Tryz.prog 46 #[.slice A n c,rqV pa.1 pa.2 a] w (G7 (fun x : Ax=>.slice x.1 (knW (ks.map H8) 0).length x.2) (fun x W=>Lz W x.1 (A3s (ks.map H8) a)) w):=by
 have hkl : (ks.map H8).length = n:=by rw [List.length_map];exact hn
 have hn1 : 1 ≤ n:=by rw [← hkl];exact sh.one
 have hn1000 : n ≤ 1000:=by rw [← hkl];exact sh.most
 have hat : ∀ i,i < n → ∃ (b o : Nat) (p : Az) (P : Ax),A = some ⟨b,o,none⟩ ∧ ∀ W,A4 w W → (Cz W b (o + i * 4) p (knQ (ks.map H8) i) ∧ W.cell? ⟨b,o + i * 4 + 3,none⟩ = some (.slice P.1 (knW (ks.map H8) i).length P.2)) ∧ Rz W p (knQ (ks.map H8) i) ∧ Lz W P.1 (knW (ks.map H8) i):=fun i hi=>h.at (by omega)
 generalize ks.map H8 = l at *
 obtain ⟨K1,K2,K3⟩:=A3i sh od ha
 have hall : ∀ i,i < n → (knW l i).length = (knW l 0).length:=fun i hi=>sh.all i (by omega)
 have hm1:=sh.some
 have hm20:=sh.cols
 have hfall : 1 ≤ atI l a → knQ l (atI l a) < knQ l (atI l a - 1):=fun h1=>od.falls _ h1 K1
 unfold A3s
 obtain ⟨K,hK⟩ : ∃ K,K = atI l a:=⟨_,rfl⟩
 rw [← hK] at K1 K2 K3 hfall ⊢
 rw [hkl] at K1
 obtain ⟨m,hm⟩ : ∃ m,m = (knW l 0).length:=⟨_,rfl⟩
 rw [← hm] at hm1 hm20 ⊢
 simp only [← hm] at hall
 obtain ⟨bb,ob,p0,P0,hA,h0⟩:=hat 0 (by omega)
 subst hA
 have hat2 : ∀ i,i < n → ∃ (p : Az) (P : Ax),∀ W,A4 w W → (Cz W bb (ob + i * 4) p (knQ l i) ∧ W.cell? ⟨bb,ob + i * 4 + 3,none⟩ = some (.slice P.1 m P.2)) ∧ Rz W p (knQ l i) ∧ Lz W P.1 (knW l i):=fun i hi=>by
  obtain ⟨b',o',p,P,e',h'⟩:=hat i hi
  rw [hall i hi] at h'
  cases e'
  exact ⟨p,P,h'⟩
 have hni : (0 : Int) < (n : Int):=by omega
 have hnp : 0 < n:=by omega
 have hcmp : ∀ i,i < n → ∃ (p : Az) (X : Rat),X = knQ l i ∧ (∀ W,A4 w W → Cz W bb (ob + i * 4) p X) ∧ ∀ W,A4 w W → Calls Tryz.prog 103 #[rqV pa.1 pa.2 a,rqV p.1 p.2 X] W fun e w'=>e = .returned (.int .i64 (G6 a X)) ∧ A4 W w':=fun i hi=>by
  obtain ⟨p,P,h'⟩:=hat2 i hi
  have z:=hs i hi
  exact ⟨p,knQ l i,rfl,fun W hg=>(h' W hg).1.1,fun W hg=>A42 pa.1 pa.2 p.1 p.2 a _ W (hp.grow hg).a (hp.grow hg).b (h' W hg).2.1.a (h' W hg).2.1.b (by omega)⟩
 obtain ⟨z1,X0,hX0,hrd0,hcm0⟩:=hcmp 0 (by omega)
 rw [Nat.zero_mul,Nat.add_zero] at hrd0
 have hr0 : ∀ W,A4 w W → W.cell? ⟨bb,ob + 3,none⟩ = some (.slice P0.1 m P0.2):=fun W hg=>by
  have h1:=(h0 W hg).1.2
  rw [Nat.zero_mul,Nat.add_zero,← hm] at h1
  exact h1
 have hw0 : ∀ W,A4 w W → Lz W P0.1 (knW l 0):=fun W hg=>(h0 W hg).2.2
 have hc0 : 0 ≤ G6 a X0 ↔ knQ l 0 ≤ a:=by
  rw [hX0]
  unfold G6
  by_cases h1 : a < knQ l 0
  ·rw [if_pos h1]
   have : ¬ knQ l 0 ≤ a:=by grind
   simp [this]
  ·rw [if_neg h1]
   have : knQ l 0 ≤ a:=by grind
   simp only [this,iff_true]
   split <;> decide
 obtain ⟨C0,hC0⟩ : ∃ C,C = G6 a X0:=⟨_,rfl⟩
 rw [← hC0] at hc0
 simp only [← hC0] at hcm0
 have Hrd0:=Lib.hid hrd0
 have Hcm0:=Lib.hid hcm0
 have Hr0:=Lib.hid hr0
 have Hw0:=Lib.hid hw0
 have Hat:=Lib.hid hat2
 have Hcmp:=Lib.hid hcmp
 have Hc0:=Lib.hid hc0
 have Hp:=Lib.hid (fun W (hg : A4 w W)=>hp.grow hg)
 have HK:=Lib.hid (And.intro K2 (And.intro K3 hfall))
 have Hall:=Lib.hid hall
 have Hs:=Lib.hid hs
 have Hsw:=Lib.hid hsw
 clear hat hat2 hcmp hrd0 hcm0 hr0 hw0 hc0 h0 h hC0 hX0 hK hm sh od hn hkl ha hall K2 K3 hfall hs hsw hp
 go_enter Tryz.func46,Tryz.ntmps46
 refine en1 ?_
 intro u hG b3 hB hF
 refine wp_seq ?_
 by_cases hq : knQ l 0 ≤ a
 ·have fC : decide (0 ≤ C0) = true:=by simp;exact Hc0.out.2 hq
  rw [if_pos hq]
  clear hq
  refine wp_seq (rdC U4 [] [(0,0),(0,1),(0,2),(0,3),(0,4),(1,5)] hB hG fun K L hN hL=>?_)
  repeat first | refine gya ?_ | refine gyr ?_ | refine gna ?_ | refine gyb (by (rintro v ⟨hgu,hB,hG,-⟩ N hN;have r:=hB.r;simp only [BxR] at r;obtain ⟨q1,q2,q3⟩:=Hrd0.out v hG;go_simp;exact hN)) ?_
  refine gmd (C:=fun v ⟨hgu,hB,hG,_⟩=>Hcm0.out _ hG) ?_
  refine geC hL ?_
  clear hB hG hL L
  rintro u ⟨-,hB,hG,-⟩
  refine gtT ?_
  clear hN K
  refine wp_cond_true (rfl) ?_
  refine wp_seq ?_
  (first | have q0:=Hr0.out u hG | skip)
  refine r0N ?_
  refine rt Tryz.results46 ?_
  exact ⟨P0,rfl,Hw0.out _ hG,hG⟩
 ·have fC : decide (0 ≤ C0) = false:=by
   have h1 : ¬ 0 ≤ C0:=fun h1=>hq (Hc0.out.1 h1)
   simp;omega
  rw [if_neg hq]
  have hK1 : 1 ≤ K:=by
   rcases Nat.eq_zero_or_pos K with h1 | h1
   ·have h2:=HK.out.2.1
    rw [h1] at h2
    exact absurd (by grind : knQ l 0 ≤ a) hq
   ·exact h1
  obtain ⟨J,hJ⟩ : ∃ J,J = K - 1:=⟨_,rfl⟩
  rw [← hJ]
  have hJn : J < n:=by omega
  have hJi : (J : Int) < (n : Int):=by omega
  have hKi : (K : Int) < (n : Int):=by omega
  have fw : IntKind.i64.wrap ((K : Int) - 1) = (J : Int):=by rw [IntWalk.i64_in _ (by omega)];omega
  have hfl : knQ l K < knQ l J:=by rw [hJ];exact HK.out.2.2 hK1
  obtain ⟨pJ,PJ,hPJ⟩:=Hat.out J hJn
  obtain ⟨pK,PK,hPK⟩:=Hat.out K K1
  have zJ:=Hs.out J hJn
  have zK:=Hs.out K K1
  have hWl:=Hall.out K K1
  have hVl:=Hall.out J hJn
  have hWs:=Hsw.out K K1
  have hVs:=Hsw.out J hJn
  obtain ⟨qJ,hqJ⟩ : ∃ q,q = knQ l J:=⟨_,rfl⟩
  obtain ⟨qK,hqK⟩ : ∃ q,q = knQ l K:=⟨_,rfl⟩
  obtain ⟨WJ,hWJ⟩ : ∃ q,q = knW l J:=⟨_,rfl⟩
  obtain ⟨WK,hWK⟩ : ∃ q,q = knW l K:=⟨_,rfl⟩
  rw [← hqJ,← hWJ] at hPJ
  rw [← hqK,← hWK] at hPK
  rw [← hqJ] at zJ hfl
  rw [← hqK] at zK hfl
  rw [← hWK] at hWl hWs
  rw [← hWJ] at hVl hVs
  rw [← hqJ,← hqK,← hWJ,← hWK]
  have s1:=fun W (hg : A4 w W)=>A3y pJ.1 pJ.2 pa.1 pa.2 qJ a W (hPJ W hg).2.1.a (hPJ W hg).2.1.b (Hp.out W hg).a (Hp.out W hg).b (by omega)
  have sk:=fun W (hg : A4 w W)=>A42 pa.1 pa.2 pK.1 pK.2 a qK W (Hp.out W hg).a (Hp.out W hg).b (hPK W hg).2.1.a (hPK W hg).2.1.b (by omega)
  have fk1 : decide (G6 a qK < 0) = false:=by
   have h1 : ¬ a < qK:=by rw [hqK];exact HK.out.2.1
   unfold G6
   rw [if_neg h1]
   split <;> rfl
  obtain ⟨CK,hCK⟩ : ∃ C,C = G6 a qK:=⟨_,rfl⟩
  rw [← hCK] at fk1
  simp only [← hCK] at sk
  have SK:=Lib.hid (And.intro sk fk1)
  clear sk fk1 hCK
  have s2:=fun W (hg : A4 w W)=>A3y pJ.1 pJ.2 pK.1 pK.2 qJ qK W (hPJ W hg).2.1.a (hPJ W hg).2.1.b (hPK W hg).2.1.a (hPK W hg).2.1.b (by omega)
  have y1 : qs (C4 qJ a) ≤ 2 * s + 1:=by have := T4 qJ a;unfold C4;omega
  have y2 : qs (C4 qJ qK) ≤ 2 * s + 1:=by have := T4 qJ qK;unfold C4;omega
  have y3 : C4 qJ qK ≠ 0:=fun e=>by unfold C4 at e;grind
  obtain ⟨D1,hD1⟩ : ∃ q,q = C4 qJ a:=⟨_,rfl⟩
  obtain ⟨D2,hD2⟩ : ∃ q,q = C4 qJ qK:=⟨_,rfl⟩
  rw [← hD1] at y1
  rw [← hD2] at y2 y3
  rw [← hD1,← hD2]
  simp only [← hD1] at s1
  simp only [← hD2] at s2
  have s3:=fun W (x y : Az) e1 e2 e3 e4=>B1R x.1 x.2 y.1 y.2 D1 D2 W e1 e2 e3 e4 (by omega) y3
  have y4 : qs (I0 D1 D2) ≤ 4 * s + 2:=by have := A2I D1 D2;unfold I0;omega
  obtain ⟨t,ht⟩ : ∃ q,q = I0 D1 D2:=⟨_,rfl⟩
  rw [← ht] at y4 ⊢
  simp only [← ht] at s3
  obtain ⟨f,hf⟩ : ∃ f : Nat → Rat,f = fun c=>G9 (gq WJ c) (E7 t (C4 (gq WK c) (gq WJ c))):=⟨_,rfl⟩
  rw [← hf]
  obtain ⟨bw,ow,hPw⟩:=(hPK w (A4.refl w)).2.2.addr (by omega)
  obtain ⟨bv,ov,hPv⟩:=(hPJ w (A4.refl w)).2.2.addr (by omega)
  obtain ⟨PK1,PK2⟩:=PK
  obtain ⟨PJ1,PJ2⟩:=PJ
  simp only at hPw hPv hPK hPJ
  subst hPw hPv
  have hel : ∀ j,j < m → ∃ (r v : Az) (X V E M : Rat),(∀ W,A4 w W → W.cell? ⟨bb,ob + K * 4 + 3,none⟩ = some (.slice (some ⟨bw,ow,none⟩) m PK2) ∧ W.cell? ⟨bb,ob + J * 4 + 3,none⟩ = some (.slice (some ⟨bv,ov,none⟩) m PJ2) ∧ Cz W bw (ow + j * 3) r X ∧ Cz W bv (ov + j * 3) v V) ∧ (∀ W,A4 w W → Calls Tryz.prog 104 #[rqV r.1 r.2 X,rqV v.1 v.2 V] W (Ret (H6 E) W)) ∧
    (∀ W (x : Az) (y : Az),Rz W x t → Rz W y E → Calls Tryz.prog 28 #[rqV x.1 x.2 t,rqV y.1 y.2 E] W (Ret (H6 M) W)) ∧ (∀ W (y : Az),A4 w W → Rz W y M → Calls Tryz.prog 107 #[rqV v.1 v.2 V,rqV y.1 y.2 M] W (Ret (H6 (f j)) W)):=fun j hj=>by
   obtain ⟨r,hr⟩:=(hPK w (A4.refl w)).2.2.read (i:=j) (by omega)
   obtain ⟨v,hv⟩:=(hPJ w (A4.refl w)).2.2.read (i:=j) (by omega)
   have g1:=hWs j
   have g2:=hVs j
   have g3:=T4 (gq WK j) (gq WJ j)
   have g4:=Z7 t (C4 (gq WK j) (gq WJ j))
   refine ⟨r,v,gq WK j,gq WJ j,C4 (gq WK j) (gq WJ j),E7 t (C4 (gq WK j) (gq WJ j)),fun W hg=>⟨(hPK W hg).1.2,(hPJ W hg).1.2,(hr W hg).2,(hv W hg).2⟩,fun W hg=>A3y r.1 r.2 v.1 v.2 _ _ W (hr W hg).1.a (hr W hg).1.b (hv W hg).1.a (hv W hg).1.b (by omega),fun W x y e1 e2=>A9g x.1 x.2 y.1 y.2 _ _ W e1.a e1.b e2.a e2.b (by unfold C4;omega),fun W y hg e1=>?_⟩
   rw [hf]
   exact A6i v.1 v.2 y.1 y.2 _ _ W (hv W hg).1.a (hv W hg).1.b e1.a e1.b (by unfold E7;unfold C4 at *;omega)
  have hrdJK : ∀ W,A4 w W → (Cz W bb (ob + J * 4) pJ qJ ∧ Cz W bb (ob + K * 4) pK qK) ∧ W.cell? ⟨bb,ob + K * 4 + 3,none⟩ = some (.slice (some ⟨bw,ow,none⟩) m PK2):=fun W hg=>⟨⟨(hPJ W hg).1.1,(hPK W hg).1.1⟩,(hPK W hg).1.2⟩
  have S1:=Lib.hid s1
  have S2:=Lib.hid s2
  have S3:=Lib.hid s3
  have Hel:=Lib.hid hel
  have HJK:=Lib.hid hrdJK
  have HJ:=Lib.hid hJ
  clear hq hJ hfl hPJ hPK zJ zK hWl hVl hWs hVs hqJ hqK hWJ hWK s1 s2 s3 y1 y2 y3 y4 hD1 hD2 ht hf hel hrdJK
  refine wp_seq (rdC U4 [] [(0,0),(0,1),(0,2),(0,3),(0,4),(1,5)] hB hG fun K L hN hL=>?_)
  repeat first | refine gya ?_ | refine gyr ?_ | refine gna ?_ | refine gyb (by (rintro v ⟨hgu,hB,hG,-⟩ N hN;have r:=hB.r;simp only [BxR] at r;obtain ⟨s1,s2,s3⟩:=Hrd0.out v hG;go_simp;exact hN)) ?_
  refine gmd (C:=fun v ⟨hgu,hB,hG,_⟩=>Hcm0.out _ hG) ?_
  refine geC hL ?_
  clear hB hG hL L
  rintro u ⟨-,hB,hG,-⟩
  refine gtT ?_
  clear hN K
  refine wp_cond_false (rfl) ?_
  refine wp_skip ?_
  refine A6 ?_
  refine r0T ?_
  refine wp_seq ?_
  refine wp_block ?_
  have h3f:=hF.1 b3 (by simp)
  clear hF
  go_loopw [5] (fun s0 wr=>∃ i : Nat,1 ≤ i ∧ i ≤ K ∧ s0 = .int .i64 i ∧ Bx wr [(b3,33,A7v pa a)] ∧ A4 w wr) (fun s0 _=>n - (intOf s0).toNat)
  case atStart=>exact ⟨1,Nat.le_refl _,hK1,rfl,hB,hG⟩
  case round =>
   clear hB hG
   obtain ⟨i,hi1,hi,rfl,hB,hG⟩:=hrel
   obtain ⟨u,rfl⟩ : ∃ x,x = wr:=⟨_,rfl⟩
   have hin : (i : Int) < (n : Int):=by omega
   have hF : Fr w [b3]:=⟨fun b hb=>by
    simp only [List.mem_cons,List.not_mem_nil,or_false] at hb
    subst hb
    exact h3f,by simp⟩
   rcases Nat.lt_or_ge i K with hlt | hge
   ·obtain ⟨pX,X,hX,hrd,hcm⟩:=Hcmp.out i (by omega)
    have hlq:=HK.out.1 i hlt
    have fC1 : decide (G6 a X < 0) = true:=by
     rw [hX]
     unfold G6
     rw [if_pos hlq]
     rfl
    obtain ⟨C,hC⟩ : ∃ C,C = G6 a X:=⟨_,rfl⟩
    rw [← hC] at fC1
    simp only [← hC] at hcm
    have Hrd:=Lib.hid hrd
    have Hcm:=Lib.hid hcm
    clear hrd hcm hX hC hlq
    refine wp_seq ?_
    refine wp_seq (rdC U4 [] [(0,0),(0,1),(0,2),(0,3),(0,4),(0,5),(1,6)] hB hG fun K L hN hL=>?_)
    repeat first | refine gya ?_ | refine gyr ?_ | refine gna ?_ | refine gyb (by (rintro v ⟨hgu,hB,hG,-⟩ N hN;have r:=hB.r;simp only [BxR] at r;obtain ⟨q1,q2,q3⟩:=Hrd.out v hG;go_simp;exact hN)) ?_
    refine gmd (C:=fun v ⟨hgu,hB,hG,_⟩=>Hcm.out _ hG) ?_
    refine geC hL ?_
    clear hB hG hL L
    rintro u ⟨-,hB,hG,-⟩
    refine gtT ?_
    clear hN K
    refine wp_cond_true (rfl) ?_
    refine wp_skip ?_
    refine A6 ?_
    refine wp_block ?_
    refine r0E ?_
    refine D4 ?_
    refine A6 ?_
    go_roundw
    case rel=>exact ⟨i + 1,by omega,by omega,by go_num,hB,hG⟩
    case measure=>simp [intOf];omega
   ·obtain rfl : K = i:=by omega
    have Hcm:=Lib.hid SK.out.1
    have fC1:=SK.out.2
    clear SK
    refine wp_seq ?_
    refine wp_seq (rdC U4 [] [(0,0),(0,1),(0,2),(0,3),(0,4),(0,5),(1,6)] hB hG fun K L hN hL=>?_)
    repeat first | refine gya ?_ | refine gyr ?_ | refine gna ?_ | refine gyb (by (rintro v ⟨hgu,hB,hG,-⟩ N hN;have r:=hB.r;simp only [BxR] at r;obtain ⟨⟨⟨q1,q2,q3⟩,r1,r2,r3⟩,r4⟩:=HJK.out v hG;go_simp;exact hN)) ?_
    refine gmd (C:=fun v ⟨hgu,hB,hG,_⟩=>Hcm.out _ hG) ?_
    refine geC hL ?_
    clear hB hG hL L
    rintro u ⟨-,hB,hG,-⟩
    refine gtT ?_
    clear hN K
    refine wp_cond_false (rfl) ?_
    refine wp_exit ?_
    refine B6 ?_
    refine B6 ?_
    refine E6 ?_
    refine A6 ?_
    refine wp_seq (rdC U4 [] [(0,0),(0,1),(0,2),(0,3),(0,4),(0,5),(0,6),(0,8),(0,9),(0,10),(0,11),(0,12),(0,13),(0,14),(0,15),(0,16),(0,17),(0,18),(1,7),(1,19),(1,20),(2,21)] hB hG fun K L hN hL=>?_)
    repeat first | refine gya ?_ | refine gyr ?_ | refine gna ?_ | refine gyb (by (rintro v ⟨hgu,hB,hG,-⟩ N hN;have r:=hB.r;simp only [BxR] at r;obtain ⟨⟨⟨q1,q2,q3⟩,r1,r2,r3⟩,r4⟩:=HJK.out v hG;go_simp;exact hN)) ?_
    refine grd (H6 D1) (fun (x37 : Ax × Ax)=>?_) (C:=by (rintro v ⟨hgu,hB,hG,-⟩;exact S1.out _ hG))
    refine grd (H6 D2) (fun (x49 : Ax × Ax)=>?_) (C:=by (rintro v ⟨⟨hgu,hB,hG,-⟩,hx37⟩;obtain ⟨hx37a,hx37b⟩ : Rn v x37.1 _ ∧ Rn v x37.2 _:=hx37;exact S2.out _ hG))
    refine grd (H6 t) (fun (x50 : Ax × Ax)=>?_) (C:=by (rintro v ⟨⟨⟨hgu,hB,hG,-⟩,hx37⟩,hx49⟩;obtain ⟨hx37a,hx37b⟩ : Rn v x37.1 _ ∧ Rn v x37.2 _:=hx37;obtain ⟨hx49a,hx49b⟩ : Rn v x49.1 _ ∧ Rn v x49.2 _:=hx49;exact S3.out _ x37 x49 hx37a hx37b hx49a hx49b))
    refine gaa (A3p _ _ _ _ _) fun b6 hb6 hn6=>?_
    replace hF:=hF.n1 [] hB hG hb6 hn6
    refine geC hL ?_
    clear hB hG hL L
    rintro u ⟨⟨⟨⟨⟨-,hB,hG,-⟩,hx37⟩,hx49⟩,hx50⟩,h6⟩
    replace hB:=hB.cons' h6
    clear h6
    obtain ⟨hx37a,hx37b⟩ : Rn u x37.1 _ ∧ Rn u x37.2 _:=hx37
    obtain ⟨hx49a,hx49b⟩ : Rn u x49.1 _ ∧ Rn u x49.2 _:=hx49
    obtain ⟨hx50a,hx50b⟩ : Rn u x50.1 _ ∧ Rn u x50.2 _:=hx50
    clear hb6 hn6
    refine gtT ?_
    clear hN K
    refine sv hB hF hG 0 0 [_,_,_] ?_
    intro u hu hBG
    replace hx37a:=hx37a.put hB 0 rfl (by first | decide | simp) _ _ hu
    replace hx37b:=hx37b.put hB 0 rfl (by first | decide | simp) _ _ hu
    replace hx49a:=hx49a.put hB 0 rfl (by first | decide | simp) _ _ hu
    replace hx49b:=hx49b.put hB 0 rfl (by first | decide | simp) _ _ hu
    replace hx50a:=hx50a.put hB 0 rfl (by first | decide | simp) _ _ hu
    replace hx50b:=hx50b.put hB 0 rfl (by first | decide | simp) _ _ hu
    clear hB hG hu
    obtain ⟨hB,hG⟩:=hBG
    refine wp_seq ?_
    have HBK:=Lib.hid (A7W hB.head)
    have HRT:=Lib.hid (A0x hx50a hx50b)
    clear hx50a hx50b
    refine r0N ?_
    have HG0:=Lib.hid hG
    clear hB hF hG
    obtain ⟨w0,rfl⟩ : ∃ x,x = w:=⟨_,rfl⟩
    obtain ⟨w,hwu⟩ : ∃ x,x = u:=⟨_,rfl⟩
    rw [← hwu] at HG0 HBK HRT
    have hB:=Bx.nil u
    have hF:=Fr.nil w
    have hG : A4 w u:=hwu ▸ A4.refl u
    clear hwu
    refine wp_seq ?_
    refine r0T ?_
    refine wp_block ?_
    clear hB hF
    go_loopw [8,7] (fun s0 s1 wr=>∃ (j : Nat) (ps : List Zr),j ≤ m ∧ s0 = .int .i64 j ∧ ps.map (·.2) = (List.range j).map f ∧ I8 wr ps ∧ wr.ownsRow w.heap.size 33 3 s1 j (ps.flatMap zrL) ∧ A4 w wr) (fun s0 _ _=>m - (intOf s0).toNat)
    case atStart=>exact ⟨0,[],Nat.zero_le _,rfl,rfl,I8.nil _,World.ownsRow_nil _ _ _ _,hG⟩
    case round =>
     clear hG
     obtain ⟨j,ps,hj,rfl,hps,hAl,ho,hG⟩:=hrel
     obtain ⟨u,rfl⟩ : ∃ x,x = wr:=⟨_,rfl⟩
     have hB:=Bx.nil u
     have hF:=Fr.nil w
     have Ho:=Lib.hid ho
     have Hps:=Lib.hid hps
     clear ho hps
     rcases Nat.lt_or_ge j m with hlt | hge2
     ·have hdec : decide ((j : Int) < (m : Int)) = true:=by simp;omega
      have hjm : (j : Int) < (m : Int):=by omega
      have hsu:=A9u f j
      obtain ⟨r,v,X,V,E,M,hrd2,e1,e2,e3⟩:=Hel.out j hlt
      obtain ⟨Q,hQ⟩ : ∃ q,q = f j:=⟨_,rfl⟩
      rw [← hQ] at hsu
      simp only [← hQ] at e3
      have Hsu:=Lib.hid hsu
      have Hrd2:=Lib.hid hrd2
      have E1:=Lib.hid e1
      have E2:=Lib.hid e2
      have E3:=Lib.hid e3
      clear hsu hrd2 e1 e2 e3 hQ
      refine wp_seq ?_
      refine wp_seq ?_
      (first | have q9:=(HJK.out u (HG0.out.trans hG)).2 | skip)
      refine r0N ?_
      refine wp_cond_true (rfl) ?_
      refine wp_skip ?_
      refine A6 ?_
      refine wp_seq ?_
      refine wp_block ?_
      refine A1c (w:=w) U4 31 [0] [(0,0),(0,1),(0,2),(0,3),(0,4),(0,5),(0,6),(0,7),(0,8),(0,9),(0,10),(0,11),(0,12),(0,13),(0,14),(0,15),(0,16),(0,17),(0,18),(0,19),(0,20),(0,21),(0,22),(0,23),(0,24),(0,25),(0,26),(0,27),(1,28),(1,29),(1,30)] (by kernel_rfl) (by kernel_rfl) (by simp only [List.drop_succ_cons,List.drop_zero];exact rfl) (fun _=>True) noG hB hG trivial ?_
      intro K L hN hL
      simp only [G1,List.getElem?_toArray,List.getElem?_cons_zero,List.getElem?_cons_succ]
      repeat first | refine gya ?_ | refine gyr ?_ | refine gna ?_ | refine gyb (by (rintro v ⟨hgu,hB,hG,-⟩ N hN;have r:=hB.r;simp only [BxR] at r;obtain ⟨q4,q5,⟨q1,q2,q3⟩,r1,r2,r3⟩:=Hrd2.out v (HG0.out.trans hG);obtain ⟨k1,k2,k3⟩:=HBK.out v hG;go_simp;exact hN)) ?_
      refine grd (H6 E) (fun (x89 : Ax × Ax)=>?_) (C:=by (rintro v ⟨hgu,hB,hG,-⟩;exact E1.out _ (HG0.out.trans hG)))
      refine grd (H6 M) (fun (x90 : Ax × Ax)=>?_) (C:=by (rintro v ⟨⟨hgu,hB,hG,-⟩,hx89⟩;obtain ⟨hx89a,hx89b⟩ : Rn v x89.1 _ ∧ Rn v x89.2 _:=hx89;exact E2.out _ x50 x89 (HRT.out.grow hG) (A0x hx89a hx89b)))
      refine grd (H6 Q) (fun (x91 : Ax × Ax)=>?_) (C:=by (rintro v ⟨⟨⟨hgu,hB,hG,-⟩,hx89⟩,hx90⟩;obtain ⟨hx89a,hx89b⟩ : Rn v x89.1 _ ∧ Rn v x89.2 _:=hx89;obtain ⟨hx90a,hx90b⟩ : Rn v x90.1 _ ∧ Rn v x90.2 _:=hx90;exact E3.out _ x90 (HG0.out.trans hG) (A0x hx90a hx90b)))
      refine I3 ?_
      rintro v ⟨⟨⟨⟨hgu,hB1,hG1,-⟩,hx89⟩,hx90⟩,hx91⟩
      replace hAl:=hAl.grow hgu
      obtain ⟨hx89a,hx89b⟩ : Rn v x89.1 _ ∧ Rn v x89.2 _:=hx89
      obtain ⟨hx90a,hx90b⟩ : Rn v x90.1 _ ∧ Rn v x90.2 _:=hx90
      obtain ⟨hx91a,hx91b⟩ : Rn v x91.1 _ ∧ Rn v x91.2 _:=hx91
      have ROWn:=Lib.hid (C9 Ho.out hgu)
      clear Ho
      have Ho:=ROWn
      clear ROWn
      clear hB hG
      have hB:=hB1
      have hG:=hG1
      clear hB1 hG1
      refine hL _ _ ?_
      clear hL L hgu
      obtain ⟨u,rfl⟩ : ∃ x,x = v:=⟨_,rfl⟩
      refine S7 A4E w.heap.size _ _ _ _ (zL x91 Q) rfl rfl (A5Y x91.1 x91.2 Q u) rfl (fun _=>rfl) (fun _=>rfl) (fun _ _=>rfl) Ho.out (by omega) (by omega) hG.sz fun p v' w' g1 g2 g3=>?_
      have hBn:=Bx.nil w'
      have hGn:=S6 Ho.out hG g2
      replace hAl:=hAl.own Ho.out (by decide) g2
      replace hx89a:=hx89a.own Ho.out (by decide) g2
      replace hx89b:=hx89b.own Ho.out (by decide) g2
      replace hx90a:=hx90a.own Ho.out (by decide) g2
      replace hx90b:=hx90b.own Ho.out (by decide) g2
      replace hx91a:=hx91a.own Ho.out (by decide) g2
      replace hx91b:=hx91b.own Ho.out (by decide) g2
      clear Ho hB hG
      have Ho:=Lib.hid g1
      have hB:=hBn
      have hG:=hGn
      clear g1 g2 g3 hBn hGn
      obtain ⟨u,rfl⟩ : ∃ x,x = w':=⟨_,rfl⟩
      simp only [Act.put,List.setIfInBounds_toArray,List.set_cons_succ,List.set_cons_zero]
      refine NoK.norm (hN _ _ ?_)
      clear hN K
      refine D4 ?_
      refine A6 ?_
      refine r0E ?_
      refine A6 ?_
      go_roundw
      case rel=>exact ⟨j + 1,ps ++ [(x91,Q)],by omega,by go_num,by rw [List.map_append,Hps.out,Hsu.out];rfl,hAl.snoc hx91a hx91b,by have := Ho.out;rw [List.flatMap_append];simpa [zrL] using this,hG⟩
      case measure=>simp [intOf];omega
     ·obtain rfl : m = j:=by omega
      have hdec : decide ((m : Int) < (m : Int)) = false:=by simp
      obtain ⟨A',cc,rfl,hcc1,hcc2,hL,hkl⟩:=A7J Ho.out hAl
      rw [Hps.out] at hL
      have HL:=Lib.hid hL
      clear hL hkl Ho Hps hAl
      refine wp_seq ?_
      refine wp_seq ?_
      (first | have q9:=(HJK.out u (HG0.out.trans hG)).2 | skip)
      refine r0N ?_
      refine wp_cond_false (rfl) ?_
      refine wp_exit ?_
      refine B6 ?_
      refine B6 ?_
      refine E6 ?_
      refine A6 ?_
      refine r0T ?_
      refine rt Tryz.results46 ?_
      exact ⟨(A',cc),rfl,HL.out,HG0.out.trans hG⟩
section
variable {u w' : World} {B : Nat} {e : TypeId} {size n : Nat} {v : Value} {xs : List Value} {o : Obj}
theorem A3F {b : Nat} {cs : Array Value} {T : TypeId} {fr : Nat × Nat} (hb : u.heap[b]? = some (.cells cs T fr)) (h : u.ownsRow B e size v n xs) (ht : e ≠ T) (hg : (u.alloc o).grownBy w' v.ownBlock) : w'.heap[b]? = u.heap[b]?:=by
 have hlt:=Q3 hb
 have h2 : (u.alloc o).heap[b]? = u.heap[b]?:=(A4.alloc u o).block b hlt
 refine (hg.block b (by rw [I2];omega) fun hxe=>?_).trans h2
 obtain ⟨_,h | ⟨g,cap,cur,rfl,hb',hh,hn,hc',hs,ht2⟩⟩:=h
 ·rw [h.1] at hxe;cases hxe
 ·have h1 : b = g:=Option.some.inj hxe
  rw [h1,hh] at hb
  injection hb with hb
  injection hb with _ h3 _
  exact ht h3
structure Lzt (u : World) (A : Option Addr) (l : List Rat) : Prop where
 lz : Lz u A l
 ty : ∀ b off,A = some ⟨b,off,none⟩ → ∃ cs fr,u.heap[b]? = some (.cells cs 33 fr)
structure Lqt (u : World) (A : Option Addr) (l : List Rat) : Prop where
 lq : Lq u A l
 ty : ∀ b off,A = some ⟨b,off,none⟩ → ∃ cs fr,u.heap[b]? = some (.cells cs 48 fr)
theorem Lzt.grow {u u' : World} {A : Option Addr} {l : List Rat} (h : Lzt u A l) (hg : A4 u u') : Lzt u' A l:=⟨h.lz.grow hg,fun b off hA=>by
 obtain ⟨cs,fr,hb⟩:=h.ty b off hA
 exact ⟨cs,fr,(hg.block b (Q3 hb)).trans hb⟩⟩
theorem Lqt.grow {u u' : World} {A : Option Addr} {l : List Rat} (h : Lqt u A l) (hg : A4 u u') : Lqt u' A l:=⟨h.lq.grow hg,fun b off hA=>by
 obtain ⟨cs,fr,hb⟩:=h.ty b off hA
 exact ⟨cs,fr,(hg.block b (Q3 hb)).trans hb⟩⟩
theorem cell_of_heap {u u' : World} {b : Nat} (h : u'.heap[b]? = u.heap[b]?) (off : Nat) : u'.cell? ⟨b,off,none⟩ = u.cell? ⟨b,off,none⟩:=by
 unfold World.cell?
 rw [h]
theorem Lzt.stay {A : Option Addr} {l : List Rat} (hl : Lzt u A l) (h : u.ownsRow B e size v n xs) (h1 : e ≠ 33) (h2 : e ≠ 193) (hg : (u.alloc o).grownBy w' v.ownBlock) : Lzt w' A l:=by
 refine ⟨fun hne=>?_,fun b off hA=>?_⟩
 ·obtain ⟨b,off,eA,hb,hc⟩:=hl.lz hne
  obtain ⟨cs,fr,hty⟩:=hl.ty b off eA
  have hs:=A3F hty h h1 hg
  refine ⟨b,off,eA,Q3 (hs.trans hty),fun i hi=>?_⟩
  obtain ⟨p,g1,g2,g3,g4⟩:=hc i hi
  exact ⟨p,⟨g1.1.own h h2 hg,g1.2.own h h2 hg⟩,(cell_of_heap hs _).trans g2,(cell_of_heap hs _).trans g3,(cell_of_heap hs _).trans g4⟩
 ·obtain ⟨cs,fr,hty⟩:=hl.ty b off hA
  exact ⟨cs,fr,(A3F hty h h1 hg).trans hty⟩
theorem Lqt.stay {A : Option Addr} {l : List Rat} (hl : Lqt u A l) (h : u.ownsRow B e size v n xs) (h1 : e ≠ 48) (hg : (u.alloc o).grownBy w' v.ownBlock) : Lqt w' A l:=by
 refine ⟨fun hne=>?_,fun b off hA=>?_⟩
 ·obtain ⟨b,off,eA,hb,hc⟩:=hl.lq hne
  obtain ⟨cs,fr,hty⟩:=hl.ty b off eA
  have hs:=A3F hty h h1 hg
  exact ⟨b,off,eA,Q3 (hs.trans hty),fun i q hi j v hj=>(cell_of_heap hs _).trans (hc i q hi j v hj)⟩
 ·obtain ⟨cs,fr,hty⟩:=hl.ty b off hA
  exact ⟨cs,fr,(A3F hty h h1 hg).trans hty⟩
end
theorem Lzt.put {u u' : World} {A : Option Addr} {l : List Rat} (h : Lzt u A l) {bl : List (Nat × TypeId × Array Value)} (hB : Bx u bl) (k : Nat) {b : Nat} {t : TypeId} {cs : Array Value} (hk : bl[k]? = some (b,t,cs)) (ht1 : t ≠ 33) (ht2 : t ≠ 193) (i : Nat) (vs : List Value) (hu : D5 u b i vs = u') : Lzt u' A l:=by
 have hb : Blk u b t cs:=hB _ (List.mem_of_getElem? hk)
 have hg : u.grownBy u' (some b):=hu ▸ A0g b vs i u
 have key : ∀ (b' : Nat) (cs' : Array Value) (fr : Nat × Nat),u.heap[b']? = some (Obj.cells cs' 33 fr) → u'.heap[b']? = u.heap[b']?:=fun b' cs' fr h'=>hg.block b' (Q3 h') fun e=>by
  have e:=Option.some.inj e
  subst e
  unfold Blk at hb
  rw [hb] at h'
  injection h' with h'
  injection h' with _ h3 _
  exact ht1 h3
 refine ⟨fun hne=>?_,fun b' off hA=>?_⟩
 ·obtain ⟨b',off,eA,hb',hc⟩:=h.lz hne
  obtain ⟨cs',fr,hty⟩:=h.ty b' off eA
  have hs:=key b' cs' fr hty
  refine ⟨b',off,eA,Q3 (hs.trans hty),fun j hj=>?_⟩
  obtain ⟨p,g1,g2,g3,g4⟩:=hc j hj
  exact ⟨p,⟨g1.1.put hB k hk ht2 i vs hu,g1.2.put hB k hk ht2 i vs hu⟩,(cell_of_heap hs _).trans g2,(cell_of_heap hs _).trans g3,(cell_of_heap hs _).trans g4⟩
 ·obtain ⟨cs',fr,hty⟩:=h.ty b' off hA
  exact ⟨cs',fr,(key b' cs' fr hty).trans hty⟩
theorem B2c {u : World} {B n : Nat} {v : Value} {ps : List Zr} (h : u.ownsRow B 33 3 v n (ps.flatMap zrL)) (ha : I8 u ps) : ∃ A c,v = .slice A n c ∧ (0 < n → ∃ g,A = some ⟨g,0,none⟩) ∧ n ≤ c ∧ Lzt u A (ps.map (·.2)) ∧ n = ps.length:=by
 obtain ⟨A,c,e1,-,-,hL,hk⟩:=A7J h ha
 obtain ⟨_,h | ⟨g,cap,cur,rfl,hb,hh,hn',hc,hs,ht⟩⟩:=h
 ·obtain ⟨rfl,h0⟩:=h
  cases e1
  exact ⟨none,0,rfl,fun h=>by omega,Nat.le_refl _,⟨hL,fun b off hA=>by cases hA⟩,hk⟩
 ·cases e1
  exact ⟨_,_,rfl,fun _=>⟨g,rfl⟩,hn',⟨hL,fun b off hA=>by cases hA;exact ⟨cur,(0,0),hh⟩⟩,hk⟩
theorem B4b {u : World} {B n : Nat} {v : Value} {l : List Rat} (h : u.ownsRow B 48 5 v n (l.flatMap qL)) : ∃ A c,v = .slice A n c ∧ Lqt u A l ∧ n = l.length:=by
 obtain ⟨A,c,e1,-,-,hL,hk⟩:=M3 h
 obtain ⟨_,h | ⟨g,cap,cur,rfl,hb,hh,hn',hc,hs,ht⟩⟩:=h
 ·obtain ⟨rfl,h0⟩:=h
  cases e1
  exact ⟨none,0,rfl,⟨hL,fun b off hA=>by cases hA⟩,hk⟩
 ·cases e1
  exact ⟨_,_,rfl,⟨hL,fun b off hA=>by cases hA;exact ⟨cur,(0,0),hh⟩⟩,hk⟩
theorem A8I (A : Option Addr) (l : List Int) (c p n : Nat) (hp : p = l.length) (hn : n ≤ 1048576) (hpm : p ≤ 9223372036854775807) (hb : ∀ x ∈ l,-9223372036854775808 ≤ x ∧ x ≤ 9223372036854775807) (hn0 : 0 < n) (w : World) (h : Li w A l) :
  Calls Tryz.prog 31 #[.slice A p c,.int .i64 n] w (G7 (fun x : Nat × Nat=>.slice (some ⟨x.1,0,none⟩) n x.2) (fun x W=>n ≤ x.2 ∧ Lzt W (some ⟨x.1,0,none⟩) (U8 l n)) w) :=
 (B4Z A l c p n hp hn hpm hb w h).mono fun e w' ⟨v,ps,he,h1,h2,h3,hg⟩=>by
  obtain ⟨A',c',rfl,h4,h5,h6,-⟩:=B2c h3 h2
  obtain ⟨g,rfl⟩:=h4 hn0
  exact ⟨(g,c'),he,⟨h5,h1 ▸ h6⟩,hg⟩
theorem B3B (A : Option Addr) (l : List Rat) (c n : Nat) (hn : n = l.length) (hm : n ≤ 1048576) (hs : ∀ x ∈ l,qs x ≤ BIG) (w : World) (h : Lz w A l) (HT : Tab w) :
  Calls Tryz.prog 16 #[.slice A n c] w (G7 (fun x : Ax=>.slice x.1 n x.2) (fun x W=>Lqt W x.1 l) w) :=
 (B20 A l c n hn hm hs w h HT).mono fun e w' ⟨v,he,h1,hg⟩=>by
  obtain ⟨A',c',rfl,h4,-⟩:=B4b h1
  exact ⟨(A',c'),he,h4,hg⟩
theorem A9C (g L cap : Nat) (P : List Rat) (hP : P.length = L) (h1 : 1 ≤ L) (hc : L ≤ cap) : ∃ A' : Option Addr,(∀ W,(Instr.slice 25 (.slice (some ⟨g,0,none⟩) L cap) (some (.int .i64 1)) none none).run Tryz.prog W = .ok (.slice A' (L - 1) (cap - 1)) W) ∧ ∀ w,Lzt w (some ⟨g,0,none⟩) P → Lzt w A' (P.drop 1):=by
 refine ⟨if cap = 1 then some ⟨g,0,none⟩ else (some (⟨g,0,none⟩ : Addr)).map (·.add 3),fun W=>?_,fun w h=>⟨fun hne=>?_,fun b off hA=>?_⟩⟩
 ·have h3 : (1 : Int) ≤ (L : Int):=by omega
  go_simp
 ·have h2 : 2 ≤ L:=by
   rcases Nat.lt_or_ge 1 L with h | h
   ·exact h
   ·exact absurd (List.drop_eq_nil_of_le (by omega)) hne
  rw [if_neg (by omega)]
  obtain ⟨b,off,e,hb,hc⟩:=h.lz (fun e=>by rw [e] at hP;simp at hP;omega)
  cases e
  refine ⟨g,3,by simp [Addr.add],hb,fun i hi=>?_⟩
  rw [List.length_drop] at hi
  obtain ⟨p,h4,h5⟩:=hc (i + 1) (by omega)
  have e : gq (P.drop 1) i = gq P (i + 1):=by unfold gq;rw [List.getElem?_drop,Nat.add_comm]
  rw [e]
  refine ⟨p,h4,?_⟩
  rw [show 3 + i * 3 = 0 + (i + 1) * 3 by omega]
  exact h5
 ·have hbg : b = g:=by
   split at hA
   ·cases hA;rfl
   ·simp [Addr.add] at hA
    exact hA.1.symm
  rw [hbg]
  exact h.ty g 0 rfl
structure KnW (B n : Nat) (vo vp : Value) (zs : List Kz) (qz : List Kq) (W : World) : Prop where
 o : W.ownsRow B 82 4 vo n (zs.flatMap kzL)
 p : W.ownsRow B 84 6 vp n (qz.flatMap kqL)
 lz : zs.length = n
 lq : qz.length = n
 az : ∀ x ∈ zs,Rz W x.1 x.2.1 ∧ Lzt W x.2.2.1.1 x.2.2.2
 aq : ∀ x ∈ qz,Lqt W x.2.1.1 x.2.2
 same : zs.map H8 = qz.map G0
 small : ∀ x ∈ qz,qs x.1 ≤ 50 ∧ x.2.2.length ≤ 3 ∧ ∀ y ∈ x.2.2,qs y ≤ 5
section
variable {B n : Nat} {vo vp v' : Value} {zs : List Kz} {qz : List Kq} {u w' : World} {o : Obj}
theorem KnW.grow {W : World} (h : KnW B n vo vp zs qz u) (hg : A4 u W) : KnW B n vo vp zs qz W :=
 ⟨C9 h.o hg,C9 h.p hg,h.lz,h.lq,fun x hx=>⟨(h.az x hx).1.grow hg,(h.az x hx).2.grow hg⟩,fun x hx=>(h.aq x hx).grow hg,h.same,h.small⟩
theorem KnW.start (B : Nat) (u : World) : KnW B 0 (.slice none 0 0) (.slice none 0 0) [] [] u :=
 ⟨World.ownsRow_nil _ _ _ _,World.ownsRow_nil _ _ _ _,rfl,rfl,fun x hx=>absurd hx List.not_mem_nil,fun x hx=>absurd hx List.not_mem_nil,rfl,fun x hx=>absurd hx List.not_mem_nil⟩
structure KnX (B n : Nat) (vo vp : Value) (zs : List Kz) (qz : List Kq) (x : Kz) (W : World) : Prop where
 o : W.ownsRow B 82 4 vo (n + 1) (zs.flatMap kzL ++ kzL x)
 p : W.ownsRow B 84 6 vp n (qz.flatMap kqL)
 lz : zs.length = n
 lq : qz.length = n
 az : ∀ x ∈ zs,Rz W x.1 x.2.1 ∧ Lzt W x.2.2.1.1 x.2.2.2
 aq : ∀ x ∈ qz,Lqt W x.2.1.1 x.2.2
 same : zs.map H8 = qz.map G0
 small : ∀ x ∈ qz,qs x.1 ≤ 50 ∧ x.2.2.length ≤ 3 ∧ ∀ y ∈ x.2.2,qs y ≤ 5
 new : Rz W x.1 x.2.1 ∧ Lzt W x.2.2.1.1 x.2.2.2
theorem KnX.grow {W : World} {x : Kz} (h : KnX B n vo vp zs qz x u) (hg : A4 u W) : KnX B n vo vp zs qz x W :=
 ⟨C9 h.o hg,C9 h.p hg,h.lz,h.lq,fun x hx=>⟨(h.az x hx).1.grow hg,(h.az x hx).2.grow hg⟩,fun x hx=>(h.aq x hx).grow hg,h.same,h.small,⟨h.new.1.grow hg,h.new.2.grow hg⟩⟩
theorem A3R {p : Az} {q : Rat} {size m : Nat} {e : TypeId} {v : Value} {xs : List Value} (h : Rz u p q) (ho : u.ownsRow B e size v m xs) (ht : e ≠ 193) (hg : (u.alloc o).grownBy w' v.ownBlock) : Rz w' p q:=⟨h.1.own ho ht hg,h.2.own ho ht hg⟩
theorem KnW.addO {x : Kz} (h : KnW B n vo vp zs qz u) (hx : Rz u x.1 x.2.1 ∧ Lzt u x.2.2.1.1 x.2.2.2) (h1 : w'.ownsRow B 82 4 v' (n + 1) (zs.flatMap kzL ++ kzL x)) (hg : (u.alloc o).grownBy w' vo.ownBlock) : KnX B n v' vp zs qz x w' :=
 ⟨h1,X7 h.p (N2 h.o h.p (by decide)) hg,h.lz,h.lq,fun y hy=>⟨A3R (h.az y hy).1 h.o (by decide) hg,(h.az y hy).2.stay h.o (by decide) (by decide) hg⟩,fun y hy=>(h.aq y hy).stay h.o (by decide) hg,h.same,h.small,A3R hx.1 h.o (by decide) hg,hx.2.stay h.o (by decide) (by decide) hg⟩
theorem KnX.addP {x : Kz} {y : Kq} (h : KnX B n vo vp zs qz x u) (hy : Lqt u y.2.1.1 y.2.2) (he : H8 x = G0 y) (hs : qs y.1 ≤ 50 ∧ y.2.2.length ≤ 3 ∧ ∀ z ∈ y.2.2,qs z ≤ 5) (h1 : w'.ownsRow B 84 6 v' (n + 1) (qz.flatMap kqL ++ kqL y)) (hg : (u.alloc o).grownBy w' vp.ownBlock) : KnW B (n + 1) vo v' (zs ++ [x]) (qz ++ [y]) w':=by
 have ho:=X7 h.o (N2 h.p h.o (by decide)) hg
 refine ⟨by rw [List.flatMap_append];simpa using ho,by rw [List.flatMap_append];simpa using h1,by rw [List.length_append,h.lz];rfl,by rw [List.length_append,h.lq];rfl,fun z hz=>?_,fun z hz=>?_,by rw [List.map_append,List.map_append,h.same];simp [he],fun z hz=>?_⟩
 ·rcases List.mem_append.1 hz with hz | hz
  ·exact ⟨A3R (h.az z hz).1 h.p (by decide) hg,(h.az z hz).2.stay h.p (by decide) (by decide) hg⟩
  ·rw [List.mem_singleton] at hz
   subst hz
   exact ⟨A3R h.new.1 h.p (by decide) hg,h.new.2.stay h.p (by decide) (by decide) hg⟩
 ·rcases List.mem_append.1 hz with hz | hz
  ·exact (h.aq z hz).stay h.p (by decide) hg
  ·rw [List.mem_singleton] at hz
   subst hz
   exact hy.stay h.p (by decide) hg
 ·rcases List.mem_append.1 hz with hz | hz
  ·exact h.small z hz
  ·rw [List.mem_singleton] at hz
   subst hz
   exact hs
theorem KnW.both (h : KnW B n vo vp zs qz u) : ∃ (A : Option Addr) (c : Nat) (A' : Option Addr) (c' : Nat),vo = .slice A n c ∧ vp = .slice A' n c' ∧ Lkz u A zs ∧ Lk u A' qz:=by
 obtain ⟨A,c,e1,-,h1,-⟩:=A3q A8i (by omega) h.o
 obtain ⟨A',c',e2,-,h2,-⟩:=A3q B4M (by omega) h.p
 exact ⟨A,c,A',c',e1,e2,⟨h1,fun x hx=>⟨(h.az x hx).1,(h.az x hx).2.lz⟩⟩,h2,fun x hx=>(h.aq x hx).lq⟩
end
theorem A9D {l : List Kn} {a : Rat} {n s : Nat} (hn : l.length = n) (hs : ∀ i,i < n → qs (knQ l i) ≤ s) (hsw : ∀ i,i < n → ∀ j,qs (gq (knW l i) j) ≤ s) (ha : qs a ≤ s) (hi : atI l a < n) : ∀ x ∈ A0b l a,qs x ≤ 10 * s + 10:=fun x hx=>by
 unfold A0b at hx
 split at hx
 ·obtain ⟨j,hj,e⟩:=List.getElem_of_mem hx
  have h1:=hsw _ hi j
  have h2 : gq (knW l (atI l a)) j = x:=by unfold gq;rw [List.getElem?_eq_getElem hj,e];rfl
  rw [h2] at h1
  omega
 ·obtain ⟨j,hj,rfl⟩:=List.mem_map.1 hx
  have hj:=List.mem_range.1 hj
  have e1 : gq (X9 (l.getD (atI l a - 1) (0,[])) (l.getD (atI l a) (0,[])) (knW l 0).length) j = I0 (C4 (gq (knW l (atI l a)) j) (gq (knW l (atI l a - 1)) j)) (C4 (knQ l (atI l a)) (knQ l (atI l a - 1))):=V9 _ hj
  rw [e1]
  have h1:=hsw _ hi j
  have h2:=hsw (atI l a - 1) (by omega) j
  have h3:=hs _ hi
  have h4:=hs (atI l a - 1) (by omega)
  have h5:=T4 (gq (knW l (atI l a)) j) (gq (knW l (atI l a - 1)) j)
  have h6:=T4 (knQ l (atI l a)) (knQ l (atI l a - 1))
  have h7:=A2I (C4 (gq (knW l (atI l a)) j) (gq (knW l (atI l a - 1)) j)) (C4 (knQ l (atI l a)) (knQ l (atI l a - 1)))
  have h8:=T4 a (knQ l (atI l a))
  have h9:=Z7 (I0 (C4 (gq (knW l (atI l a)) j) (gq (knW l (atI l a - 1)) j)) (C4 (knQ l (atI l a)) (knQ l (atI l a - 1)))) (C4 a (knQ l (atI l a)))
  have h10:=A20 (gq (knW l (atI l a)) j) (E7 (I0 (C4 (gq (knW l (atI l a)) j) (gq (knW l (atI l a - 1)) j)) (C4 (knQ l (atI l a)) (knQ l (atI l a - 1)))) (C4 a (knQ l (atI l a))))
  unfold G9
  unfold E7 at *
  unfold I0 at *
  unfold C4 at *
  omega
theorem B0p : EI 79 84 6 80:=A0l (by kernel_rfl) (by kernel_rfl) (by omega)
theorem A9h : EI 78 82 4 80:=A0l (by kernel_rfl) (by kernel_rfl) (by omega)
theorem B1u (p : Az) (q : Rat) (P : Ax) (W : List Rat) (m : Nat) (hm : W.length = m) (w : World) : (Instr.buildSlice 78 1 #[(0,.agg #[.bool (E4 q.num),.slice p.1.1 (ln q.num.natAbs) p.1.2,.slice p.2.1 (ln q.den) p.2.2,.slice P.1 m P.2])]).run Tryz.prog w = .ok (.slice (some ⟨w.heap.size,0,none⟩) 1 1) (w.alloc (.cells (kzL (p,q,P,W)).toArray 82)):=by
 subst hm
 go_simp
 rfl
theorem B2f (q : Rat) (P : Ax) (W : List Rat) (m : Nat) (hm : W.length = m) (w : World) : (Instr.buildSlice 79 1 #[(0,.agg #[.bool (E4 q.num),.int .u64 (B7 q.num.natAbs),.string (B5 q.num.natAbs),.int .u64 (B7 (J6 q.den)),.string (B5 (J6 q.den)),.slice P.1 m P.2])]).run Tryz.prog w = .ok (.slice (some ⟨w.heap.size,0,none⟩) 1 1) (w.alloc (.cells (kqL (q,P,W)).toArray 84)):=by
 subst hm
 go_simp
 rfl
theorem A7U (d : Option Tmp) (ty : TypeId) (pos : String) (af : Array Edge) (gd : Option (Nat × Bool)) : M7 Tryz.prog ⟨d,.alloc 82,ty,pos,af,gd⟩ = .cells #[.bool false,.slice none 0 0,.slice none 0 0,.slice none 0 0] 82:=by kernel_rfl
theorem K4 : ∀ t ∈ [44,46,48,31,33,82],L8 Tryz.prog t:=by
 intro t ht
 simp only [List.mem_cons,List.not_mem_nil,or_false] at ht
 rcases ht with rfl | rfl | rfl | rfl | rfl | rfl
 ·exact U4 _ (by simp)
 ·exact U4 _ (by simp)
 ·exact U4 _ (by simp)
 ·exact U4 _ (by simp)
 ·exact U4 _ (by simp)
 ·exact fun _ _ _ _ _ _=>by rw [A7U];kernel_rfl
end Go.Proofs.YtgpglgbcobeogaaGreatDoor
