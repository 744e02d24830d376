/-
  Contracts and laws: Area.
-/
import Derived.Test.YtimjnkfcnpfoeaaGreatDoorA48
set_option linter.unusedSimpArgs false
set_option linter.unusedVariables false
namespace Go.Proofs.YtimjnkfcnpfoeaaGreatDoor
open Go Go.RowKit
set_option maxHeartbeats 8000000 in
set_option maxRecDepth 100000 in
theorem law9_ScoreArea (A : Option Addr) (la : List Bool) (ca : Nat) (B : Option Addr) (lb : List Int) (cb : Nat) (k z : Int) (hla : la.length ≤ 9223372036854775807) (hlc : la.length ≤ ca) (hlb : lb.length ≤ 9223372036854775807) (hbb : ∀ x ∈ lb, -9223372036854775808 ≤ x ∧ x ≤ 9223372036854775807)
  (hk0 : -9223372036854775808 ≤ k) (hk1 : k ≤ 9223372036854775807) (hz0 : -9223372036854775808 ≤ z) (hz1 : z ≤ 9223372036854775807) (w : World) (h1 : Lb w A la) (h2 : Li w B lb) (HT : Tab w) :
  Calls Tryz.prog 7 #[.slice A la.length ca, .slice B lb.length cb, .int .i64 k, .int .i64 z] w fun e w' => e = .returned (.bool true) ∧ Grow w w' := by
 obtain ⟨m, hm⟩ : ∃ m, m = min la.length 20 := ⟨_, rfl⟩
 obtain ⟨A', hsl, hA', hla'⟩ := cut_bools A la ca m hm hlc w h1
 obtain ⟨pa, hpa⟩ : ∃ p, p = la.length := ⟨_, rfl⟩
 obtain ⟨pb, hpb⟩ : ∃ p, p = lb.length := ⟨_, rfl⟩
 rw [← hpa] at hsl hm ⊢
 rw [← hpb]
 have hm20 : m ≤ 20 := by omega
 have fmin : min (pa : Int) 20 = (m : Int) := by omega
 generalize la.take m = is at hA' hla'
 have hR1 : ∀ W, Grow w W → Calls Tryz.prog 27 #[.slice B pb cb, .int .i64 m] W (RetY (fun x : Ax => .slice x.1 m x.2) (fun x W => Lz W x.1 (rowQ lb m)) W) := fun W hg =>
  (hand_Row B lb cb pb m hpb (by omega) (by omega) hbb W (h2.grow hg)).mono fun e w' ⟨A', c', he, h, hg'⟩ => ⟨(A', c'), he, h.1, hg'⟩
 have sP := rowQ_szA lb m
 have lP := rowQ_len lb m
 generalize rowQ lb m = P at *
 have hBB : 100000000 ≤ BIG := by unfold BIG; omega
 have hBI := BIG_le
 have hI1 : ∀ (W : World) (X : Ax), Lz W X.1 P → Tab W → Calls Tryz.prog 28 #[.slice X.1 m X.2] W (RetY (fun x : Ax => .slice x.1 m x.2) (fun x W => Lq W x.1 P) W) := fun W X hX hT =>
  (hand_InRow X.1 P X.2 m lP.symm (by omega) (fun x hx => Nat.le_trans (sP x hx) (by omega)) W hX hT).mono fun e w' ⟨A', c', he, h, hg'⟩ => ⟨(A', c'), he, h, hg'⟩
 have sK := rawQ_sz k
 have sZ := rawQ_sz z
 have hQk := fun (W : World) (hT : Tab W) => hand_Q k W hk0 hk1 hT
 have hQz := fun (W : World) (hT : Tab W) => hand_Q z W hz0 hz1 hT
 generalize rawQ k = QK at *
 generalize rawQ z = QZ at *
 have sA : qs (qabs QK) ≤ 5 := by rw [qs_qabs]; exact sK
 have s1 : qs (qint 1) ≤ 41 := qint_sz 1 (by omega)
 have s2 : qs (qint 2) ≤ 41 := qint_sz 2 (by omega)
 have hAb := fun (W : World) => frac_Abs QK (by have := qs_num QK; omega) W
 have hc0 : 0 < qadd (qabs QK) (qint 1) := by
  have h1 : 0 ≤ qabs QK := by
   unfold qabs
   by_cases h : 0 ≤ QK
   ·rw [Rat.abs_of_nonneg h]; exact h
   ·rw [Rat.abs_of_nonpos (by grind)]; grind
  have h2 : qint 1 = 1 := rfl
  unfold qadd
  grind
 generalize qabs QK = QA at *
 have sC : qs (qadd QA (qint 1)) ≤ 50 := Nat.le_trans (qs_qadd _ _) (by omega)
 have hAd1 := fun (W : World) (hT : Tab W) => frac_Add QA (qint 1) W (by omega) hT
 generalize qadd QA (qint 1) = CC at *
 have hMu := fun (X : Rat) (hX : qs X ≤ 50) (W : World) (hT : Tab W) => frac_Mul X CC W (by omega) hT
 have hAd2 := fun (X : Rat) (hX : qs X ≤ 50) (W : World) (hT : Tab W) => frac_Add (qmul X CC) QZ W (by have := qs_qmul X CC; omega) hT
 have hNg := fun (X : Rat) (hX : qs X ≤ 50) (W : World) => frac_Neg X (by have := qs_num X; omega) W
 have hOf1 := fun (W : World) => frac_Of 1 (by omega) (by omega) W
 have hOf2 := fun (W : World) => frac_Of 2 (by omega) (by omega) W
 have hC1 : ∀ W, Calls Tryz.prog 25 #[qV (qint 1), qV (qint 1)] W fun e w' => e = .returned (.int .i64 0) ∧ Grow W w' := fun W => by
  have := frac_Cmp (qint 1) (qint 1) W (by omega)
  rw [cmpQ_self] at this
  exact this
 obtain ⟨Kc, VA, VP, VN, Ln, no, yes, pts, a1, a2, a3, a4, a5⟩ := area_pack is P m CC QZ hla' lP hm20 sP hc0 sC (by omega)
 have gm : ∀ i, i < m → gq (P.map fun x => qadd (qmul x CC) QZ) i = qadd (qmul (gq P i) CC) QZ := fun i hi => gq_map _ (by omega)
 have gn : ∀ i, i < m → gq (P.map qneg) i = qneg (gq P i) := fun i hi => gq_map _ (by omega)
 have lm : (P.map fun x => qadd (qmul x CC) QZ).length = m := by rw [List.length_map, lP]
 have ln : (P.map qneg).length = m := by rw [List.length_map, lP]
 generalize (P.map fun x => qadd (qmul x CC) QZ) = PM at *
 generalize P.map qneg = PN at *
 have HA := Lib.hid hA'
 have HR1 := Lib.hid hR1
 have HI1 := Lib.hid hI1
 have HQk := Lib.hid hQk
 have HQz := Lib.hid hQz
 have HAb := Lib.hid hAb
 have HAd1 := Lib.hid hAd1
 have HMu := Lib.hid hMu
 have HAd2 := Lib.hid hAd2
 have HNg := Lib.hid hNg
 have HOf1 := Lib.hid hOf1
 have HOf2 := Lib.hid hOf2
 have HC1 := Lib.hid hC1
 have A1 := Lib.hid a1
 have A2 := Lib.hid a2
 have A3 := Lib.hid a3
 have A4 := Lib.hid a4
 have A5 := Lib.hid a5
 have Gm := Lib.hid gm
 have Gn := Lib.hid gn
 have LP := Lib.hid lP
 have LM := Lib.hid lm
 have LN := Lib.hid ln
 have SP := Lib.hid sP
 clear hA' hR1 hI1 hQk hQz hAb hAd1 hMu hAd2 hNg hOf1 hOf2 hC1 a1 a2 a3 a4 a5 gm gn lP lm ln sP sK sZ sA s1 s2 sC hc0 hla' hm hpa hpb h1 h2 hbb hlb hla hlc hk0 hk1 hz0 hz1 hBI
 go_enter Tryz.func7, Tryz.ntmps7
 refine en0 ?_
 intro u hG hB hF
 refine r0T ?_
 clear hsl
 refine wp_seq (rsE allocs [0, 0, 0, 1, 1, 0] hB hG fun L hL => ?_)
 refine gs ?_
 refine gxd (X := Ax) (fun x : Ax => .slice x.1 m x.2) (fun x W => Lz W x.1 P) (fun x u u' hg h => Lz.grow h hg) (fun x35 => ?_) (C := by (rintro v ⟨hgu, hB, hG, -⟩; exact HR1.out _ hG))
 refine gxd (X := Ax) (fun x : Ax => .slice x.1 m x.2) (fun x W => Lq W x.1 P) (fun x u u' hg h => Lq.grow h hg) (fun x36 => ?_) (C := by (rintro v ⟨⟨hgu, hB, hG, -⟩, hx35⟩; exact HI1.out _ x35 hx35 (HT.grow hG)))
 refine gs ?_
 refine geT hL ?_
 clear hB hG hL L
 rintro u ⟨⟨⟨hgu, hB, hG, -⟩, hx35⟩, hx36⟩
 have HX := Lib.hid hx36
 clear hx35 hx36
 clear hgu
 have HG0 := Lib.hid hG
 clear hB hF hG
 obtain ⟨w0, rfl⟩ : ∃ x, x = w := ⟨_, rfl⟩
 obtain ⟨w, hwu⟩ : ∃ x, x = u := ⟨_, rfl⟩
 rw [← hwu] at HG0 HX
 have hB := Bx.nil u
 have hF := Fr.nil w
 have hG : Grow w u := hwu ▸ Grow.refl u
 clear hwu
 replace HT := HT.grow HG0.out
 have HA2 := Lib.hid (HA.out.grow HG0.out)
 clear HA
 have HA := HA2
 clear HA2
 refine r0T ?_
 refine wp_seq ?_
 refine r0T ?_
 refine wp_block ?_
 go_loopw [10, 11, 12] (fun v1 v2 t wr => ∃ i : Nat, i ≤ m ∧ t = .int .i64 i ∧ wr.ownsRow w.heap.size 32 5 v1 i ((PM.take i).flatMap qL) ∧ wr.ownsRow w.heap.size 32 5 v2 i ((PN.take i).flatMap qL) ∧ Apart v1 v2 ∧ Grow w wr) (fun _ _ t _ => m - (intOf t).toNat)
 case atStart => exact ⟨0, Nat.zero_le _, rfl, World.ownsRow_nil _ _ _ _, World.ownsRow_nil _ _ _ _, fun g h => (by cases h), hG⟩
 case round =>
  clear hB hG
  obtain ⟨i, hi, rfl, ho1, ho2, ha1, hG⟩ := hrel
  obtain ⟨u, rfl⟩ : ∃ x, x = wr := ⟨_, rfl⟩
  have hB := Bx.nil u
  have Ho1 := Lib.hid ho1
  have Ho2 := Lib.hid ho2
  have Ha1 := Lib.hid ha1
  clear ho1 ho2 ha1
  rcases Nat.lt_or_ge i m with hlt | hge
  ·have hdl : decide ((i : Int) < (m : Int)) = true := by simp; omega
   have e1 := Gm.out i hlt
   have e2 := Gn.out i hlt
   have hil : i < P.length := by rw [LP.out]; exact hlt
   have t1 := take_snoc (l := PM) (i := i) (by rw [LM.out]; exact hlt)
   have t2 := take_snoc (l := PN) (i := i) (by rw [LN.out]; exact hlt)
   rw [e1] at t1
   rw [e2] at t2
   obtain ⟨bx, ox, hxa⟩ := HX.out.addr (by omega)
   have hrd : ∀ W, Grow w W → Cq W bx (ox + i * 5) (gq P i) := fun W hg => by
    have h := HX.out.grow hg
    rw [hxa] at h
    exact h.read hil
   have zx := SP.out _ (gq_mem hil)
   generalize gq P i = X at *
   have Hrd := Lib.hid hrd
   have T1 := Lib.hid t1
   have T2 := Lib.hid t2
   clear hrd e1 e2 hil t1 t2
   refine wp_seq ?_
   refine r0T ?_
   refine wp_cond_true (rfl) ?_
   refine wp_skip ?_
   refine then_norm ?_
   refine wp_seq ?_
   refine wp_block ?_
   refine wp_seq ?_
   refine wp_rd (w := w) allocs 14 [0] [(0, 0), (0, 1), (0, 2), (0, 3), (0, 4), (0, 5), (0, 11), (1, 6), (1, 7), (1, 8), (1, 9), (1, 10), (1, 12), (1, 13)] (by kernel_rfl) (by kernel_rfl) (by simp only [List.drop_succ_cons, List.drop_zero]; exact rfl) (fun _ => True) noG hB hG trivial ?_
   intro K L hN hL
   simp only [pickOps, List.getElem?_toArray, List.getElem?_cons_zero, List.getElem?_cons_succ]
   repeat first | refine gya ?_ | refine gyr ?_ | refine gna ?_ | refine gyb (by (rintro v ⟨hgu, hB, hG, -⟩ N hN; have r := hB.r; simp only [BxR] at r; obtain ⟨y1, y2, y3, y4, y5⟩ := Hrd.out v hG; go_simp; exact hN)) ?_
   refine gmd (C := fun v ⟨hgu, hB, hG, _⟩ => HQk.out _ (HT.grow hG)) ?_
   refine gmw (C := fun v => HAb.out _) ?_
   refine gmw (C := fun v => HOf1.out _) ?_
   refine gmd (C := fun v ⟨hgu, hB, hG, _⟩ => HAd1.out _ (HT.grow hG)) ?_
   refine gmd (C := fun v ⟨hgu, hB, hG, _⟩ => HMu.out _ zx _ (HT.grow hG)) ?_
   refine gmd (C := fun v ⟨hgu, hB, hG, _⟩ => HQz.out _ (HT.grow hG)) ?_
   refine gmd (C := fun v ⟨hgu, hB, hG, _⟩ => HAd2.out _ zx _ (HT.grow hG)) ?_
   refine gend ?_
   rintro v ⟨hgu, hB1, hG1, -⟩
   have Ho1u := Lib.hid (own_grow' Ho1.out hgu)
   have Ho2u := Lib.hid (own_grow' Ho2.out hgu)
   clear Ho1 Ho2
   clear hB hG
   have hB := hB1
   have hG := hG1
   clear hB1 hG1
   refine hL _ _ ?_
   clear hL L hgu
   obtain ⟨u, rfl⟩ : ∃ x, x = v := ⟨_, rfl⟩
   have r := hB.r
   simp only [BxR] at r
   refine app_tailG ei_Q w.heap.size _ _ _ _ (qL (qadd (qmul X CC) QZ)) rfl rfl (bs_Q _ u) rfl (fun _ => rfl) (fun _ => rfl) (fun _ _ => rfl) Ho1u.out (by omega) (by omega) hG.sz fun p v' w' g1 g2 g3 => ?_
   have a2 := app_two Ho2u.out Ha1.out g2 g3
   rw [T1.out] at g1
   have hGn := own_growth Ho1u.out hG g2
   clear Ho1u Ho2u Ha1 hB hG g2 g3
   have Ho1 := Lib.hid g1
   have Ho2 := Lib.hid a2.1
   have Ha1 := Lib.hid a2.2
   have hG := hGn
   have hB := Bx.nil w'
   clear g1 a2 hGn
   obtain ⟨u, rfl⟩ : ∃ x, x = w' := ⟨_, rfl⟩
   simp only [Act.put, List.setIfInBounds_toArray, List.set_cons_succ, List.set_cons_zero]
   clear r
   refine NoK.norm (hN _ _ ?_)
   clear hN K
   refine then_norm ?_
   refine wp_rs (w := w) allocs 6 [0, 0, 0, 0, 0, 1] (by kernel_rfl) (by simp only [List.drop_succ_cons, List.drop_zero]; exact rfl) (fun _ => True) noG hB hG trivial ?_
   intro K L hN hL
   simp only [List.zip_cons_cons, List.zip_nil_left]
   repeat first | refine gya ?_ | refine gyr ?_ | refine gna ?_ | refine gyb (by (rintro v ⟨hgu, hB, hG, -⟩ N hN; have r := hB.r; simp only [BxR] at r; obtain ⟨y1, y2, y3, y4, y5⟩ := Hrd.out v hG; go_simp; exact hN)) ?_
   refine gmw (C := fun v => HNg.out _ zx _) ?_
   refine gend ?_
   rintro v ⟨hgu, hB1, hG1, -⟩
   have Ho1u := Lib.hid (own_grow' Ho1.out hgu)
   have Ho2u := Lib.hid (own_grow' Ho2.out hgu)
   clear Ho1 Ho2
   clear hB hG
   have hB := hB1
   have hG := hG1
   clear hB1 hG1
   refine hL _ _ ?_
   clear hL L hgu
   obtain ⟨u, rfl⟩ : ∃ x, x = v := ⟨_, rfl⟩
   have r := hB.r
   simp only [BxR] at r
   refine app_tailG ei_Q w.heap.size _ _ _ _ (qL (qneg X)) rfl rfl (bs_Q _ u) rfl (fun _ => rfl) (fun _ => rfl) (fun _ _ => rfl) Ho2u.out (by omega) (by omega) hG.sz fun p v' w' g1 g2 g3 => ?_
   have a1 := app_two Ho1u.out Ha1.out.symm g2 g3
   rw [T2.out] at g1
   have hGn := own_growth Ho2u.out hG g2
   clear Ho1u Ho2u Ha1 hB hG g2 g3
   have Ho2 := Lib.hid g1
   have Ho1 := Lib.hid a1.1
   have Ha1 := Lib.hid a1.2.symm
   have hG := hGn
   have hB := Bx.nil w'
   clear g1 a1 hGn
   obtain ⟨u, rfl⟩ : ∃ x, x = w' := ⟨_, rfl⟩
   simp only [Act.put, List.setIfInBounds_toArray, List.set_cons_succ, List.set_cons_zero]
   clear r
   refine NoK.norm (hN _ _ ?_)
   clear hN K
   refine blk_norm ?_
   refine then_norm ?_
   refine r0E ?_
   refine then_norm ?_
   go_roundw
   case rel => exact ⟨i + 1, by omega, by go_num, Ho1.out, Ho2.out, Ha1.out, hG⟩
   case measure => simp [intOf]; omega
  ·obtain rfl : m = i := by omega
   have hdl : decide ((m : Int) < (m : Int)) = false := by simp
   refine wp_seq ?_
   refine r0T ?_
   refine wp_cond_false (rfl) ?_
   refine wp_exit ?_
   refine then_exit ?_
   refine then_exit ?_
   refine blk_exit ?_
   refine then_norm ?_
   refine wp_seq ?_
   obtain ⟨A1', c1, rfl, -, -, hL1, -⟩ := own_lq Ho1.out
   obtain ⟨A2', c2, rfl, -, -, hL2, -⟩ := own_lq Ho2.out
   rw [List.take_of_length_le (by rw [LM.out]; exact Nat.le_refl _)] at hL1
   rw [List.take_of_length_le (by rw [LN.out]; exact Nat.le_refl _)] at hL2
   have L1 := Lib.hid hL1
   have L2 := Lib.hid hL2
   have HX' := Lib.hid (Lq.grow HX.out hG)
   have HA' := Lib.hid (HA.out.grow hG)
   have HT' := HT.grow hG
   have HG1 := Lib.hid (HG0.out.trans hG)
   clear Ho1 Ho2 Ha1 hL1 hL2 HX HA HT HG0 hB hG Gm Gn LP LM LN SP HQk HQz HAb HAd1 HMu HAd2 HNg
   try clear hF
   have HX := HX'
   have HA := HA'
   have HT := HT'
   clear HX' HA' HT'
   obtain ⟨w1, rfl⟩ : ∃ x, x = w := ⟨_, rfl⟩
   obtain ⟨w, rfl⟩ : ∃ x, x = u := ⟨_, rfl⟩
   clear w1
   obtain ⟨u, hu⟩ : ∃ x, x = w := ⟨_, rfl⟩
   have hB := Bx.nil u
   have hG : Grow w u := hu ▸ Grow.refl u
   have hF := Fr.nil w
   rw [← hu]
   clear hu
   refine rsC allocs [0, 0, 1, 0, 0, 0, 2] hB hG fun K L hN hL => ?_
   refine gs ?_
   refine gmd (C := fun v ⟨hgu, hB, hG, _⟩ => A1.out _ _ _ x36 (HA.out.grow hG) (Lq.grow HX.out hG) (HT.grow hG)) ?_
   refine gs ?_
   refine gaa (newObj_Q _ _ _ _ _) fun b13 hb13 hn13 => ?_
   replace hF := hF.n1 [] hB hG hb13 hn13
   refine geC hL ?_
   clear hB hG hL L
   rintro u ⟨⟨-, hB, hG, -⟩, h13⟩
   replace hB := hB.cons' h13
   clear h13
   clear hb13 hn13
   refine gtT ?_
   clear hN K
   refine st hB hF hG 0 0 [_, _, _, _, _] ?_
   clear hB hG
   intro u hB hG
   refine wp_seq (rsE allocs [0, 0, 1, 0, 0, 0, 0, 0] hB hG fun L hL => ?_)
   refine gs ?_
   refine gxd (X := Ax) (fun x : Ax => .tuple #[.slice x.1 Ln x.2, .int .i64 Kc]) (fun x W => Kc = 0 → ∃ g, x.1 = some ⟨g, 0, none⟩ ∧ Ptl W g no yes pts) (fun x u u' hg h hk => (h hk).imp fun g hh => ⟨hh.1, Ptl.grow hg hh.2⟩) (fun x76 => ?_) (C := by (rintro v ⟨hgu, hB, hG, -⟩; exact A4.out _ _ _ x36 (HA.out.grow hG) (Lq.grow HX.out hG) (HT.grow hG)))
   refine gs ?_
   refine geT hL ?_
   clear hB hG hL L
   rintro u ⟨⟨hgu, hB, hG, -⟩, hx76⟩
   have HPt := Lib.hid hx76
   have q13 := Lib.hid hB.head
   clear hx76
   clear hgu
   have HG0 := Lib.hid hG
   clear hB hF hG
   obtain ⟨w0, rfl⟩ : ∃ x, x = w := ⟨_, rfl⟩
   obtain ⟨w, hwu⟩ : ∃ x, x = u := ⟨_, rfl⟩
   rw [← hwu] at HG0 HPt q13
   have hB := Bx.nil u
   have hF := Fr.nil w
   have hG : Grow w u := hwu ▸ Grow.refl u
   clear hwu
   have h13 : ∀ W, Grow w W → _ := fun W hg => blk_q5 (q13.out.grow hg)
   have H13 := Lib.hid h13
   have HX' := Lib.hid (Lq.grow HX.out HG0.out)
   have HA' := Lib.hid (HA.out.grow HG0.out)
   have L1' := Lib.hid (L1.out.grow HG0.out)
   have L2' := Lib.hid (L2.out.grow HG0.out)
   have HT' := HT.grow HG0.out
   have HG2 := Lib.hid (HG1.out.trans HG0.out)
   clear q13 h13 HX HA L1 L2 HT HG0 HG1
   have HX := HX'
   have HA := HA'
   have L1 := L1'
   have L2 := L2'
   have HT := HT'
   clear HX' HA' L1' L2' HT'
   refine wp_seq (rsC allocs [0, 0, 1, 0, 0, 0, 2] hB hG fun K L hN hL => ?_)
   refine gs ?_
   refine gmd (C := fun v ⟨hgu, hB, hG, _⟩ => A2.out _ _ _ (A1', c1) (HA.out.grow hG) (L1.out.grow hG) (HT.grow hG)) ?_
   refine gs ?_
   refine gaa (newObj_Q _ _ _ _ _) fun b17 hb17 hn17 => ?_
   replace hF := hF.n1 [] hB hG hb17 hn17
   refine geC hL ?_
   clear hB hG hL L
   rintro u ⟨⟨-, hB, hG, -⟩, h17⟩
   replace hB := hB.cons' h17
   clear h17
   clear hb17 hn17
   refine gtT ?_
   clear hN K
   refine st hB hF hG 0 0 [_, _, _, _, _] ?_
   clear hB hG
   intro u hB hG
   refine wp_seq (rsC allocs [0, 0, 1, 0, 0, 0, 2] hB hG fun K L hN hL => ?_)
   refine gs ?_
   refine gmd (C := fun v ⟨hgu, hB, hG, _⟩ => A3.out _ _ _ (A2', c2) (HA.out.grow hG) (L2.out.grow hG) (HT.grow hG)) ?_
   refine gs ?_
   refine gaa (newObj_Q _ _ _ _ _) fun b19 hb19 hn19 => ?_
   replace hF := hF.n1 [] hB hG hb19 hn19
   refine geC hL ?_
   clear hB hG hL L
   rintro u ⟨⟨-, hB, hG, -⟩, h19⟩
   replace hB := hB.cons' h19
   clear h19
   clear hb19 hn19
   refine gtT ?_
   clear hN K
   refine st hB hF hG 0 0 [_, _, _, _, _] ?_
   clear hB hG
   intro u hB hG
   refine wp_seq ?_
   refine wp_seq (rsE allocs [1, 0, 0, 0, 0, 0, 0, 0, 0, 0, 0, 0, 0, 0, 0, 0, 0] hB hG fun L hL => ?_)
   refine gmd (C := fun v ⟨hgu, hB, hG, _⟩ => law9_known _ (HT.grow hG)) ?_
   refine gs ?_
   refine geT hL ?_
   clear hB hG hL L
   rintro u ⟨-, hB, hG, -⟩
   refine wp_cond_false (rfl) ?_
   refine wp_skip ?_
   refine then_norm ?_
   refine wp_seq ?_
   rcases A5.out with ⟨hKc, rfl⟩ | ⟨hKc, rfl, hL0, hL21, hVP, hVN, sVA, sVN, hsum, hend, hmono, hbd, hn0, hn20, hy0, hy20⟩
   ·clear A5 A1 A2 A3 A4
    refine r0T ?_
    refine wp_cond_true (rfl) ?_
    refine r0T ?_
    refine rt Tryz.results7 ?_
    exact ⟨rfl, HG2.out.trans hG⟩
   ·clear A5 A1 A2 A3 A4
    subst hKc
    have hVP2 := hVP.symm
    subst hVP2
    clear hVP
    obtain ⟨g, hxg, hpt⟩ := HPt.out rfl
    have HPl := Lib.hid hpt
    obtain ⟨xA, xC⟩ := x76
    simp only at hxg
    subst hxg
    clear HPt hpt
    obtain ⟨Ln, hLn⟩ : ∃ n, n = pts.length := ⟨_, rfl⟩
    rw [← hLn] at hL0 hL21 hsum hend hmono hbd ⊢
    have fL : ((Ln : Int) == 0) = false := by rw [beq_eq_false_iff_ne]; omega
    have hCV : ∀ W, Calls Tryz.prog 25 #[qV VA, qV VA] W fun e w' => e = .returned (.int .i64 0) ∧ Grow W w' := fun W => by
     have := frac_Cmp VA VA W (by omega)
     rw [cmpQ_self] at this
     exact this
    have hAV : ∀ W, Tab W → Calls Tryz.prog 21 #[qV VN, qV VA] W fun e w' => e = .returned (qV (qint 1)) ∧ Grow W w' := fun W hT => by
     have := frac_Add VN VA W (by omega) hT
     rw [hVN] at this
     exact this
    have HCV := Lib.hid hCV
    have HAV := Lib.hid hAV
    have Hsum := Lib.hid hsum
    have Hend := Lib.hid hend
    have Hmono := Lib.hid hmono
    have Hbd := Lib.hid hbd
    have HLn := Lib.hid hLn
    clear hCV hAV hsum hend hmono hbd hLn hVN sVN
    refine r0T ?_
    refine wp_cond_false (rfl) ?_
    refine wp_skip ?_
    refine then_norm ?_
    refine wp_seq (rsE allocs [2] hB hG fun L hL => ?_)
    refine gaa (newObj_Q _ _ _ _ _) fun b21 hb21 hn21 => ?_
    replace hF := hF.n1 [] hB hG hb21 hn21
    refine geT hL ?_
    clear hB hG hL L
    rintro u ⟨⟨-, hB, hG, -⟩, h21⟩
    replace hB := hB.cons' h21
    clear h21
    clear hb21 hn21
    refine wp_seq (rsC allocs [1, 2] hB hG fun K L hN hL => ?_)
    refine gmw (C := fun v => HOf2.out _) ?_
    refine gaa (newObj_Q _ _ _ _ _) fun b22 hb22 hn22 => ?_
    replace hF := hF.n1 [] hB hG hb22 hn22
    refine geC hL ?_
    clear hB hG hL L
    rintro u ⟨⟨-, hB, hG, -⟩, h22⟩
    replace hB := hB.cons' h22
    clear h22
    clear hb22 hn22
    refine gtT ?_
    clear hN K
    refine st hB hF hG 0 0 [_, _, _, _, _] ?_
    clear hB hG
    intro u hB hG
    refine wp_seq ?_
    refine r0T ?_
    refine wp_block ?_
    go_loopw [23] (fun t wr => ∃ k0 : Nat, k0 + 1 ≤ Ln ∧ t = .int .i64 (k0 + 1 : Nat) ∧ Bx wr [(b22, 32, qCells (qint 2)), (b21, 32, qCells (qsum (fun i => stepQ no yes (gp pts i) (gp pts (i + 1))) k0)), (b19, 32, qCells VN), (b17, 32, qCells VA)] ∧ Grow w wr) (fun t _ => Ln - (intOf t).toNat)
    case atStart => exact ⟨0, by omega, rfl, by rw [show qsum (fun i => stepQ no yes (gp pts i) (gp pts (i + 1))) 0 = 0 from rfl, qcells_zero]; exact hB, hG⟩
    case round =>
     clear hB hG
     obtain ⟨k0, hk0, rfl, hB, hG⟩ := hrel
     obtain ⟨u, rfl⟩ : ∃ x, x = wr := ⟨_, rfl⟩
     obtain ⟨k, hk⟩ : ∃ x, k0 + 1 = x := ⟨_, rfl⟩
     rw [hk] at hk0 ⊢
     have fk0 : IntKind.i64.wrap ((k : Int) - 1) = (k0 : Int) := by rw [IntWalk.i64_in _ (by omega)]; omega
     have hk0L : (k0 : Int) < (Ln : Int) := by omega
     rcases Nat.lt_or_ge k Ln with hlt | hge
     ·have hdl : decide ((k : Int) < (Ln : Int)) = true := by simp; omega
      have hkL : (k : Int) < (Ln : Int) := by omega
      obtain ⟨m1, m2⟩ := Hmono.out k0 (by omega)
      obtain ⟨d1, d2⟩ := Hbd.out k0 (by omega)
      obtain ⟨d3, d4⟩ := Hbd.out k (by omega)
      rw [hk] at m1 m2
      have hr : ∀ W, Grow w W → (Cq W g (k * 10) (qover ((gp pts k).1 : Nat) no) ∧ Cq W g (k * 10 + 5) (qover ((gp pts k).2 : Nat) yes)) ∧ Cq W g (k0 * 10) (qover ((gp pts k0).1 : Nat) no) ∧ Cq W g (k0 * 10 + 5) (qover ((gp pts k0).2 : Nat) yes) := fun W hg =>
       ⟨(HPl.out.grow hg).2 k (by rw [← HLn.out]; exact hlt), (HPl.out.grow hg).2 k0 (by rw [← HLn.out]; omega)⟩
      have hS : qsum (fun i => stepQ no yes (gp pts i) (gp pts (i + 1))) k = qadd (qsum (fun i => stepQ no yes (gp pts i) (gp pts (i + 1))) k0) (qmul (qsub (qover ((gp pts k).1 : Nat) no) (qover ((gp pts k0).1 : Nat) no)) (qdiv (qadd (qover ((gp pts k).2 : Nat) yes) (qover ((gp pts k0).2 : Nat) yes)) (qint 2))) := by
       rw [← hk]
       rfl
      have zst : ∀ i, i < Ln - 1 → qs (stepQ no yes (gp pts i) (gp pts (i + 1))) ≤ 70 := fun i hi => by
       obtain ⟨c1, c2⟩ := Hbd.out i (by omega)
       obtain ⟨c3, c4⟩ := Hbd.out (i + 1) (by omega)
       have y1 := pt_sz c1 hn20
       have y2 := pt_sz c2 hy20
       have y3 := pt_sz c3 hn20
       have y4 := pt_sz c4 hy20
       have y5 := qs_qsub (qover ((gp pts (i + 1)).1 : Nat) no) (qover ((gp pts i).1 : Nat) no)
       have y6 := qs_qadd (qover ((gp pts (i + 1)).2 : Nat) yes) (qover ((gp pts i).2 : Nat) yes)
       have y7 := qs_qdiv (qadd (qover ((gp pts (i + 1)).2 : Nat) yes) (qover ((gp pts i).2 : Nat) yes)) (qint 2)
       have y8 : qs (qint 2) ≤ 41 := qint_sz 2 (by omega)
       unfold stepQ
       exact Nat.le_trans (qs_qmul _ _) (by omega)
      have zS : qs (qsum (fun i => stepQ no yes (gp pts i) (gp pts (i + 1))) k0) ≤ 1500 := Nat.le_trans (qsum_size _ 70 (Ln - 1) zst k0 (by omega)) (by
       have := Nat.mul_le_mul_right 71 (show k0 ≤ 20 by omega)
       omega)
      have y1 := pt_sz d1 hn20
      have y2 := pt_sz d2 hy20
      have y3 := pt_sz d3 hn20
      have y4 := pt_sz d4 hy20
      have hw0 : qover ((gp pts k0).1 : Nat) no ≤ qover ((gp pts k).1 : Nat) no := qover_le hn0 m1
      have hh0 : qover ((gp pts k0).2 : Nat) yes ≤ qover ((gp pts k).2 : Nat) yes := qover_le hy0 m2
      generalize qsum (fun i => stepQ no yes (gp pts i) (gp pts (i + 1))) k0 = S0 at *
      generalize qover ((gp pts k).1 : Nat) no = F1 at *
      generalize qover ((gp pts k).2 : Nat) yes = T1 at *
      generalize qover ((gp pts k0).1 : Nat) no = F0 at *
      generalize qover ((gp pts k0).2 : Nat) yes = T0 at *
      have s2 : qs (qint 2) ≤ 41 := qint_sz 2 (by omega)
      have c1 := fun (W : World) (hT : Tab W) => frac_Sub F1 F0 W (by omega) hT
      have c2 := fun (W : World) (hT : Tab W) => frac_Add T1 T0 W (by omega) hT
      have x1 : qs (qsub F1 F0) ≤ 20 := Nat.le_trans (qs_qsub _ _) (by omega)
      have x2 : qs (qadd T1 T0) ≤ 20 := Nat.le_trans (qs_qadd _ _) (by omega)
      have c3 : ∀ W, Tab W → Calls Tryz.prog 24 #[qV (qadd T1 T0), qV (qint 2)] W fun e w' => e = .returned (.tuple #[qV (qdiv (qadd T1 T0) (qint 2)), .bool true]) ∧ Grow W w' := fun W hT => frac_Div (qadd T1 T0) (qint 2) W (by omega) hT
      have x3 : qs (qdiv (qadd T1 T0) (qint 2)) ≤ 100 := Nat.le_trans (qs_qdiv _ _) (by omega)
      have c5 := fun (W : World) => frac_Sign (qsub F1 F0) (by have := qs_num (qsub F1 F0); have := BIG_le; omega) W
      have f5 : decide ((qsub F1 F0).num.sign < 0) = false := by
       have : 0 ≤ qsub F1 F0 := by unfold qsub; grind
       have := Int.sign_nonneg_iff.2 (Rat.num_nonneg.2 this)
       simp; omega
      generalize qdiv (qadd T1 T0) (qint 2) = HI at *
      generalize qadd T1 T0 = TS at *
      generalize (qsub F1 F0).num.sign = SG at *
      generalize qsub F1 F0 = WD at *
      have c6 := fun (W : World) (hT : Tab W) => frac_Mul WD HI W (by omega) hT
      have x4 : qs (qmul WD HI) ≤ 150 := Nat.le_trans (qs_qmul _ _) (by omega)
      generalize qmul WD HI = ST at *
      have c7 := fun (W : World) (hT : Tab W) => frac_Add S0 ST W (by omega) hT
      have c8 := fun (W : World) => frac_Cmp T1 T0 W (by omega)
      have f8 : decide (cmpQ T1 T0 < 0) = false := by
       have : ¬ T1 < T0 := Rat.not_lt.2 hh0
       unfold cmpQ
       rw [if_neg this]
       split <;> decide
      generalize cmpQ T1 T0 = CM at *
      have C1 := Lib.hid c1
      have C2 := Lib.hid c2
      have C3 := Lib.hid c3
      have C5 := Lib.hid c5
      have C6 := Lib.hid c6
      have C7 := Lib.hid c7
      have C8 := Lib.hid c8
      have HS := Lib.hid hS
      have Hr := Lib.hid hr
      clear c1 c2 c3 c5 c6 c7 c8 hS hr x1 x2 x3 x4 zS zst y1 y2 y3 y4 m1 m2 d1 d2 d3 d4 hw0 hh0 s2
      refine wp_seq ?_
      refine r0T ?_
      refine wp_cond_true (rfl) ?_
      refine wp_skip ?_
      refine then_norm ?_
      refine wp_seq ?_
      refine wp_block ?_
      refine wp_seq (rdC allocs [] [(0, 0), (0, 1), (0, 2), (0, 3), (0, 4), (0, 5), (0, 6), (0, 7), (0, 8), (0, 9), (0, 10), (1, 11), (2, 12)] hB hG (hs := growF_of [0, 0, 3, 7, 15, 0, 0, 64, 224, 480, 992, 2047, 0, 8191] (by kernel_rfl)) fun K L hN hL => ?_)
      repeat first | refine gya ?_ | refine gyr ?_ | refine gna ?_ | refine gyb (by (rintro v ⟨hgu, hB, hG, -⟩ N hN; have r := hB.r; simp only [BxR] at r; obtain ⟨⟨⟨e1, e2, e3, e4, e5⟩, e6⟩, ⟨f1, f2, f3, f4, f5'⟩, f6⟩ := Hr.out v hG; obtain ⟨e7, e8, e9, e10, e11⟩ := cq_five e6; obtain ⟨f7, f8', f9, f10, f11⟩ := cq_five f6; go_simp; exact hN)) ?_
      refine gmd (C := fun v ⟨hgu, hB, hG, _⟩ => C1.out _ (HT.grow hG)) ?_
      refine gaa (newObj_Q _ _ _ _ _) fun b24 hb24 hn24 => ?_
      replace hF := hF.n1 [] hB hG hb24 hn24
      refine geC hL ?_
      clear hB hG hL L
      rintro u ⟨⟨-, hB, hG, -⟩, h24⟩
      replace hB := hB.cons' h24
      clear h24
      clear hb24 hn24
      refine gtT ?_
      clear hN K
      refine st hB hF hG 0 0 [_, _, _, _, _] ?_
      clear hB hG
      intro u hB hG
      refine wp_seq (rdC allocs [16] [(0, 0), (0, 1), (0, 2), (0, 3), (0, 4), (0, 5), (0, 6), (0, 7), (0, 8), (0, 9), (0, 10), (0, 12), (1, 11), (1, 13), (0, 14), (0, 15), (0, 16), (2, 17)] hB hG (hs := growF_of [0, 0, 3, 7, 15, 0, 0, 64, 224, 480, 992, 2047, 0, 8191, 16383, 32767, 32767, 0, 196607, 524287] (by kernel_rfl)) fun K L hN hL => ?_)
      repeat first | refine gya ?_ | refine gyr ?_ | refine gna ?_ | refine gyb (by (rintro v ⟨hgu, hB, hG, -⟩ N hN; have r := hB.r; simp only [BxR] at r; obtain ⟨⟨⟨e1, e2, e3, e4, e5⟩, e6⟩, ⟨f1, f2, f3, f4, f5'⟩, f6⟩ := Hr.out v hG; obtain ⟨e7, e8, e9, e10, e11⟩ := cq_five e6; obtain ⟨f7, f8', f9, f10, f11⟩ := cq_five f6; go_simp; exact hN)) ?_
      refine gmd (C := fun v ⟨hgu, hB, hG, _⟩ => C2.out _ (HT.grow hG)) ?_
      refine gmd (C := fun v ⟨hgu, hB, hG, _⟩ => C3.out _ (HT.grow hG)) ?_
      refine gs ?_
      refine gaa (newObj_Q _ _ _ _ _) fun b25 hb25 hn25 => ?_
      replace hF := hF.n1 [] hB hG hb25 hn25
      refine geC hL ?_
      clear hB hG hL L
      rintro u ⟨⟨-, hB, hG, -⟩, h25⟩
      replace hB := hB.cons' h25
      clear h25
      clear hb25 hn25
      refine gtT ?_
      clear hN K
      refine st hB hF hG 0 0 [_, _, _, _, _] ?_
      clear hB hG
      intro u hB hG
      refine wp_seq (rdC allocs [] [(0, 0), (0, 1), (0, 2), (1, 3), (1, 4)] hB hG (hs := growF_of [0, 0, 0, 6, 15, 31] (by kernel_rfl)) fun K L hN hL => ?_)
      repeat first | refine gya ?_ | refine gyr ?_ | refine gna ?_ | refine gyb (by (rintro v ⟨hgu, hB, hG, -⟩ N hN; have r := hB.r; simp only [BxR] at r; obtain ⟨⟨⟨e1, e2, e3, e4, e5⟩, e6⟩, ⟨f1, f2, f3, f4, f5'⟩, f6⟩ := Hr.out v hG; obtain ⟨e7, e8, e9, e10, e11⟩ := cq_five e6; obtain ⟨f7, f8', f9, f10, f11⟩ := cq_five f6; go_simp; exact hN)) ?_
      refine gmd (C := fun v ⟨hgu, hB, hG, _⟩ => C6.out _ (HT.grow hG)) ?_
      refine gmd (C := fun v ⟨hgu, hB, hG, _⟩ => C7.out _ (HT.grow hG)) ?_
      refine geC hL ?_
      clear hB hG hL L
      rintro u ⟨-, hB, hG, -⟩
      refine gtT ?_
      clear hN K
      refine st hB hF hG 3 0 [_, _, _, _, _] ?_
      clear hB hG
      intro u hB hG
      refine wp_seq (rdC allocs [] [(0, 0), (1, 1), (0, 2), (0, 3), (0, 4), (0, 5), (0, 6), (0, 7), (0, 8), (0, 9), (0, 10), (0, 11), (0, 12), (0, 13), (0, 14), (1, 15), (0, 16)] hB hG (hs := growF_of [0, 1, 3, 7, 15, 15, 63, 127, 255, 15, 15, 1039, 3599, 7695, 15887, 32767, 65535, 131071] (by kernel_rfl)) fun K L hN hL => ?_)
      repeat first | refine gya ?_ | refine gyr ?_ | refine gna ?_ | refine gyb (by (rintro v ⟨hgu, hB, hG, -⟩ N hN; have r := hB.r; simp only [BxR] at r; obtain ⟨⟨⟨e1, e2, e3, e4, e5⟩, e6⟩, ⟨f1, f2, f3, f4, f5'⟩, f6⟩ := Hr.out v hG; obtain ⟨e7, e8, e9, e10, e11⟩ := cq_five e6; obtain ⟨f7, f8', f9, f10, f11⟩ := cq_five f6; go_simp; exact hN)) ?_
      refine gmw (C := fun v => C5.out _) ?_
      repeat first | refine gya ?_ | refine gyr ?_ | refine gna ?_ | refine gyb (by (rintro v ⟨hgu, hB, hG, -⟩ N hN; have r := hB.r; simp only [BxR] at r; obtain ⟨⟨⟨e1, e2, e3, e4, e5⟩, e6⟩, ⟨f1, f2, f3, f4, f5'⟩, f6⟩ := Hr.out v hG; obtain ⟨e7, e8, e9, e10, e11⟩ := cq_five e6; obtain ⟨f7, f8', f9, f10, f11⟩ := cq_five f6; go_simp; exact hN)) ?_
      first | refine gmw (C := fun v => C8.out _) ?_ | refine gmna ?_
      refine gs ?_
      refine geC hL ?_
      clear hB hG hL L
      rintro u ⟨-, hB, hG, -⟩
      refine gtT ?_
      clear hN K
      refine wp_cond_false (rfl) ?_
      refine wp_skip ?_
      refine blk_norm ?_
      refine then_norm ?_
      refine r0E ?_
      refine then_norm ?_
      go_roundw
      case rel => exact ⟨k, by omega, by go_num, by rw [HS.out]; exact hB.tail.tail, hG⟩
      case measure => simp [intOf]; omega
     ·obtain rfl : Ln = k := by omega
      have hdl : decide ((Ln : Int) < (Ln : Int)) = false := by simp
      have hend := Hend.out
      have hsum := Hsum.out
      have hr0 := fun (W : World) (hg : Grow w W) => (HPl.out.grow hg).2 k0 (by rw [← HLn.out]; omega)
      rw [show Ln - 1 = k0 by omega] at hend hsum
      rw [hsum] at hB
      rw [hend] at hr0
      have hr : ∀ W, Grow w W → Cq W g (k0 * 10) (qint 1) ∧ Cq W g (k0 * 10 + 5) (qint 1) := fun W hg => by
       have h := hr0 W hg
       simp only at h
       rw [qover_self hn0, qover_self hy0] at h
       exact h
      have Hr := Lib.hid hr
      clear hr hr0 hend hsum
      refine wp_seq ?_
      refine r0T ?_
      refine wp_cond_false (rfl) ?_
      refine wp_exit ?_
      refine then_exit ?_
      refine then_exit ?_
      refine blk_exit ?_
      refine then_norm ?_
      refine wp_seq (rdC allocs [] [(0, 0), (0, 1), (1, 2), (0, 3), (0, 4), (0, 5), (0, 6), (1, 7), (0, 8), (0, 9), (0, 10), (0, 11), (0, 12), (1, 13), (1, 14), (1, 15), (0, 16), (0, 17), (0, 18), (0, 19), (0, 20), (0, 21), (0, 22), (0, 23), (0, 24), (0, 25), (1, 26), (1, 27), (0, 28), (0, 29), (0, 30), (0, 31), (0, 32), (0, 33), (0, 34), (0, 35), (0, 36), (0, 37), (1, 38), (1, 39), (0, 40), (0, 41)] hB hG (hs := growF_of [0, 0, 3, 7, 15, 31, 31, 127, 255, 511, 1023, 2047, 2047, 8191, 16383, 32767, 65535, 131071, 262143, 524287, 524287, 1572863, 3670015, 8388607, 16777215, 33554431, 524287, 134217727, 268435455, 536870911, 1073741823, 2147483647, 2147483647, 6442450943, 15032385535, 34359738367, 68719476735, 137438953471, 2147483647, 549755813887, 1099511627775, 2199023255551, 4398046511103] (by kernel_rfl)) fun K L hN hL => ?_)
      repeat first | refine gya ?_ | refine gyr ?_ | refine gna ?_ | refine gyb (by (rintro v ⟨hgu, hB, hG, -⟩ N hN; have r := hB.r; simp only [BxR] at r; obtain ⟨⟨e1, e2, e3, e4, e5⟩, e6⟩ := Hr.out v hG; obtain ⟨e7, e8, e9, e10, e11⟩ := cq_five e6; obtain ⟨y1, y2, y3, y4, y5⟩ := H13.out v hG; go_simp; exact hN)) ?_
      refine gmw (C := fun v => HCV.out _) ?_
      repeat first | refine gya ?_ | refine gyr ?_ | refine gna ?_ | refine gyb (by (rintro v ⟨hgu, hB, hG, -⟩ N hN; have r := hB.r; simp only [BxR] at r; obtain ⟨⟨e1, e2, e3, e4, e5⟩, e6⟩ := Hr.out v hG; obtain ⟨e7, e8, e9, e10, e11⟩ := cq_five e6; obtain ⟨y1, y2, y3, y4, y5⟩ := H13.out v hG; go_simp; exact hN)) ?_
      first | refine gmw (C := fun v => HCV.out _) ?_ | refine gmna ?_
      repeat first | refine gya ?_ | refine gyr ?_ | refine gna ?_ | refine gyb (by (rintro v ⟨hgu, hB, hG, -⟩ N hN; have r := hB.r; simp only [BxR] at r; obtain ⟨⟨e1, e2, e3, e4, e5⟩, e6⟩ := Hr.out v hG; obtain ⟨e7, e8, e9, e10, e11⟩ := cq_five e6; obtain ⟨y1, y2, y3, y4, y5⟩ := H13.out v hG; go_simp; exact hN)) ?_
      first | refine gmd (C := fun v ⟨hgu, hB, hG, _⟩ => HAV.out _ (HT.grow hG)) ?_ | refine gmna ?_
      first | refine gmw (C := fun v => HOf1.out _) ?_ | refine gmna ?_
      first | refine gmw (C := fun v => HC1.out _) ?_ | refine gmna ?_
      repeat first | refine gya ?_ | refine gyr ?_ | refine gna ?_ | refine gyb (by (rintro v ⟨hgu, hB, hG, -⟩ N hN; have r := hB.r; simp only [BxR] at r; obtain ⟨⟨e1, e2, e3, e4, e5⟩, e6⟩ := Hr.out v hG; obtain ⟨e7, e8, e9, e10, e11⟩ := cq_five e6; obtain ⟨y1, y2, y3, y4, y5⟩ := H13.out v hG; go_simp; exact hN)) ?_
      first | refine gmw (C := fun v => HOf1.out _) ?_ | refine gmna ?_
      first | refine gmw (C := fun v => HC1.out _) ?_ | refine gmna ?_
      repeat first | refine gya ?_ | refine gyr ?_ | refine gna ?_ | refine gyb (by (rintro v ⟨hgu, hB, hG, -⟩ N hN; have r := hB.r; simp only [BxR] at r; obtain ⟨⟨e1, e2, e3, e4, e5⟩, e6⟩ := Hr.out v hG; obtain ⟨e7, e8, e9, e10, e11⟩ := cq_five e6; obtain ⟨y1, y2, y3, y4, y5⟩ := H13.out v hG; go_simp; exact hN)) ?_
      first | refine gmw (C := fun v => HOf1.out _) ?_ | refine gmna ?_
      first | refine gmw (C := fun v => HC1.out _) ?_ | refine gmna ?_
      refine gs ?_
      refine geC hL ?_
      clear hB hG hL L
      rintro u ⟨-, hB, hG, -⟩
      refine gtT ?_
      clear hN K
      refine rt Tryz.results7 ?_
      exact ⟨rfl, HG2.out.trans hG⟩
end Go.Proofs.YtimjnkfcnpfoeaaGreatDoor
