/-
  Contracts and laws: NearOw.
-/
import Derived.Test.YtjmopgepnndckaaGreatDoorO47
import Derived.Test.YtjmopgepnndckaaGreatDoorO48
import Derived.Deep.RegionHeld3
set_option linter.unusedSimpArgs false
set_option linter.unusedVariables false
namespace Go.Proofs.YtjmopgepnndckaaGreatDoor
open Go Go.RowKit
/-- what stays in memory from region 8 on -/
structure NoB (b19 b21 N Lw : Nat) (R1 N1 R2 N2 Q : Ax) (rs1 rs2 : List Rq) (ns1 ns2 : List NdT) (P : List Rat) (W : World) : Prop where
 t0 : W.cell? ⟨b19, 0, none⟩ = some (.slice R1.1 N R1.2)
 t1 : W.cell? ⟨b19, 1, none⟩ = some (.slice N1.1 N N1.2)
 t2 : W.cell? ⟨b21, 0, none⟩ = some (.slice R2.1 N R2.2)
 t3 : W.cell? ⟨b21, 1, none⟩ = some (.slice N2.1 N N2.2)
 lr1 : Lrq W R1.1 rs1
 nd1 : Le ndL 4 W N1.1 ns1
 lr2 : Lrq W R2.1 rs2
 nd2 : Le ndL 4 W N2.1 ns2
 lq : Lq W Q.1 P
 tab : Tab W
theorem NoB.grow {b19 b21 N Lw : Nat} {R1 N1 R2 N2 Q : Ax} {rs1 rs2 : List Rq} {ns1 ns2 : List NdT} {P : List Rat} {W W' : World} (h : NoB b19 b21 N Lw R1 N1 R2 N2 Q rs1 rs2 ns1 ns2 P W) (hg : Grow W W') : NoB b19 b21 N Lw R1 N1 R2 N2 Q rs1 rs2 ns1 ns2 P W' :=
 have key : ∀ (b o : Nat) (v : Value), W.cell? ⟨b, o, none⟩ = some v → W'.cell? ⟨b, o, none⟩ = some v := fun b o v h => (hg.cell (p := ⟨b, o, none⟩) (World.block_lt_of_cell? W _ h)).trans h
 ⟨key _ _ _ h.t0, key _ _ _ h.t1, key _ _ _ h.t2, key _ _ _ h.t3, h.lr1.grow hg, Le.grow h.nd1 hg, h.lr2.grow hg, Le.grow h.nd2 hg, h.lq.grow hg, h.tab.grow hg⟩
theorem NoB.cells {b19 b21 N Lw : Nat} {R1 N1 R2 N2 Q : Ax} {rs1 rs2 : List Rq} {ns1 ns2 : List NdT} {P : List Rat} {W : World} (h : NoB b19 b21 N Lw R1 N1 R2 N2 Q rs1 rs2 ns1 ns2 P W) : W.cell? ⟨b19, 0, none⟩ = some (.slice R1.1 N R1.2) ∧ W.cell? ⟨b19, 1, none⟩ = some (.slice N1.1 N N1.2) ∧ W.cell? ⟨b21, 0, none⟩ = some (.slice R2.1 N R2.2) ∧ W.cell? ⟨b21, 1, none⟩ = some (.slice N2.1 N N2.2) := ⟨h.t0, h.t1, h.t2, h.t3⟩
theorem pick_small (r N : Nat) (h : r < N) : pick (r : Nat) (N : Nat) = r := by
 unfold pick
 exact Int.emod_eq_of_lt (by omega) (by omega)
theorem cmpQ_self (a : Rat) : cmpQ a a = 0 := by unfold cmpQ; simp [Rat.lt_irrefl]
/-- the rows' contracts: what InRows and Build make of them -/
theorem order_build (RA : Ax) (rs : List Rq) (N Lw : Nat) (hok : RowsOk N Lw rs) (hN0 : 0 < N) (hN : N ≤ 11) (hL1 : 1 ≤ Lw) (hL3 : Lw ≤ 3) :
  (∀ W, Lrz W RA.1 rs → Tab W → Calls Tryz.prog 16 #[.slice RA.1 N RA.2] W (RetY (fun x : Ax × List Rq => .slice x.1.1 N x.1.2) (fun x W' => x.2.map (·.2.2) = rs.map (·.2.2) ∧ Lrq W' x.1.1 x.2) W)) ∧
  ∀ W (X : Ax) (rs' : List Rq), rs'.map (·.2.2) = rs.map (·.2.2) → Lrq W X.1 rs' → Calls Tryz.prog 34 #[.slice X.1 N X.2] W (RetY (fun x : (Ax × Ax) × List Rq => .tuple #[.agg #[.slice x.1.1.1 N x.1.1.2, .slice x.1.2.1 N x.1.2.2], .int .i64 0]) (fun x W' => (∃ B, TreeO B N x.1.1 x.1.2 x.2 (flatT (growT (rs.map (·.2.2)) Lw (List.range N) 0) 0) W') ∧ x.2.map (·.2.2) = rs.map (·.2.2)) W) := by
 have hBB : 100000 ≤ BIG := by unfold BIG; omega
 refine ⟨fun W h hT => (hand_InRows RA.1 rs RA.2 N hok.1.symm (by omega) (fun r hr => ⟨by have := (hok.2 r hr).1; omega, fun x hx => Nat.le_trans ((hok.2 r hr).2 x hx) (by omega)⟩) W h hT).mono fun e w' ⟨v, rs', he, e1, e2, e3, hg'⟩ => ?_, fun W X rs' he h => ?_⟩
 ·obtain ⟨A2, c2, rfl, -, hLw, -⟩ := own_lrq e3 e2
  exact ⟨((A2, c2), rs'), he, ⟨e1, hLw⟩, hg'⟩
 ·have hk := rowsOk_of hok (rs' := rs') he
  have h2 := near_Build_ok X.1 rs' N Lw X.2 hk.1 hN0 (by omega) hL1 (by omega) (fun r hr => (hk.2 r hr).1) 50 (fun r hr => (hk.2 r hr).2) (by omega) W h
  rw [he] at h2
  exact h2.mono fun e w' ⟨x, g1, ⟨g2, g3⟩, g4⟩ => ⟨x, g1, ⟨⟨_, g2⟩, g3⟩, g4⟩
set_option maxHeartbeats 16000000 in
set_option maxRecDepth 100000 in
theorem law23_NearOrder (A : Option Addr) (la : List Int) (ca : Nat) (B : Option Addr) (lb : List Int) (cb : Nat) (n wd same k turn : Int) (hla : la.length ≤ 9223372036854775807) (hac : la.length ≤ ca) (hba : ∀ x ∈ la, -9223372036854775808 ≤ x ∧ x ≤ 9223372036854775807) (hlb : lb.length ≤ 9223372036854775807) (hbb : ∀ x ∈ lb, -9223372036854775808 ≤ x ∧ x ≤ 9223372036854775807) (lo2 : -9223372036854775808 ≤ n) (hi2 : n ≤ 9223372036854775807) (lo3 : -9223372036854775808 ≤ wd) (hi3 : wd ≤ 9223372036854775807) (lo4 : -9223372036854775808 ≤ same) (hi4 : same ≤ 9223372036854775807) (lo5 : -9223372036854775808 ≤ k) (hi5 : k ≤ 9223372036854775807) (lo6 : -9223372036854775808 ≤ turn) (hi6 : turn ≤ 9223372036854775807)
  (w : World) (h1 : Li w A la) (h2 : Li w B lb) (HT : Tab w) :
  Calls Tryz.prog 10 #[.slice A la.length ca, .slice B lb.length cb, .int .i64 n, .int .i64 wd, .int .i64 same, .int .i64 k, .int .i64 turn] w fun e w' => e = .returned (.bool true) ∧ Grow w w' := by
 clear lo2 hi2 lo3 hi3 lo4 hi4 lo5 hi5 lo6 hi6
 obtain ⟨pa, hpa⟩ : ∃ p, p = la.length := ⟨_, rfl⟩
 obtain ⟨pb, hpb⟩ : ∃ p, p = lb.length := ⟨_, rfl⟩
 rw [← hpa] at hac ⊢
 rw [← hpb]
 have hBB : 100000 ≤ BIG := by unfold BIG; omega
 have rN := pick_range n (m := 12) (by omega)
 have rL := pick_range wd (m := 3) (by omega)
 have rK := pick_range k (m := 9) (by omega)
 obtain ⟨N, hN⟩ : ∃ N : Nat, pick n 12 = (N : Int) := ⟨(pick n 12).toNat, by omega⟩
 obtain ⟨Lw, hLw⟩ : ∃ Lw : Nat, pick wd 3 + 1 = (Lw : Int) := ⟨(pick wd 3 + 1).toNat, by omega⟩
 have hN11 : N ≤ 11 := by omega
 have hL1 : 1 ≤ Lw := by omega
 have hL3 : Lw ≤ 3 := by omega
 have hr : ∀ W, Grow w W → Calls Tryz.prog 12 #[.slice A pa ca, .int .i64 n, .int .i64 wd, .int .i64 same] W (RetY (fun x : Ax × List Rq => .slice x.1.1 N x.1.2) (fun x W => RowsOk N Lw x.2 ∧ Lrz W x.1.1 x.2 ∧ N ≤ x.1.2) W) := fun W hg => law23_rowsC A la ca pa N Lw n wd same hpa hac hN hLw (by omega) hba W (h1.grow hg)
 have hp3 := fun W => hand_PickG k 9 (by omega) (by omega) W
 obtain ⟨kp, hkp⟩ : ∃ y, y = pick k 9 := ⟨_, rfl⟩
 rw [← hkp] at rK
 simp only [← hkp] at hp3
 obtain ⟨K, hK⟩ : ∃ K : Nat, kp + 1 = (K : Int) := ⟨(kp + 1).toNat, by omega⟩
 have fk : IntKind.i64.wrap (kp + 1) = (K : Int) := by rw [IntWalk.i64_in _ (by omega)]; exact hK
 have hK1 : 1 ≤ K := by omega
 have hK2 : K ≤ 9 := by omega
 have hq : ∀ W, Grow w W → Calls Tryz.prog 13 #[.slice B pb cb, .int .i64 Lw] W (RetY (fun x : Ax => .slice x.1 Lw x.2) (fun x W' => Lz W' x.1 (rowQ lb Lw)) W) := fun W hg =>
  (hand_RowO B lb cb pb Lw hpb (by omega) (by omega) hbb W (h2.grow hg)).mono fun e w' ⟨v, ps, he, e1, e2, e3, hg'⟩ => by
   obtain ⟨A2, c2, rfl, -, -, hLz, -⟩ := own_lz e3 e2
   rw [e1] at hLz
   exact ⟨(A2, c2), he, hLz, hg'⟩
 have lP := rowQ_len lb Lw
 have sP := rowQ_szN lb Lw
 generalize rowQ lb Lw = P at *
 have hip : ∀ (W : World) (X : Ax), Lz W X.1 P → Tab W → Calls Tryz.prog 17 #[.slice X.1 Lw X.2] W (RetY (fun x : Ax => .slice x.1 Lw x.2) (fun x W => Lq W x.1 P) W) := fun W X hX hT =>
  (hand_InRow X.1 P X.2 Lw lP.symm (by omega) (fun x hx => Nat.le_trans (sP x hx) (by omega)) W hX hT).mono fun e w' ⟨A', c', he, h, hg'⟩ => ⟨(A', c'), he, h, hg'⟩
 have Hr := Lib.hid hr
 have Hq := Lib.hid hq
 have Hip := Lib.hid hip
 have Hp3 := Lib.hid hp3
 have LP := Lib.hid lP
 have SP := Lib.hid sP
 clear hLw hr hq hip hp3 lP sP h1 h2 hba hbb hpa hpb hla hlb hac rN rL rK hN hK hkp
 go_enter Tryz.func10, Tryz.ntmps10
 refine en0 ?_
 intro u hG hB hF
 refine wp_seq (rsE allocsT [0, 0, 0, 0, 1, 0] hB hG fun L hL => ?_)
 refine gs ?_
 refine gxd (X := (Ax × List Rq)) (fun x : Ax × List Rq => .slice x.1.1 N x.1.2) (fun x W => RowsOk N Lw x.2 ∧ Lrz W x.1.1 x.2 ∧ N ≤ x.1.2) (fun x u u' hg h => ⟨h.1, h.2.1.grow hg, h.2.2⟩) (fun x36 => ?_) (C := by (rintro v ⟨hgu, hB, hG, -⟩; exact Hr.out _ hG))
 refine gs ?_
 refine geT hL ?_
 clear hB hG hL L
 rintro u ⟨⟨hgu, hB, hG, -⟩, hx36⟩
 have HX := Lib.hid hx36
 clear hx36
 clear hgu
 have HG0 := Lib.hid hG
 clear hB hF hG
 obtain ⟨w0, rfl⟩ : ∃ x, x = w := ⟨_, rfl⟩
 obtain ⟨w, hwu⟩ : ∃ x, x = u := ⟨_, rfl⟩
 rw [← hwu] at HG0 HX
 have hB := Bx.nil u
 have hF := Fr.nil w
 have hG : Grow w u := hwu ▸ Grow.refl u
 clear hwu
 obtain ⟨⟨RA, RC⟩, rs⟩ := x36
 obtain ⟨hok, hLx, hRC⟩ := HX.out
 simp only at hok hLx hRC
 have HT' := HT.grow HG0.out
 have Hq2 := Lib.hid (fun W (hg : Grow w W) => Hq.out W (HG0.out.trans hg))
 have HRZ := Lib.hid hLx
 have Hok := Lib.hid hok
 clear HT HX Hr hLx hok Hq
 have HT := HT'
 clear HT'
 refine wp_seq ?_
 rcases Nat.eq_zero_or_pos N with hN0 | hN0
 ·subst hN0
  have Hle := Lib.hid (fun W => ref10_Learn_no RA RC W)
  refine wp_seq (rsE allocsT [0, 1, 0] hB hG fun L hL => ?_)
  refine gs ?_
  refine gmw (C := fun v => Hle.out _) ?_
  refine gs ?_
  refine geT hL ?_
  clear hB hG hL L
  rintro u ⟨-, hB, hG, -⟩
  refine wp_cond_true (rfl) ?_
  refine wp_seq (rsE allocsT [1, 0] hB hG fun L hL => ?_)
  refine gmd (C := fun v ⟨hgu, hB, hG, _⟩ => law23_known _ (HT.grow hG)) ?_
  refine gs ?_
  refine geT hL ?_
  clear hB hG hL L
  rintro u ⟨-, hB, hG, -⟩
  refine rt Tryz.results10 ?_
  exact ⟨rfl, HG0.out.trans hG⟩
 ·have hok := Hok.out
  have rT := pick_range turn (m := (N : Int)) (by omega)
  obtain ⟨T, hT0⟩ : ∃ T : Nat, pick turn N = (T : Int) := ⟨(pick turn N).toNat, by omega⟩
  have hTN : T < N := by omega
  have hpT := fun W => hand_PickG turn N (by omega) (by omega) W
  simp only [hT0] at hpT
  have hle := fun W (hg : Grow w W) => ref10_Learn_ok RA rs N Lw RC hok.1 hN0 (by omega) hL1 (by omega) (fun r hr => (hok.2 r hr).1) W (HRZ.out.grow hg)
  obtain ⟨bb, ob, e⟩ := HRZ.out.addr (by have := hok.1; omega)
  subst e
  have hil : 0 < rs.length := by have := hok.1; omega
  have hr0 : ∀ W, Grow w W → W.cell? ⟨bb, ob, none⟩ = some (.slice rs[0].1 Lw rs[0].2.1) := fun W hg => by
   have h3 := ((HRZ.out.grow hg).read (List.getElem?_eq_getElem hil)).1
   rw [(hok.2 _ (List.getElem_mem hil)).1, Nat.add_zero] at h3
   exact h3
  obtain ⟨Ar, hAr⟩ : ∃ x, x = rs[0].1 := ⟨_, rfl⟩
  obtain ⟨cr, hcr⟩ : ∃ x, x = rs[0].2.1 := ⟨_, rfl⟩
  simp only [← hAr, ← hcr] at hr0
  have hNi : (0 : Int) < (N : Int) := by omega
  have hs1 := fun W => slice_M_from bb ob N RC T (by omega) (by omega) hRC W
  have hs2 := fun W => slice_M_to bb ob N RC T (by omega) W
  have hrun := fun (v : World) (b : Nat) (hb : w.heap.size ≤ b) (hv : Blk v b 26 #[]) (hg : Grow w v) => rot_run hb hv hg hok.1 hTN (by omega) HRZ.out (RC := RC)
  obtain ⟨oT, hoT⟩ : ∃ x, x = ob + T := ⟨_, rfl⟩
  obtain ⟨N1, hN1⟩ : ∃ x, x = N - T := ⟨_, rfl⟩
  obtain ⟨C1, hC1⟩ : ∃ x, x = RC - T := ⟨_, rfl⟩
  simp only [← hoT, ← hN1, ← hC1] at hs1 hrun
  have hoky : RowsOk N Lw (rotL T rs) := ⟨by rw [rotL_len]; exact hok.1, fun r hr => hok.2 r ((rotL_perm T rs).mem_iff.1 hr)⟩
  have Hle := Lib.hid hle
  have Hr0 := Lib.hid hr0
  have HpT := Lib.hid hpT
  have Hs1 := Lib.hid hs1
  have Hs2 := Lib.hid hs2
  have Hrun := Lib.hid hrun
  have Hoky := Lib.hid hoky
  clear hle hr0 hok hAr hcr hil rT hT0 hpT hs1 hs2 hrun hoT hN1 hC1 hoky hRC
  refine wp_seq (rsE allocsT [0, 1, 0] hB hG fun L hL => ?_)
  refine gs ?_
  refine gmd (C := fun v ⟨hgu, hB, hG, _⟩ => Hle.out _ hG) ?_
  refine gs ?_
  refine geT hL ?_
  clear hB hG hL L
  rintro u ⟨-, hB, hG, -⟩
  refine wp_cond_false (rfl) ?_
  refine wp_skip ?_
  refine then_norm ?_
  refine wp_seq (rsE allocsT [0, 0, 0, 1, 0] hB hG fun L hL => ?_)
  refine gs ?_
  refine gmw (C := fun v => HpT.out _) ?_
  refine gs ?_
  refine geT hL ?_
  clear hB hG hL L
  rintro u ⟨-, hB, hG, -⟩
  refine wp_seq ?_
  have hs1 := Hs1.out
  have hs2 := Hs2.out
  refine Code.wp_mono NoP.up ?_
  refine wp_region_held_drew (S := fun w' => True) (by kernel_rfl) trivial (fun hHeld => ?_)
  refine wpAnyH_take (i := 1) (v := ?_) rfl (by kernel_rfl) (by kernel_rfl) (by kernel_rfl) (fun _ _ _ h => h) (Or.inl ⟨by rfl, ?_⟩) (by assumption) ?_
  rotate_left
  ·(intro w hSw; go_simp; (try with_reducible rfl))
  (try simp only [Act.put, List.setIfInBounds_toArray, List.set_cons_zero, List.set_cons_succ])
  refine wpAnyH_take (i := 2) (v := ?_) rfl (by kernel_rfl) (by kernel_rfl) (by kernel_rfl) (fun _ _ _ h => h) (Or.inl ⟨by rfl, ?_⟩) (by assumption) ?_
  rotate_left
  ·(intro w hSw; go_simp; (try with_reducible rfl))
  (try simp only [Act.put, List.setIfInBounds_toArray, List.set_cons_zero, List.set_cons_succ])
  refine wpAnyH_take (i := 3) (v := ?_) rfl (by kernel_rfl) (by kernel_rfl) (by kernel_rfl) (fun _ _ _ h => h) (Or.inl ⟨by rfl, ?_⟩) (by assumption) ?_
  rotate_left
  ·(intro w hSw; go_simp; (try with_reducible rfl))
  (try simp only [Act.put, List.setIfInBounds_toArray, List.set_cons_zero, List.set_cons_succ])
  refine wpAnyH_take (i := 5) (v := ?_) rfl (by kernel_rfl) (by kernel_rfl) (by kernel_rfl) (fun _ _ _ h => h) (Or.inl ⟨by rfl, ?_⟩) (by assumption) ?_
  rotate_left
  ·(intro w hSw; go_simp; (try with_reducible rfl))
  (try simp only [Act.put, List.setIfInBounds_toArray, List.set_cons_zero, List.set_cons_succ])
  refine wpAnyH_take (i := 6) (v := ?_) rfl (by kernel_rfl) (by kernel_rfl) (by kernel_rfl) (fun _ _ _ h => h) (Or.inl ⟨by rfl, ?_⟩) (by assumption) ?_
  rotate_left
  ·(intro w hSw; go_simp; (try with_reducible rfl))
  (try simp only [Act.put, List.setIfInBounds_toArray, List.set_cons_zero, List.set_cons_succ])
  refine wpAnyH_take (i := 7) (v := ?_) rfl (by kernel_rfl) (by kernel_rfl) (by kernel_rfl) (fun _ _ _ h => h) (Or.inl ⟨by rfl, ?_⟩) (by assumption) ?_
  rotate_left
  ·(intro w hSw; go_simp; (try with_reducible rfl))
  (try simp only [Act.put, List.setIfInBounds_toArray, List.set_cons_zero, List.set_cons_succ])
  refine wpAnyH_ready (rs := [0]) (by kernel_rfl) (by simp) (AllReadyH.cons rfl (fun K hK => ?_) AllReadyH.nil)
  go_simp
  refine hK.out _ _ trivial (fun hHeld => ?_)
  clear hK K
  (try simp only [Act.put, List.setIfInBounds_toArray, List.set_cons_zero, List.set_cons_succ])
  refine wpAnyH_ready (rs := [4]) (by kernel_rfl) (by simp) (AllReadyH.cons rfl (fun K hK => ?_) AllReadyH.nil)
  obtain ⟨v1, w1, A2, c2, w2, hr1, hr2, hL2, hG2⟩ := Hrun.out (World.drew (World.alloc u (.cells #[] 26))) u.heap.size hG.size (Blk.grow (Grow.drew _) (Blk.new u 26 #[])) ((hG.trans (Grow.alloc u _)).trans (Grow.drew _))
  refine step_app (by rfl) _ _ _ (by rfl) (by rfl) (by rfl) hr1 ?_
  refine hK.out _ _ trivial (fun hHeld => ?_)
  clear hK K
  (try simp only [Act.put, List.setIfInBounds_toArray, List.set_cons_zero, List.set_cons_succ])
  refine wpAnyH_ready (rs := [8]) (by kernel_rfl) (by simp) (AllReadyH.cons rfl (fun K hK => ?_) AllReadyH.nil)
  refine step_app (by rfl) _ _ _ (by rfl) (by rfl) (by rfl) hr2 ?_
  refine hK.out _ _ trivial (fun hHeld => ?_)
  clear hK K
  (try simp only [Act.put, List.setIfInBounds_toArray, List.set_cons_zero, List.set_cons_succ])
  refine wpAnyH_take (i := 9) (v := ?_) rfl (by kernel_rfl) (by kernel_rfl) (by kernel_rfl) (fun _ _ _ h => h) (Or.inl ⟨by rfl, ?_⟩) (by assumption) ?_
  rotate_left
  ·(intro w hSw; go_simp; (try with_reducible rfl))
  (try simp only [Act.put, List.setIfInBounds_toArray, List.set_cons_zero, List.set_cons_succ])
  refine wpAnyH_done (by kernel_rfl) ?_ _
  refine NoP.norm ?_
  clear hB hG hs1 hs2 hr1 hr2 Hs1 Hs2 Hrun HpT
  have HLY := Lib.hid hL2
  have hG := hG2
  have hB := Bx.nil w2
  have HGa := HG0
  clear hL2 hG2 HG0
  obtain ⟨u, rfl⟩ : ∃ x, x = w2 := ⟨_, rfl⟩
  have HG0 := Lib.hid hG
  clear hB hF hG
  obtain ⟨w0, rfl⟩ : ∃ x, x = w := ⟨_, rfl⟩
  obtain ⟨w, hwu⟩ : ∃ x, x = u := ⟨_, rfl⟩
  rw [← hwu] at HG0 HLY
  have hB := Bx.nil u
  have hF := Fr.nil w
  have hG : Grow w u := hwu ▸ Grow.refl u
  clear hwu
  have HT' := HT.grow HG0.out
  have hr0 := fun W (hg : Grow w W) => Hr0.out W (HG0.out.trans hg)
  have hq2 := fun W (hg : Grow w W) => Hq2.out W (HG0.out.trans hg)
  have hrz := HRZ.out.grow HG0.out
  have HG1 := Lib.hid (HGa.out.trans HG0.out)
  clear HT Hr0 Hq2 HRZ HGa HG0 Hle
  have HT := HT'
  have Hr0 := Lib.hid hr0
  have Hq2 := Lib.hid hq2
  have HRZ := Lib.hid hrz
  clear HT' hr0 hq2 hrz
  refine then_norm ?_
  refine wp_seq (rsE allocsT [0, 0, 0, 0, 0, 1, 1, 0] hB hG fun L hL => ?_)
  repeat first | refine gya ?_ | refine gyr ?_ | refine gna ?_ | refine gyb (by (rintro v ⟨hgu, hB, hG, -⟩ N hN; have r := hB.r; simp only [BxR] at r; (first | obtain ⟨q0, q1, q2, q3⟩ := (HN.out.grow hG).cells | obtain ⟨q0, q1⟩ := Hb19.out v hG | have q0 := Hr0.out v hG); go_simp; exact hN)) ?_
  refine gxd (X := Ax) (fun x : Ax => .slice x.1 Lw x.2) (fun x W => Lz W x.1 P) (fun x u u' hg h => Lz.grow h hg) (fun x59 => ?_) (C := by (rintro v ⟨hgu, hB, hG, -⟩; exact Hq2.out _ hG))
  refine gxd (X := Ax) (fun x : Ax => .slice x.1 Lw x.2) (fun x W => Lq W x.1 P) (fun x u u' hg h => Lq.grow h hg) (fun x60 => ?_) (C := by (rintro v ⟨⟨hgu, hB, hG, -⟩, hx59⟩; exact Hip.out _ x59 hx59 (HT.grow hG)))
  refine gs ?_
  refine geT hL ?_
  clear hB hG hL L
  rintro u ⟨⟨⟨hgu, hB, hG, -⟩, hx59⟩, hx60⟩
  have HQ := Lib.hid hx60
  have HGa := HG1
  clear hx59 hx60 HG1
  clear hgu
  have HG0 := Lib.hid hG
  clear hB hF hG
  obtain ⟨w0, rfl⟩ : ∃ x, x = w := ⟨_, rfl⟩
  obtain ⟨w, hwu⟩ : ∃ x, x = u := ⟨_, rfl⟩
  rw [← hwu] at HG0 HQ
  have hB := Bx.nil u
  have hF := Fr.nil w
  have hG : Grow w u := hwu ▸ Grow.refl u
  clear hwu
  have HT' := HT.grow HG0.out
  have hrz := HRZ.out.grow HG0.out
  have hly := HLY.out.grow HG0.out
  have HG1 := Lib.hid (HGa.out.trans HG0.out)
  clear HT Hr0 Hq2 HRZ HGa HG0 HLY
  have HT := HT'
  have HRZ := Lib.hid hrz
  have HLY := Lib.hid hly
  clear HT' hrz hly
  obtain ⟨hb1, hb2⟩ := order_build (some ⟨bb, ob, none⟩, RC) rs N Lw Hok.out hN0 hN11 hL1 hL3
  obtain ⟨hb3, hb4⟩ := order_build (A2, c2) (rotL T rs) N Lw Hoky.out hN0 hN11 hL1 hL3
  obtain ⟨ns1, hns1⟩ : ∃ x, x = flatT (growT (rs.map (·.2.2)) Lw (List.range N) 0) 0 := ⟨_, rfl⟩
  obtain ⟨ns2, hns2⟩ : ∃ x, x = flatT (growT ((rotL T rs).map (·.2.2)) Lw (List.range N) 0) 0 := ⟨_, rfl⟩
  have hc1 := (built_ok (rs.map (·.2.2)) Lw hL1 (by rw [List.length_map, Hok.out.1]; exact hN0)).1
  have hc2 := (built_ok ((rotL T rs).map (·.2.2)) Lw hL1 (by rw [List.length_map, Hoky.out.1]; exact hN0)).1
  rw [List.length_map, Hok.out.1, ← hns1] at hc1
  rw [List.length_map, Hoky.out.1, ← hns2] at hc2
  have hl1 : ns1.length = N := by rw [hns1, flatT_len, growT_size, List.length_range]
  have hl2 : ns2.length = N := by rw [hns2, flatT_len, growT_size, List.length_range]
  simp only [← hns1] at hb2
  simp only [← hns2] at hb4
  have Hb1 := Lib.hid hb1
  have Hb2 := Lib.hid hb2
  have Hb3 := Lib.hid hb3
  have Hb4 := Lib.hid hb4
  have Hc1 := Lib.hid (And.intro hl1 hc1)
  have Hc2 := Lib.hid (And.intro hl2 hc2)
  clear hb1 hb2 hb3 hb4 hns1 hns2 hc1 hc2 hl1 hl2
  refine wp_seq (rsC allocsT [0, 1, 1, 0, 0, 0, 2] hB hG fun K L hN hL => ?_)
  refine gs ?_
  refine gxd (X := (Ax × List Rq)) (fun x : Ax × List Rq => .slice x.1.1 N x.1.2) (fun x W => x.2.map (·.2.2) = rs.map (·.2.2) ∧ Lrq W x.1.1 x.2) (fun x u u' hg h => ⟨h.1, h.2.grow hg⟩) (fun x63 => ?_) (C := by (rintro v ⟨hgu, hB, hG, -⟩; exact Hb1.out _ (HRZ.out.grow hG) (HT.grow hG)))
  refine gxd (X := ((Ax × Ax) × List Rq)) (fun x : (Ax × Ax) × List Rq => .tuple #[.agg #[.slice x.1.1.1 N x.1.1.2, .slice x.1.2.1 N x.1.2.2], .int .i64 0]) (fun x W' => (∃ B, TreeO B N x.1.1 x.1.2 x.2 ns1 W') ∧ x.2.map (·.2.2) = rs.map (·.2.2)) (fun x u u' hg h => ⟨h.1.elim fun B hB => ⟨B, hB.grow hg⟩, h.2⟩) (fun x64 => ?_) (C := by (rintro v ⟨⟨hgu, hB, hG, -⟩, hx63⟩; exact Hb2.out _ x63.1 x63.2 hx63.1 hx63.2))
  refine gs ?_
  refine gaa (newObj_Tree _ _ _ _ _) fun b19 hb19 hn19 => ?_
  replace hF := hF.n1 [] hB hG hb19 hn19
  refine geC hL ?_
  clear hB hG hL L
  rintro u ⟨⟨⟨⟨hgu, hB, hG, -⟩, hx63⟩, hx64⟩, h19⟩
  replace hB := hB.cons' h19
  clear h19
  obtain ⟨⟨⟨R1, R1c⟩, ⟨N9, N9c⟩⟩, rs1⟩ := x64
  obtain ⟨⟨BB, ht1⟩, ht2⟩ := hx64
  simp only at ht1 ht2
  clear hx63
  clear hb19 hn19
  clear hgu
  refine gtT ?_
  clear hN K
  refine sv hB hF hG 0 0 [_, _] ?_
  intro u hu hBG
  have ht4 := (TreeO.put ht1 hB.head (by decide) (by decide) (by decide) hu).parts
  simp only at ht4
  clear ht1 hB hG hu
  obtain ⟨hB, hG⟩ := hBG
  have hb19 := fun W (hg : Grow u W) => And.intro ((hB.head.grow hg).cell 0) ((hB.head.grow hg).cell 1)
  have Hb19 := Lib.hid hb19
  have HLR := Lib.hid ht4.1
  have HLN := Lib.hid ht4.2
  have Hm1 := Lib.hid ht2
  have HGa := HG1
  clear ht4 ht2 hb19 HG1
  have HG0 := Lib.hid hG
  clear hB hF hG
  obtain ⟨w0, rfl⟩ : ∃ x, x = w := ⟨_, rfl⟩
  obtain ⟨w, hwu⟩ : ∃ x, x = u := ⟨_, rfl⟩
  rw [← hwu] at HG0 Hb19 HLR HLN
  have hB := Bx.nil u
  have hF := Fr.nil w
  have hG : Grow w u := hwu ▸ Grow.refl u
  clear hwu
  have HT' := HT.grow HG0.out
  have hly := HLY.out.grow HG0.out
  have hq2 := HQ.out.grow HG0.out
  have HG1 := Lib.hid (HGa.out.trans HG0.out)
  clear HT HGa HG0 HLY HRZ HQ Hb1 Hb2
  have HT := HT'
  have HLY := Lib.hid hly
  have HQ := Lib.hid hq2
  clear HT' hly hq2
  refine wp_seq (rsC allocsT [0, 1, 1, 0, 0, 0, 2] hB hG fun K L hN hL => ?_)
  refine gs ?_
  refine gxd (X := (Ax × List Rq)) (fun x : Ax × List Rq => .slice x.1.1 N x.1.2) (fun x W => x.2.map (·.2.2) = (rotL T rs).map (·.2.2) ∧ Lrq W x.1.1 x.2) (fun x u u' hg h => ⟨h.1, h.2.grow hg⟩) (fun x69 => ?_) (C := by (rintro v ⟨hgu, hB, hG, -⟩; exact Hb3.out _ (HLY.out.grow hG) (HT.grow hG)))
  refine gxd (X := ((Ax × Ax) × List Rq)) (fun x : (Ax × Ax) × List Rq => .tuple #[.agg #[.slice x.1.1.1 N x.1.1.2, .slice x.1.2.1 N x.1.2.2], .int .i64 0]) (fun x W' => (∃ B, TreeO B N x.1.1 x.1.2 x.2 ns2 W') ∧ x.2.map (·.2.2) = (rotL T rs).map (·.2.2)) (fun x u u' hg h => ⟨h.1.elim fun B hB => ⟨B, hB.grow hg⟩, h.2⟩) (fun x70 => ?_) (C := by (rintro v ⟨⟨hgu, hB, hG, -⟩, hx69⟩; exact Hb4.out _ x69.1 x69.2 hx69.1 hx69.2))
  refine gs ?_
  refine gaa (newObj_Tree _ _ _ _ _) fun b21 hb21 hn21 => ?_
  replace hF := hF.n1 [] hB hG hb21 hn21
  refine geC hL ?_
  clear hB hG hL L
  rintro u ⟨⟨⟨⟨hgu, hB, hG, -⟩, hx69⟩, hx70⟩, h21⟩
  replace hB := hB.cons' h21
  clear h21
  obtain ⟨⟨⟨R2, R2c⟩, ⟨N2, N2c⟩⟩, rs2⟩ := x70
  obtain ⟨⟨BB2, ht1⟩, ht2⟩ := hx70
  simp only at ht1 ht2
  clear hx69
  clear hb21 hn21
  clear hgu
  refine gtT ?_
  clear hN K
  refine sv hB hF hG 0 0 [_, _] ?_
  intro u hu hBG
  have ht4 := (TreeO.put ht1 hB.head (by decide) (by decide) (by decide) hu).parts
  simp only at ht4
  clear ht1 hB hG hu
  obtain ⟨hB, hG⟩ := hBG
  obtain ⟨e1, e2⟩ := Hb19.out u hG
  have hnb : NoB b19 b21 N Lw (R1, R1c) (N9, N9c) (R2, R2c) (N2, N2c) x60 rs1 rs2 ns1 ns2 P u := ⟨e1, e2, hB.head.cell 0, hB.head.cell 1, HLR.out.grow hG, Le.grow HLN.out hG, ht4.1, ht4.2, HQ.out.grow hG, HT.grow hG⟩
  have HN := Lib.hid hnb
  have Hm2 := Lib.hid ht2
  have HGa := HG1
  clear ht4 ht2 hnb e1 e2 HG1 Hb19 HLR HLN HQ HT HLY Hb3 Hb4
  have HG0 := Lib.hid hG
  clear hB hF hG
  obtain ⟨w0, rfl⟩ : ∃ x, x = w := ⟨_, rfl⟩
  obtain ⟨w, hwu⟩ : ∃ x, x = u := ⟨_, rfl⟩
  rw [← hwu] at HG0 HN
  have hB := Bx.nil u
  have hF := Fr.nil w
  have hG : Grow w u := hwu ▸ Grow.refl u
  clear hwu
  have HG1 := Lib.hid (HGa.out.trans HG0.out)
  clear HGa HG0
  obtain ⟨X, hX⟩ : ∃ X, X = rs.map (·.2.2) := ⟨_, rfl⟩
  have hXl : X.length = N := by rw [hX, List.length_map]; exact Hok.out.1
  have hm1 : rs1.map (·.2.2) = X := by rw [hX]; exact Hm1.out
  have hm2 : rs2.map (·.2.2) = rotL T X := by rw [hX, ← rotL_map]; exact Hm2.out
  have hk1 := rowsOk_of Hok.out (rs' := rs1) Hm1.out
  have hk2 := rowsOk_of Hoky.out (rs' := rs2) Hm2.out
  obtain ⟨HA, hHA⟩ : ∃ l, l = best K (hitsTo (farI X P Lw) N) := ⟨_, rfl⟩
  obtain ⟨HB, hHB⟩ : ∃ l, l = best K (hitsTo (farI (rotL T X) P Lw) N) := ⟨_, rfl⟩
  obtain ⟨M, hM⟩ : ∃ M, M = min K N := ⟨_, rfl⟩
  have hAl : HA.length = M := by rw [hHA, hM, best_len]; unfold hitsTo; simp
  have hBl : HB.length = M := by rw [hHB, hM, best_len]; unfold hitsTo; simp
  have hsnd : HB.map (·.2) = HA.map (·.2) := by
   have h := best_rot K X P Lw T
   rw [hXl] at h
   rw [hHA, hHB]
   exact h
  have hAmem : ∀ (i : Nat) (h : i < HA.length), HA[i].1 < N ∧ HA[i].2 = farI X P Lw HA[i].1 := fun i h => by
   have h0 : ∀ x, x ∈ HA → x ∈ hitsTo (farI X P Lw) N := fun x hx => by
    rw [hHA] at hx
    exact best_mem hx
   have h1 := h0 _ (List.getElem_mem h)
   unfold hitsTo at h1
   obtain ⟨j, hj, e⟩ := List.mem_map.1 h1
   rw [← e]
   exact ⟨List.mem_range.1 hj, rfl⟩
  have hAs : HA.Pairwise leH := by rw [hHA]; exact best_sorted _ _
  have hne1 : ∀ W, NoB b19 b21 N Lw (R1, R1c) (N9, N9c) (R2, R2c) (N2, N2c) x60 rs1 rs2 ns1 ns2 P W → Calls Tryz.prog 38 #[treeV (R1, R1c) N (N9, N9c) N, .slice x60.1 Lw x60.2, .int .i64 (K : Nat)] W (RetY (fun x : Ax × Nat => .tuple #[.slice x.1.1 M x.1.2, .int .i64 (x.2 : Nat), .int .i64 0]) (fun x W => Lh W x.1.1 HA) W) := fun W h => by
   have hh := near_Nearest_ok (R1, R1c) (N9, N9c) x60 rs1 N Lw N K ns1 P hk1.1 hN0 (by omega) hL1 (by omega) (fun r hr => (hk1.2 r hr).1) Hc1.out.1 LP.out hK1 (by omega) 50 (fun r hr => (hk1.2 r hr).2) SP.out (by omega) (by rw [Hm1.out]; exact Hc1.out.2) W h.lr1 h.nd1 h.lq h.tab
   rw [hm1, ← hHA, ← hM] at hh
   exact hh.mono fun e w' ⟨x, g1, g2, g3⟩ => ⟨x, g1, g2.1, g3⟩
  have hne2 : ∀ W, NoB b19 b21 N Lw (R1, R1c) (N9, N9c) (R2, R2c) (N2, N2c) x60 rs1 rs2 ns1 ns2 P W → Calls Tryz.prog 38 #[treeV (R2, R2c) N (N2, N2c) N, .slice x60.1 Lw x60.2, .int .i64 (K : Nat)] W (RetY (fun x : Ax × Nat => .tuple #[.slice x.1.1 M x.1.2, .int .i64 (x.2 : Nat), .int .i64 0]) (fun x W => Lh W x.1.1 HB) W) := fun W h => by
   have hh := near_Nearest_ok (R2, R2c) (N2, N2c) x60 rs2 N Lw N K ns2 P hk2.1 hN0 (by omega) hL1 (by omega) (fun r hr => (hk2.2 r hr).1) Hc2.out.1 LP.out hK1 (by omega) 50 (fun r hr => (hk2.2 r hr).2) SP.out (by omega) (by rw [Hm2.out]; exact Hc2.out.2) W h.lr2 h.nd2 h.lq h.tab
   rw [hm2, ← hHB, ← hM] at hh
   exact hh.mono fun e w' ⟨x, g1, g2, g3⟩ => ⟨x, g1, g2.1, g3⟩
  have hrow : ∀ r, r < N → ∃ (bR oR : Nat) (Ar2 : Option Addr) (cr2 : Nat), R1 = some ⟨bR, oR, none⟩ ∧ ∀ W, NoB b19 b21 N Lw (R1, R1c) (N9, N9c) (R2, R2c) (N2, N2c) x60 rs1 rs2 ns1 ns2 P W → W.cell? ⟨bR, oR + r, none⟩ = some (.slice Ar2 Lw cr2) ∧ Calls Tryz.prog 44 #[.slice Ar2 Lw cr2, .slice x60.1 Lw x60.2] W fun e w' => e = .returned (.tuple #[qV (farI X P Lw r), .bool true]) ∧ Grow W w' := fun r hr => by
   have hrl : r < rs1.length := by rw [hk1.1]; exact hr
   obtain ⟨bR, oR, e⟩ := HN.out.lr1.addr (by omega)
   simp only at e
   subst e
   refine ⟨bR, oR, rs1[r].1, rs1[r].2.1, rfl, fun W h => ?_⟩
   obtain ⟨g1, g2⟩ := h.lr1.read (List.getElem?_eq_getElem hrl)
   have hL := (hk1.2 _ (List.getElem_mem hrl)).1
   rw [hL] at g1
   have e2 : rowR X r = rs1[r].2.2 := by rw [← hm1]; unfold rowR; rw [List.getElem?_map, List.getElem?_eq_getElem hrl]; rfl
   have hLz : Lw * (4 * 50 + 3) ≤ 3 * (4 * 50 + 3) := Nat.mul_le_mul_right _ hL3
   have h3 := mean_Far rs1[r].1 x60.1 rs1[r].2.2 P rs1[r].2.1 x60.2 Lw hL LP.out (by omega) 50 (hk1.2 _ (List.getElem_mem hrl)).2 SP.out (by omega) W g2 h.lq h.tab
   rw [← e2, ← farI_eq] at h3
   exact ⟨g1, h3⟩
  have hD : ∀ (i : Nat) (h : i < HA.length), qs HA[i].2 ≤ 1000 := fun i h => by
   rw [(hAmem i h).2, farI_eq]
   have hrl : HA[i].1 < X.length := by rw [hXl]; exact (hAmem i h).1
   have e2 : rowR X HA[i].1 = X[HA[i].1] := by unfold rowR; rw [List.getElem?_eq_getElem hrl]; rfl
   rw [e2]
   have hmem : X[HA[i].1] ∈ rs.map (·.2.2) := by rw [← hX]; exact List.getElem_mem hrl
   obtain ⟨z, hz, ez⟩ := List.mem_map.1 hmem
   rw [← ez]
   have h3 := farQ_sz (Hok.out.2 z hz).1 LP.out (Hok.out.2 z hz).2 SP.out Lw (Nat.le_refl _)
   have h4 : Lw * (4 * 50 + 3) ≤ 3 * (4 * 50 + 3) := Nat.mul_le_mul_right _ hL3
   unfold farQ
   omega
  have fmin : min (N : Int) (K : Int) = (M : Int) := by omega
  have fMM : ((M : Int) != (M : Int)) = false := by simp
  have hM11 : M ≤ 11 := by omega
  have Hne1 := Lib.hid hne1
  have Hne2 := Lib.hid hne2
  have Hrow := Lib.hid hrow
  have HAm := Lib.hid hAmem
  have HAs := Lib.hid hAs
  have HD := Lib.hid hD
  have Hsnd := Lib.hid hsnd
  have Hll := Lib.hid (And.intro hAl hBl)
  clear hX hXl hm1 hm2 hk1 hk2 hHA hHB hM hAl hBl hsnd hAmem hAs hne1 hne2 hrow hD
  refine wp_seq (rdC allocsT [] [(0, 0), (0, 1), (0, 2), (1, 3), (0, 4), (1, 5), (0, 6), (0, 7), (0, 8), (0, 9), (0, 10), (0, 11)] hB hG (hs := growF_of [0, 0, 0, 4, 12, 31, 63, 127, 127, 127, 255, 1535, 4095] (by kernel_rfl)) fun K L hN hL => ?_)
  repeat first | refine gya ?_ | refine gyr ?_ | refine gna ?_ | refine gyb (by (rintro v ⟨hgu, hB, hG, -⟩ N hN; have r := hB.r; simp only [BxR] at r; (first | obtain ⟨q0, q1, q2, q3⟩ := (HN.out.grow hG).cells | obtain ⟨q0, q1⟩ := Hb19.out v hG | have q0 := Hr0.out v hG); go_simp; exact hN)) ?_
  refine gmw (C := fun v => Hp3.out _) ?_
  refine gs ?_
  refine gxd (X := (Ax × Nat)) (fun x : Ax × Nat => .tuple #[.slice x.1.1 M x.1.2, .int .i64 (x.2 : Nat), .int .i64 0]) (fun x W => Lh W x.1.1 HA) (fun x u u' hg h => Lh.grow h hg) (fun x79 => ?_) (C := by (rintro v ⟨hgu, hB, hG, -⟩; exact Hne1.out _ (HN.out.grow hG)))
  refine gs ?_
  refine geC hL ?_
  clear hB hG hL L
  rintro u ⟨⟨hgu, hB, hG, -⟩, hx79⟩
  obtain ⟨⟨A79, c79⟩, lk79⟩ := x79
  have HLA := Lib.hid (show Lh u A79 HA from hx79)
  have HGa := HG1
  clear hx79 HG1
  clear hgu
  refine gtT ?_
  clear hN K
  have HG0 := Lib.hid hG
  clear hB hF hG
  obtain ⟨w0, rfl⟩ : ∃ x, x = w := ⟨_, rfl⟩
  obtain ⟨w, hwu⟩ : ∃ x, x = u := ⟨_, rfl⟩
  rw [← hwu] at HG0 HLA
  have hB := Bx.nil u
  have hF := Fr.nil w
  have hG : Grow w u := hwu ▸ Grow.refl u
  clear hwu
  have HG1 := Lib.hid (HGa.out.trans HG0.out)
  have hn2 := HN.out.grow HG0.out
  clear HN HGa HG0
  have HN := Lib.hid hn2
  clear hn2
  refine wp_seq (rdC allocsT [] [(0, 0), (0, 1), (0, 2), (1, 3), (0, 4), (1, 5), (0, 6), (0, 7), (0, 8), (0, 9), (0, 10), (0, 11)] hB hG (hs := growF_of [0, 0, 0, 4, 12, 31, 63, 127, 127, 127, 255, 1535, 4095] (by kernel_rfl)) fun K L hN hL => ?_)
  repeat first | refine gya ?_ | refine gyr ?_ | refine gna ?_ | refine gyb (by (rintro v ⟨hgu, hB, hG, -⟩ N hN; have r := hB.r; simp only [BxR] at r; (first | obtain ⟨q0, q1, q2, q3⟩ := (HN.out.grow hG).cells | obtain ⟨q0, q1⟩ := Hb19.out v hG | have q0 := Hr0.out v hG); go_simp; exact hN)) ?_
  refine gmw (C := fun v => Hp3.out _) ?_
  refine gs ?_
  refine gxd (X := (Ax × Nat)) (fun x : Ax × Nat => .tuple #[.slice x.1.1 M x.1.2, .int .i64 (x.2 : Nat), .int .i64 0]) (fun x W => Lh W x.1.1 HB) (fun x u u' hg h => Lh.grow h hg) (fun x89 => ?_) (C := by (rintro v ⟨hgu, hB, hG, -⟩; exact Hne2.out _ (HN.out.grow hG)))
  refine gs ?_
  refine geC hL ?_
  clear hB hG hL L
  rintro u ⟨⟨hgu, hB, hG, -⟩, hx89⟩
  obtain ⟨⟨A89, c89⟩, lk89⟩ := x89
  have HLB := Lib.hid (show Lh u A89 HB from hx89)
  have HGa := HG1
  clear hx89 HG1
  clear hgu
  refine gtT ?_
  clear hN K
  have HG0 := Lib.hid hG
  clear hB hF hG
  obtain ⟨w0, rfl⟩ : ∃ x, x = w := ⟨_, rfl⟩
  obtain ⟨w, hwu⟩ : ∃ x, x = u := ⟨_, rfl⟩
  rw [← hwu] at HG0 HLB
  have hB := Bx.nil u
  have hF := Fr.nil w
  have hG : Grow w u := hwu ▸ Grow.refl u
  clear hwu
  have HG1 := Lib.hid (HGa.out.trans HG0.out)
  have hn2 := HN.out.grow HG0.out
  have hla := HLA.out.grow HG0.out
  clear HN HGa HG0 HLA
  have HN := Lib.hid hn2
  have HLA := Lib.hid hla
  clear hn2 hla
  refine wp_seq ?_
  refine wp_seq (rsE allocsT [0, 0, 0, 0, 0, 0, 0, 0, 0, 0, 0, 0, 0, 0, 0, 0, 0, 0, 0, 1, 0, 0, 0, 0] hB hG fun L hL => ?_)
  refine gs ?_
  first | refine gmw (C := fun v => Hp3.out _) ?_ | refine gmna ?_
  refine gs ?_
  refine geT hL ?_
  clear hB hG hL L
  rintro u ⟨-, hB, hG, -⟩
  refine wp_cond_false (rfl) ?_
  refine wp_skip ?_
  refine then_norm ?_
  refine wp_seq ?_
  refine r0T ?_
  refine wp_block ?_
  clear hB hF
  go_loopw [29] (fun s0 wr => ∃ j : Nat, j ≤ M ∧ s0 = .int .i64 j ∧ Grow w wr) (fun s0 _ => M - (intOf s0).toNat)
  case atStart => exact ⟨0, Nat.zero_le _, rfl, hG⟩
  case round =>
   clear hG
   obtain ⟨j, hj, rfl, hG⟩ := hrel
   obtain ⟨u, rfl⟩ : ∃ x, x = wr := ⟨_, rfl⟩
   have hB := Bx.nil u
   have hF := Fr.nil w
   rcases Nat.lt_or_ge j M with hlt | hge
   ·have hdec : decide ((j : Int) < (M : Int)) = true := by simp; omega
    have hjM : (j : Int) < (M : Int) := by omega
    have hjA : j < HA.length := by have := Hll.out.1; omega
    have hjB : j < HB.length := by have := Hll.out.2; omega
    obtain ⟨ga, oa, eA, hca⟩ := HLA.out.at (i := j) hjA
    obtain ⟨gb, ob2, eB, hcb⟩ := HLB.out.at (i := j) hjB
    subst eA eB
    obtain ⟨m1, m2⟩ := HAm.out j hjA
    have m3 := HD.out j hjA
    have eAB : HB[j].2 = HA[j].2 := by
     have h := congrArg (fun l => l[j]?) Hsnd.out
     simp only [List.getElem?_map, List.getElem?_eq_getElem hjA, List.getElem?_eq_getElem hjB, Option.map_some, Option.some.injEq] at h
     exact h
    obtain ⟨bR, oR, Ar2, cr2, eR, hrr⟩ := Hrow.out _ m1
    subst eR
    rw [← m2] at hrr
    have hprev : ∀ j0 : Nat, j = j0 + 1 → ∃ D0 : Rat, qs D0 ≤ 1000 ∧ D0 ≤ HA[j].2 ∧ ∀ W, Grow w W → Cq W ga (oa + j0 * 6 + 1) D0 := fun j0 hj0 => by
     have hj0A : j0 < HA.length := by omega
     obtain ⟨g9, o9, e9, hc9⟩ := HLA.out.at (i := j0) hj0A
     cases e9
     refine ⟨HA[j0].2, HD.out j0 hj0A, ?_, fun W hg => ?_⟩
     ·have h := List.pairwise_iff_getElem.1 HAs.out j0 j hj0A hjA (by omega)
      unfold leH at h
      rcases h with h | ⟨h, _⟩
      ·exact Rat.le_of_lt h
      ·rw [h]; exact Rat.le_refl
     ·have h := (hc9 W hg).2
      exact ⟨h.1, h.2.1, h.2.2.1, h.2.2.2.1, h.2.2.2.2⟩
    have hca2 : ∀ W, Grow w W → W.cell? ⟨ga, oa + j * 6, none⟩ = some (.int .i64 (HA[j].1 : Nat)) ∧ Cq W ga (oa + j * 6 + 1) HA[j].2 := fun W hg => ⟨(hca W hg).1, (hca W hg).2.1, (hca W hg).2.2.1, (hca W hg).2.2.2.1, (hca W hg).2.2.2.2.1, (hca W hg).2.2.2.2.2⟩
    have hcb2 : ∀ W, Grow w W → Cq W gb (ob2 + j * 6 + 1) HA[j].2 := fun W hg => by
     have h := (hcb W hg).2
     rw [eAB] at h
     exact ⟨h.1, h.2.1, h.2.2.1, h.2.2.2.1, h.2.2.2.2⟩
    obtain ⟨r, hr⟩ : ∃ r, r = HA[j].1 := ⟨_, rfl⟩
    obtain ⟨D, hD⟩ : ∃ D, D = HA[j].2 := ⟨_, rfl⟩
    rw [← hr] at m1
    rw [← hD] at m3
    simp only [← hr, ← hD] at hca2 hcb2 hrr
    simp only [← hD] at hprev
    have hrN : (r : Int) < (N : Int) := by omega
    have hpk := fun W => hand_PickG (r : Nat) (N : Nat) (by omega) (by omega) W
    rw [pick_small r N m1] at hpk
    have hcc := fun W => frac_Cmp D D W (by omega)
    rw [cmpQ_self] at hcc
    have Hca := Lib.hid hca2
    have Hcb := Lib.hid hcb2
    have Hrr := Lib.hid hrr
    have Hpk := Lib.hid hpk
    have Hcc := Lib.hid hcc
    clear hca hcb hca2 hcb2 hrr hpk hcc m2 eAB hr hD
    rcases Nat.eq_zero_or_pos j with hj0 | hj0
    ·have f0 : decide ((0 : Int) < (j : Int)) = false := by simp; omega
     have f0n : decide (0 < j) = false := by simp; omega
     clear hprev m1 m3 hjA hjB hj0
     refine wp_seq ?_
     refine r0T ?_
     refine wp_cond_true (rfl) ?_
     refine wp_skip ?_
     refine then_norm ?_
     refine wp_seq ?_
     refine wp_block ?_
     refine wp_seq (rdC allocsT [16] [(0, 0), (0, 1), (0, 2), (0, 3), (0, 4), (0, 5), (0, 6), (0, 7), (0, 8), (0, 12), (1, 9), (0, 10), (0, 11), (1, 13), (0, 14), (0, 15), (0, 16), (2, 17)] hB hG (hs := growF_of [0, 1, 0, 0, 12, 28, 60, 0, 128, 508, 1023, 2047, 0, 8191, 16383, 32767, 32767, 0, 196607, 524287] (by kernel_rfl)) fun K L hN hL => ?_)
     repeat first | refine gya ?_ | refine gyr ?_ | refine gna ?_ | refine gyb (by (rintro v ⟨hgu, hB, hG, -⟩ N hN; have r := hB.r; simp only [BxR] at r; obtain ⟨q0, q1, q2, q3⟩ := (HN.out.grow hG).cells; obtain ⟨a0, a1, a2, a3, a4, a5⟩ := Hca.out v hG; obtain ⟨b1, b2, b3, b4, b5⟩ := Hcb.out v hG; have c0 := (Hrr.out v (HN.out.grow hG)).1; go_simp; exact hN)) ?_
     refine gmw (C := fun v => Hpk.out _) ?_
     repeat first | refine gya ?_ | refine gyr ?_ | refine gna ?_ | refine gyb (by (rintro v ⟨hgu, hB, hG, -⟩ N hN; have r := hB.r; simp only [BxR] at r; obtain ⟨q0, q1, q2, q3⟩ := (HN.out.grow hG).cells; obtain ⟨a0, a1, a2, a3, a4, a5⟩ := Hca.out v hG; obtain ⟨b1, b2, b3, b4, b5⟩ := Hcb.out v hG; have c0 := (Hrr.out v (HN.out.grow hG)).1; go_simp; exact hN)) ?_
     refine gmd (C := fun v ⟨hgu, hB, hG, _⟩ => (Hrr.out _ (HN.out.grow hG)).2) ?_
     refine gs ?_
     refine gaa (newObj_Q _ _ _ _ _) fun b30 hb30 hn30 => ?_
     replace hF := hF.n1 [] hB hG hb30 hn30
     refine geC hL ?_
     clear hB hG hL L
     rintro u ⟨⟨-, hB, hG, -⟩, h30⟩
     replace hB := hB.cons' h30
     clear h30
     clear hb30 hn30
     refine gtT ?_
     clear hN K
     refine st hB hF hG 0 0 [_, _, _, _, _] ?_
     clear hB hG
     intro u hB hG
     refine wp_seq (rdC allocsT [] [(0, 0), (0, 1), (0, 2), (0, 3), (0, 4), (0, 5), (0, 6), (0, 7), (0, 8), (0, 9), (1, 10), (0, 11), (0, 12), (0, 13), (0, 14), (0, 15), (0, 16), (0, 17), (0, 18), (1, 19), (0, 20), (0, 21), (0, 22), (0, 23), (0, 24), (0, 25), (0, 26), (0, 27), (0, 28), (0, 29), (0, 30), (0, 31), (0, 32), (0, 33), (0, 34), (0, 35), (0, 36), (1, 37), (0, 38), (0, 39)] hB hG (hs := growF_of [0, 0, 3, 7, 15, 0, 0, 96, 224, 480, 1023, 2047, 4095, 8191, 8191, 32767, 65535, 131071, 8191, 524287, 1048575, 2097151, 4194303, 8388607, 16777215, 33554431, 67108863, 67108863, 268435455, 536870911, 1073741823, 67108863, 67108863, 4362076159, 15099494399, 32279363583, 66639101951, 137438953471, 274877906943, 549755813887, 1099511627775] (by kernel_rfl)) fun K L hN hL => ?_)
     repeat first | refine gya ?_ | refine gyr ?_ | refine gna ?_ | refine gyb (by (rintro v ⟨hgu, hB, hG, -⟩ N hN; have r := hB.r; simp only [BxR] at r; obtain ⟨q0, q1, q2, q3⟩ := (HN.out.grow hG).cells; obtain ⟨a0, a1, a2, a3, a4, a5⟩ := Hca.out v hG; obtain ⟨b1, b2, b3, b4, b5⟩ := Hcb.out v hG; have c0 := (Hrr.out v (HN.out.grow hG)).1; go_simp; exact hN)) ?_
     refine gmw (C := fun v => Hcc.out _) ?_
     repeat first | refine gya ?_ | refine gyr ?_ | refine gna ?_ | refine gyb (by (rintro v ⟨hgu, hB, hG, -⟩ N hN; have r := hB.r; simp only [BxR] at r; obtain ⟨q0, q1, q2, q3⟩ := (HN.out.grow hG).cells; obtain ⟨a0, a1, a2, a3, a4, a5⟩ := Hca.out v hG; obtain ⟨b1, b2, b3, b4, b5⟩ := Hcb.out v hG; have c0 := (Hrr.out v (HN.out.grow hG)).1; go_simp; exact hN)) ?_
     first | refine gmw (C := fun v => Hcc.out _) ?_ | refine gmna ?_
     repeat first | refine gya ?_ | refine gyr ?_ | refine gna ?_ | refine gyb (by (rintro v ⟨hgu, hB, hG, -⟩ N hN; have r := hB.r; simp only [BxR] at r; obtain ⟨q0, q1, q2, q3⟩ := (HN.out.grow hG).cells; obtain ⟨a0, a1, a2, a3, a4, a5⟩ := Hca.out v hG; obtain ⟨b1, b2, b3, b4, b5⟩ := Hcb.out v hG; have c0 := (Hrr.out v (HN.out.grow hG)).1; go_simp; exact hN)) ?_
     first | refine gmw (C := fun v => Hc3.out _) ?_ | refine gmna ?_
     refine gs ?_
     refine geC hL ?_
     clear hB hG hL L
     rintro u ⟨-, hB, hG, -⟩
     refine gtT ?_
     clear hN K
     refine wp_cond_false (rfl) ?_
     refine wp_skip ?_
     refine blk_norm ?_
     refine then_norm ?_
     refine r0E ?_
     refine then_norm ?_
     go_roundw
     case rel => exact ⟨j + 1, by omega, by go_num, hG⟩
     case measure => simp [intOf]; omega
    ·obtain ⟨j0, hj0e⟩ : ∃ x, x = j - 1 := ⟨_, rfl⟩
     obtain ⟨D0, z0, hle, hcp⟩ := hprev j0 (by omega)
     have fj : IntKind.i64.wrap ((j : Int) - 1) = (j0 : Int) := by rw [IntWalk.i64_in _ (by omega)]; omega
     have f0 : decide ((0 : Int) < (j : Int)) = true := by simp; omega
     have f0n : decide (0 < j) = true := by simp; omega
     have hj0M : (j0 : Int) < (M : Int) := by omega
     have hc3 := fun W => frac_Cmp D D0 W (by omega)
     obtain ⟨Z, hZ⟩ : ∃ Z, Z = cmpQ D D0 := ⟨_, rfl⟩
     simp only [← hZ] at hc3
     have fZ : decide (Z < 0) = false := by rw [hZ]; exact cmpQ_ge hle
     have Hc3 := Lib.hid hc3
     have Hcp := Lib.hid hcp
     clear hprev m1 m3 hjA hjB hlt hc3 hcp hZ hle z0 hj0e hj0
     refine wp_seq ?_
     refine r0T ?_
     refine wp_cond_true (rfl) ?_
     refine wp_skip ?_
     refine then_norm ?_
     refine wp_seq ?_
     refine wp_block ?_
     refine wp_seq (rdC allocsT [16] [(0, 0), (0, 1), (0, 2), (0, 3), (0, 4), (0, 5), (0, 6), (0, 7), (0, 8), (0, 12), (1, 9), (0, 10), (0, 11), (1, 13), (0, 14), (0, 15), (0, 16), (2, 17)] hB hG (hs := growF_of [0, 1, 0, 0, 12, 28, 60, 0, 128, 508, 1023, 2047, 0, 8191, 16383, 32767, 32767, 0, 196607, 524287] (by kernel_rfl)) fun K L hN hL => ?_)
     repeat first | refine gya ?_ | refine gyr ?_ | refine gna ?_ | refine gyb (by (rintro v ⟨hgu, hB, hG, -⟩ N hN; have r := hB.r; simp only [BxR] at r; obtain ⟨q0, q1, q2, q3⟩ := (HN.out.grow hG).cells; obtain ⟨a0, a1, a2, a3, a4, a5⟩ := Hca.out v hG; obtain ⟨b1, b2, b3, b4, b5⟩ := Hcb.out v hG; have c0 := (Hrr.out v (HN.out.grow hG)).1; obtain ⟨p1, p2, p3, p4, p5⟩ := Hcp.out v hG; go_simp; exact hN)) ?_
     refine gmw (C := fun v => Hpk.out _) ?_
     repeat first | refine gya ?_ | refine gyr ?_ | refine gna ?_ | refine gyb (by (rintro v ⟨hgu, hB, hG, -⟩ N hN; have r := hB.r; simp only [BxR] at r; obtain ⟨q0, q1, q2, q3⟩ := (HN.out.grow hG).cells; obtain ⟨a0, a1, a2, a3, a4, a5⟩ := Hca.out v hG; obtain ⟨b1, b2, b3, b4, b5⟩ := Hcb.out v hG; have c0 := (Hrr.out v (HN.out.grow hG)).1; obtain ⟨p1, p2, p3, p4, p5⟩ := Hcp.out v hG; go_simp; exact hN)) ?_
     refine gmd (C := fun v ⟨hgu, hB, hG, _⟩ => (Hrr.out _ (HN.out.grow hG)).2) ?_
     refine gs ?_
     refine gaa (newObj_Q _ _ _ _ _) fun b30 hb30 hn30 => ?_
     replace hF := hF.n1 [] hB hG hb30 hn30
     refine geC hL ?_
     clear hB hG hL L
     rintro u ⟨⟨-, hB, hG, -⟩, h30⟩
     replace hB := hB.cons' h30
     clear h30
     clear hb30 hn30
     refine gtT ?_
     clear hN K
     refine st hB hF hG 0 0 [_, _, _, _, _] ?_
     clear hB hG
     intro u hB hG
     refine wp_seq (rdC allocsT [] [(0, 0), (0, 1), (0, 2), (0, 3), (0, 4), (0, 5), (0, 6), (0, 7), (0, 8), (0, 9), (1, 10), (0, 11), (0, 12), (0, 13), (0, 14), (0, 15), (0, 16), (0, 17), (0, 18), (1, 19), (0, 20), (0, 21), (0, 22), (0, 23), (0, 24), (0, 25), (0, 26), (0, 27), (0, 28), (0, 29), (0, 30), (0, 31), (0, 32), (0, 33), (0, 34), (0, 35), (0, 36), (1, 37), (0, 38), (0, 39)] hB hG (hs := growF_of [0, 0, 3, 7, 15, 0, 0, 96, 224, 480, 1023, 2047, 4095, 8191, 8191, 32767, 65535, 131071, 8191, 524287, 1048575, 2097151, 4194303, 8388607, 16777215, 33554431, 67108863, 67108863, 268435455, 536870911, 1073741823, 67108863, 67108863, 4362076159, 15099494399, 32279363583, 66639101951, 137438953471, 274877906943, 549755813887, 1099511627775] (by kernel_rfl)) fun K L hN hL => ?_)
     repeat first | refine gya ?_ | refine gyr ?_ | refine gna ?_ | refine gyb (by (rintro v ⟨hgu, hB, hG, -⟩ N hN; have r := hB.r; simp only [BxR] at r; obtain ⟨q0, q1, q2, q3⟩ := (HN.out.grow hG).cells; obtain ⟨a0, a1, a2, a3, a4, a5⟩ := Hca.out v hG; obtain ⟨b1, b2, b3, b4, b5⟩ := Hcb.out v hG; have c0 := (Hrr.out v (HN.out.grow hG)).1; obtain ⟨p1, p2, p3, p4, p5⟩ := Hcp.out v hG; go_simp; exact hN)) ?_
     refine gmw (C := fun v => Hcc.out _) ?_
     repeat first | refine gya ?_ | refine gyr ?_ | refine gna ?_ | refine gyb (by (rintro v ⟨hgu, hB, hG, -⟩ N hN; have r := hB.r; simp only [BxR] at r; obtain ⟨q0, q1, q2, q3⟩ := (HN.out.grow hG).cells; obtain ⟨a0, a1, a2, a3, a4, a5⟩ := Hca.out v hG; obtain ⟨b1, b2, b3, b4, b5⟩ := Hcb.out v hG; have c0 := (Hrr.out v (HN.out.grow hG)).1; obtain ⟨p1, p2, p3, p4, p5⟩ := Hcp.out v hG; go_simp; exact hN)) ?_
     first | refine gmw (C := fun v => Hcc.out _) ?_ | refine gmna ?_
     repeat first | refine gya ?_ | refine gyr ?_ | refine gna ?_ | refine gyb (by (rintro v ⟨hgu, hB, hG, -⟩ N hN; have r := hB.r; simp only [BxR] at r; obtain ⟨q0, q1, q2, q3⟩ := (HN.out.grow hG).cells; obtain ⟨a0, a1, a2, a3, a4, a5⟩ := Hca.out v hG; obtain ⟨b1, b2, b3, b4, b5⟩ := Hcb.out v hG; have c0 := (Hrr.out v (HN.out.grow hG)).1; obtain ⟨p1, p2, p3, p4, p5⟩ := Hcp.out v hG; go_simp; exact hN)) ?_
     first | refine gmw (C := fun v => Hc3.out _) ?_ | refine gmna ?_
     refine gs ?_
     refine geC hL ?_
     clear hB hG hL L
     rintro u ⟨-, hB, hG, -⟩
     refine gtT ?_
     clear hN K
     refine wp_cond_false (rfl) ?_
     refine wp_skip ?_
     refine blk_norm ?_
     refine then_norm ?_
     refine r0E ?_
     refine then_norm ?_
     go_roundw
     case rel => exact ⟨j + 1, by omega, by go_num, hG⟩
     case measure => simp [intOf]; omega
   ·obtain rfl : M = j := by omega
    have hdec : decide ((M : Int) < (M : Int)) = false := by simp
    refine wp_seq ?_
    refine r0T ?_
    refine wp_cond_false (rfl) ?_
    refine wp_exit ?_
    refine then_exit ?_
    refine then_exit ?_
    refine blk_exit ?_
    refine then_norm ?_
    refine wp_seq (rsE allocsT [1, 0] hB hG fun L hL => ?_)
    refine gmd (C := fun v ⟨hgu, hB, hG, _⟩ => law23_known _ (HN.out.grow hG).tab) ?_
    refine gs ?_
    refine geT hL ?_
    clear hB hG hL L
    rintro u ⟨-, hB, hG, -⟩
    refine rt Tryz.results10 ?_
    exact ⟨rfl, HG1.out.trans hG⟩
end Go.Proofs.YtjmopgepnndckaaGreatDoor
