/-
  Contracts and laws: NearPlain.
-/
import Derived.Test.YtjmopgepnndckaaGreatDoorP48
set_option linter.unusedSimpArgs false
set_option linter.unusedVariables false
namespace Go.Proofs.YtjmopgepnndckaaGreatDoor
open Go Go.RowKit
/-- p[1:] -/
theorem cut_rq (g L cap : Nat) (P : List Rat) (hP : P.length = L) (h1 : 1 ≤ L) (hc : L ≤ cap) (w : World) (h : Lz w (some ⟨g, 0, none⟩) P) : ∃ A' : Option Addr, (∀ W, (Instr.slice 26 (.slice (some ⟨g, 0, none⟩) L cap) (some (.int .i64 1)) none none).run Tryz.prog W = .ok (.slice A' (L - 1) (cap - 1)) W) ∧ Lz w A' (P.drop 1) := by
 refine ⟨if cap = 1 then some ⟨g, 0, none⟩ else (some (⟨g, 0, none⟩ : Addr)).map (·.add 3), fun W => ?_, fun hne => ?_⟩
 ·have h3 : (1 : Int) ≤ (L : Int) := by omega
  go_simp
 ·have h2 : 2 ≤ L := by
   rcases Nat.lt_or_ge 1 L with h | h
   ·exact h
   ·exact absurd (List.drop_eq_nil_of_le (by omega)) hne
  rw [if_neg (by omega)]
  obtain ⟨b, off, e, hb, hc⟩ := h (fun e => by rw [e] at hP; simp at hP; omega)
  cases e
  refine ⟨g, 3, by simp [Addr.add], hb, fun i hi => ?_⟩
  rw [List.length_drop] at hi
  obtain ⟨p, h4, h5⟩ := hc (i + 1) (by omega)
  have e : gq (P.drop 1) i = gq P (i + 1) := by unfold gq; rw [List.getElem?_drop, Nat.add_comm]
  rw [e]
  refine ⟨p, h4, ?_⟩
  rw [show 3 + i * 3 = 0 + (i + 1) * 3 by omega]
  exact h5
theorem hits_sz {rs : List (List Rat)} {q : List Rat} {N L : Nat} (hr : rs.length = N) (hrl : ∀ r ∈ rs, r.length = L ∧ ∀ y ∈ r, qs y ≤ 50) (hq : q.length = L) (hs : ∀ x ∈ q, qs x ≤ 50) (hL : L ≤ 3) : ∀ x ∈ hitsTo (fun i => farQ (rowR rs i) q L) N, qs x.2 ≤ 1000 := fun x hx => by
 unfold hitsTo at hx
 obtain ⟨i, hi, rfl⟩ := List.mem_map.1 hx
 have hil : i < rs.length := by have := List.mem_range.1 hi; omega
 have e : rowR rs i = rs[i] := by unfold rowR; rw [List.getElem?_eq_getElem hil]; rfl
 obtain ⟨h1, h2⟩ := hrl _ (List.getElem_mem hil)
 have h3 := farQ_sz h1 hq h2 hs L (Nat.le_refl _)
 have h4 : L * (4 * 50 + 3) ≤ 3 * (4 * 50 + 3) := Nat.mul_le_mul_right _ hL
 show qs (farQ (rowR rs i) q L) ≤ 1000
 rw [e]
 unfold farQ
 omega
theorem best_mem {k : Nat} {l : List Ht} {x : Ht} (h : x ∈ best k l) : x ∈ l := (srt_perm l).mem_iff.1 (List.mem_of_mem_take h)
theorem rowsOk_of {N L : Nat} {rs rs' : List Rq} (h : RowsOk N L rs) (he : rs'.map (·.2.2) = rs.map (·.2.2)) : RowsOk N L rs' := by
 refine ⟨by have := congrArg List.length he; rw [List.length_map, List.length_map] at this; rw [this]; exact h.1, fun r hr => ?_⟩
 have h1 : r.2.2 ∈ rs.map (·.2.2) := by rw [← he]; exact List.mem_map_of_mem (f := fun r : Rq => r.2.2) hr
 obtain ⟨z, hz, e⟩ := List.mem_map.1 h1
 rw [← e]
 exact h.2 z hz
set_option maxHeartbeats 16000000 in
set_option maxRecDepth 100000 in
theorem law23_NearPlain (A : Option Addr) (la : List Int) (ca : Nat) (B : Option Addr) (lb : List Int) (cb : Nat) (n wd same k odd : Int) (hla : la.length ≤ 9223372036854775807) (hac : la.length ≤ ca) (hba : ∀ x ∈ la, -9223372036854775808 ≤ x ∧ x ≤ 9223372036854775807) (hlb : lb.length ≤ 9223372036854775807) (hbb : ∀ x ∈ lb, -9223372036854775808 ≤ x ∧ x ≤ 9223372036854775807) (lo2 : -9223372036854775808 ≤ n) (hi2 : n ≤ 9223372036854775807) (lo3 : -9223372036854775808 ≤ wd) (hi3 : wd ≤ 9223372036854775807) (lo4 : -9223372036854775808 ≤ same) (hi4 : same ≤ 9223372036854775807) (lo5 : -9223372036854775808 ≤ k) (hi5 : k ≤ 9223372036854775807) (lo6 : -9223372036854775808 ≤ odd) (hi6 : odd ≤ 9223372036854775807)
  (w : World) (h1 : Li w A la) (h2 : Li w B lb) (HT : Tab w) :
  Calls Tryz.prog 3 #[.slice A la.length ca, .slice B lb.length cb, .int .i64 n, .int .i64 wd, .int .i64 same, .int .i64 k, .int .i64 odd] w fun e w' => e = .returned (.bool true) ∧ Grow w w' := by
 clear lo2 hi2 lo3 hi3 lo4 hi4 lo5 hi5 lo6 hi6
 obtain ⟨pa, hpa⟩ : ∃ p, p = la.length := ⟨_, rfl⟩
 obtain ⟨pb, hpb⟩ : ∃ p, p = lb.length := ⟨_, rfl⟩
 rw [← hpa] at hac ⊢
 rw [← hpb]
 have hBB : 100000 ≤ BIG := by unfold BIG; omega
 have hLIM : LIM = 1099511627760 := rfl
 have rN := pick_range n (m := 12) (by omega)
 have rL := pick_range wd (m := 3) (by omega)
 have rK := pick_range k (m := 14) (by omega)
 obtain ⟨N, hN⟩ : ∃ N : Nat, pick n 12 = (N : Int) := ⟨(pick n 12).toNat, by omega⟩
 obtain ⟨Lw, hLw⟩ : ∃ Lw : Nat, pick wd 3 + 1 = (Lw : Int) := ⟨(pick wd 3 + 1).toNat, by omega⟩
 have hN11 : N ≤ 11 := by omega
 have hL1 : 1 ≤ Lw := by omega
 have hL3 : Lw ≤ 3 := by omega
 have hr : ∀ W, Grow w W → Calls Tryz.prog 12 #[.slice A pa ca, .int .i64 n, .int .i64 wd, .int .i64 same] W (RetY (fun x : Ax × List Rq => .slice x.1.1 N x.1.2) (fun x W => RowsOk N Lw x.2 ∧ Lrz W x.1.1 x.2) W) := fun W hg => law23_rows A la ca pa N Lw n wd same hpa hac hN hLw (by omega) hba W (h1.grow hg)
 have hp1 := fun W => hand_PickG wd 3 (by omega) (by omega) W
 have hp2 := fun W => hand_PickG odd 9 (by omega) (by omega) W
 have hp3 := fun W => hand_PickG k 14 (by omega) (by omega) W
 obtain ⟨y, hy⟩ : ∃ y, y = pick wd 3 := ⟨_, rfl⟩
 rw [← hy] at hLw rL
 simp only [← hy] at hp1
 have fy : IntKind.i64.wrap (y + 1) = (Lw : Int) := by rw [IntWalk.i64_in _ (by omega)]; exact hLw
 obtain ⟨od, hod⟩ : ∃ y, y = pick odd 9 := ⟨_, rfl⟩
 simp only [← hod] at hp2
 obtain ⟨kp, hkp⟩ : ∃ y, y = pick k 14 := ⟨_, rfl⟩
 rw [← hkp] at rK
 simp only [← hkp] at hp3
 obtain ⟨kk, hkk⟩ : ∃ x, x = kp - 1 := ⟨_, rfl⟩
 have fk : IntKind.i64.wrap (kp - 1) = kk := by rw [IntWalk.i64_in _ (by omega)]; exact hkk.symm
 have hq : ∀ W, Grow w W → Calls Tryz.prog 13 #[.slice B pb cb, .int .i64 Lw] W (RetY (fun x : Nat × Nat => .slice (some ⟨x.1, 0, none⟩) Lw x.2) (fun x W' => Lw ≤ x.2 ∧ Lz W' (some ⟨x.1, 0, none⟩) (rowQ lb Lw)) W) := fun W hg =>
  (hand_RowO B lb cb pb Lw hpb (by omega) (by omega) hbb W (h2.grow hg)).mono fun e w' ⟨v, ps, he, e1, e2, e3, hg'⟩ => by
   obtain ⟨A2, c2, rfl, -, -, hLz, -⟩ := own_lz e3 e2
   obtain ⟨g, cap, e9, -, hcap⟩ := own_slice e3 (by omega)
   cases e9
   rw [e1] at hLz
   exact ⟨(g, c2), he, ⟨hcap, hLz⟩, hg'⟩
 have lP := rowQ_len lb Lw
 have sP := rowQ_szN lb Lw
 generalize rowQ lb Lw = P at *
 have hip : ∀ (Q : List Rat) (m : Nat), Q.length = m → m ≤ 3 → (∀ x ∈ Q, qs x ≤ 50) → ∀ (W : World) (X : Ax), Lz W X.1 Q → Tab W → Calls Tryz.prog 17 #[.slice X.1 m X.2] W (RetY (fun x : Ax => .slice x.1 m x.2) (fun x W => Lq W x.1 Q) W) := fun Q m hQ hm hs W X hX hT =>
  (hand_InRow X.1 Q X.2 m hQ.symm (by omega) (fun x hx => Nat.le_trans (hs x hx) (by omega)) W hX hT).mono fun e w' ⟨A', c', he, h, hg'⟩ => ⟨(A', c'), he, h, hg'⟩
 have hir : ∀ (W : World) (X : Ax) (rs : List Rq), RowsOk N Lw rs → Lrz W X.1 rs → Tab W → Calls Tryz.prog 16 #[.slice X.1 N X.2] W (RetY (fun x : Ax × List Rq => .slice x.1.1 N x.1.2) (fun x W' => x.2.map (·.2.2) = rs.map (·.2.2) ∧ Lrq W' x.1.1 x.2) W) := fun W X rs hk hX hT =>
  (hand_InRows X.1 rs X.2 N hk.1.symm (by omega) (fun r hr => ⟨by have := (hk.2 r hr).1; omega, fun x hx => Nat.le_trans ((hk.2 r hr).2 x hx) (by omega)⟩) W hX hT).mono fun e w' ⟨v, rs', he, e1, e2, e3, hg'⟩ => by
   obtain ⟨A2, c2, rfl, -, hLw, -⟩ := own_lrq e3 e2
   exact ⟨((A2, c2), rs'), he, ⟨e1, hLw⟩, hg'⟩
 have Hr := Lib.hid hr
 have Hp1 := Lib.hid hp1
 have Hp2 := Lib.hid hp2
 have Hp3 := Lib.hid hp3
 have Hq := Lib.hid hq
 have Hip := Lib.hid hip
 have Hir := Lib.hid hir
 have LP := Lib.hid lP
 have SP := Lib.hid sP
 have hNs := Lib.hid hN
 have hkb : kk ≤ 300 := by omega
 clear hLw hkk rK hr hp1 hp2 hp3 hq hip hir h1 h2 hba hbb hpa hpb hla hlb hac lP sP hy hod hkp rN rL hN
 go_enter Tryz.func3, Tryz.ntmps3
 refine en0 ?_
 intro u hG hB hF
 refine wp_seq (rsE allocs [0, 0, 0, 0, 1, 0] hB hG fun L hL => ?_)
 refine gs ?_
 refine gxd (X := (Ax × List Rq)) (fun x : Ax × List Rq => .slice x.1.1 N x.1.2) (fun x W => RowsOk N Lw x.2 ∧ Lrz W x.1.1 x.2) (fun x u u' hg h => ⟨h.1, h.2.grow hg⟩) (fun x23 => ?_) (C := by (rintro v ⟨hgu, hB, hG, -⟩; exact Hr.out _ hG))
 refine gs ?_
 refine geT hL ?_
 clear hB hG hL L
 rintro u ⟨⟨hgu, hB, hG, -⟩, hx23⟩
 have HX := Lib.hid hx23
 clear hx23
 clear hgu
 refine wp_seq (rsE allocs [0, 0, 1, 0, 1, 0] hB hG fun L hL => ?_)
 refine gs ?_
 refine gmw (C := fun v => Hp1.out _) ?_
 refine gs ?_
 refine gxd (X := (Nat × Nat)) (fun x : Nat × Nat => .slice (some ⟨x.1, 0, none⟩) Lw x.2) (fun x W => Lw ≤ x.2 ∧ Lz W (some ⟨x.1, 0, none⟩) P) (fun x u u' hg h => ⟨h.1, h.2.grow hg⟩) (fun x28 => ?_) (C := by (rintro v ⟨hgu, hB, hG, -⟩; exact Hq.out _ hG))
 refine gs ?_
 refine geT hL ?_
 clear hB hG hL L
 rintro u ⟨⟨hgu, hB, hG, -⟩, hx28⟩
 have HX2 := Lib.hid (And.intro HX.out.1 (HX.out.2.grow hgu))
 have HP := Lib.hid hx28
 clear HX hx28
 have HX := HX2
 clear HX2
 clear hgu
 have HG0 := Lib.hid hG
 clear hB hF hG
 obtain ⟨w0, rfl⟩ : ∃ x, x = w := ⟨_, rfl⟩
 obtain ⟨w, hwu⟩ : ∃ x, x = u := ⟨_, rfl⟩
 rw [← hwu] at HG0 HX HP
 have hB := Bx.nil u
 have hF := Fr.nil w
 have hG : Grow w u := hwu ▸ Grow.refl u
 clear hwu
 obtain ⟨⟨RA, RC⟩, rs⟩ := x23
 obtain ⟨gp, cp⟩ := x28
 obtain ⟨hok, hLx⟩ := HX.out
 obtain ⟨hcp, hLp⟩ := HP.out
 simp only at hok hLx hcp hLp
 have HT' := HT.grow HG0.out
 have HRZ := Lib.hid hLx
 have HPZ := Lib.hid hLp
 have Hok := Lib.hid hok
 clear HT HX HP Hr Hq hLx hLp hok
 have HT := HT'
 clear HT'
 refine wp_seq ?_
 by_cases ho8 : od = 8
 ·have fo : (od == 8) = true := by simp [ho8]
  have fod : decide (od = 8) = true := by simp [ho8]
  obtain ⟨PA, hsl, hLq⟩ := cut_rq gp Lw cp P LP.out hL1 hcp w HPZ.out
  obtain ⟨L1, hL1e⟩ : ∃ x, x = Lw - 1 := ⟨_, rfl⟩
  obtain ⟨cp1, hcp1⟩ : ∃ x, x = cp - 1 := ⟨_, rfl⟩
  simp only [← hL1e, ← hcp1] at hsl
  have HLq := Lib.hid hLq
  have HL1 := Lib.hid hL1e
  have hL13 : L1 ≤ 3 := by omega
  have hL1n : L1 ≠ Lw := by omega
  clear ho8 hLq hcp1 hL1e
  refine wp_seq (rsE allocs [0, 1, 0] hB hG fun L hL => ?_)
  refine gs ?_
  refine gmw (C := fun v => Hp2.out _) ?_
  refine gs ?_
  refine geT hL ?_
  clear hB hG hL L
  rintro u ⟨-, hB, hG, -⟩
  refine wp_cond_true (rfl) ?_
  refine r0N ?_
  refine wp_seq (rsE allocs [0, 1, 0, 0] hB hG fun L hL => ?_)
  refine gs ?_
  refine gmw (C := fun v => Hp3.out _) ?_
  refine gs ?_
  refine geT hL ?_
  clear hB hG hL L
  rintro u ⟨-, hB, hG, -⟩
  have hi := Hip.out (P.drop 1) L1 (by rw [List.length_drop, LP.out, HL1.out]) hL13 (fun x hx => SP.out x (List.mem_of_mem_drop hx))
  have Hi := Lib.hid (fun W (hg : Grow w W) hT => hi W (PA, cp1) (HLq.out.grow hg) hT)
  have Hi2 := Lib.hid (fun W (hg : Grow w W) hT => Hir.out W (RA, RC) rs Hok.out (HRZ.out.grow hg) hT)
  clear hi
  by_cases hk1 : kk < 1
  ·have fk1 : decide (kk < 1) = true := decide_eq_true hk1
   have Hnp := Lib.hid (fun W (X Y : Ax) => near_Plain_arg X.1 Y.1 N L1 X.2 Y.2 kk hk1 W)
   clear hk1
   refine wp_seq (rsE allocs [0, 1, 0, 1, 0, 1, 0, 0, 0, 0, 0] hB hG fun L hL => ?_)
   refine gs ?_
   refine gxd (X := (Ax × List Rq)) (fun x : Ax × List Rq => .slice x.1.1 N x.1.2) (fun x W => x.2.map (·.2.2) = rs.map (·.2.2) ∧ Lrq W x.1.1 x.2) (fun x u u' hg h => ⟨h.1, h.2.grow hg⟩) (fun x39 => ?_) (C := by (rintro v ⟨hgu, hB, hG, -⟩; exact Hi2.out _ hG (HT.grow hG)))
   refine gs ?_
   refine gxd (X := Ax) (fun x : Ax => .slice x.1 L1 x.2) (fun x W => Lq W x.1 (P.drop 1)) (fun x u u' hg h => Lq.grow h hg) (fun x41 => ?_) (C := by (rintro v ⟨⟨hgu, hB, hG, -⟩, hx39⟩; exact Hi.out _ hG (HT.grow hG)))
   refine gs ?_
   refine gmw (C := fun v => Hnp.out _ x39.1 x41) ?_
   refine gs ?_
   refine geT hL ?_
   clear hB hG hL L
   rintro u ⟨⟨⟨hgu, hB, hG, -⟩, hx39⟩, hx41⟩
   clear hx39 hx41
   clear hgu
   refine wp_seq ?_
   refine wp_block ?_
   refine r0T ?_
   refine wp_cond_true (rfl) ?_
   refine wp_seq (rsE allocs [1, 0, 0, 0, 0, 0, 0, 0, 0, 0, 0] hB hG fun L hL => ?_)
   refine gmd (C := fun v ⟨hgu, hB, hG, _⟩ => law23_known _ (HT.grow hG)) ?_
   refine gs ?_
   refine geT hL ?_
   clear hB hG hL L
   rintro u ⟨-, hB, hG, -⟩
   refine rt Tryz.results3 ?_
   exact ⟨rfl, HG0.out.trans hG⟩
  ·obtain ⟨Kc, hK⟩ : ∃ Kc : Nat, kk = (Kc : Int) := ⟨kk.toNat, by omega⟩
   subst hK
   have hK1 : 1 ≤ Kc := by omega
   clear hk1
   have hK2 : Kc ≤ 300 := by omega
   have fk1 : decide ((Kc : Int) < 1) = false := by simp; omega
   have fk1n : decide (Kc < 1) = false := by simp; omega
   have fk1z : decide (Kc = 0) = false := by simp; omega
   rcases Nat.eq_zero_or_pos N with hN0 | hN0
   ·subst hN0
    have Hnp := Lib.hid (fun W (X Y : Ax) => near_Plain_none X.1 Y.1 L1 X.2 Y.2 Kc hK1 hK2 W)
    have Hle := Lib.hid (fun W => ref10_Learn_no RA RC W)
    refine wp_seq (rsE allocs [0, 1, 0, 1, 0, 1, 0, 0, 0, 0, 0] hB hG fun L hL => ?_)
    refine gs ?_
    refine gxd (X := (Ax × List Rq)) (fun x : Ax × List Rq => .slice x.1.1 0 x.1.2) (fun x W => x.2.map (·.2.2) = rs.map (·.2.2) ∧ Lrq W x.1.1 x.2) (fun x u u' hg h => ⟨h.1, h.2.grow hg⟩) (fun x39 => ?_) (C := by (rintro v ⟨hgu, hB, hG, -⟩; exact Hi2.out _ hG (HT.grow hG)))
    refine gs ?_
    refine gxd (X := Ax) (fun x : Ax => .slice x.1 L1 x.2) (fun x W => Lq W x.1 (P.drop 1)) (fun x u u' hg h => Lq.grow h hg) (fun x41 => ?_) (C := by (rintro v ⟨⟨hgu, hB, hG, -⟩, hx39⟩; exact Hi.out _ hG (HT.grow hG)))
    refine gs ?_
    refine gmw (C := fun v => Hnp.out _ x39.1 x41) ?_
    refine gs ?_
    refine geT hL ?_
    clear hB hG hL L
    rintro u ⟨⟨⟨hgu, hB, hG, -⟩, hx39⟩, hx41⟩
    clear hx39 hx41
    clear hgu
    refine wp_seq ?_
    refine wp_block ?_
    refine r0T ?_
    refine wp_cond_false (rfl) ?_
    refine wp_seq (rsE allocs [0, 1, 0, 0, 0, 0, 0, 0, 0, 0, 0, 0, 0] hB hG fun L hL => ?_)
    refine gs ?_
    refine gmw (C := fun v => Hle.out _) ?_
    refine gs ?_
    refine geT hL ?_
    clear hB hG hL L
    rintro u ⟨-, hB, hG, -⟩
    refine wp_cond_true (rfl) ?_
    refine wp_seq (rsE allocs [1, 0, 0, 0, 0, 0, 0, 0, 0, 0, 0] hB hG fun L hL => ?_)
    refine gmd (C := fun v ⟨hgu, hB, hG, _⟩ => law23_known _ (HT.grow hG)) ?_
    refine gs ?_
    refine geT hL ?_
    clear hB hG hL L
    rintro u ⟨-, hB, hG, -⟩
    refine rt Tryz.results3 ?_
    exact ⟨rfl, HG0.out.trans hG⟩
   ·have hle := fun W (hg : Grow w W) => ref10_Learn_ok RA rs N Lw RC Hok.out.1 hN0 (by omega) hL1 (by omega) (fun r hr => (Hok.out.2 r hr).1) W (HRZ.out.grow hg)
    have hrow0 : ∃ (bb ob : Nat) (Ar : Option Addr) (cr : Nat), RA = some ⟨bb, ob, none⟩ ∧ ∀ W, Grow w W → W.cell? ⟨bb, ob, none⟩ = some (.slice Ar Lw cr) := by
     obtain ⟨bb, ob, e⟩ := HRZ.out.addr (by have := Hok.out.1; omega)
     subst e
     have hil : 0 < rs.length := by have := Hok.out.1; omega
     refine ⟨bb, ob, rs[0].1, rs[0].2.1, rfl, fun W hg => ?_⟩
     have h3 := ((HRZ.out.grow hg).read (List.getElem?_eq_getElem hil)).1
     rw [(Hok.out.2 _ (List.getElem_mem hil)).1, Nat.add_zero] at h3
     exact h3
    obtain ⟨bb, ob, Ar, cr, rfl, hr0⟩ := hrow0
    have hNi : (0 : Int) < (N : Int) := by omega
    have Hle := Lib.hid hle
    have Hr0 := Lib.hid hr0
    clear hle hr0
    have Hnp := Lib.hid (fun W (X Y : Ax) (rs' : List Rq) (he : rs'.map (·.2.2) = rs.map (·.2.2)) (hX : Lrq W X.1 rs') => near_Plain_len X.1 Y.1 rs' N Lw L1 X.2 Y.2 Kc (rowsOk_of Hok.out he).1 hN0 (by omega) hL1 (by omega) (fun r hr => ((rowsOk_of Hok.out he).2 r hr).1) hL1n hK1 hK2 W hX)
    have hLL : ((L1 : Int) != (Lw : Int)) = true := by simp; omega
    refine wp_seq (rsE allocs [0, 1, 0, 1, 0, 1, 0, 0, 0, 0, 0] hB hG fun L hL => ?_)
    refine gs ?_
    refine gxd (X := (Ax × List Rq)) (fun x : Ax × List Rq => .slice x.1.1 N x.1.2) (fun x W => x.2.map (·.2.2) = rs.map (·.2.2) ∧ Lrq W x.1.1 x.2) (fun x u u' hg h => ⟨h.1, h.2.grow hg⟩) (fun x39 => ?_) (C := by (rintro v ⟨hgu, hB, hG, -⟩; exact Hi2.out _ hG (HT.grow hG)))
    refine gs ?_
    refine gxd (X := Ax) (fun x : Ax => .slice x.1 L1 x.2) (fun x W => Lq W x.1 (P.drop 1)) (fun x u u' hg h => Lq.grow h hg) (fun x41 => ?_) (C := by (rintro v ⟨⟨hgu, hB, hG, -⟩, hx39⟩; exact Hi.out _ hG (HT.grow hG)))
    refine gs ?_
    refine gmd (C := fun v ⟨⟨⟨hgu, hB, hG, _⟩, hx39⟩, hx41⟩ => Hnp.out _ x39.1 x41 x39.2 hx39.1 hx39.2) ?_
    refine gs ?_
    refine geT hL ?_
    clear hB hG hL L
    rintro u ⟨⟨⟨hgu, hB, hG, -⟩, hx39⟩, hx41⟩
    clear hx39 hx41
    clear hgu
    refine wp_seq ?_
    refine wp_block ?_
    refine r0T ?_
    refine wp_cond_false (rfl) ?_
    refine wp_seq (rsE allocs [0, 1, 0, 0, 0, 0, 0, 0, 0, 0, 0, 0, 0] hB hG fun L hL => ?_)
    refine gs ?_
    refine gmd (C := fun v ⟨hgu, hB, hG, _⟩ => Hle.out _ hG) ?_
    repeat first | refine gya ?_ | refine gyr ?_ | refine gna ?_ | refine gyb (by (rintro v ⟨hgu, hB, hG, -⟩ N hN; have r := hB.r; simp only [BxR] at r; have q0 := Hr0.out v hG; go_simp; exact hN)) ?_
    refine geT hL ?_
    clear hB hG hL L
    rintro u ⟨-, hB, hG, -⟩
    refine wp_cond_true (rfl) ?_
    refine wp_seq (rsE allocs [1, 0, 0, 0, 0, 0, 0, 0, 0, 0, 0] hB hG fun L hL => ?_)
    refine gmd (C := fun v ⟨hgu, hB, hG, _⟩ => law23_known _ (HT.grow hG)) ?_
    refine gs ?_
    refine geT hL ?_
    clear hB hG hL L
    rintro u ⟨-, hB, hG, -⟩
    refine rt Tryz.results3 ?_
    exact ⟨rfl, HG0.out.trans hG⟩
 ·have fo : (od == 8) = false := by simp [ho8]
  have fod : decide (od = 8) = false := by simp [ho8]
  clear ho8
  refine wp_seq (rsE allocs [0, 1, 0] hB hG fun L hL => ?_)
  refine gs ?_
  refine gmw (C := fun v => Hp2.out _) ?_
  refine gs ?_
  refine geT hL ?_
  clear hB hG hL L
  rintro u ⟨-, hB, hG, -⟩
  refine wp_cond_false (rfl) ?_
  refine wp_skip ?_
  refine then_norm ?_
  refine wp_seq (rsE allocs [0, 1, 0, 0] hB hG fun L hL => ?_)
  refine gs ?_
  refine gmw (C := fun v => Hp3.out _) ?_
  refine gs ?_
  refine geT hL ?_
  clear hB hG hL L
  rintro u ⟨-, hB, hG, -⟩
  have hi := Hip.out P Lw LP.out hL3 SP.out
  have Hi := Lib.hid (fun W (hg : Grow w W) hT => hi W (some ⟨gp, 0, none⟩, cp) (HPZ.out.grow hg) hT)
  have Hi2 := Lib.hid (fun W (hg : Grow w W) hT => Hir.out W (RA, RC) rs Hok.out (HRZ.out.grow hg) hT)
  clear hi
  by_cases hk1 : kk < 1
  ·have fk1 : decide (kk < 1) = true := decide_eq_true hk1
   have Hnp := Lib.hid (fun W (X Y : Ax) => near_Plain_arg X.1 Y.1 N Lw X.2 Y.2 kk hk1 W)
   clear hk1
   refine wp_seq (rsE allocs [0, 1, 0, 1, 0, 1, 0, 0, 0, 0, 0] hB hG fun L hL => ?_)
   refine gs ?_
   refine gxd (X := (Ax × List Rq)) (fun x : Ax × List Rq => .slice x.1.1 N x.1.2) (fun x W => x.2.map (·.2.2) = rs.map (·.2.2) ∧ Lrq W x.1.1 x.2) (fun x u u' hg h => ⟨h.1, h.2.grow hg⟩) (fun x39 => ?_) (C := by (rintro v ⟨hgu, hB, hG, -⟩; exact Hi2.out _ hG (HT.grow hG)))
   refine gs ?_
   refine gxd (X := Ax) (fun x : Ax => .slice x.1 Lw x.2) (fun x W => Lq W x.1 P) (fun x u u' hg h => Lq.grow h hg) (fun x41 => ?_) (C := by (rintro v ⟨⟨hgu, hB, hG, -⟩, hx39⟩; exact Hi.out _ hG (HT.grow hG)))
   refine gs ?_
   refine gmw (C := fun v => Hnp.out _ x39.1 x41) ?_
   refine gs ?_
   refine geT hL ?_
   clear hB hG hL L
   rintro u ⟨⟨⟨hgu, hB, hG, -⟩, hx39⟩, hx41⟩
   clear hx39 hx41
   clear hgu
   refine wp_seq ?_
   refine wp_block ?_
   refine r0T ?_
   refine wp_cond_true (rfl) ?_
   refine wp_seq (rsE allocs [1, 0, 0, 0, 0, 0, 0, 0, 0, 0, 0] hB hG fun L hL => ?_)
   refine gmd (C := fun v ⟨hgu, hB, hG, _⟩ => law23_known _ (HT.grow hG)) ?_
   refine gs ?_
   refine geT hL ?_
   clear hB hG hL L
   rintro u ⟨-, hB, hG, -⟩
   refine rt Tryz.results3 ?_
   exact ⟨rfl, HG0.out.trans hG⟩
  ·obtain ⟨Kc, hK⟩ : ∃ Kc : Nat, kk = (Kc : Int) := ⟨kk.toNat, by omega⟩
   subst hK
   have hK1 : 1 ≤ Kc := by omega
   clear hk1
   have hK2 : Kc ≤ 300 := by omega
   have fk1 : decide ((Kc : Int) < 1) = false := by simp; omega
   have fk1n : decide (Kc < 1) = false := by simp; omega
   have fk1z : decide (Kc = 0) = false := by simp; omega
   rcases Nat.eq_zero_or_pos N with hN0 | hN0
   ·subst hN0
    have Hnp := Lib.hid (fun W (X Y : Ax) => near_Plain_none X.1 Y.1 Lw X.2 Y.2 Kc hK1 hK2 W)
    have Hle := Lib.hid (fun W => ref10_Learn_no RA RC W)
    refine wp_seq (rsE allocs [0, 1, 0, 1, 0, 1, 0, 0, 0, 0, 0] hB hG fun L hL => ?_)
    refine gs ?_
    refine gxd (X := (Ax × List Rq)) (fun x : Ax × List Rq => .slice x.1.1 0 x.1.2) (fun x W => x.2.map (·.2.2) = rs.map (·.2.2) ∧ Lrq W x.1.1 x.2) (fun x u u' hg h => ⟨h.1, h.2.grow hg⟩) (fun x39 => ?_) (C := by (rintro v ⟨hgu, hB, hG, -⟩; exact Hi2.out _ hG (HT.grow hG)))
    refine gs ?_
    refine gxd (X := Ax) (fun x : Ax => .slice x.1 Lw x.2) (fun x W => Lq W x.1 P) (fun x u u' hg h => Lq.grow h hg) (fun x41 => ?_) (C := by (rintro v ⟨⟨hgu, hB, hG, -⟩, hx39⟩; exact Hi.out _ hG (HT.grow hG)))
    refine gs ?_
    refine gmw (C := fun v => Hnp.out _ x39.1 x41) ?_
    refine gs ?_
    refine geT hL ?_
    clear hB hG hL L
    rintro u ⟨⟨⟨hgu, hB, hG, -⟩, hx39⟩, hx41⟩
    clear hx39 hx41
    clear hgu
    refine wp_seq ?_
    refine wp_block ?_
    refine r0T ?_
    refine wp_cond_false (rfl) ?_
    refine wp_seq (rsE allocs [0, 1, 0, 0, 0, 0, 0, 0, 0, 0, 0, 0, 0] hB hG fun L hL => ?_)
    refine gs ?_
    refine gmw (C := fun v => Hle.out _) ?_
    refine gs ?_
    refine geT hL ?_
    clear hB hG hL L
    rintro u ⟨-, hB, hG, -⟩
    refine wp_cond_true (rfl) ?_
    refine wp_seq (rsE allocs [1, 0, 0, 0, 0, 0, 0, 0, 0, 0, 0] hB hG fun L hL => ?_)
    refine gmd (C := fun v ⟨hgu, hB, hG, _⟩ => law23_known _ (HT.grow hG)) ?_
    refine gs ?_
    refine geT hL ?_
    clear hB hG hL L
    rintro u ⟨-, hB, hG, -⟩
    refine rt Tryz.results3 ?_
    exact ⟨rfl, HG0.out.trans hG⟩
   ·have hle := fun W (hg : Grow w W) => ref10_Learn_ok RA rs N Lw RC Hok.out.1 hN0 (by omega) hL1 (by omega) (fun r hr => (Hok.out.2 r hr).1) W (HRZ.out.grow hg)
    have hrow0 : ∃ (bb ob : Nat) (Ar : Option Addr) (cr : Nat), RA = some ⟨bb, ob, none⟩ ∧ ∀ W, Grow w W → W.cell? ⟨bb, ob, none⟩ = some (.slice Ar Lw cr) := by
     obtain ⟨bb, ob, e⟩ := HRZ.out.addr (by have := Hok.out.1; omega)
     subst e
     have hil : 0 < rs.length := by have := Hok.out.1; omega
     refine ⟨bb, ob, rs[0].1, rs[0].2.1, rfl, fun W hg => ?_⟩
     have h3 := ((HRZ.out.grow hg).read (List.getElem?_eq_getElem hil)).1
     rw [(Hok.out.2 _ (List.getElem_mem hil)).1, Nat.add_zero] at h3
     exact h3
    obtain ⟨bb, ob, Ar, cr, rfl, hr0⟩ := hrow0
    have hNi : (0 : Int) < (N : Int) := by omega
    have Hle := Lib.hid hle
    have Hr0 := Lib.hid hr0
    clear hle hr0
    obtain ⟨HL, hHL⟩ : ∃ l, l = best Kc (hitsTo (fun i => farQ (rowR (rs.map (·.2.2)) i) P Lw) N) := ⟨_, rfl⟩
    have hnp := fun W (X Y : Ax) (rs' : List Rq) (he : rs'.map (·.2.2) = rs.map (·.2.2)) (hX : Lrq W X.1 rs') (hY : Lq W Y.1 P) (hT : Tab W) => near_Plain_ok X.1 Y.1 rs' N Lw X.2 Y.2 Kc P (rowsOk_of Hok.out he).1 hN0 (by omega) hL1 (by omega) (fun r hr => ((rowsOk_of Hok.out he).2 r hr).1) LP.out hK1 hK2 50 (fun r hr => ((rowsOk_of Hok.out he).2 r hr).2) SP.out (by omega) W hX hY hT
    have hnp2 : ∀ W (X Y : Ax) (rs' : List Rq), rs'.map (·.2.2) = rs.map (·.2.2) → Lrq W X.1 rs' → Lq W Y.1 P → Tab W → Calls Tryz.prog 15 #[.slice X.1 N X.2, .slice Y.1 Lw Y.2, .int .i64 (Kc : Nat)] W (RetY (fun x : Ax => .tuple #[.slice x.1 (min Kc N) x.2, .int .i64 0]) (fun x W => Lh W x.1 HL) W) := fun W X Y rs' he hX hY hT => by
     have h := hnp W X Y rs' he hX hY hT
     rw [he, ← hHL] at h
     exact h
    have hrp : ∀ W, Grow w W → Calls Tryz.prog 21 #[.slice (some ⟨bb, ob, none⟩) N RC, .slice (some ⟨gp, 0, none⟩) Lw cp, .int .i64 (Kc : Nat)] W (RetY (fun x : Ax => .slice x.1 (min Kc N) x.2) (fun x W => Lhz W x.1 HL) W) := fun W hg => by
     have h := ref22_Plain (some ⟨bb, ob, none⟩) (some ⟨gp, 0, none⟩) rs N Lw RC cp Kc P Hok.out.1 hN0 (by omega) (by omega) hK2 (fun r hr => (Hok.out.2 r hr).1) LP.out 50 (fun r hr => (Hok.out.2 r hr).2) SP.out (by omega) W (HRZ.out.grow hg) (HPZ.out.grow hg)
     rw [← hHL] at h
     exact h
    have hll : min Kc N = HL.length := by rw [hHL, best_len]; unfold hitsTo; simp
    have hls : ∀ x ∈ HL, qs x.2 ≤ LIM := fun x hx => by
     rw [hHL] at hx
     have := hits_sz (rs := rs.map (·.2.2)) (by rw [List.length_map]; exact Hok.out.1) (fun r hr => by obtain ⟨z, hz, rfl⟩ := List.mem_map.1 hr; exact Hok.out.2 z hz) LP.out SP.out hL3 x (best_mem hx)
     omega
    obtain ⟨M, hM⟩ : ∃ M, M = min Kc N := ⟨_, rfl⟩
    rw [← hM] at hll
    simp only [← hM] at hnp2 hrp
    have hsm := fun W (X Y : Ax) hX hY => law23_sameHits X.1 Y.1 HL M X.2 Y.2 hll (by omega) hls W hX hY
    have Hnp := Lib.hid hnp2
    have Hrp := Lib.hid hrp
    have Hsm := Lib.hid hsm
    have hLL : ((Lw : Int) != (Lw : Int)) = false := by simp
    clear hnp hnp2 hrp hsm hll hls hHL hM
    refine wp_seq (rsE allocs [0, 1, 0, 1, 0, 1, 0, 0, 0, 0, 0] hB hG fun L hL => ?_)
    refine gs ?_
    refine gxd (X := (Ax × List Rq)) (fun x : Ax × List Rq => .slice x.1.1 N x.1.2) (fun x W => x.2.map (·.2.2) = rs.map (·.2.2) ∧ Lrq W x.1.1 x.2) (fun x u u' hg h => ⟨h.1, h.2.grow hg⟩) (fun x39 => ?_) (C := by (rintro v ⟨hgu, hB, hG, -⟩; exact Hi2.out _ hG (HT.grow hG)))
    refine gs ?_
    refine gxd (X := Ax) (fun x : Ax => .slice x.1 Lw x.2) (fun x W => Lq W x.1 P) (fun x u u' hg h => Lq.grow h hg) (fun x41 => ?_) (C := by (rintro v ⟨⟨hgu, hB, hG, -⟩, hx39⟩; exact Hi.out _ hG (HT.grow hG)))
    refine gs ?_
    refine gxd (X := Ax) (fun x : Ax => .tuple #[.slice x.1 M x.2, .int .i64 0]) (fun x W => Lh W x.1 HL) (fun x u u' hg h => Lh.grow h hg) (fun x43 => ?_) (C := by (rintro v ⟨⟨⟨hgu, hB, hG, -⟩, hx39⟩, hx41⟩; exact Hnp.out _ x39.1 x41 x39.2 hx39.1 hx39.2 hx41 (HT.grow hG)))
    refine gs ?_
    refine geT hL ?_
    clear hB hG hL L
    rintro u ⟨⟨⟨⟨hgu, hB, hG, -⟩, hx39⟩, hx41⟩, hx43⟩
    clear hx39 hx41
    clear hgu
    refine wp_seq ?_
    refine wp_block ?_
    refine r0T ?_
    refine wp_cond_false (rfl) ?_
    refine wp_seq (rsE allocs [0, 1, 0, 0, 0, 0, 0, 0, 0, 0, 0, 0, 0] hB hG fun L hL => ?_)
    refine gs ?_
    refine gmd (C := fun v ⟨hgu, hB, hG, _⟩ => Hle.out _ hG) ?_
    repeat first | refine gya ?_ | refine gyr ?_ | refine gna ?_ | refine gyb (by (rintro v ⟨hgu, hB, hG, -⟩ N hN; have r := hB.r; simp only [BxR] at r; have q0 := Hr0.out v hG; go_simp; exact hN)) ?_
    refine geT hL ?_
    clear hB hG hL L
    rintro u ⟨hgu, hB, hG, -⟩
    replace hx43 := hx43.grow hgu
    clear hgu
    refine wp_cond_false (rfl) ?_
    refine wp_skip ?_
    refine blk_norm ?_
    refine then_norm ?_
    refine wp_seq (rsE allocs [1, 0, 0, 0, 0, 0, 0, 0, 0, 0, 1, 1, 0, 0] hB hG fun L hL => ?_)
    refine gmd (C := fun v ⟨hgu, hB, hG, _⟩ => law23_known _ (HT.grow hG)) ?_
    refine gs ?_
    refine gxd (X := Ax) (fun x : Ax => .slice x.1 M x.2) (fun x W => Lhz W x.1 HL) (fun x u u' hg h => Lhz.grow h hg) (fun x92 => ?_) (C := by (rintro v ⟨hgu, hB, hG, -⟩; exact Hrp.out _ hG))
    first | refine gmd (C := fun v ⟨⟨hgu, hB, hG, _⟩, hx92⟩ => Hsm.out _ x43 x92 (Lh.grow hx43 hgu) hx92) ?_ | refine gmna ?_
    refine gs ?_
    refine geT hL ?_
    clear hB hG hL L
    rintro u ⟨⟨hgu, hB, hG, -⟩, hx92⟩
    replace hx43 := hx43.grow hgu
    clear hgu
    refine rt Tryz.results3 ?_
    exact ⟨rfl, HG0.out.trans hG⟩
end Go.Proofs.YtjmopgepnndckaaGreatDoor
