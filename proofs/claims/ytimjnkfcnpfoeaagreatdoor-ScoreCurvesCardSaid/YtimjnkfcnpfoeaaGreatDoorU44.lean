/-
  Contracts and laws: RefT.
-/
import Derived.Test.YtimjnkfcnpfoeaaGreatDoorU41
import Derived.Test.YtimjnkfcnpfoeaaGreatDoorU43
set_option linter.unusedSimpArgs false
set_option linter.unusedVariables false
namespace Go.Proofs.YtimjnkfcnpfoeaaGreatDoor
open Go Go.RowKit
theorem cnt_true {T : Nat → Bool} {i : Nat} (h : T i = true) : cnt T (i + 1) = cnt T i + 1 := by show cnt T i + _ = _; rw [h]; rfl
theorem cnt_false {T : Nat → Bool} {i : Nat} (h : T i = false) : cnt T (i + 1) = cnt T i := by show cnt T i + _ = _; rw [h]; rfl
def sidesR (l : List Bool) (m : Nat) : Value := if yesN l m = 0 ∨ yesN l m = m then .tuple #[.int .i64 0, .int .i64 0, .int .i64 7] else .tuple #[.int .i64 (yesN l m : Nat), .int .i64 ((m - yesN l m : Nat) : Int), .int .i64 0]
set_option maxHeartbeats 1000000 in
set_option maxRecDepth 100000 in
theorem ref6_sides_ok (A B : Option Addr) (m c d : Nat) (l : List Bool) (hl : l.length = m) (hm0 : 0 < m) (hm : m ≤ 1099511627776) (w : World) (h1 : Lb w A l) :
  Calls Tryz.prog 113 #[.slice A m c, .slice B m d] w fun e w' => e = .returned (sidesR l m) ∧ Grow w w' := by
 obtain ⟨ba, oa, rfl⟩ := h1.addr (by omega)
 have hrd : ∀ i, i < m → ∀ W, Grow w W → W.cell? ⟨ba, oa + i, none⟩ = some (.bool (gb l i)) := fun i hi W hg => (h1.grow hg).read (by omega)
 obtain ⟨T, hT⟩ : ∃ T, T = gb l := ⟨_, rfl⟩
 have hy : yesN l m = cnt T m := by rw [hT]; rfl
 unfold sidesR
 rw [hy]
 rw [← hT] at hrd
 have hle := cnt_le T m
 have hne : ((m : Int) != (m : Int)) = false := by simp
 have hm0i : ((m : Int) == 0) = false := by simp; omega
 have hm0n : (m == 0) = false := by simp; omega
 have Hrd := Lib.hid hrd
 clear hrd hy hT h1 hl
 go_enter Tryz.func113, Tryz.ntmps113
 refine en0 ?_
 intro u hG hB hF
 refine wp_seq ?_
 refine r0T ?_
 refine wp_cond_false (rfl) ?_
 refine wp_skip ?_
 refine then_norm ?_
 refine r0T ?_
 refine wp_seq ?_
 refine r0T ?_
 refine wp_block ?_
 go_loopw [8, 7] (fun s0 s1 wr => ∃ i : Nat, i ≤ m ∧ s0 = .int .i64 i ∧ s1 = .int .i64 (cnt T i : Nat) ∧ Grow w wr) (fun s0 _ _ => m - (intOf s0).toNat)
 case atStart => exact ⟨0, Nat.zero_le _, rfl, rfl, hG⟩
 case round =>
  clear hB hG
  obtain ⟨i, hi, rfl, rfl, hG⟩ := hrel
  obtain ⟨u, rfl⟩ : ∃ x, x = wr := ⟨_, rfl⟩
  have hB := Bx.nil u
  rcases Nat.lt_or_ge i m with hlt | hge
  ·have hdec : decide ((i : Int) < (m : Int)) = true := by simp; omega
   have hrdi := Hrd.out i hlt
   have hci := cnt_le T i
   obtain ⟨C, hC⟩ : ∃ C, C = cnt T i := ⟨_, rfl⟩
   rw [← hC] at hci ⊢
   have fC : IntKind.i64.wrap ((C : Int) + 1) = ((C + 1 : Nat) : Int) := by rw [IntWalk.i64_in _ (by omega)]; omega
   cases hTi : T i with
   | true =>
    have hcs := Lib.hid (cnt_true hTi)
    rw [hTi] at hrdi
    have HC := Lib.hid hC
    obtain ⟨C1, hC1⟩ : ∃ C1, C1 = C + 1 := ⟨_, rfl⟩
    rw [← hC1] at fC
    have HC1 := Lib.hid hC1
    have Hi := Lib.hid hrdi
    clear hTi hrdi hC hC1
    refine wp_seq ?_
    refine r0T ?_
    refine wp_cond_true (rfl) ?_
    refine wp_skip ?_
    refine then_norm ?_
    refine wp_seq ?_
    refine wp_block ?_
    refine wp_seq ?_
    have q1 := Hi.out u hG
    refine r0N ?_
    refine wp_cond_true (rfl) ?_
    refine r0E ?_
    refine blk_norm ?_
    refine then_norm ?_
    refine r0E ?_
    refine then_norm ?_
    go_roundw
    case rel => exact ⟨i + 1, by omega, by go_num, by rw [hcs.out, ← HC.out, HC1.out], hG⟩
    case measure => simp [intOf]; try omega
   | false =>
    have hcs := Lib.hid (cnt_false hTi)
    rw [hTi] at hrdi
    have HC := Lib.hid hC
    have Hi := Lib.hid hrdi
    clear hTi hrdi hC fC
    refine wp_seq ?_
    refine r0T ?_
    refine wp_cond_true (rfl) ?_
    refine wp_skip ?_
    refine then_norm ?_
    refine wp_seq ?_
    refine wp_block ?_
    refine wp_seq ?_
    have q1 := Hi.out u hG
    refine r0N ?_
    refine wp_cond_false (rfl) ?_
    refine wp_skip ?_
    refine blk_norm ?_
    refine then_norm ?_
    refine r0E ?_
    refine then_norm ?_
    go_roundw
    case rel => exact ⟨i + 1, by omega, by go_num, by rw [hcs.out, HC.out], hG⟩
    case measure => simp [intOf]; try omega
  ·obtain rfl : m = i := by omega
   have hdec : decide ((m : Int) < (m : Int)) = false := by simp
   obtain ⟨C, hC⟩ : ∃ C, C = cnt T m := ⟨_, rfl⟩
   rw [← hC] at hle ⊢
   clear hC
   by_cases h0 : C = 0
   ·subst h0
    have g1 : Ending.returned (if 0 = 0 ∨ 0 = m then Value.tuple #[.int .i64 0, .int .i64 0, .int .i64 7] else .tuple #[.int .i64 (0 : Nat), .int .i64 ((m - 0 : Nat) : Int), .int .i64 0]) = .returned (.tuple #[.int .i64 0, .int .i64 0, .int .i64 7]) := by rw [if_pos (Or.inl rfl)]
    rw [g1]
    clear g1
    refine wp_seq ?_
    refine r0T ?_
    refine wp_cond_false (rfl) ?_
    refine wp_exit ?_
    refine then_exit ?_
    refine then_exit ?_
    refine blk_exit ?_
    refine then_norm ?_
    refine wp_seq ?_
    refine r0T ?_
    refine wp_cond_true (rfl) ?_
    refine r0T ?_
    refine rt Tryz.results113 ?_
    exact ⟨rfl, hG⟩
   ·have f0 : ((C : Int) == 0) = false := by simp; omega
    have f0n : (C == 0) = false := by simp; omega
    have f0d : decide (C = 0) = false := by simp; omega
    by_cases hm1 : C = m
    ·subst hm1
     have g1 : Ending.returned (if C = 0 ∨ C = C then Value.tuple #[.int .i64 0, .int .i64 0, .int .i64 7] else .tuple #[.int .i64 (C : Nat), .int .i64 ((C - C : Nat) : Int), .int .i64 0]) = .returned (.tuple #[.int .i64 0, .int .i64 0, .int .i64 7]) := by rw [if_pos (Or.inr rfl)]
     rw [g1]
     clear g1
     refine wp_seq ?_
     refine r0T ?_
     refine wp_cond_false (rfl) ?_
     refine wp_exit ?_
     refine then_exit ?_
     refine then_exit ?_
     refine blk_exit ?_
     refine then_norm ?_
     refine wp_seq ?_
     refine r0T ?_
     refine wp_cond_true (rfl) ?_
     refine r0T ?_
     refine rt Tryz.results113 ?_
     exact ⟨rfl, hG⟩
    ·have f1 : ((C : Int) == (m : Int)) = false := by simp; omega
     have f1n : (C == m) = false := by simp; omega
     have f1d : decide (C = m) = false := by simp; omega
     obtain ⟨D, hD⟩ : ∃ D, D = m - C := ⟨_, rfl⟩
     have fw : IntKind.i64.wrap ((m : Int) - (C : Int)) = (D : Int) := by rw [IntWalk.i64_in _ (by omega)]; omega
     rw [if_neg (by omega), ← hD]
     clear hD h0 hm1
     refine wp_seq ?_
     refine r0T ?_
     refine wp_cond_false (rfl) ?_
     refine wp_exit ?_
     refine then_exit ?_
     refine then_exit ?_
     refine blk_exit ?_
     refine then_norm ?_
     refine wp_seq ?_
     refine r0T ?_
     refine wp_cond_false (rfl) ?_
     refine wp_skip ?_
     refine then_norm ?_
     refine r0T ?_
     refine rt Tryz.results113 ?_
     exact ⟨rfl, hG⟩
set_option maxHeartbeats 1000000 in
set_option maxRecDepth 100000 in
theorem ref6_sides_no (A B : Option Addr) (m n c d : Nat) (h : pairedB m n = false) (w : World) :
  Calls Tryz.prog 113 #[.slice A m c, .slice B n d] w fun e w' => e = .returned (.tuple #[.int .i64 0, .int .i64 0, .int .i64 5]) ∧ Grow w w' := by
 rcases pair_cases h with h1 | ⟨h1, h2⟩
 ·clear h
  go_enter Tryz.func113, Tryz.ntmps113
  refine en0 ?_
  intro u hG hB hF
  refine wp_seq ?_
  refine r0T ?_
  refine wp_cond_true (rfl) ?_
  refine r0T ?_
  refine rt Tryz.results113 ?_
  exact ⟨rfl, hG⟩
 ·clear h
  go_enter Tryz.func113, Tryz.ntmps113
  refine en0 ?_
  intro u hG hB hF
  refine wp_seq ?_
  refine r0T ?_
  refine wp_cond_true (rfl) ?_
  refine r0T ?_
  refine rt Tryz.results113 ?_
  exact ⟨rfl, hG⟩
/-- the area as one division -/
theorem areaQ_over (is : List Bool) (l : List Rat) (m : Nat) : qover (halves is l m) ((2 * yesN is m * (m - yesN is m) : Nat) : Int) = areaQ is l m := by
 unfold qover areaQ qdiv qadd qmul qint
 rw [Rat.divInt_eq_div]
 congr 1
 have e : (((2 * yesN is m * (m - yesN is m) : Nat) : Int) : Rat) = 2 * ((yesN is m : Nat) : Int) * ((m - yesN is m : Nat) : Int) := by
  rw [Int.natCast_mul, Int.natCast_mul, Rat.intCast_mul, Rat.intCast_mul]
  rfl
 rw [e]
 grind
set_option maxHeartbeats 2000000 in
set_option maxRecDepth 100000 in
theorem ref6_Area_ok (A B : Option Addr) (m c d : Nat) (is : List Bool) (l : List Rat) (hl : is.length = m) (hl' : l.length = m) (hy : 0 < yesN is m) (hn : yesN is m < m) (hm : m ≤ 1048576) (s : Nat) (hs : ∀ x ∈ l, qs x ≤ s) (hBs : 2 * s + 1000 ≤ BIG) (w : World) (h1 : Lb w A is) (h2 : Lz w B l) :
  Calls Tryz.prog 53 #[.slice A m c, .slice B m d] w (RetE (areaQ is l m) 0 w) := by
 obtain ⟨ba, oa, rfl⟩ := h1.addr (by omega)
 obtain ⟨bb, ob, rfl⟩ := h2.addr (by omega)
 have hsd : ∀ W, Grow w W → Calls Tryz.prog 113 #[.slice (some ⟨ba, oa, none⟩) m c, .slice (some ⟨bb, ob, none⟩) m d] W fun e w' => e = .returned (.tuple #[.int .i64 (yesN is m : Nat), .int .i64 ((m - yesN is m : Nat) : Int), .int .i64 0]) ∧ Grow W w' := fun W hg => by
  have := ref6_sides_ok (some ⟨ba, oa, none⟩) (some ⟨bb, ob, none⟩) m c d is hl (by omega) (by omega) W (h1.grow hg)
  unfold sidesR at this
  rw [if_neg (by omega)] at this
  exact this
 have hle := yesN_le is m
 have hrd : ∀ i, i < m → ∃ p : Az, ∀ W, Grow w W → W.cell? ⟨ba, oa + i, none⟩ = some (.bool (gb is i)) ∧ Rz W p (gq l i) ∧ Cz W bb (ob + i * 3) p (gq l i) := fun i hi => by
  obtain ⟨p, hp⟩ := h2.read (i := i) (by omega)
  exact ⟨p, fun W hg => ⟨(h1.grow hg).read (by omega), hp W hg⟩⟩
 have hqz : ∀ i, i < m → qs (gq l i) ≤ s := fun i hi => hs _ (gq_mem (by omega))
 have hhr := fun i hi => halves_range is l m i hi hm
 have har := areaQ_over is l m
 obtain ⟨yes, hyes⟩ : ∃ s, s = yesN is m := ⟨_, rfl⟩
 rw [← hyes] at hy hn hle har hsd
 obtain ⟨no, hno⟩ : ∃ s, s = m - yes := ⟨_, rfl⟩
 rw [← hno] at har hsd
 have hno1 : no ≤ m := by omega
 have hno0 : 0 < no := by omega
 obtain ⟨y2, hy2⟩ : ∃ x, x = 2 * yes := ⟨_, rfl⟩
 rw [← hy2] at har
 obtain ⟨yn, hyn⟩ : ∃ x, x = y2 * no := ⟨_, rfl⟩
 rw [← hyn] at har
 have hynb : yn ≤ 2097152 * 1048576 := by rw [hyn]; exact Nat.mul_le_mul (by omega) (by omega)
 have hyn0 : 0 < yn := by rw [hyn]; exact Nat.mul_pos (by omega) hno0
 have fy2 : IntKind.i64.wrap (2 * (yes : Int)) = (y2 : Int) := by rw [IntWalk.i64_in _ (by omega)]; omega
 have fyn : IntKind.i64.wrap ((y2 : Int) * (no : Int)) = (yn : Int) := by
  have e : ((y2 : Int) * (no : Int)) = (yn : Int) := by rw [hyn, Int.natCast_mul]
  rw [e, IntWalk.i64_in _ (by omega)]
 have Hsd := Lib.hid hsd
 have Hrd := Lib.hid hrd
 have Hqz := Lib.hid hqz
 have Hhr := Lib.hid hhr
 have Har := Lib.hid har
 clear hsd hrd hqz hhr har h1 h2 hl hl' hs hyes hno hyn hy2
 go_enter Tryz.func53, Tryz.ntmps53
 refine en1 ?_
 intro u hG b4 hB hF
 refine wp_seq (rsE allocs [0, 0, 1, 0, 0, 0, 0, 0, 0, 0] hB hG fun L hL => ?_)
 refine gs ?_
 refine gmd (C := fun v ⟨hgu, hB, hG, _⟩ => Hsd.out _ hG) ?_
 refine gs ?_
 refine geT hL ?_
 clear hB hG hL L
 rintro u ⟨-, hB, hG, -⟩
 refine wp_seq ?_
 refine r0T ?_
 refine wp_cond_false (rfl) ?_
 refine wp_skip ?_
 refine then_norm ?_
 refine r0T ?_
 refine wp_seq ?_
 refine r0T ?_
 refine wp_block ?_
 go_loopw [10, 9] (fun s0 s1 wr => ∃ (i : Nat) (H : Int), i ≤ m ∧ s0 = .int .i64 i ∧ s1 = .int .i64 H ∧ (H = sumTo (fun a => sumTo (hv is l a) m) i) ∧ Bx wr [(b4, 41, zNone)] ∧ Grow w wr) (fun s0 _ _ => m - (intOf s0).toNat)
 case atStart => exact ⟨0, 0, Nat.zero_le _, rfl, rfl, rfl, hB, hG⟩
 case round =>
  clear hB hG
  obtain ⟨i, H, hi, rfl, rfl, hrel0, hB, hG⟩ := hrel
  obtain ⟨u, rfl⟩ : ∃ x, x = wr := ⟨_, rfl⟩
  have H0 := Lib.hid hrel0
  clear hrel0
  rcases Nat.lt_or_ge i m with hlt0 | hge0
  ·have hdec : decide ((i : Int) < (m : Int)) = true := by simp; omega
   obtain ⟨pi, hri⟩ := Hrd.out i hlt0
   have hHr := Hhr.out (i + 1) (by omega)
   have hH1 : sumTo (fun a => sumTo (hv is l a) m) (i + 1) = H + sumTo (hv is l i) m := by rw [H0.out]; rfl
   rw [hH1] at hHr
   have hH0 := (Hhr.out i (by omega)).1
   rw [← H0.out] at hH0
   have hvj : ∀ j, hv is l i j = if gb is i && !gb is j then cmpQ (gq l i) (gq l j) + 1 else 0 := fun _ => rfl
   have zi := Hqz.out i hlt0
   obtain ⟨x, hx⟩ : ∃ x, x = gb is i := ⟨_, rfl⟩
   obtain ⟨X, hX⟩ : ∃ X, X = gq l i := ⟨_, rfl⟩
   simp only [← hx, ← hX] at hri hvj
   rw [← hX] at zi
   have Hri := Lib.hid hri
   have Hvj := Lib.hid hvj
   have HH1 := Lib.hid hH1
   have HHr := Lib.hid hHr
   clear hri hvj hH1 hx hX hHr
   refine wp_seq ?_
   refine r0T ?_
   refine wp_cond_true (rfl) ?_
   refine wp_skip ?_
   refine then_norm ?_
   refine wp_seq ?_
   refine wp_block ?_
   refine r0T ?_
   refine wp_block ?_
   go_loopw [11, 9] (fun s0 s1 wr => ∃ (j : Nat) (G : Int), j ≤ m ∧ s0 = .int .i64 j ∧ s1 = .int .i64 G ∧ G = H + sumTo (hv is l i) j ∧ Bx wr [(b4, 41, zNone)] ∧ Grow w wr) (fun s0 _ _ => m - (intOf s0).toNat)
   case atStart => exact ⟨0, H, Nat.zero_le _, rfl, rfl, by simp [sumTo], hB, hG⟩
   case round =>
    clear hB hG
    obtain ⟨j, G, hj, rfl, rfl, hGe, hB, hG⟩ := hrel
    obtain ⟨u, rfl⟩ : ∃ x, x = wr := ⟨_, rfl⟩
    have hGr := sumTo_range (hv_range is l i) j
    have hG1 : 0 ≤ G ∧ G ≤ H + 2097152 := by rw [hGe]; omega
    have hH2 : H ≤ 2199023255552 := by have := HHr.out; have := (sumTo_range (hv_range is l i) m).1; omega
    have HGe := Lib.hid hGe
    obtain ⟨hG1, hG2⟩ := hG1
    clear hGe hGr
    rcases Nat.lt_or_ge j m with hlt1 | hge1
    ·have hdj : decide ((j : Int) < (m : Int)) = true := by simp; omega
     obtain ⟨pj, hrj⟩ := Hrd.out j hlt1
     have hvv := Hvj.out j
     have zj := Hqz.out j hlt1
     have hcr := cmpQ_range X (gq l j)
     have hsu : sumTo (hv is l i) (j + 1) = sumTo (hv is l i) j + hv is l i j := rfl
     obtain ⟨y, hy'⟩ : ∃ x, x = gb is j := ⟨_, rfl⟩
     obtain ⟨Y, hY⟩ : ∃ X, X = gq l j := ⟨_, rfl⟩
     simp only [← hy', ← hY] at hrj
     rw [← hy', ← hY] at hvv
     rw [← hY] at zj hcr
     have hcmp := fun W e1 e2 e3 e4 => ref1_Cmp pi.1 pi.2 pj.1 pj.2 X Y W e1 e2 e3 e4 (by omega)
     obtain ⟨cv, hcv⟩ : ∃ cv, cv = cmpQ X Y := ⟨_, rfl⟩
     rw [← hcv] at hvv hcr hcmp
     have Hcmp := Lib.hid hcmp
     have Hrj := Lib.hid hrj
     have Hvv := Lib.hid hvv
     have Hsu := Lib.hid hsu
     obtain ⟨hc1, hc2⟩ := hcr
     clear hrj hvv hsu hy' hY hcmp hcv
     have w1 : IntKind.i64.wrap (G + 1) = G + 1 := IntWalk.i64_in _ (by omega)
     have w2 : IntKind.i64.wrap (G + 1 + cv) = G + 1 + cv := IntWalk.i64_in _ (by omega)
     cases x
     ·skip
      refine wp_seq ?_
      refine r0T ?_
      refine wp_cond_true (rfl) ?_
      refine wp_skip ?_
      refine then_norm ?_
      refine wp_seq ?_
      refine wp_block ?_
      refine wp_seq ?_
      obtain ⟨p1, -⟩ := Hri.out u hG; obtain ⟨p2, -⟩ := Hrj.out u hG
      refine r0N ?_
      refine wp_cond_false (rfl) ?_
      refine wp_skip ?_
      refine blk_norm ?_
      refine then_norm ?_
      refine r0E ?_
      refine then_norm ?_
      go_roundw
      case rel => exact ⟨j + 1, G, by omega, by go_num, rfl, by rw [Hsu.out, Hvv.out, HGe.out]; simp, hB, hG⟩
      case measure => simp [intOf]; try omega
     ·cases y
      ·skip
       refine wp_seq ?_
       refine r0T ?_
       refine wp_cond_true (rfl) ?_
       refine wp_skip ?_
       refine then_norm ?_
       refine wp_seq ?_
       refine wp_block ?_
       refine wp_seq ?_
       obtain ⟨p1, -⟩ := Hri.out u hG; obtain ⟨p2, -⟩ := Hrj.out u hG
       refine r0N ?_
       refine wp_cond_true (rfl) ?_
       refine rdC allocs [] [(0, 0), (0, 1), (0, 2), (0, 3), (0, 4), (0, 5), (0, 6), (0, 7), (0, 8), (0, 9), (1, 10), (0, 11)] hB hG fun K L hN hL => ?_
       repeat first | refine gya ?_ | refine gyr ?_ | refine gna ?_ | refine gyb (by (rintro v ⟨hgu, hB, hG, -⟩ N hN; have r := hB.r; simp only [BxR] at r; obtain ⟨p1, -, q1, q2, q3⟩ := Hrj.out v hG; obtain ⟨p2, -, y1, y2, y3⟩ := Hri.out v hG; go_simp; exact hN)) ?_
       refine gmd (C := fun v ⟨hgu, hB, hG, _⟩ => Hcmp.out _ (Hri.out _ hG).2.1.a (Hri.out _ hG).2.1.b (Hrj.out _ hG).2.1.a (Hrj.out _ hG).2.1.b) ?_
       refine gs ?_
       refine geC hL ?_
       clear hB hG hL L
       rintro u ⟨-, hB, hG, -⟩
       refine gt ?_
       clear hN K
       refine blk_norm ?_
       refine then_norm ?_
       refine r0E ?_
       refine then_norm ?_
       go_roundw
       case rel => exact ⟨j + 1, G + 1 + cv, by omega, by go_num, by go_num, by rw [Hsu.out, Hvv.out, HGe.out]; simp; omega, hB, hG⟩
       case measure => simp [intOf]; try omega
      ·skip
       refine wp_seq ?_
       refine r0T ?_
       refine wp_cond_true (rfl) ?_
       refine wp_skip ?_
       refine then_norm ?_
       refine wp_seq ?_
       refine wp_block ?_
       refine wp_seq ?_
       obtain ⟨p1, -⟩ := Hri.out u hG; obtain ⟨p2, -⟩ := Hrj.out u hG
       refine r0N ?_
       refine wp_cond_false (rfl) ?_
       refine wp_skip ?_
       refine blk_norm ?_
       refine then_norm ?_
       refine r0E ?_
       refine then_norm ?_
       go_roundw
       case rel => exact ⟨j + 1, G, by omega, by go_num, rfl, by rw [Hsu.out, Hvv.out, HGe.out]; simp, hB, hG⟩
       case measure => simp [intOf]; try omega
    ·obtain rfl : m = j := by omega
     have hdj : decide ((m : Int) < (m : Int)) = false := by simp
     refine wp_seq ?_
     refine r0T ?_
     refine wp_cond_false (rfl) ?_
     refine wp_exit ?_
     refine then_exit ?_
     refine then_exit ?_
     refine blk_exit ?_
     refine blk_norm ?_
     refine then_norm ?_
     refine r0E ?_
     refine then_norm ?_
     go_roundw
     case rel => exact ⟨i + 1, G, by omega, by go_num, rfl, by rw [HH1.out, HGe.out], hB, hG⟩
     case measure => simp [intOf]; try omega
  ·obtain rfl : m = i := by omega
   have hdec : decide ((m : Int) < (m : Int)) = false := by simp
   have hHr := Hhr.out m (Nat.le_refl _)
   rw [← H0.out] at hHr
   have hov : ∀ W, Calls Tryz.prog 79 #[.int .i64 H, .int .i64 (yn : Nat)] W (Ret (ratR (areaQ is l m)) W) := fun W => by
    have h := ref1_Over H (yn : Nat) (by omega) (by omega) (by omega) (by omega) (by omega) W
    have e : H = halves is l m := H0.out
    rw [e] at h ⊢
    rw [Har.out] at h
    exact h
   obtain ⟨V, hV⟩ : ∃ V, V = areaQ is l m := ⟨_, rfl⟩
   rw [← hV] at hov ⊢
   have Hov := Lib.hid hov
   clear hV hov Har
   refine wp_seq ?_
   refine r0T ?_
   refine wp_cond_false (rfl) ?_
   refine wp_exit ?_
   refine then_exit ?_
   refine then_exit ?_
   refine blk_exit ?_
   refine then_norm ?_
   refine wp_seq (rsC allocs [0, 0, 0, 0, 0, 1] hB hG fun K L hN hL => ?_)
   refine gs ?_
   refine grd (ratR V) (fun (x63 : Ax × Ax) => ?_) (C := fun v _ => Hov.out _)
   refine geC hL ?_
   clear hB hG hL L
   rintro u ⟨⟨-, hB, hG, -⟩, hx63⟩
   obtain ⟨hx63a, hx63b⟩ : Rn u x63.1 _ ∧ Rn u x63.2 _ := hx63
   refine gtT ?_
   clear hN K
   refine sv hB hF hG 0 0 [_, _, _] ?_
   intro u hu hBG
   replace hx63a := hx63a.put hB 0 rfl (by first | decide | simp) _ _ hu
   replace hx63b := hx63b.put hB 0 rfl (by first | decide | simp) _ _ hu
   clear hB hG hu
   obtain ⟨hB, hG⟩ := hBG
   refine rt Tryz.results53 ?_
   exact ⟨x63, rfl, ⟨hx63a, hx63b⟩, hG⟩
set_option maxHeartbeats 1000000 in
set_option maxRecDepth 100000 in
theorem ref6_Area_err (A B : Option Addr) (m n c d : Nat) (k : Int) (hk : (k != 0) = true) (w : World) (h : ∀ W, Grow w W → Calls Tryz.prog 113 #[.slice A m c, .slice B n d] W fun e w' => e = .returned (.tuple #[.int .i64 0, .int .i64 0, .int .i64 k]) ∧ Grow W w') :
  Calls Tryz.prog 53 #[.slice A m c, .slice B n d] w (RetE 0 k w) := by
 have H := Lib.hid h
 clear h
 go_enter Tryz.func53, Tryz.ntmps53
 refine en1 ?_
 intro u hG b4 hB hF
 refine wp_seq (rsE allocs [0, 0, 1, 0, 0, 0, 0, 0, 0, 0] hB hG fun L hL => ?_)
 refine gs ?_
 refine gmd (C := fun v ⟨hgu, hB, hG, _⟩ => H.out _ hG) ?_
 refine gs ?_
 refine geT hL ?_
 clear hB hG hL L
 rintro u ⟨-, hB, hG, -⟩
 refine wp_seq ?_
 refine r0T ?_
 refine wp_cond_true (rfl) ?_
 refine wp_seq (rsC allocs [1, 0] hB hG fun K L hN hL => ?_)
 refine grd (ratR (qint 0)) (fun (x21 : Ax × Ax) => ?_) (C := fun v _ => ref1_Of 0 (by omega) (by omega) _)
 refine gs ?_
 refine geC hL ?_
 clear hB hG hL L
 rintro u ⟨⟨-, hB, hG, -⟩, hx21⟩
 obtain ⟨hx21a, hx21b⟩ : Rn u x21.1 _ ∧ Rn u x21.2 _ := hx21
 refine gtT ?_
 clear hN K
 refine sv hB hF hG 0 0 [_, _, _] ?_
 intro u hu hBG
 replace hx21a := hx21a.put hB 0 rfl (by first | decide | simp) _ _ hu
 replace hx21b := hx21b.put hB 0 rfl (by first | decide | simp) _ _ hu
 clear hB hG hu
 obtain ⟨hB, hG⟩ := hBG
 refine rt Tryz.results53 ?_
 exact ⟨x21, rfl, ⟨hx21a, hx21b⟩, hG⟩
set_option maxHeartbeats 1000000 in
set_option maxRecDepth 100000 in
theorem ref6_Curve_err (A B : Option Addr) (m n c d : Nat) (k : Int) (hk : (k != 0) = true) (w : World) (h : ∀ W, Grow w W → Calls Tryz.prog 113 #[.slice A m c, .slice B n d] W fun e w' => e = .returned (.tuple #[.int .i64 0, .int .i64 0, .int .i64 k]) ∧ Grow W w') :
  Calls Tryz.prog 52 #[.slice A m c, .slice B n d] w fun e w' => e = .returned (.tuple #[.slice none 0 0, .int .i64 k]) ∧ Grow w w' := by
 have H := Lib.hid h
 clear h
 go_enter Tryz.func52, Tryz.ntmps52
 refine en0 ?_
 intro u hG hB hF
 refine wp_seq (rsE allocs [0, 0, 1, 0, 0, 0, 0, 0, 0, 0] hB hG fun L hL => ?_)
 refine gs ?_
 refine gmd (C := fun v ⟨hgu, hB, hG, _⟩ => H.out _ hG) ?_
 refine gs ?_
 refine geT hL ?_
 clear hB hG hL L
 rintro u ⟨-, hB, hG, -⟩
 refine wp_seq ?_
 refine r0T ?_
 refine wp_cond_true (rfl) ?_
 refine r0T ?_
 refine rt Tryz.results52 ?_
 exact ⟨rfl, hG⟩
theorem ei_RPoint : EI 94 99 6 112 := ei_of (by kernel_rfl) (by kernel_rfl) (by omega)
theorem bs_RPoint (x1 y1 x2 y2 : Ax) (p q : Rat) (w : World) : (Instr.buildSlice 94 1 #[(0, .agg #[.bool (intNeg p.num), .slice x1.1 (ln p.num.natAbs) x1.2, .slice y1.1 (ln p.den) y1.2, .bool (intNeg q.num), .slice x2.1 (ln q.num.natAbs) x2.2, .slice y2.1 (ln q.den) y2.2])]).run Tryz.prog w = .ok (.slice (some ⟨w.heap.size, 0, none⟩) 1 1) (w.alloc (.cells (zL (x1, y1) p ++ zL (x2, y2) q).toArray 99)) := by
 go_simp
 rfl
theorem refPts_le (is : List Bool) (l : List Rat) (n : Nat) : ∀ j, (refPts is l n j).length ≤ j + 1
 | 0 => by simp [refPts]
 | j + 1 => by
  have := refPts_le is l n j
  unfold refPts
  rw [List.length_append]
  split <;> simp <;> omega
theorem refPts_some (is : List Bool) (l : List Rat) (n : Nat) : ∀ j, 0 < (refPts is l n j).length
 | 0 => by unfold refPts; simp
 | j + 1 => by
  have := refPts_some is l n j
  unfold refPts
  rw [List.length_append]
  omega
theorem refPts_skip {is : List Bool} {l : List Rat} {n j k : Nat} (hk : k = n - 1 - j) (h0 : 0 < k) (h : gq (rsort l) k = gq (rsort l) (k - 1)) : refPts is l n (j + 1) = refPts is l n j := by
 subst hk
 show refPts is l n j ++ _ = _
 rw [if_pos ⟨h0, h⟩, List.append_nil]
theorem refPts_new {is : List Bool} {l : List Rat} {n j k : Nat} (hk : k = n - 1 - j) (h : ¬ (0 < k ∧ gq (rsort l) k = gq (rsort l) (k - 1))) : refPts is l n (j + 1) = refPts is l n j ++ [(cnt (fun i => decide (gq (rsort l) k ≤ gq l i) && !gb is i) n, cnt (fun i => decide (gq (rsort l) k ≤ gq l i) && gb is i) n)] := by
 subst hk
 show refPts is l n j ++ _ = _
 rw [if_neg h]
theorem cmpQ_ge {a b : Rat} : (0 ≤ cmpQ a b) ↔ b ≤ a := by
 unfold cmpQ
 by_cases h1 : a < b
 ·rw [if_pos h1]
  exact ⟨fun h => absurd h (by omega), fun h => absurd h1 (Rat.not_lt.2 h)⟩
 ·rw [if_neg h1]
  exact ⟨fun _ => Rat.not_lt.1 h1, fun _ => by split <;> omega⟩
theorem rsort_sz {l : List Rat} {s : Nat} (hs : ∀ x ∈ l, qs x ≤ s) : ∀ x ∈ rsort l, qs x ≤ s := fun x hx => hs x ((rsort_perm l).mem_iff.1 hx)
/-- points off a row of the call's own: their numbers, one behind another -/
theorem own_lzP {u : World} {B n : Nat} {v : Value} {ps : List Zr} (h : u.ownsRow B 99 6 v n (ps.flatMap zrL)) (ha : AllZ u ps) (h0 : 0 < n) : ∃ g c, v = .slice (some ⟨g, 0, none⟩) n c ∧ g < u.heap.size ∧ Lz u (some ⟨g, 0, none⟩) (ps.map (·.2)) ∧ 2 * n = ps.length := by
 have hn : 2 * n = ps.length := by have := h.1; rw [flatz_len] at this; omega
 obtain ⟨_, h | ⟨g, cap, cur, rfl, hb, hh, hn', hc, hs, ht⟩⟩ := h
 ·omega
 ·refine ⟨g, cap, rfl, heap_lt hh, fun _ => ⟨g, 0, rfl, heap_lt hh, fun i hi => ?_⟩, hn⟩
  have hil : i < ps.length := by simpa using hi
  obtain ⟨r, hr⟩ : ∃ r, ps[i]? = some r := ⟨_, List.getElem?_eq_getElem hil⟩
  have hq : gq (ps.map (·.2)) i = r.2 := by unfold gq; rw [List.getElem?_map, hr]; rfl
  rw [hq]
  refine ⟨r.1, ha r (List.mem_of_getElem? hr), ?_⟩
  have key : ∀ j v, j < 3 → (zrL r)[j]? = some v → u.cell? ⟨g, 0 + i * 3 + j, none⟩ = some v := fun j v hj hv => by
   rw [cell_of_row u g _ cur 99 (0, 0) hh, Nat.zero_add]
   have h1 : (cur.toList.take (n * 6))[i * 3 + j]? = some v := by rw [ht, flatz_get ps hr hj, hv]
   rw [List.getElem?_take, if_pos (by omega)] at h1
   simpa using h1
  exact ⟨key 0 _ (by omega) rfl, key 1 _ (by omega) rfl, key 2 _ (by omega) rfl⟩
/-- the first point's row -/
theorem row_firstR {u v : World} {B : Nat} {x y : Az} (hB : B ≤ u.heap.size) (hv : u.alloc (.cells (zL x (qint 0) ++ zL y (qint 0)).toArray 99) = v) : v.ownsRow B 99 6 (.slice (some ⟨u.heap.size, 0, none⟩) 1 1) 1 ([(x, qint 0), (y, qint 0)].flatMap zrL) := by
 subst hv
 have h := World.ownsRow_lit (base := B) (e := 99) (size := 6) u (zL x (qint 0) ++ zL y (qint 0)).toArray 1 hB (by unfold maxLen; omega) rfl
 exact h
theorem qover0 (x : Int) : qover ((0 : Nat) : Int) x = qint 0 := by unfold qover qint; exact Rat.zero_divInt _
set_option maxHeartbeats 8000000 in
set_option maxRecDepth 100000 in
theorem ref6_Curve_ok (A B : Option Addr) (m c d : Nat) (is : List Bool) (l : List Rat) (hl : is.length = m) (hl' : l.length = m) (hy : 0 < yesN is m) (hn : yesN is m < m) (hm : m ≤ 1048576) (s : Nat) (hs : ∀ x ∈ l, qs x ≤ s) (hBs : 2 * s + 1000 ≤ BIG) (w : World) (h1 : Lb w A is) (h2 : Lz w B l) :
  Calls Tryz.prog 52 #[.slice A m c, .slice B m d] w (RetY (fun x : Nat × Nat => .tuple #[.slice (some ⟨x.1, 0, none⟩) (refPts is l m m).length x.2, .int .i64 0]) (fun x W => x.1 < W.heap.size ∧ Lz W (some ⟨x.1, 0, none⟩) (flatP (m - yesN is m) (yesN is m) (refPts is l m m))) w) := by
 obtain ⟨ba, oa, rfl⟩ := h1.addr (by omega)
 obtain ⟨bb, ob, rfl⟩ := h2.addr (by omega)
 have hsd : ∀ W, Grow w W → Calls Tryz.prog 113 #[.slice (some ⟨ba, oa, none⟩) m c, .slice (some ⟨bb, ob, none⟩) m d] W fun e w' => e = .returned (.tuple #[.int .i64 (yesN is m : Nat), .int .i64 ((m - yesN is m : Nat) : Int), .int .i64 0]) ∧ Grow W w' := fun W hg => by
  have := ref6_sides_ok (some ⟨ba, oa, none⟩) (some ⟨bb, ob, none⟩) m c d is hl (by omega) (by omega) W (h1.grow hg)
  unfold sidesR at this
  rw [if_neg (by omega)] at this
  exact this
 have hso : ∀ W, Grow w W → Calls Tryz.prog 114 #[.slice (some ⟨bb, ob, none⟩) m d] W (RetY (fun x : Nat × Nat × List Zr => .slice (some ⟨x.1, 0, none⟩) m x.2.1) (fun x W => x.2.2.map (·.2) = rsort l ∧ OwnS w.heap.size x.1 x.2.1 m x.2.2 W) W) := fun W hg =>
  (ref1_SortO (some ⟨bb, ob, none⟩) l d m hl'.symm hm s hs (by omega) W (h2.grow hg)).mono fun e w' ⟨v, ps, he, hps, hA, ho, hg'⟩ => by
   obtain ⟨g, cap, rfl, -, -⟩ := own_slice ho (by omega)
   exact ⟨(g, cap, ps), he, ⟨hps, own_zlen ho, hA, ho.mono hg.size⟩, hg'⟩
 have hrd : ∀ i, i < m → ∃ p : Az, ∀ W, Grow w W → W.cell? ⟨ba, oa + i, none⟩ = some (.bool (gb is i)) ∧ Rz W p (gq l i) ∧ Cz W bb (ob + i * 3) p (gq l i) := fun i hi => by
  obtain ⟨p, hp⟩ := h2.read (i := i) (by omega)
  exact ⟨p, fun W hg => ⟨(h1.grow hg).read (by omega), hp W hg⟩⟩
 have hqz : ∀ i, i < m → qs (gq l i) ≤ s := fun i hi => hs _ (gq_mem (by omega))
 have hsl : (rsort l).length = m := by rw [rsort_len, hl']
 have hsz : ∀ i, i < m → qs (gq (rsort l) i) ≤ s := fun i hi => rsort_sz hs _ (gq_mem (by omega))
 obtain ⟨yes, hyes⟩ : ∃ y, y = yesN is m := ⟨_, rfl⟩
 rw [← hyes] at hsd hy hn ⊢
 obtain ⟨no, hno⟩ : ∃ y, y = m - yes := ⟨_, rfl⟩
 rw [← hno] at hsd ⊢
 have hno1 : no ≤ m := by omega
 have hyes1 : yes ≤ m := by have := yesN_le is m; omega
 have hpl := refPts_le is l m
 have hpo := refPts_some is l m
 have hm0 : 0 < m := by omega
 have hsk := fun j k => @refPts_skip is l m j k
 have hnw := fun j k => @refPts_new is l m j k
 have hp0 : refPts is l m 0 = [(0, 0)] := rfl
 obtain ⟨PT, hPT⟩ : ∃ PT, PT = refPts is l m := ⟨_, rfl⟩
 rw [← hPT] at hpl hpo hp0 ⊢
 simp only [← hPT] at hsk hnw
 obtain ⟨Z, hZ⟩ : ∃ Z, Z = rsort l := ⟨_, rfl⟩
 rw [← hZ] at hsl
 simp only [← hZ] at hso hsz hsk hnw
 have hwm : IntKind.i64.wrap ((m : Int) - 1) = (m : Int) - 1 := IntWalk.i64_in _ (by omega)
 have Hsd := Lib.hid hsd
 have Hso := Lib.hid hso
 have Hrd := Lib.hid hrd
 have Hqz := Lib.hid hqz
 have Hsl := Lib.hid hsl
 have Hsz := Lib.hid hsz
 have Hpl := Lib.hid hpl
 have Hpo := Lib.hid hpo
 have Hsk := Lib.hid hsk
 have Hnw := Lib.hid hnw
 have Hp0 := Lib.hid hp0
 clear hsd hso hrd hqz hsl hsz hpl hpo hsk hnw hp0 h1 h2 hl hl' hs hyes hno hPT hZ hy hn
 go_enter Tryz.func52, Tryz.ntmps52
 refine en0 ?_
 intro u hG hB hF
 refine wp_seq (rsE allocs [0, 0, 1, 0, 0, 0, 0, 0, 0, 0] hB hG fun L hL => ?_)
 refine gs ?_
 refine gmd (C := fun v ⟨hgu, hB, hG, _⟩ => Hsd.out _ hG) ?_
 refine gs ?_
 refine geT hL ?_
 clear hB hG hL L
 rintro u ⟨-, hB, hG, -⟩
 refine wp_seq ?_
 refine r0T ?_
 refine wp_cond_false (rfl) ?_
 refine wp_skip ?_
 refine then_norm ?_
 refine wp_seq ?_
 refine wp_rs (w := w) allocs 3 [1, 1, 0] (by kernel_rfl) (by simp only [List.drop_succ_cons, List.drop_zero]; exact rfl) (fun _ => True) noG hB hG trivial ?_
 intro K L hN hL
 simp only [List.zip_cons_cons, List.zip_nil_left]
 refine grd (ratR (qint 0)) (fun (x25 : Ax × Ax) => ?_) (C := fun v _ => ref1_Of 0 (by omega) (by omega) _)
 refine grd (ratR (qint 0)) (fun (x26 : Ax × Ax) => ?_) (C := by (rintro v ⟨⟨hgu, hB, hG, -⟩, hx25⟩; obtain ⟨hx25a, hx25b⟩ : Rn v x25.1 _ ∧ Rn v x25.2 _ := hx25; exact ref1_Of 0 (by omega) (by omega) _))
 refine gs ?_
 refine gend ?_
 rintro v ⟨⟨⟨hgu, hB1, hG1, -⟩, hx25⟩, hx26⟩
 obtain ⟨hx25a, hx25b⟩ : Rn v x25.1 _ ∧ Rn v x25.2 _ := hx25
 obtain ⟨hx26a, hx26b⟩ : Rn v x26.1 _ ∧ Rn v x26.2 _ := hx26
 clear hB hG
 have hB := hB1
 have hG := hG1
 clear hB1 hG1
 refine hL _ _ ?_
 clear hL L hgu
 obtain ⟨u, rfl⟩ : ∃ x, x = v := ⟨_, rfl⟩
 have r := hB.r
 simp only [BxR] at r
 go_wp2_with fail
 generalize hv : World.alloc u _ = v
 have hrow := row_firstR (x := x25) (y := x26) (hG.sz) hv
 have hA : AllZ v [(x25, qint 0), (x26, qint 0)] := fun r hr => by
  have hgv : Grow u v := hv ▸ Grow.alloc u _
  rcases List.mem_cons.1 hr with rfl | hr
  ·exact ⟨hx25a.grow hgv, hx25b.grow hgv⟩
  ·have : r = (x26, qint 0) := by simpa using hr
   subst this
   exact ⟨hx26a.grow hgv, hx26b.grow hgv⟩
 have hG2 : Grow w v := hG.trans (hv ▸ Grow.alloc u _)
 have hgv2 : Grow u v := hv ▸ Grow.alloc u _
 replace hx25a := hx25a.grow hgv2
 replace hx25b := hx25b.grow hgv2
 replace hx26a := hx26a.grow hgv2
 replace hx26b := hx26b.grow hgv2
 clear hv hG hB hgv2
 have Ho := Lib.hid hrow
 have hG := hG2
 have hB := Bx.nil v
 generalize u.heap.size = g0 at Ho ⊢
 clear hrow hG2
 obtain ⟨u, rfl⟩ : ∃ x, x = v := ⟨_, rfl⟩
 clear r
 refine NoK.norm (hN _ _ ?_)
 clear hN K
 refine then_norm ?_
 refine wp_seq (rsE allocs [0, 1, 0] hB hG fun L hL => ?_)
 refine gs ?_
 refine gxd (X := (Nat × Nat × List Zr)) (fun x : Nat × Nat × List Zr => .slice (some ⟨x.1, 0, none⟩) m x.2.1) (fun x W => x.2.2.map (·.2) = Z ∧ OwnS w.heap.size x.1 x.2.1 m x.2.2 W) (fun x u u' hg h => ⟨h.1, OwnS.grow h.2 hg⟩) (fun x30 => ?_) (C := by (rintro v ⟨hgu, hB, hG, -⟩; exact Hso.out _ hG))
 refine gs ?_
 refine geT hL ?_
 clear hB hG hL L
 rintro u ⟨⟨hgu, hB, hG, -⟩, hx30⟩
 replace hx25a := hx25a.grow hgu
 replace hx25b := hx25b.grow hgu
 replace hx26a := hx26a.grow hgu
 replace hx26b := hx26b.grow hgu
 have hA2 := hA.grow hgu
 have Ho2 := Lib.hid (own_grow' Ho.out hgu)
 clear hA Ho
 have hA := hA2
 have Ho := Ho2
 clear hA2 Ho2
 clear hgu
 obtain ⟨gz, cz, zs⟩ := x30
 obtain ⟨hzm, hO⟩ := hx30
 simp only at hzm hO
 have hzl := hO.1
 have hzq : ∀ k (h : k < zs.length), zs[k].2 = gq Z k := fun k h => by
  have e : (zs.map (·.2))[k]? = some zs[k].2 := by rw [List.getElem?_map, List.getElem?_eq_getElem h]; rfl
  rw [hzm] at e
  unfold gq
  rw [e]
  rfl
 have Hzq := Lib.hid hzq
 clear hzm hzq
 refine wp_seq ?_
 refine r0T ?_
 refine wp_block ?_
 clear hB hF
 go_loopw [11, 9] (fun s0 s1 wr => ∃ (j : Nat) (ps : List Zr), j ≤ m ∧ s0 = .int .i64 ((m : Int) - 1 - (j : Int)) ∧ ps.map (·.2) = flatP no yes (PT j) ∧ AllZ wr ps ∧ OwnS w.heap.size gz cz m zs wr ∧ wr.ownsRow w.heap.size 99 6 s1 (PT j).length (ps.flatMap zrL) ∧ Grow w wr) (fun s0 _ _ => (intOf s0 + 1).toNat)
 case atStart => exact ⟨0, [(x25, qint 0), (x26, qint 0)], Nat.zero_le _, by go_num, by rw [Hp0.out]; show [qint 0, qint 0] = [qover ((0 : Nat) : Int) no, qover ((0 : Nat) : Int) yes]; rw [qover0, qover0], hA, hO, by rw [Hp0.out]; exact Ho.out, hG⟩
 case round =>
  clear hG hA hO Ho
  obtain ⟨j, ps, hj, rfl, hps, hA, hO, ho, hG⟩ := hrel
  obtain ⟨u, rfl⟩ : ∃ x, x = wr := ⟨_, rfl⟩
  have hB := Bx.nil u
  have hF := Fr.nil w
  have hplj := Hpl.out j
  have Ho := Lib.hid ho
  have Hps := Lib.hid hps
  clear ho hps
  rcases Nat.lt_or_ge j m with hlt | hge
  ·obtain ⟨kk, hkk⟩ : ∃ k, k = m - 1 - j := ⟨_, rfl⟩
   have hki : (m : Int) - 1 - (j : Int) = (kk : Int) := by omega
   have hkm : kk < m := by omega
   have hkmi : (kk : Int) < (m : Int) := by omega
   have fkw : IntKind.i64.wrap ((kk : Int) - 1) = (m : Int) - 1 - ((j + 1 : Nat) : Int) := by rw [IntWalk.i64_in _ (by omega)]; omega
   have hkz : kk < zs.length := by omega
   have hrs := hO.read hkz
   have hez := Hzq.out kk hkz
   have zS := Hsz.out kk hkm
   rw [← hez] at zS
   have hsk := Hsk.out j kk hkk
   have hnw := Hnw.out j kk hkk
   rw [← hez] at hsk hnw
   rw [hki]
   obtain ⟨R, hR⟩ : ∃ R, R = zs[kk] := ⟨_, rfl⟩
   rw [← hR] at hrs zS hsk hnw
   obtain ⟨P, S⟩ := R
   simp only at hrs zS hsk hnw
   rcases Nat.eq_zero_or_pos kk with h0 | h0
   ·have hnw2 := Lib.hid (hnw (by omega))
    have Hrs := Lib.hid hrs
    obtain rfl : kk = 0 := h0
    clear hkk hki hsk hnw hrs hez hR hkz
    refine wp_seq ?_
    refine r0T ?_
    refine wp_cond_true (rfl) ?_
    refine wp_skip ?_
    refine then_norm ?_
    refine wp_seq ?_
    refine wp_block ?_
    refine wp_seq ?_
    refine wp_seq (rdC allocs [] [(0, 0), (0, 1), (0, 2), (0, 3), (0, 4), (0, 5), (0, 6), (0, 7), (0, 8), (0, 9), (0, 10), (0, 11), (1, 12), (0, 13)] hB hG fun K L hN hL => ?_)
    refine gs ?_
    first | refine gmd (C := fun v ⟨hgu, hB, hG, _⟩ => Hcm.out _ (Hrs.out _ hgu).1.a (Hrs.out _ hgu).1.b (Hrs1.out _ hgu).1.a (Hrs1.out _ hgu).1.b) ?_ | refine gmna ?_
    refine gs ?_
    refine geC hL ?_
    clear hB hG hL L
    rintro u ⟨hgu, hB, hG, -⟩
    replace hA := hA.grow hgu
    replace hO := hO.grow hgu
    have Hrs2 := Lib.hid (fun W hg => Hrs.out W (hgu.trans hg))
    have Ho2 := Lib.hid (own_grow' Ho.out hgu)
    clear Hrs Ho
    have Hrs := Hrs2
    have Ho := Ho2
    clear Hrs2 Ho2
    clear hgu
    refine gtT ?_
    clear hN K
    refine wp_cond_false (rfl) ?_
    refine wp_skip ?_
    refine then_norm ?_
    refine r0T ?_
    refine r0T ?_
    refine wp_seq ?_
    refine r0T ?_
    refine wp_block ?_
    obtain ⟨TY, hTY⟩ : ∃ T : Nat → Bool, T = fun i => decide (S ≤ gq l i) && gb is i := ⟨_, rfl⟩
    obtain ⟨TN, hTN⟩ : ∃ T : Nat → Bool, T = fun i => decide (S ≤ gq l i) && !gb is i := ⟨_, rfl⟩
    have hnw3 := hnw2.out
    rw [← hTY, ← hTN] at hnw3
    have Hnw3 := Lib.hid hnw3
    have HTY := Lib.hid hTY
    have HTN := Lib.hid hTN
    clear hnw2 hnw3 hTY hTN
    obtain ⟨u0, hu0⟩ : ∃ x, x = u := ⟨_, rfl⟩
    have hg0 : Grow u0 u := hu0 ▸ Grow.refl u
    rw [← hu0] at hA hO Ho Hrs
    clear hu0
    go_loopw [14, 12, 13] (fun s0 s1 s2 wr => ∃ i : Nat, i ≤ m ∧ s0 = .int .i64 i ∧ s1 = .int .i64 (cnt TY i : Nat) ∧ s2 = .int .i64 (cnt TN i : Nat) ∧ Grow u0 wr ∧ Grow w wr) (fun s0 _ _ _ => m - (intOf s0).toNat)
    case atStart => exact ⟨0, Nat.zero_le _, rfl, rfl, rfl, hg0, hG⟩
    case round =>
     clear hB hG hg0
     obtain ⟨i, hi, rfl, rfl, rfl, hg0, hG⟩ := hrel
     obtain ⟨u, rfl⟩ : ∃ x, x = wr := ⟨_, rfl⟩
     have hB := Bx.nil u
     have hcy := cnt_le TY i
     have hcn := cnt_le TN i
     rcases Nat.lt_or_ge i m with hlt2 | hge2
     ·have hdec : decide ((i : Int) < (m : Int)) = true := by simp; omega
      obtain ⟨p, hri⟩ := Hrd.out i hlt2
      have zi := Hqz.out i hlt2
      have ety : TY i = (decide (S ≤ gq l i) && gb is i) := by rw [HTY.out]
      have etn : TN i = (decide (S ≤ gq l i) && !gb is i) := by rw [HTN.out]
      obtain ⟨X, hX⟩ : ∃ X, X = gq l i := ⟨_, rfl⟩
      obtain ⟨b, hb⟩ : ∃ b, b = gb is i := ⟨_, rfl⟩
      simp only [← hX, ← hb] at hri
      rw [← hX] at zi
      rw [← hX, ← hb] at ety etn
      have hcm := fun W e1 e2 e3 e4 => ref1_Cmp p.1 p.2 P.1 P.2 X S W e1 e2 e3 e4 (by omega)
      obtain ⟨CY, hCY⟩ : ∃ C, C = cnt TY i := ⟨_, rfl⟩
      obtain ⟨CN, hCN⟩ : ∃ C, C = cnt TN i := ⟨_, rfl⟩
      rw [← hCY] at hcy ⊢
      rw [← hCN] at hcn ⊢
      have fCY : IntKind.i64.wrap ((CY : Int) + 1) = ((CY + 1 : Nat) : Int) := by rw [IntWalk.i64_in _ (by omega)]; omega
      have fCN : IntKind.i64.wrap ((CN : Int) + 1) = ((CN + 1 : Nat) : Int) := by rw [IntWalk.i64_in _ (by omega)]; omega
      obtain ⟨CY1, hCY1⟩ : ∃ C, C = CY + 1 := ⟨_, rfl⟩
      obtain ⟨CN1, hCN1⟩ : ∃ C, C = CN + 1 := ⟨_, rfl⟩
      rw [← hCY1] at fCY
      rw [← hCN1] at fCN
      have Hri := Lib.hid hri
      have Hcm := Lib.hid hcm
      by_cases hle : S ≤ X
      ·have fg : decide (0 ≤ cmpQ X S) = true := decide_eq_true (cmpQ_ge.2 hle)
       rw [decide_eq_true hle] at ety etn
       cases b
       ·have r1 := Lib.hid (show cnt TY (i + 1) = CY by rw [cnt_false (by rw [ety]; rfl), hCY])
        have r2 := Lib.hid (show cnt TN (i + 1) = CN1 by rw [cnt_true (by rw [etn]; rfl), hCN1, hCN])
        clear ety etn hX hb hri hcm hCY hCN hCY1 hCN1 hle fCY
        refine wp_seq ?_
        refine r0T ?_
        refine wp_cond_true (rfl) ?_
        refine wp_skip ?_
        refine then_norm ?_
        refine wp_seq ?_
        refine wp_block ?_
        refine wp_seq (rdC allocs [] [(0, 0), (0, 1), (0, 2), (0, 3), (0, 4), (0, 5), (0, 6), (0, 7), (1, 8)] hB hG fun K L hN hL => ?_)
        repeat first | refine gya ?_ | refine gyr ?_ | refine gna ?_ | refine gyb (by (rintro v ⟨hgu, hB, hG, -⟩ N hN; have r := hB.r; simp only [BxR] at r; obtain ⟨-, -, c1, c2, c3⟩ := Hri.out v hG; obtain ⟨-, d1, d2, d3⟩ := Hrs.out v (hg0.trans hgu); go_simp; exact hN)) ?_
        refine gmd (C := fun v ⟨hgu, hB, hG, _⟩ => Hcm.out _ (Hri.out _ hG).2.1.a (Hri.out _ hG).2.1.b (Hrs.out _ (hg0.trans hgu)).1.a (Hrs.out _ (hg0.trans hgu)).1.b) ?_
        refine geC hL ?_
        clear hB hG hL L
        rintro u ⟨hgu, hB, hG, -⟩
        have hg1 := hg0.trans hgu
        clear hg0
        have hg0 := hg1
        clear hg1
        clear hgu
        refine gtT ?_
        clear hN K
        refine wp_cond_true (rfl) ?_
        refine wp_seq ?_
        obtain ⟨e1, -⟩ := Hri.out u hG
        refine r0N ?_
        refine wp_cond_false (rfl) ?_
        refine r0E ?_
        refine blk_norm ?_
        refine then_norm ?_
        refine r0E ?_
        refine then_norm ?_
        go_roundw
        case rel => exact ⟨i + 1, by omega, by go_num, by rw [r1.out], by rw [r2.out], hg0, hG⟩
        case measure => simp [intOf]; try omega
       ·have r1 := Lib.hid (show cnt TY (i + 1) = CY1 by rw [cnt_true (by rw [ety]; rfl), hCY1, hCY])
        have r2 := Lib.hid (show cnt TN (i + 1) = CN by rw [cnt_false (by rw [etn]; rfl), hCN])
        clear ety etn hX hb hri hcm hCY hCN hCY1 hCN1 hle fCN
        refine wp_seq ?_
        refine r0T ?_
        refine wp_cond_true (rfl) ?_
        refine wp_skip ?_
        refine then_norm ?_
        refine wp_seq ?_
        refine wp_block ?_
        refine wp_seq (rdC allocs [] [(0, 0), (0, 1), (0, 2), (0, 3), (0, 4), (0, 5), (0, 6), (0, 7), (1, 8)] hB hG fun K L hN hL => ?_)
        repeat first | refine gya ?_ | refine gyr ?_ | refine gna ?_ | refine gyb (by (rintro v ⟨hgu, hB, hG, -⟩ N hN; have r := hB.r; simp only [BxR] at r; obtain ⟨-, -, c1, c2, c3⟩ := Hri.out v hG; obtain ⟨-, d1, d2, d3⟩ := Hrs.out v (hg0.trans hgu); go_simp; exact hN)) ?_
        refine gmd (C := fun v ⟨hgu, hB, hG, _⟩ => Hcm.out _ (Hri.out _ hG).2.1.a (Hri.out _ hG).2.1.b (Hrs.out _ (hg0.trans hgu)).1.a (Hrs.out _ (hg0.trans hgu)).1.b) ?_
        refine geC hL ?_
        clear hB hG hL L
        rintro u ⟨hgu, hB, hG, -⟩
        have hg1 := hg0.trans hgu
        clear hg0
        have hg0 := hg1
        clear hg1
        clear hgu
        refine gtT ?_
        clear hN K
        refine wp_cond_true (rfl) ?_
        refine wp_seq ?_
        obtain ⟨e1, -⟩ := Hri.out u hG
        refine r0N ?_
        refine wp_cond_true (rfl) ?_
        refine r0E ?_
        refine blk_norm ?_
        refine then_norm ?_
        refine r0E ?_
        refine then_norm ?_
        go_roundw
        case rel => exact ⟨i + 1, by omega, by go_num, by rw [r1.out], by rw [r2.out], hg0, hG⟩
        case measure => simp [intOf]; try omega
      ·have fg : decide (0 ≤ cmpQ X S) = false := decide_eq_false fun h => hle (cmpQ_ge.1 h)
       rw [decide_eq_false hle] at ety etn
       have r1 := Lib.hid (show cnt TY (i + 1) = CY by rw [cnt_false (by rw [ety]; rfl), hCY])
       have r2 := Lib.hid (show cnt TN (i + 1) = CN by rw [cnt_false (by rw [etn]; rfl), hCN])
       clear ety etn hX hb hri hcm hCY hCN hCY1 hCN1 hle fCY fCN
       refine wp_seq ?_
       refine r0T ?_
       refine wp_cond_true (rfl) ?_
       refine wp_skip ?_
       refine then_norm ?_
       refine wp_seq ?_
       refine wp_block ?_
       refine wp_seq (rdC allocs [] [(0, 0), (0, 1), (0, 2), (0, 3), (0, 4), (0, 5), (0, 6), (0, 7), (1, 8)] hB hG fun K L hN hL => ?_)
       repeat first | refine gya ?_ | refine gyr ?_ | refine gna ?_ | refine gyb (by (rintro v ⟨hgu, hB, hG, -⟩ N hN; have r := hB.r; simp only [BxR] at r; obtain ⟨-, -, c1, c2, c3⟩ := Hri.out v hG; obtain ⟨-, d1, d2, d3⟩ := Hrs.out v (hg0.trans hgu); go_simp; exact hN)) ?_
       refine gmd (C := fun v ⟨hgu, hB, hG, _⟩ => Hcm.out _ (Hri.out _ hG).2.1.a (Hri.out _ hG).2.1.b (Hrs.out _ (hg0.trans hgu)).1.a (Hrs.out _ (hg0.trans hgu)).1.b) ?_
       refine geC hL ?_
       clear hB hG hL L
       rintro u ⟨hgu, hB, hG, -⟩
       have hg1 := hg0.trans hgu
       clear hg0
       have hg0 := hg1
       clear hg1
       clear hgu
       refine gtT ?_
       clear hN K
       refine wp_cond_false (rfl) ?_
       refine wp_skip ?_
       refine blk_norm ?_
       refine then_norm ?_
       refine r0E ?_
       refine then_norm ?_
       go_roundw
       case rel => exact ⟨i + 1, by omega, by go_num, by rw [r1.out], by rw [r2.out], hg0, hG⟩
       case measure => simp [intOf]; try omega
     ·obtain rfl : m = i := by omega
      have hdec : decide ((m : Int) < (m : Int)) = false := by simp
      have hA2 := hA.grow hg0
      have hO2 := hO.grow hg0
      have Ho2 := Lib.hid (own_grow' Ho.out hg0)
      clear hA hO Ho Hrs hg0
      have hA := hA2
      have hO := hO2
      have Ho := Ho2
      clear hA2 hO2 Ho2
      obtain ⟨CY, hCY⟩ : ∃ C, C = cnt TY m := ⟨_, rfl⟩
      obtain ⟨CN, hCN⟩ : ∃ C, C = cnt TN m := ⟨_, rfl⟩
      have hnw4 := Hnw3.out
      rw [← hCY, ← hCN] at hnw4
      rw [← hCY] at hcy ⊢
      rw [← hCN] at hcn ⊢
      have Hnw4 := Lib.hid hnw4
      have hb1 := fun W => ref6_by (CN : Nat) (no : Nat) (by omega) (by omega) (by omega) (by omega) W
      have hb2 := fun W => ref6_by (CY : Nat) (yes : Nat) (by omega) (by omega) (by omega) (by omega) W
      have Hb1 := Lib.hid hb1
      have Hb2 := Lib.hid hb2
      clear hCY hCN hnw4 Hnw3 HTY HTN hb1 hb2
      refine wp_seq ?_
      refine r0T ?_
      refine wp_cond_false (rfl) ?_
      refine wp_exit ?_
      refine then_exit ?_
      refine then_exit ?_
      refine blk_exit ?_
      refine then_norm ?_
      refine wp_rs (w := w) allocs 8 [0, 0, 0, 1, 0, 0, 1, 0] (by kernel_rfl) (by simp only [List.drop_succ_cons, List.drop_zero]; exact rfl) (fun _ => True) noG hB hG trivial ?_
      intro K L hN hL
      simp only [List.zip_cons_cons, List.zip_nil_left]
      refine gs ?_
      refine grd (ratR (qover (CN : Nat) no)) (fun (x80 : Ax × Ax) => ?_) (C := fun v _ => Hb1.out _)
      refine gs ?_
      refine grd (ratR (qover (CY : Nat) yes)) (fun (x83 : Ax × Ax) => ?_) (C := by (rintro v ⟨⟨hgu, hB, hG, -⟩, hx80⟩; obtain ⟨hx80a, hx80b⟩ : Rn v x80.1 _ ∧ Rn v x80.2 _ := hx80; exact Hb2.out _))
      refine gs ?_
      refine gend ?_
      rintro v ⟨⟨⟨hgu, hB1, hG1, -⟩, hx80⟩, hx83⟩
      replace hA := hA.grow hgu
      replace hO := hO.grow hgu
      obtain ⟨hx80a, hx80b⟩ : Rn v x80.1 _ ∧ Rn v x80.2 _ := hx80
      obtain ⟨hx83a, hx83b⟩ : Rn v x83.1 _ ∧ Rn v x83.2 _ := hx83
      have ROWn := Lib.hid (own_grow' Ho.out hgu)
      clear Ho
      have Ho := ROWn
      clear ROWn
      clear hB hG
      have hB := hB1
      have hG := hG1
      clear hB1 hG1
      refine hL _ _ ?_
      clear hL L hgu
      obtain ⟨u, rfl⟩ : ∃ x, x = v := ⟨_, rfl⟩
      refine app_tailG ei_RPoint w.heap.size _ _ _ _ (zL x80 (qover (CN : Nat) no) ++ zL x83 (qover (CY : Nat) yes)) rfl rfl (bs_RPoint x80.1 x80.2 x83.1 x83.2 _ _ u) rfl (fun _ => rfl) (fun _ => rfl) (fun _ _ => rfl) Ho.out (by omega) (by omega) hG.sz fun p v' w' g1 g2 g3 => ?_
      have hBn := Bx.nil w'
      have hGn := own_growth Ho.out hG g2
      replace hA := hA.own Ho.out (by decide) g2
      replace hO := hO.own Ho.out (by decide) g2
      replace hx80a := hx80a.own Ho.out (by decide) g2
      replace hx80b := hx80b.own Ho.out (by decide) g2
      replace hx83a := hx83a.own Ho.out (by decide) g2
      replace hx83b := hx83b.own Ho.out (by decide) g2
      clear Ho hB hG
      have Ho := Lib.hid g1
      have hB := hBn
      have hG := hGn
      clear g1 g2 g3 hBn hGn
      obtain ⟨u, rfl⟩ : ∃ x, x = w' := ⟨_, rfl⟩
      simp only [Act.put, List.setIfInBounds_toArray, List.set_cons_succ, List.set_cons_zero]
      refine NoK.norm (hN _ _ ?_)
      clear hN K
      refine blk_norm ?_
      refine then_norm ?_
      refine r0E ?_
      refine then_norm ?_
      go_roundw
      case rel => exact ⟨j + 1, ps ++ [(x80, qover (CN : Nat) no)] ++ [(x83, qover (CY : Nat) yes)], by omega, by rw [← fkw]; rfl, by rw [Hnw4.out, flatP_snoc, List.map_append, List.map_append, Hps.out]; simp, (hA.snoc hx80a hx80b).snoc hx83a hx83b, hO, by have := Ho.out; rw [Hnw4.out, List.length_append, List.flatMap_append, List.flatMap_append]; simpa [zrL] using this, hG⟩
      case measure => simp [intOf]; try omega
   ·obtain ⟨k1, hk1⟩ : ∃ k, k = kk - 1 := ⟨_, rfl⟩
    have hk1z : k1 < zs.length := by omega
    have hk1k : k1 < kk := by omega
    have hk1i : (k1 : Int) < (m : Int) := by omega
    have fk1 : IntKind.i64.wrap ((kk : Int) - 1) = (k1 : Int) := by rw [IntWalk.i64_in _ (by omega)]; omega
    have fe : (m : Int) - 1 - ((j + 1 : Nat) : Int) = (k1 : Int) := by omega
    have hrs1 := hO.read hk1z
    have hez1 := Hzq.out k1 hk1z
    have zS1 := Hsz.out k1 (by omega)
    rw [← hez1] at zS1
    rw [← hk1, ← hez1] at hsk hnw
    obtain ⟨R1, hR1⟩ : ∃ R, R = zs[k1] := ⟨_, rfl⟩
    rw [← hR1] at hrs1 zS1 hsk hnw
    obtain ⟨P1, S1⟩ := R1
    simp only at hrs1 zS1 hsk hnw
    have hdk : decide ((0 : Int) < (kk : Int)) = true := by simp; omega
    have hdkn : decide (0 < kk) = true := by simp; omega
    have hcm := fun W e1 e2 e3 e4 => ref1_Cmp P.1 P.2 P1.1 P1.2 S S1 W e1 e2 e3 e4 (by omega)
    have Hcm := Lib.hid hcm
    have Hrs := Lib.hid hrs
    have Hrs1 := Lib.hid hrs1
    by_cases hSS : S = S1
    ·have fq : ((cmpQ S S1) == 0) = true := by rw [beq_iff_eq]; exact cmpQ_nz.2 hSS
     have fqd : decide (cmpQ S S1 = 0) = true := decide_eq_true (cmpQ_nz.2 hSS)
     have hsk2 := Lib.hid (hsk h0 hSS)
     clear hkk hki hsk hnw hrs hez hR hkz hk1 hk1z hrs1 hez1 hR1 hcm hSS fkw
     refine wp_seq ?_
     refine r0T ?_
     refine wp_cond_true (rfl) ?_
     refine wp_skip ?_
     refine then_norm ?_
     refine wp_seq ?_
     refine wp_block ?_
     refine wp_seq ?_
     refine wp_seq (rdC allocs [] [(0, 0), (0, 1), (0, 2), (0, 3), (0, 4), (0, 5), (0, 6), (0, 7), (0, 8), (0, 9), (0, 10), (0, 11), (1, 12), (0, 13)] hB hG fun K L hN hL => ?_)
     repeat first | refine gya ?_ | refine gyr ?_ | refine gna ?_ | refine gyb (by (rintro v ⟨hgu, hB, hG, -⟩ N hN; have r := hB.r; simp only [BxR] at r; obtain ⟨-, c1, c2, c3⟩ := Hrs.out v hgu; obtain ⟨-, d1, d2, d3⟩ := Hrs1.out v hgu; go_simp; exact hN)) ?_
     first | refine gmd (C := fun v ⟨hgu, hB, hG, _⟩ => Hcm.out _ (Hrs.out _ hgu).1.a (Hrs.out _ hgu).1.b (Hrs1.out _ hgu).1.a (Hrs1.out _ hgu).1.b) ?_ | refine gmna ?_
     refine gs ?_
     refine geC hL ?_
     clear hB hG hL L
     rintro u ⟨hgu, hB, hG, -⟩
     replace hA := hA.grow hgu
     replace hO := hO.grow hgu
     have Ho2 := Lib.hid (own_grow' Ho.out hgu)
     clear Hrs Hrs1 Hcm Ho
     have Ho := Ho2
     clear Ho2
     clear hgu
     refine gtT ?_
     clear hN K
     refine wp_cond_true (rfl) ?_
     refine wp_exit ?_
     refine then_exit ?_
     refine blk_exit ?_
     refine then_norm ?_
     refine r0E ?_
     refine then_norm ?_
     go_roundw
     case rel => exact ⟨j + 1, ps, by omega, by rw [fe], by rw [hsk2.out]; exact Hps.out, hA, hO, by rw [hsk2.out]; exact Ho.out, hG⟩
     case measure => simp [intOf]; try omega
    ·have fq : ((cmpQ S S1) == 0) = false := by rw [beq_eq_false_iff_ne]; exact fun h => hSS (cmpQ_nz.1 h)
     have fqd : decide (cmpQ S S1 = 0) = false := decide_eq_false fun h => hSS (cmpQ_nz.1 h)
     have hnw2 := Lib.hid (hnw (fun h => hSS h.2))
     clear hkk hki hsk hnw hrs hez hR hkz hk1 hk1z hrs1 hez1 hR1 hcm hSS fkw
     refine wp_seq ?_
     refine r0T ?_
     refine wp_cond_true (rfl) ?_
     refine wp_skip ?_
     refine then_norm ?_
     refine wp_seq ?_
     refine wp_block ?_
     refine wp_seq ?_
     refine wp_seq (rdC allocs [] [(0, 0), (0, 1), (0, 2), (0, 3), (0, 4), (0, 5), (0, 6), (0, 7), (0, 8), (0, 9), (0, 10), (0, 11), (1, 12), (0, 13)] hB hG fun K L hN hL => ?_)
     repeat first | refine gya ?_ | refine gyr ?_ | refine gna ?_ | refine gyb (by (rintro v ⟨hgu, hB, hG, -⟩ N hN; have r := hB.r; simp only [BxR] at r; obtain ⟨-, c1, c2, c3⟩ := Hrs.out v hgu; obtain ⟨-, d1, d2, d3⟩ := Hrs1.out v hgu; go_simp; exact hN)) ?_
     first | refine gmd (C := fun v ⟨hgu, hB, hG, _⟩ => Hcm.out _ (Hrs.out _ hgu).1.a (Hrs.out _ hgu).1.b (Hrs1.out _ hgu).1.a (Hrs1.out _ hgu).1.b) ?_ | refine gmna ?_
     refine gs ?_
     refine geC hL ?_
     clear hB hG hL L
     rintro u ⟨hgu, hB, hG, -⟩
     replace hA := hA.grow hgu
     replace hO := hO.grow hgu
     have Hrs2 := Lib.hid (fun W hg => Hrs.out W (hgu.trans hg))
     have Ho2 := Lib.hid (own_grow' Ho.out hgu)
     clear Hrs Hrs1 Hcm Ho
     have Hrs := Hrs2
     have Ho := Ho2
     clear Hrs2 Ho2
     clear hgu
     refine gtT ?_
     clear hN K
     refine wp_cond_false (rfl) ?_
     refine wp_skip ?_
     refine then_norm ?_
     refine r0T ?_
     refine r0T ?_
     refine wp_seq ?_
     refine r0T ?_
     refine wp_block ?_
     obtain ⟨TY, hTY⟩ : ∃ T : Nat → Bool, T = fun i => decide (S ≤ gq l i) && gb is i := ⟨_, rfl⟩
     obtain ⟨TN, hTN⟩ : ∃ T : Nat → Bool, T = fun i => decide (S ≤ gq l i) && !gb is i := ⟨_, rfl⟩
     have hnw3 := hnw2.out
     rw [← hTY, ← hTN] at hnw3
     have Hnw3 := Lib.hid hnw3
     have HTY := Lib.hid hTY
     have HTN := Lib.hid hTN
     clear hnw2 hnw3 hTY hTN
     obtain ⟨u0, hu0⟩ : ∃ x, x = u := ⟨_, rfl⟩
     have hg0 : Grow u0 u := hu0 ▸ Grow.refl u
     rw [← hu0] at hA hO Ho Hrs
     clear hu0
     go_loopw [14, 12, 13] (fun s0 s1 s2 wr => ∃ i : Nat, i ≤ m ∧ s0 = .int .i64 i ∧ s1 = .int .i64 (cnt TY i : Nat) ∧ s2 = .int .i64 (cnt TN i : Nat) ∧ Grow u0 wr ∧ Grow w wr) (fun s0 _ _ _ => m - (intOf s0).toNat)
     case atStart => exact ⟨0, Nat.zero_le _, rfl, rfl, rfl, hg0, hG⟩
     case round =>
      clear hB hG hg0
      obtain ⟨i, hi, rfl, rfl, rfl, hg0, hG⟩ := hrel
      obtain ⟨u, rfl⟩ : ∃ x, x = wr := ⟨_, rfl⟩
      have hB := Bx.nil u
      have hcy := cnt_le TY i
      have hcn := cnt_le TN i
      rcases Nat.lt_or_ge i m with hlt2 | hge2
      ·have hdec : decide ((i : Int) < (m : Int)) = true := by simp; omega
       obtain ⟨p, hri⟩ := Hrd.out i hlt2
       have zi := Hqz.out i hlt2
       have ety : TY i = (decide (S ≤ gq l i) && gb is i) := by rw [HTY.out]
       have etn : TN i = (decide (S ≤ gq l i) && !gb is i) := by rw [HTN.out]
       obtain ⟨X, hX⟩ : ∃ X, X = gq l i := ⟨_, rfl⟩
       obtain ⟨b, hb⟩ : ∃ b, b = gb is i := ⟨_, rfl⟩
       simp only [← hX, ← hb] at hri
       rw [← hX] at zi
       rw [← hX, ← hb] at ety etn
       have hcm := fun W e1 e2 e3 e4 => ref1_Cmp p.1 p.2 P.1 P.2 X S W e1 e2 e3 e4 (by omega)
       obtain ⟨CY, hCY⟩ : ∃ C, C = cnt TY i := ⟨_, rfl⟩
       obtain ⟨CN, hCN⟩ : ∃ C, C = cnt TN i := ⟨_, rfl⟩
       rw [← hCY] at hcy ⊢
       rw [← hCN] at hcn ⊢
       have fCY : IntKind.i64.wrap ((CY : Int) + 1) = ((CY + 1 : Nat) : Int) := by rw [IntWalk.i64_in _ (by omega)]; omega
       have fCN : IntKind.i64.wrap ((CN : Int) + 1) = ((CN + 1 : Nat) : Int) := by rw [IntWalk.i64_in _ (by omega)]; omega
       obtain ⟨CY1, hCY1⟩ : ∃ C, C = CY + 1 := ⟨_, rfl⟩
       obtain ⟨CN1, hCN1⟩ : ∃ C, C = CN + 1 := ⟨_, rfl⟩
       rw [← hCY1] at fCY
       rw [← hCN1] at fCN
       have Hri := Lib.hid hri
       have Hcm := Lib.hid hcm
       by_cases hle : S ≤ X
       ·have fg : decide (0 ≤ cmpQ X S) = true := decide_eq_true (cmpQ_ge.2 hle)
        rw [decide_eq_true hle] at ety etn
        cases b
        ·have r1 := Lib.hid (show cnt TY (i + 1) = CY by rw [cnt_false (by rw [ety]; rfl), hCY])
         have r2 := Lib.hid (show cnt TN (i + 1) = CN1 by rw [cnt_true (by rw [etn]; rfl), hCN1, hCN])
         clear ety etn hX hb hri hcm hCY hCN hCY1 hCN1 hle fCY
         refine wp_seq ?_
         refine r0T ?_
         refine wp_cond_true (rfl) ?_
         refine wp_skip ?_
         refine then_norm ?_
         refine wp_seq ?_
         refine wp_block ?_
         refine wp_seq (rdC allocs [] [(0, 0), (0, 1), (0, 2), (0, 3), (0, 4), (0, 5), (0, 6), (0, 7), (1, 8)] hB hG fun K L hN hL => ?_)
         repeat first | refine gya ?_ | refine gyr ?_ | refine gna ?_ | refine gyb (by (rintro v ⟨hgu, hB, hG, -⟩ N hN; have r := hB.r; simp only [BxR] at r; obtain ⟨-, -, c1, c2, c3⟩ := Hri.out v hG; obtain ⟨-, d1, d2, d3⟩ := Hrs.out v (hg0.trans hgu); go_simp; exact hN)) ?_
         refine gmd (C := fun v ⟨hgu, hB, hG, _⟩ => Hcm.out _ (Hri.out _ hG).2.1.a (Hri.out _ hG).2.1.b (Hrs.out _ (hg0.trans hgu)).1.a (Hrs.out _ (hg0.trans hgu)).1.b) ?_
         refine geC hL ?_
         clear hB hG hL L
         rintro u ⟨hgu, hB, hG, -⟩
         have hg1 := hg0.trans hgu
         clear hg0
         have hg0 := hg1
         clear hg1
         clear hgu
         refine gtT ?_
         clear hN K
         refine wp_cond_true (rfl) ?_
         refine wp_seq ?_
         obtain ⟨e1, -⟩ := Hri.out u hG
         refine r0N ?_
         refine wp_cond_false (rfl) ?_
         refine r0E ?_
         refine blk_norm ?_
         refine then_norm ?_
         refine r0E ?_
         refine then_norm ?_
         go_roundw
         case rel => exact ⟨i + 1, by omega, by go_num, by rw [r1.out], by rw [r2.out], hg0, hG⟩
         case measure => simp [intOf]; try omega
        ·have r1 := Lib.hid (show cnt TY (i + 1) = CY1 by rw [cnt_true (by rw [ety]; rfl), hCY1, hCY])
         have r2 := Lib.hid (show cnt TN (i + 1) = CN by rw [cnt_false (by rw [etn]; rfl), hCN])
         clear ety etn hX hb hri hcm hCY hCN hCY1 hCN1 hle fCN
         refine wp_seq ?_
         refine r0T ?_
         refine wp_cond_true (rfl) ?_
         refine wp_skip ?_
         refine then_norm ?_
         refine wp_seq ?_
         refine wp_block ?_
         refine wp_seq (rdC allocs [] [(0, 0), (0, 1), (0, 2), (0, 3), (0, 4), (0, 5), (0, 6), (0, 7), (1, 8)] hB hG fun K L hN hL => ?_)
         repeat first | refine gya ?_ | refine gyr ?_ | refine gna ?_ | refine gyb (by (rintro v ⟨hgu, hB, hG, -⟩ N hN; have r := hB.r; simp only [BxR] at r; obtain ⟨-, -, c1, c2, c3⟩ := Hri.out v hG; obtain ⟨-, d1, d2, d3⟩ := Hrs.out v (hg0.trans hgu); go_simp; exact hN)) ?_
         refine gmd (C := fun v ⟨hgu, hB, hG, _⟩ => Hcm.out _ (Hri.out _ hG).2.1.a (Hri.out _ hG).2.1.b (Hrs.out _ (hg0.trans hgu)).1.a (Hrs.out _ (hg0.trans hgu)).1.b) ?_
         refine geC hL ?_
         clear hB hG hL L
         rintro u ⟨hgu, hB, hG, -⟩
         have hg1 := hg0.trans hgu
         clear hg0
         have hg0 := hg1
         clear hg1
         clear hgu
         refine gtT ?_
         clear hN K
         refine wp_cond_true (rfl) ?_
         refine wp_seq ?_
         obtain ⟨e1, -⟩ := Hri.out u hG
         refine r0N ?_
         refine wp_cond_true (rfl) ?_
         refine r0E ?_
         refine blk_norm ?_
         refine then_norm ?_
         refine r0E ?_
         refine then_norm ?_
         go_roundw
         case rel => exact ⟨i + 1, by omega, by go_num, by rw [r1.out], by rw [r2.out], hg0, hG⟩
         case measure => simp [intOf]; try omega
       ·have fg : decide (0 ≤ cmpQ X S) = false := decide_eq_false fun h => hle (cmpQ_ge.1 h)
        rw [decide_eq_false hle] at ety etn
        have r1 := Lib.hid (show cnt TY (i + 1) = CY by rw [cnt_false (by rw [ety]; rfl), hCY])
        have r2 := Lib.hid (show cnt TN (i + 1) = CN by rw [cnt_false (by rw [etn]; rfl), hCN])
        clear ety etn hX hb hri hcm hCY hCN hCY1 hCN1 hle fCY fCN
        refine wp_seq ?_
        refine r0T ?_
        refine wp_cond_true (rfl) ?_
        refine wp_skip ?_
        refine then_norm ?_
        refine wp_seq ?_
        refine wp_block ?_
        refine wp_seq (rdC allocs [] [(0, 0), (0, 1), (0, 2), (0, 3), (0, 4), (0, 5), (0, 6), (0, 7), (1, 8)] hB hG fun K L hN hL => ?_)
        repeat first | refine gya ?_ | refine gyr ?_ | refine gna ?_ | refine gyb (by (rintro v ⟨hgu, hB, hG, -⟩ N hN; have r := hB.r; simp only [BxR] at r; obtain ⟨-, -, c1, c2, c3⟩ := Hri.out v hG; obtain ⟨-, d1, d2, d3⟩ := Hrs.out v (hg0.trans hgu); go_simp; exact hN)) ?_
        refine gmd (C := fun v ⟨hgu, hB, hG, _⟩ => Hcm.out _ (Hri.out _ hG).2.1.a (Hri.out _ hG).2.1.b (Hrs.out _ (hg0.trans hgu)).1.a (Hrs.out _ (hg0.trans hgu)).1.b) ?_
        refine geC hL ?_
        clear hB hG hL L
        rintro u ⟨hgu, hB, hG, -⟩
        have hg1 := hg0.trans hgu
        clear hg0
        have hg0 := hg1
        clear hg1
        clear hgu
        refine gtT ?_
        clear hN K
        refine wp_cond_false (rfl) ?_
        refine wp_skip ?_
        refine blk_norm ?_
        refine then_norm ?_
        refine r0E ?_
        refine then_norm ?_
        go_roundw
        case rel => exact ⟨i + 1, by omega, by go_num, by rw [r1.out], by rw [r2.out], hg0, hG⟩
        case measure => simp [intOf]; try omega
      ·obtain rfl : m = i := by omega
       have hdec : decide ((m : Int) < (m : Int)) = false := by simp
       have hA2 := hA.grow hg0
       have hO2 := hO.grow hg0
       have Ho2 := Lib.hid (own_grow' Ho.out hg0)
       clear hA hO Ho Hrs hg0
       have hA := hA2
       have hO := hO2
       have Ho := Ho2
       clear hA2 hO2 Ho2
       obtain ⟨CY, hCY⟩ : ∃ C, C = cnt TY m := ⟨_, rfl⟩
       obtain ⟨CN, hCN⟩ : ∃ C, C = cnt TN m := ⟨_, rfl⟩
       have hnw4 := Hnw3.out
       rw [← hCY, ← hCN] at hnw4
       rw [← hCY] at hcy ⊢
       rw [← hCN] at hcn ⊢
       have Hnw4 := Lib.hid hnw4
       have hb1 := fun W => ref6_by (CN : Nat) (no : Nat) (by omega) (by omega) (by omega) (by omega) W
       have hb2 := fun W => ref6_by (CY : Nat) (yes : Nat) (by omega) (by omega) (by omega) (by omega) W
       have Hb1 := Lib.hid hb1
       have Hb2 := Lib.hid hb2
       clear hCY hCN hnw4 Hnw3 HTY HTN hb1 hb2
       refine wp_seq ?_
       refine r0T ?_
       refine wp_cond_false (rfl) ?_
       refine wp_exit ?_
       refine then_exit ?_
       refine then_exit ?_
       refine blk_exit ?_
       refine then_norm ?_
       refine wp_rs (w := w) allocs 8 [0, 0, 0, 1, 0, 0, 1, 0] (by kernel_rfl) (by simp only [List.drop_succ_cons, List.drop_zero]; exact rfl) (fun _ => True) noG hB hG trivial ?_
       intro K L hN hL
       simp only [List.zip_cons_cons, List.zip_nil_left]
       refine gs ?_
       refine grd (ratR (qover (CN : Nat) no)) (fun (x80 : Ax × Ax) => ?_) (C := fun v _ => Hb1.out _)
       refine gs ?_
       refine grd (ratR (qover (CY : Nat) yes)) (fun (x83 : Ax × Ax) => ?_) (C := by (rintro v ⟨⟨hgu, hB, hG, -⟩, hx80⟩; obtain ⟨hx80a, hx80b⟩ : Rn v x80.1 _ ∧ Rn v x80.2 _ := hx80; exact Hb2.out _))
       refine gs ?_
       refine gend ?_
       rintro v ⟨⟨⟨hgu, hB1, hG1, -⟩, hx80⟩, hx83⟩
       replace hA := hA.grow hgu
       replace hO := hO.grow hgu
       obtain ⟨hx80a, hx80b⟩ : Rn v x80.1 _ ∧ Rn v x80.2 _ := hx80
       obtain ⟨hx83a, hx83b⟩ : Rn v x83.1 _ ∧ Rn v x83.2 _ := hx83
       have ROWn := Lib.hid (own_grow' Ho.out hgu)
       clear Ho
       have Ho := ROWn
       clear ROWn
       clear hB hG
       have hB := hB1
       have hG := hG1
       clear hB1 hG1
       refine hL _ _ ?_
       clear hL L hgu
       obtain ⟨u, rfl⟩ : ∃ x, x = v := ⟨_, rfl⟩
       refine app_tailG ei_RPoint w.heap.size _ _ _ _ (zL x80 (qover (CN : Nat) no) ++ zL x83 (qover (CY : Nat) yes)) rfl rfl (bs_RPoint x80.1 x80.2 x83.1 x83.2 _ _ u) rfl (fun _ => rfl) (fun _ => rfl) (fun _ _ => rfl) Ho.out (by omega) (by omega) hG.sz fun p v' w' g1 g2 g3 => ?_
       have hBn := Bx.nil w'
       have hGn := own_growth Ho.out hG g2
       replace hA := hA.own Ho.out (by decide) g2
       replace hO := hO.own Ho.out (by decide) g2
       replace hx80a := hx80a.own Ho.out (by decide) g2
       replace hx80b := hx80b.own Ho.out (by decide) g2
       replace hx83a := hx83a.own Ho.out (by decide) g2
       replace hx83b := hx83b.own Ho.out (by decide) g2
       clear Ho hB hG
       have Ho := Lib.hid g1
       have hB := hBn
       have hG := hGn
       clear g1 g2 g3 hBn hGn
       obtain ⟨u, rfl⟩ : ∃ x, x = w' := ⟨_, rfl⟩
       simp only [Act.put, List.setIfInBounds_toArray, List.set_cons_succ, List.set_cons_zero]
       refine NoK.norm (hN _ _ ?_)
       clear hN K
       refine blk_norm ?_
       refine then_norm ?_
       refine r0E ?_
       refine then_norm ?_
       go_roundw
       case rel => exact ⟨j + 1, ps ++ [(x80, qover (CN : Nat) no)] ++ [(x83, qover (CY : Nat) yes)], by omega, by rw [fe], by rw [Hnw4.out, flatP_snoc, List.map_append, List.map_append, Hps.out]; simp, (hA.snoc hx80a hx80b).snoc hx83a hx83b, hO, by have := Ho.out; rw [Hnw4.out, List.length_append, List.flatMap_append, List.flatMap_append]; simpa [zrL] using this, hG⟩
       case measure => simp [intOf]; try omega
  ·obtain rfl : m = j := by omega
   have hki : (m : Int) - 1 - (m : Int) = -1 := by omega
   rw [hki]
   clear hki
   obtain ⟨g, cc, rfl, hgl, hL, hkl⟩ := own_lzP Ho.out hA (Hpo.out _)
   rw [Hps.out] at hL
   have HL := Lib.hid (And.intro hgl hL)
   clear hL hkl hgl
   refine wp_seq ?_
   refine r0T ?_
   refine wp_cond_false (rfl) ?_
   refine wp_exit ?_
   refine then_exit ?_
   refine then_exit ?_
   refine blk_exit ?_
   refine then_norm ?_
   refine r0T ?_
   refine rt Tryz.results52 ?_
   exact ⟨(g, cc), rfl, HL.out, hG⟩
end Go.Proofs.YtimjnkfcnpfoeaaGreatDoor
