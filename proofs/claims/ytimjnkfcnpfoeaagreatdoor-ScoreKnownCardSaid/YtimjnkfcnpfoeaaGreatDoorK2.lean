/-
  Contracts and plain laws, part 2: lemmas for the claim; each says its own conditions.
-/
import Derived.Test.YtimjnkfcnpfoeaaGreatDoorK1
import Derived.Laws.BitsAllLaws
import Derived.StillTailTactics
import Derived.Laws.CopyOwn
import Derived.RegionTactic
import Derived.BigRegion
import Derived.Deep.RegionHeld3
import Derived.Lib.TrailingZeros
set_option linter.unusedSimpArgs false
set_option linter.unusedVariables false
/-
  nat.mulWords, Nat.Mul.
-/
namespace Go.Proofs.YtimjnkfcnpfoeaaGreatDoor
open Go.RowKit

/-- where a product stands after i rounds -/
def MulI (wr : World) (b : Nat) (l1 l2 : List Nat) (i : Nat) (zs : List Nat) : Prop :=
  zs.length = l1.length + l2.length ∧ Dig W64 zs ∧ val W64 zs = val W64 (l1.take i) * val W64 l2 ∧ (∀ t, i + l2.length ≤ t → dg zs t = 0) ∧ Wrow wr b zs
/-- and inside a round after j steps: c is the carry -/
def MulJ (wr : World) (b : Nat) (l1 l2 : List Nat) (i j c : Nat) (zs : List Nat) : Prop :=
  zs.length = l1.length + l2.length ∧ Dig W64 zs ∧ c < W64 ∧ val W64 zs + c * W64 ^ (i + j) = val W64 (l1.take i) * val W64 l2 + W64 ^ i * (dg l1 i * val W64 (l2.take j)) ∧ (∀ t, i + l2.length ≤ t → dg zs t = 0) ∧ Wrow wr b zs
theorem MulI.inner {wr : World} {b : Nat} {l1 l2 : List Nat} {i : Nat} {zs : List Nat} (h : MulI wr b l1 l2 i zs) : MulJ wr b l1 l2 i 0 0 zs :=
  ⟨h.1, h.2.1, W64_pos, by rw [h.2.2.1]; simp [val], h.2.2.2⟩
theorem MulJ.cell {wr : World} {b : Nat} {l1 l2 : List Nat} {i j c : Nat} {zs : List Nat} (h : MulJ wr b l1 l2 i j c zs) {t : Nat} (ht : t < l1.length + l2.length) :
    wr.cell? ⟨b, t, none⟩ = some (.int .u64 (dg zs t : Nat)) ∧ wr.frozen? ⟨b, t, none⟩ = false := by
  obtain ⟨hl, hd, hc, hv, hz, hr⟩ := h
  have ht' : t < zs.length := by rw [hl]; exact ht
  refine ⟨?_, hr.frozen t⟩
  rw [hr.cell, List.getElem?_eq_getElem ht', dg_eq ht']
  rfl
theorem MulJ.next {wr : World} {b : Nat} {l1 l2 : List Nat} {i j c : Nat} {zs : List Nat} (h : MulJ wr b l1 l2 i j c zs) (h1 : Dig W64 l1) (h2 : Dig W64 l2) (hi : i < l1.length) (hj : j < l2.length) :
    MulJ (wr.setCell ⟨b, i + j, none⟩ (.int .u64 ((dg l1 i * dg l2 j + dg zs (i + j) + c) % W64 : Nat))) b l1 l2 i (j + 1) ((dg l1 i * dg l2 j + dg zs (i + j) + c) / W64) (zs.set (i + j) ((dg l1 i * dg l2 j + dg zs (i + j) + c) % W64)) := by
  obtain ⟨hl, hd, hc, hv, hz, hr⟩ := h
  refine ⟨by rw [List.length_set, hl], dig_set hd _ (Nat.mod_lt _ W64_pos), (mul_digit (dg_lt W64_pos h1 i) (dg_lt W64_pos h2 j) (dg_lt W64_pos hd _) hc).2.2, ?_, fun t ht => ?_, hr.set _ _⟩
  · rw [← Nat.add_assoc]
    exact mul_step (by rw [hl]; omega) hv
  · rw [dg_set_ne _ _ (by omega)]
    exact hz t ht
theorem MulJ.outer {wr : World} {b : Nat} {l1 l2 : List Nat} {i c : Nat} {zs : List Nat} (h : MulJ wr b l1 l2 i l2.length c zs) (hi : i < l1.length) :
    MulI (wr.setCell ⟨b, i + l2.length, none⟩ (.int .u64 (c : Nat))) b l1 l2 (i + 1) (zs.set (i + l2.length) c) := by
  obtain ⟨hl, hd, hc, hv, hz, hr⟩ := h
  have hlt : i + l2.length < zs.length := by rw [hl]; omega
  refine ⟨by rw [List.length_set, hl], dig_set hd _ hc, ?_, fun t ht => ?_, hr.set _ _⟩
  · have h1 := val_set W64 zs (i + l2.length) c hlt
    rw [hz _ (Nat.le_refl _), Nat.mul_zero, Nat.add_zero] at h1
    rw [val_take_over W64 l2 _ (Nat.le_refl _)] at hv
    rw [h1, val_take_dg, Nat.add_mul, Nat.mul_comm (W64 ^ (i + l2.length)) c, hv]
    grind
  · rw [dg_set_ne _ _ (by omega)]
    exact hz t (by omega)

set_option maxHeartbeats 2000000 in
set_option maxRecDepth 100000 in
theorem nat_mulWords (A1 A2 : Option Addr) (l1 l2 : List Nat) (c1 c2 : Nat) (w : World) (hr1 : Rd w A1 l1) (hr2 : Rd w A2 l2) (hd1 : Dig W64 l1) (hd2 : Dig W64 l2) (hm : l1.length + l2.length ≤ 34359738368) :
    Calls Tryz.prog 129 #[.slice A1 l1.length c1, .slice A2 l2.length c2] w fun e w' => ∃ zs, e = .returned (.slice (some ⟨w.heap.size, 0, none⟩) zs.length zs.length) ∧ Wrow w' w.heap.size zs ∧ zs.length = l1.length + l2.length ∧ Dig W64 zs ∧ val W64 zs = val W64 l1 * val W64 l2 ∧ Grow w w' := by
  obtain ⟨n1, hn1⟩ : ∃ n, n = l1.length := ⟨_, rfl⟩
  obtain ⟨n2, hn2⟩ : ∃ n, n = l2.length := ⟨_, rfl⟩
  rw [← hn1, ← hn2] at hm
  rw [← hn1, ← hn2]
  have hmk := make_u64 (n1 + n2) (by omega) ((n1 : Int) + (n2 : Int)) (by omega)
  have Hr1 := Lib.hid hr1
  have Hr2 := Lib.hid hr2
  have Hd1 := Lib.hid hd1
  have Hd2 := Lib.hid hd2
  have Hn1 := Lib.hid hn1
  have Hn2 := Lib.hid hn2
  have hs0 : MulI (w.alloc (.cells (cellsW (List.replicate (n1 + n2) 0)) 26)) w.heap.size l1 l2 0 (List.replicate (n1 + n2) 0) :=
    ⟨by simp [hn1, hn2], fun x hx => by rw [(List.mem_replicate.1 hx).2]; exact W64_pos, by simp [val_zeros, val], fun t _ => by
      unfold dg; rw [List.getElem?_replicate]; split <;> rfl, Blk.new w 26 _⟩
  have Hs0 := Lib.hid hs0
  clear hr1 hr2 hd1 hd2 hn1 hn2 hs0
  go_enter Tryz.func129, Tryz.ntmps129
  go_wp2_with fail
  clear hmk
  go_loopw [23] (fun i wr => ∃ (k : Nat) (zs : List Nat), k ≤ n1 ∧ i = .int .i64 k ∧ MulI wr w.heap.size l1 l2 k zs ∧ Grow w wr) (fun i _ => n1 - (intOf i).toNat)
  case atStart => exact ⟨0, _, by omega, rfl, Hs0.out, Grow.alloc _ _⟩
  case round =>
    obtain ⟨k, zs, hk, rfl, hI, hG⟩ := hrel
    have HI := Lib.hid hI
    have HG := Lib.hid hG
    clear hI hG
    rcases Nat.lt_or_ge k n1 with hkl | hkg
    · have hk1 : k < l1.length := by rw [← Hn1.out]; exact hkl
      obtain ⟨b1, o1, rfl, hw1⟩ := (Hr1.out.grow HG.out) (by rintro rfl; simp at hk1)
      have hc := hw1.cell hk1
      rw [← dg_eq hk1] at hc
      obtain ⟨m, hmd⟩ : ∃ m, m = dg l1 k := ⟨_, rfl⟩
      rw [← hmd] at hc
      have hmW : m < 18446744073709551616 := by rw [hmd]; exact dg_lt W64_pos Hd1.out k
      have Hmd := Lib.hid hmd
      clear hmd hw1
      have hdj : decide ((k : Int) < (n1 : Int)) = true := by simp; omega
      go_wp2_with fail
      go_loopw [8, 30] (fun cy i wi => ∃ (j c : Nat) (zs : List Nat), j ≤ n2 ∧ i = .int .i64 j ∧ cy = .int .u64 c ∧ MulJ wi w.heap.size l1 l2 k j c zs ∧ Grow w wi) (fun _ i _ => n2 - (intOf i).toNat)
      case atStart => exact ⟨0, 0, zs, by omega, rfl, rfl, HI.out.inner, HG.out⟩
      case round =>
        obtain ⟨j, c, zs, hj, rfl, rfl, hJ, hG⟩ := hrel
        have HJ := Lib.hid hJ
        have HG2 := Lib.hid hG
        clear hJ hG
        rcases Nat.lt_or_ge j n2 with hjl | hjg
        · have hj2 : j < l2.length := by rw [← Hn2.out]; exact hjl
          obtain ⟨b2, o2, rfl, hw2⟩ := (Hr2.out.grow HG2.out) (by rintro rfl; simp at hj2)
          have hcy := hw2.cell hj2
          rw [← dg_eq hj2] at hcy
          obtain ⟨hco, hfo⟩ := HJ.out.cell (t := k + j) (by rw [← Hn1.out, ← Hn2.out]; omega)
          have hnext := HJ.out.next Hd1.out Hd2.out hk1 hj2
          have hdig := mul_digit (dg_lt W64_pos Hd1.out k) (dg_lt W64_pos Hd2.out j) (dg_lt W64_pos HJ.out.2.1 (k + j)) HJ.out.2.2.1
          have hyW := dg_lt W64_pos Hd2.out j
          have hdW := dg_lt W64_pos HJ.out.2.1 (k + j)
          have hcW := HJ.out.2.2.1
          rw [← Hmd.out] at hnext hdig
          obtain ⟨y, hy⟩ : ∃ y, y = dg l2 j := ⟨_, rfl⟩
          obtain ⟨d, hd⟩ : ∃ d, d = dg zs (k + j) := ⟨_, rfl⟩
          rw [← hy] at hcy hnext hdig hyW
          rw [← hd] at hco hnext hdig hdW
          obtain ⟨hi, hhi⟩ : ∃ q, q = m * y / W64 := ⟨_, rfl⟩
          obtain ⟨lo, hlo⟩ : ∃ q, q = m * y % W64 := ⟨_, rfl⟩
          rw [← hhi, ← hlo] at hdig
          obtain ⟨s1, hs1⟩ : ∃ q, q = (lo + d) % W64 := ⟨_, rfl⟩
          obtain ⟨e1, he1⟩ : ∃ q, q = (lo + d) / W64 := ⟨_, rfl⟩
          rw [← hs1, ← he1] at hdig
          obtain ⟨s2, hs2⟩ : ∃ q, q = (s1 + c) % W64 := ⟨_, rfl⟩
          obtain ⟨e2, he2⟩ : ∃ q, q = (s1 + c) / W64 := ⟨_, rfl⟩
          rw [← hs2, ← he2] at hdig
          rw [← hdig.1, ← hdig.2.1] at hnext
          have hsum : hi + e1 + e2 < 18446744073709551616 := by rw [hdig.2.1]; exact hdig.2.2
          have hmul : ∀ W : World, Calls Tryz.prog 127 #[.int .u64 (m : Int), .int .u64 (y : Int)] W fun e w' => e = .returned (.tuple #[.int .u64 (hi : Int), .int .u64 (lo : Int)]) ∧ W = w' := by
            intro W
            refine (Tryz.bits_Mul64 m y hmW hyW W).mono fun e w' ⟨he, hw⟩ => ⟨?_, hw.symm⟩
            rw [he, hhi, hlo]
            rfl
          have hadd1 := run_Add64' lo d 0 (by omega) (lo : Int) (d : Int) 0 rfl rfl rfl
          rw [show (lo + d + 0) % 18446744073709551616 = s1 from hs1.symm, show (lo + d + 0) / 18446744073709551616 = e1 from he1.symm] at hadd1
          have hadd2 := run_Add64' s1 c 0 (by omega) (s1 : Int) (c : Int) 0 rfl rfl rfl
          rw [show (s1 + c + 0) % 18446744073709551616 = s2 from hs2.symm, show (s1 + c + 0) / 18446744073709551616 = e2 from he2.symm] at hadd2
          have Hnext := Lib.hid hnext
          have Hmul := Lib.hid hmul
          clear hhi hlo hs1 he1 hs2 he2 hy hd hdig hnext hmul hw2 hyW hdW hcW hmW
          go_wp2_with (go_at_call 127; ((with_reducible refine (Hmul.out _).mono ?_); rintro e w1 ⟨rfl, rfl⟩))
          go_roundw
          case rel => exact ⟨j + 1, hi + e1 + e2, _, by omega, by go_num, by go_num, Hnext.out, HG2.out.setCell (p := ⟨w.heap.size, k + j, none⟩) (Nat.le_refl _) _⟩
          case measure => simp [intOf]; omega
        · obtain rfl : n2 = j := by omega
          obtain ⟨hco, hfo⟩ := HJ.out.cell (t := k + n2) (by rw [← Hn1.out, ← Hn2.out]; omega)
          have hJ := HJ.out
          rw [Hn2.out] at hJ
          have hout := hJ.outer hk1
          rw [← Hn2.out] at hout
          have Hout := Lib.hid hout
          clear hout hJ
          go_wp2_with fail
          go_roundw
          case rel => exact ⟨k + 1, _, by omega, by go_num, Hout.out, HG2.out.setCell (p := ⟨w.heap.size, k + n2, none⟩) (Nat.le_refl _) _⟩
          case measure => simp [intOf]; omega
    · obtain rfl : n1 = k := by omega
      go_wp2_with fail
      go_ret
      obtain ⟨h1, h2, h3, h4, h5⟩ := HI.out
      refine ⟨zs, ?_, h5, by rw [h1, Hn1.out, Hn2.out], h2, by rw [h3, val_take_over _ _ _ (by rw [Hn1.out]; exact Nat.le_refl _)], HG.out⟩
      rw [h1, ← Hn1.out, ← Hn2.out]
      rfl

set_option maxHeartbeats 1000000 in
set_option maxRecDepth 100000 in
theorem nat_Mul_small (a b : Nat) (ha : a < W64) (hb : b < W64) (hs : a * b < W64) (w : World) : Calls Tryz.prog 74 #[natV a, natV b] w fun e w' => e = .returned (natV (a * b)) ∧ Grow w w' := by
  have hmul : ∀ W : World, Calls Tryz.prog 127 #[.int .u64 (a : Int), .int .u64 (b : Int)] W fun e w' => e = .returned (.tuple #[.int .u64 0, .int .u64 ((a * b : Nat) : Int)]) ∧ W = w' := by
    intro W
    refine (Tryz.bits_Mul64 a b ha hb W).mono fun e w' ⟨he, hw⟩ => ⟨?_, hw.symm⟩
    unfold W64 at hs
    rw [he, Nat.div_eq_of_lt hs, Nat.mod_eq_of_lt hs]
    rfl
  rw [natV_small ha, natV_small hb, natV_small hs]
  have Hmul := Lib.hid hmul
  clear hmul ha hb hs
  go_enter Tryz.func74, Tryz.ntmps74
  go_wp2_with (go_at_call 127; ((with_reducible refine (Hmul.out _).mono ?_); rintro e w1 ⟨rfl, rfl⟩))
  exact bodyPost_ret (v := .agg #[.int .u64 ((a * b : Nat) : Int), .string ⟨#[]⟩]) (by simp [results, Tryz.results74, go_sem]) rfl ⟨rfl, ((Grow.alloc _ _).trans (Grow.alloc _ _)).trans (Grow.alloc _ _)⟩
set_option maxHeartbeats 1000000 in
set_option maxRecDepth 100000 in
theorem nat_Mul_over (a b : Nat) (ha : a < W64) (hb : b < W64) (hs : W64 ≤ a * b) (w : World) : Calls Tryz.prog 74 #[natV a, natV b] w fun e w' => e = .returned (natV (a * b)) ∧ Grow w w' := by
  rw [natV_small ha, natV_small hb]
  obtain ⟨s, hs1⟩ : ∃ s, s = a * b % W64 := ⟨_, rfl⟩
  obtain ⟨t, ht1⟩ : ∃ t, t = a * b / W64 := ⟨_, rfl⟩
  have hv : val W64 [s, t] = a * b := by rw [val_cons, val_cons, val_nil, Nat.mul_zero, Nat.add_zero, hs1, ht1, Nat.mod_add_div]
  have hd : Dig W64 [s, t] := by
    intro x hx
    simp only [List.mem_cons, List.not_mem_nil, or_false] at hx
    rcases hx with h | h
    · rw [h, hs1]; exact Nat.mod_lt _ W64_pos
    · rw [h, ht1]
      refine Nat.div_lt_of_lt_mul ?_
      exact Nat.lt_of_lt_of_le (Nat.mul_lt_mul_of_lt_of_le ha (Nat.le_of_lt hb) W64_pos) (Nat.le_refl _)
  have ht0 : ((t : Int) == 0) = false := by
    have : t ≠ 0 := by
      rw [ht1]
      intro h
      rcases Nat.div_eq_zero_iff.1 h with h | h
      · have := W64_pos; omega
      · omega
    simpa using this
  have hmul : ∀ W : World, Calls Tryz.prog 127 #[.int .u64 (a : Int), .int .u64 (b : Int)] W fun e w' => e = .returned (.tuple #[.int .u64 (t : Int), .int .u64 (s : Int)]) ∧ W = w' := by
    intro W
    refine (Tryz.bits_Mul64 a b ha hb W).mono fun e w' ⟨he, hw⟩ => ⟨?_, hw.symm⟩
    rw [he, hs1, ht1]
    rfl
  have Hmul := Lib.hid hmul
  have hfw : ∀ W : World, Wrow W (w.heap.size + 1 + 1 + 1) [s, t] → Calls Tryz.prog 128 #[.slice (some ⟨w.heap.size + 1 + 1 + 1, 0, none⟩) 2 2] W fun e w' => e = .returned (natV (a * b)) ∧ Grow W w' := by
    intro W hW
    rw [← hv]
    exact nat_fromWords _ [s, t] 2 W (fun _ => ⟨_, _, rfl, hW.wds⟩) hd (by simp) (by simp) (by omega)
  have Hfw := Lib.hid hfw
  clear hfw hv hd hs1 ht1 hs ha hb hmul
  go_enter Tryz.func74, Tryz.ntmps74
  go_wp2_with (go_at_call 127; ((with_reducible refine (Hmul.out _).mono ?_); rintro e w1 ⟨rfl, rfl⟩))
  have hbox : ∀ u : World, Grow ((((w.alloc (.cells #[.int .u64 a, .string ⟨#[]⟩] 28)).alloc (.cells #[.int .u64 b, .string ⟨#[]⟩] 28)).alloc (.cells #[.int .u64 0, .string ⟨#[]⟩] 28)).alloc (.cells #[.int .u64 s, .int .u64 t] 26)) u → Blk u (w.heap.size + 1 + 1) 28 #[.int .u64 0, .string ⟨#[]⟩] := by
    intro u hu
    have h := ((Blk.new ((w.alloc (.cells #[.int .u64 a, .string ⟨#[]⟩] 28)).alloc (.cells #[.int .u64 b, .string ⟨#[]⟩] 28)) 28 #[.int .u64 0, .string ⟨#[]⟩]).grow (Grow.alloc _ _)).grow hu
    rw [alloc_size, alloc_size] at h
    exact h
  have Hbox := Lib.hid hbox
  clear hbox
  refine (Hfw.out _ ?_).mono ?_
  · have h := Blk.new (((w.alloc (.cells #[.int .u64 a, .string ⟨#[]⟩] 28)).alloc (.cells #[.int .u64 b, .string ⟨#[]⟩] 28)).alloc (.cells #[.int .u64 0, .string ⟨#[]⟩] 28)) 26 #[.int .u64 s, .int .u64 t]
    rw [alloc_size, alloc_size, alloc_size] at h
    exact h
  rintro e w1 ⟨rfl, hg⟩
  have hb := Hbox.out w1 hg
  have hc := hb.cell
  have hf := hb.frozen
  have HG := Lib.hid ((((Grow.alloc w _).trans (Grow.alloc _ _)).trans ((Grow.alloc _ _).trans (Grow.alloc _ _))).trans hg)
  have Hb := Lib.hid hb
  clear hb hg
  go_wp2_with fail
  have h6 := ((Hb.out.set_ 0 (.int .u64 (natLo (a * b)))).set_ 1 (.string (natMo (a * b)))).cell
  simp only [List.setIfInBounds_toArray, List.set_cons_zero, List.set_cons_succ] at h6
  exact bodyPost_ret (v := natV (a * b)) (by simp [results, Tryz.results74, go_sem, h6]) rfl ⟨rfl, (HG.out.setCell (p := ⟨w.heap.size + 1 + 1, 0, none⟩) (by show _ ≤ w.heap.size + 1 + 1; omega) _).setCell (p := ⟨w.heap.size + 1 + 1, 1, none⟩) (by show _ ≤ w.heap.size + 1 + 1; omega) _⟩


set_option maxHeartbeats 1000000 in
set_option maxRecDepth 100000 in
theorem nat_Mul_big (a b : Nat) (ha : bl a ≤ 1099511627776) (hb : bl b ≤ 1099511627776) (hs : ¬ (a < W64 ∧ b < W64)) (w : World) : Calls Tryz.prog 74 #[natV a, natV b] w fun e w' => e = .returned (natV (a * b)) ∧ Grow w w' := by
  have hT : ∃ b1 b2 : Bool, (natMo a).toList.isEmpty = b1 ∧ (natMo b).toList.isEmpty = b2 ∧ (b1 && b2) = false := by
    refine ⟨_, _, rfl, rfl, ?_⟩
    rw [natMo_isEmpty, natMo_isEmpty, Bool.and_eq_false_iff, decide_eq_false_iff_not, decide_eq_false_iff_not]
    omega
  obtain ⟨b1, b2, hb1, hb2, hb12⟩ := hT
  obtain ⟨la, hla⟩ : ∃ la, la = digs W64 a := ⟨_, rfl⟩
  obtain ⟨lb, hlb⟩ : ∃ lb, lb = digs W64 b := ⟨_, rfl⟩
  have hwa : ∀ W : World, Calls Tryz.prog 130 #[natV a] W fun e w' => ∃ A, e = .returned (.slice A la.length la.length) ∧ Own W w' A la ∧ Grow W w' := by
    intro W; rw [hla]; exact nat_words a ha W
  have hwb : ∀ W : World, Calls Tryz.prog 130 #[natV b] W fun e w' => ∃ A, e = .returned (.slice A lb.length lb.length) ∧ Own W w' A lb ∧ Grow W w' := by
    intro W; rw [hlb]; exact nat_words b hb W
  have hm1 : la.length ≤ 17179869184 := by rw [hla]; exact digs_len (by omega)
  have hm2 : lb.length ≤ 17179869184 := by rw [hlb]; exact digs_len (by omega)
  have hda : Dig W64 la := by rw [hla]; exact dig_digs W64_ge a
  have hdb : Dig W64 lb := by rw [hlb]; exact dig_digs W64_ge b
  have hv : val W64 la * val W64 lb = a * b := by rw [hla, hlb, val_digs W64_ge, val_digs W64_ge]
  have Hwa := Lib.hid hwa
  have Hwb := Lib.hid hwb
  have Hda := Lib.hid hda
  have Hdb := Lib.hid hdb
  have Hv := Lib.hid hv
  clear hwa hwb hla hlb ha hb hs hda hdb hv
  cases b1 <;> cases b2 <;> first | (exact absurd hb12 (by decide)) | skip
  all_goals
    clear hb12
    go_enter Tryz.func74, Tryz.ntmps74
    go_wp2_with fail
    clear hb1 hb2
    generalize hu : World.alloc (World.alloc (World.alloc w _) _) _ = u
    obtain ⟨hB, hG⟩ := bx_first [(_, _), (_, _), (_, _)] w u hu
    have hF := fr_first w [(28, #[]), (28, #[]), (28, #[])]
    simp only [numbered, List.map_cons, List.map_nil] at hB hF
    clear hu
    generalize w.heap.size + 1 + 1 = b4 at hB hF ⊢
    generalize w.heap.size + 1 = b3 at hB hF ⊢
    generalize w.heap.size = b2 at hB hF ⊢
    refine wp_region_bx (w := w) allocs 6 [(0, 0), (0, 2), (1, 1), (1, 3), (1, 4), (1, 5)] (by kernel_rfl) (by kernel_rfl) hB hG ?_
    simp only [pickOps, List.getElem?_toArray, List.getElem?_cons_zero, List.getElem?_cons_succ]
    (apply gy
     · exact rfl
     · (rintro v ⟨-, hB, -⟩ N hN; have r := hB.r; simp only [BxR] at r; go_simp; exact hN))
    (apply gy
     · exact rfl
     · (rintro v ⟨-, hB, -⟩ N hN; have r := hB.r; simp only [BxR] at r; go_simp; exact hN))
    refine gx (Option Addr) (fun A => .slice A la.length la.length) (fun A v => Rd v A la) (fun A v v' hg h => h.grow hg) rfl ?_ (fun A1 => ?_)
    · rintro v - N hN
      go_simp
      ((with_reducible refine (Hwa.out _).mono ?_); rintro e w1 ⟨A, rfl, hown, hg⟩; exact ⟨_, rfl, hN A w1 hown.rd hg⟩)
    refine gx (Option Addr) (fun A => .slice A lb.length lb.length) (fun A v => Rd v A lb) (fun A v v' hg h => h.grow hg) rfl ?_ (fun A2 => ?_)
    · rintro v - N hN
      go_simp
      ((with_reducible refine (Hwb.out _).mono ?_); rintro e w1 ⟨A, rfl, hown, hg⟩; exact ⟨_, rfl, hN A w1 hown.rd hg⟩)
    refine gx (Nat × List Nat) (fun x => .slice (some ⟨x.1, 0, none⟩) x.2.length x.2.length) (fun x v => Wrow v x.1 x.2 ∧ x.2.length = la.length + lb.length ∧ Dig W64 x.2 ∧ val W64 x.2 = a * b) (fun x v v' hg h => ⟨h.1.grow hg, h.2⟩) rfl ?_ (fun ⟨bz, zs⟩ => ?_)
    · rintro v ⟨⟨-, hr1⟩, hr2⟩ N hN
      go_simp
      ((with_reducible refine (nat_mulWords A1 A2 la lb _ _ v hr1 hr2 Hda.out Hdb.out (by omega)).mono ?_); rintro e w1 ⟨zs, rfl, hrow, hl, hd, hvl, hg⟩; exact ⟨_, rfl, hN (v.heap.size, zs) w1 ⟨hrow, hl, hd, by rw [hvl, Hv.out]⟩ hg⟩)
    refine gm (natV (a * b)) rfl ?_ ?_
    · rintro v ⟨-, hrow, hl, hd, hvl⟩ N hN
      replace hrow : Wrow v bz zs := hrow
      replace hl : zs.length = la.length + lb.length := hl
      replace hd : Dig W64 zs := hd
      replace hvl : val W64 zs = a * b := hvl
      have hrd : Rd v (some ⟨bz, 0, none⟩) zs := fun _ => ⟨_, _, rfl, hrow.wds⟩
      have hfw : Calls Tryz.prog 128 #[.slice (some ⟨bz, 0, none⟩) zs.length zs.length] v fun e w' => e = .returned (natV (a * b)) ∧ Grow v w' := by
        rw [← hvl]; exact nat_fromWords _ zs _ v hrd hd (Nat.le_refl _) (by omega) (by omega)
      clear hvl hl hd hrd hrow
      go_simp
      ((with_reducible refine hfw.mono ?_); rintro e w1 ⟨rfl, hg⟩; exact ⟨_, rfl, hN _ hg⟩)
    refine gend ?_
    rintro v ⟨⟨⟨⟨-, hB1, hG1⟩, -⟩, -⟩, -⟩
    clear hB hG
    have hbb := hB1.tail.tail.head
    have hc := hbb.cell
    have hf := hbb.frozen
    simp only [List.drop_succ_cons, List.drop_zero]
    go_wp2_with fail
    refine NoP.norm ?_
    go_wp2_with fail
    have h6 := ((hbb.set_ 0 (.int .u64 (natLo (a * b)))).set_ 1 (.string (natMo (a * b)))).cell
    simp only [List.setIfInBounds_toArray, List.set_cons_zero, List.set_cons_succ] at h6
    have hwb4 : w.heap.size ≤ b4 := hF.1 b4 (by simp)
    exact bodyPost_ret (v := natV (a * b)) (by simp [results, Tryz.results74, go_sem, h6]) rfl ⟨rfl, (hG1.setCell (p := ⟨b4, 0, none⟩) hwb4 _).setCell (p := ⟨b4, 1, none⟩) hwb4 _⟩
--! nat_Mul = nat_Mul _ _ SIDE SIDE _
theorem nat_Mul (a b : Nat) (ha : bl a ≤ 1099511627776) (hb : bl b ≤ 1099511627776) (w : World) : Calls Tryz.prog 74 #[natV a, natV b] w fun e w' => e = .returned (natV (a * b)) ∧ Grow w w' := by
  by_cases hs : a < W64 ∧ b < W64
  · rcases Nat.lt_or_ge (a * b) W64 with h | h
    · exact nat_Mul_small a b hs.1 hs.2 h w
    · exact nat_Mul_over a b hs.1 hs.2 h w
  · exact nat_Mul_big a b ha hb hs w
end Go.Proofs.YtimjnkfcnpfoeaaGreatDoor

/-
  Plain arithmetic for bits.Div64 and for the shifts.
-/
namespace Go.Proofs.YtimjnkfcnpfoeaaGreatDoor

/-- a guess q of a digit, and its rest r: u b + n is divided by Y = y1 b + y0 -/
def DG (b y1 y0 u n q r : Nat) : Prop := q * y1 + r = u ∧ u * b + n < (q + 1) * (y1 * b + y0) ∧ r < b ∧ q ≤ b + 1
theorem DG.start {b y1 y0 u n : Nat} (hy1 : y1 < b) (hb : b ≤ 2 * y1) (hy0 : y0 < b) (hn : n < b) (hu : u < y1 * b + y0) : DG b y1 y0 u n (u / y1) (u % y1) := by
  have hp : 0 < y1 := by omega
  have h1 := Nat.div_add_mod u y1
  have h2 := Nat.mod_lt u hp
  rw [Nat.mul_comm] at h1
  refine ⟨h1, ?_, by omega, ?_⟩
  · have h3 : u + 1 ≤ (u / y1 + 1) * y1 := by rw [Nat.add_mul]; omega
    calc u * b + n < (u + 1) * b := by rw [Nat.add_mul]; omega
      _ ≤ (u / y1 + 1) * y1 * b := Nat.mul_le_mul_right b h3
      _ ≤ (u / y1 + 1) * (y1 * b + y0) := by rw [Nat.mul_assoc]; exact Nat.mul_le_mul_left _ (by omega)
  · rcases Nat.lt_or_ge (b + 1) (u / y1) with h | h
    · have h3 : (b + 2) * y1 ≤ u / y1 * y1 := Nat.mul_le_mul_right y1 h
      rw [Nat.add_mul, Nat.mul_comm b y1] at h3
      omega
    · exact h
/-- a guess that is too great -/
theorem DG.much {b y1 y0 u n q r : Nat} (h : DG b y1 y0 u n q r) (hn : n < b) (hu : u < y1 * b + y0) (hc : b ≤ q ∨ b * r + n < q * y0) : 0 < q ∧ u * b + n < q * (y1 * b + y0) := by
  obtain ⟨h1, h2, h3, h4⟩ := h
  rcases hc with hc | hc
  · refine ⟨by omega, ?_⟩
    calc u * b + n < (u + 1) * b := by rw [Nat.add_mul]; omega
      _ ≤ (y1 * b + y0) * b := Nat.mul_le_mul_right b hu
      _ ≤ q * (y1 * b + y0) := by rw [Nat.mul_comm]; exact Nat.mul_le_mul_right _ hc
  · refine ⟨Nat.pos_of_ne_zero fun h0 => by rw [h0, Nat.zero_mul] at hc; omega, ?_⟩
    rw [← h1, Nat.mul_add, ← Nat.mul_assoc, Nat.add_mul, Nat.mul_comm r b]
    omega
theorem DG.next {b y1 y0 u n q r : Nat} (h : DG b y1 y0 u n q r) (hn : n < b) (hu : u < y1 * b + y0) (hc : b ≤ q ∨ b * r + n < q * y0) (hr : r + y1 < b) : DG b y1 y0 u n (q - 1) (r + y1) := by
  obtain ⟨hq, hlt⟩ := h.much hn hu hc
  obtain ⟨h1, h2, h3, h4⟩ := h
  obtain ⟨q', rfl⟩ : ∃ q', q = q' + 1 := ⟨q - 1, by omega⟩
  refine ⟨?_, hlt, hr, by omega⟩
  rw [Nat.add_sub_cancel, ← h1, Nat.add_mul]; omega
theorem DG.stop {b y1 y0 u n q r : Nat} (h : DG b y1 y0 u n q r) (hc : q * y0 ≤ b * r + n) : (u * b + n) / (y1 * b + y0) = q := by
  obtain ⟨h1, h2, h3, h4⟩ := h
  refine Nat.div_eq_of_lt_le ?_ h2
  rw [← h1, Nat.mul_add, ← Nat.mul_assoc, Nat.add_mul, Nat.mul_comm r b]
  omega
theorem DG.broke {b y1 y0 u n q r : Nat} (h : DG b y1 y0 u n q r) (hn : n < b) (hy0 : y0 < b) (hu : u < y1 * b + y0) (hc : b ≤ q ∨ b * r + n < q * y0) (hr : b ≤ r + y1) : (u * b + n) / (y1 * b + y0) = q - 1 := by
  obtain ⟨hq, hlt⟩ := h.much hn hu hc
  obtain ⟨h1, h2, h3, h4⟩ := h
  obtain ⟨q', rfl⟩ : ∃ q', q = q' + 1 := ⟨q - 1, by omega⟩
  rw [Nat.add_sub_cancel]
  refine Nat.div_eq_of_lt_le ?_ hlt
  have h5 : q' * y0 ≤ b * b := Nat.mul_le_mul (by omega) (by omega)
  have h6 : b * b ≤ b * (r + y1) := Nat.mul_le_mul_left b hr
  have h7 : u = q' * y1 + (r + y1) := by rw [← h1, Nat.add_mul]; omega
  rw [h7, Nat.mul_add, ← Nat.mul_assoc, Nat.add_mul, Nat.mul_comm (r + y1) b]
  omega

/-- a number of two words, moved to the left by s < 64 bits -/
theorem shl_split (x W p : Nat) (_hp : 0 < p) (r : Nat) (hW : W = p * r) (_hr : 0 < r) : x * p / W = x / r ∧ x * p % W = x % r * p := by
  subst hW
  rw [Nat.mul_comm x p, Nat.mul_div_mul_left _ _ _hp, Nat.mul_mod_mul_left, Nat.mul_comm p]
  exact ⟨rfl, rfl⟩
theorem or_add {a b s : Nat} (h : b < 2 ^ s) (ha : 2 ^ s ∣ a) : a ||| b = a + b := by
  obtain ⟨k, rfl⟩ := ha
  exact (Nat.two_pow_add_eq_or_of_lt h k).symm
theorem or_add' {a b s : Nat} (h : b < 2 ^ s) (ha : 2 ^ s ∣ a) : b ||| a = a + b := by
  rw [Nat.or_comm]; exact or_add h ha

theorem two_digits {X p u n1 n0 y b : Nat} (hp : 0 < p) (hy : 0 < y) (h : X * p = (u * b + n1) * b + n0) :
    X / y = (u * b + n1) / (y * p) * b + ((u * b + n1) % (y * p) * b + n0) / (y * p) ∧ X % y = ((u * b + n1) % (y * p) * b + n0) % (y * p) / p := by
  have hY : 0 < y * p := Nat.mul_pos hy hp
  have e1 := Nat.div_add_mod (u * b + n1) (y * p)
  have e2 := Nat.div_add_mod ((u * b + n1) % (y * p) * b + n0) (y * p)
  have l2 := Nat.mod_lt ((u * b + n1) % (y * p) * b + n0) hY
  generalize (u * b + n1) / (y * p) = q1 at *
  generalize (u * b + n1) % (y * p) = u2 at *
  generalize (u2 * b + n0) / (y * p) = q2 at *
  generalize (u2 * b + n0) % (y * p) = r2 at *
  have e3 : X * p = (y * p) * (q1 * b + q2) + r2 := by rw [h, ← e1]; grind
  constructor
  · rw [← Nat.mul_div_mul_right X y hp, e3, Nat.mul_add_div hY, Nat.div_eq_of_lt l2, Nat.add_zero]
  · have e4 : X % y * p = r2 := by
      rw [← Nat.mul_mod_mul_right, e3, Nat.mul_add_mod, Nat.mod_eq_of_lt l2]
    rw [← e4, Nat.mul_div_cancel _ hp]
theorem digit_lt {u Y b n : Nat} (hu : u < Y) (hn : n < b) : (u * b + n) / Y < b := by
  rw [Nat.div_lt_iff_lt_mul (by omega)]
  calc u * b + n < (u + 1) * b := by rw [Nat.add_mul]; omega
    _ ≤ Y * b := Nat.mul_le_mul_right b hu
    _ = b * Y := Nat.mul_comm _ _
end Go.Proofs.YtimjnkfcnpfoeaaGreatDoor

/-
  math/bits: LeadingZeros64, Div64.
-/
namespace Go.Proofs.YtimjnkfcnpfoeaaGreatDoor
open Go.RowKit

theorem bits_LeadingZeros64 (x : Nat) (hx : x < W64) (w : World) :
    Calls Tryz.prog 188 #[.int .u64 x] w fun e w' => e = .returned (.int .i64 (64 - bl x : Nat)) ∧ w' = w :=
  (Tryz.bits_LeadingZeros64 (x : Int) w (by omega) (by unfold W64 at hx; omega)).mono fun e w' ⟨he, hw⟩ => ⟨by
    rw [he, Int.toNat_natCast, bitLen_eq _ (by unfold W64 at hx; omega)]
    have := bl_small hx
    rw [Int.ofNat_sub this]; rfl, hw⟩

theorem wrapN {a : Nat} (h : a < 18446744073709551616) : IntKind.u64.wrap (a : Int) = (a : Nat) := by rw [IntKind.wrap_u64]; omega
theorem wrapM {a : Nat} : IntKind.u64.wrap (a : Int) = ((a % 18446744073709551616 : Nat) : Int) := by rw [IntKind.wrap_u64]; omega

set_option maxHeartbeats 1000000 in
set_option maxRecDepth 100000 in
theorem bits_Div64_zero (lo y : Nat) (hp : 0 < y) (hlo : lo < W64) (w : World) :
    Calls Tryz.prog 187 #[.int .u64 0, .int .u64 lo, .int .u64 y] w fun e w' => e = .returned (.tuple #[.int .u64 (lo / y : Nat), .int .u64 (lo % y : Nat)]) ∧ Grow w w' := by
  have h1 : ((y : Int) == 0) = false := by simp; omega
  have h1' : (y : Int) ≠ 0 := by omega
  have h3 : decide ((y : Int) ≤ (0 : Int)) = false := by simp; omega
  have hq : IntKind.u64.wrap ((lo : Int) / (y : Int)) = (lo : Int) / (y : Int) := by
    rw [← Int.natCast_ediv]
    exact wrapN (Nat.lt_of_le_of_lt (Nat.div_le_self _ _) hlo)
  go_enter Tryz.func187, Tryz.ntmps187
  go_wp2_with fail
  go_quiet (fail)
  go_wp2
  go_ret2
  exact ⟨by simp, grow_drewN _ _⟩

set_option maxRecDepth 100000 in
/-- what the differences of products are, without their overflow -/
theorem wrap_rest (u n q Y r : Nat) (h : u * 4294967296 + n = q * Y + r) (hr : r < 18446744073709551616) :
    IntKind.u64.wrap (IntKind.u64.wrap (IntKind.u64.wrap ((u : Int) * 4294967296) + (n : Int)) - IntKind.u64.wrap ((q : Int) * (Y : Int))) = (r : Nat) := by
  have h' : (u : Int) * 4294967296 + n = (q : Int) * Y + r :=
    calc (u : Int) * 4294967296 + n = ((u * 4294967296 + n : Nat) : Int) := by rw [Int.natCast_add, Int.natCast_mul]; rfl
      _ = ((q * Y + r : Nat) : Int) := by rw [h]
      _ = _ := by rw [Int.natCast_add, Int.natCast_mul]
  simp only [IntKind.wrap_u64]
  rw [Int.emod_add_emod, ← Int.sub_emod, h', show (q : Int) * Y + r - (q : Int) * Y = r by generalize (q : Int) * Y = m; omega]
  omega

theorem dg_facts {y1 y0 u n q r : Nat} (h : DG 4294967296 y1 y0 u n q r) (hy0 : y0 < 4294967296) (hn : n < 4294967296) :
    ∃ m1 m2 m3 : Nat, IntKind.u64.wrap (4294967296 * (r : Int)) = (m1 : Nat) ∧ IntKind.u64.wrap ((m1 : Int) + (n : Int)) = (m3 : Nat) ∧ (q < 4294967296 → IntKind.u64.wrap ((q : Int) * (y0 : Int)) = (m2 : Nat)) ∧ m3 = 4294967296 * r + n ∧ m2 = q * y0 := by
  have hr := h.2.2.1
  refine ⟨4294967296 * r, q * y0, 4294967296 * r + n, ?_, ?_, fun hq => ?_, rfl, rfl⟩
  · rw [show (4294967296 * (r : Int)) = ((4294967296 * r : Nat) : Int) by simp]; exact wrapN (by omega)
  · rw [show (((4294967296 * r : Nat) : Int) + (n : Int)) = ((4294967296 * r + n : Nat) : Int) by omega]; exact wrapN (by omega)
  · rw [show ((q : Int) * (y0 : Int)) = ((q * y0 : Nat) : Int) by simp]
    exact wrapN (Nat.lt_of_le_of_lt (Nat.mul_le_mul (Nat.le_of_lt_succ hq) (Nat.le_of_lt_succ hy0)) (by omega))

theorem lt_two_pow_sub {y : Nat} (h : y ≠ 0) (h64 : bl y ≤ 64) : y * 2 ^ (64 - bl y) < 18446744073709551616 ∧ 9223372036854775808 ≤ y * 2 ^ (64 - bl y) := by
  have h1 := lt_bl y
  have h2 : 2 ^ (bl y - 1) ≤ y := bl_lt.1 (by have := bl_pos.2 h; omega)
  have e1 : 2 ^ bl y * 2 ^ (64 - bl y) = 18446744073709551616 := by rw [← Nat.pow_add, show bl y + (64 - bl y) = 64 by omega]
  have e2 : 2 ^ (bl y - 1) * 2 ^ (64 - bl y) = 9223372036854775808 := by rw [← Nat.pow_add, show bl y - 1 + (64 - bl y) = 63 by have := bl_pos.2 h; omega]
  have hp : 0 < 2 ^ (64 - bl y) := Nat.two_pow_pos _
  exact ⟨by rw [← e1]; exact Nat.mul_lt_mul_of_pos_right h1 hp, by rw [← e2]; exact Nat.mul_le_mul_right _ h2⟩

set_option maxHeartbeats 2000000 in
set_option maxRecDepth 100000 in
theorem bits_Div64_big (hi lo y : Nat) (hy : y < W64) (hhi : hi < y) (hlo : lo < W64) (hp : 0 < hi) (w : World) :
    Calls Tryz.prog 187 #[.int .u64 hi, .int .u64 lo, .int .u64 y] w fun e w' => e = .returned (.tuple #[.int .u64 ((hi * W64 + lo) / y : Nat), .int .u64 ((hi * W64 + lo) % y : Nat)]) ∧ Grow w w' := by
  have h1 : ((y : Int) == 0) = false := by simp; omega
  have h2 : ((hi : Int) == 0) = false := by simp; omega
  have h3 : decide ((y : Int) ≤ (hi : Int)) = false := by simp; omega
  have hlz := bits_LeadingZeros64 y hy
  have hb64 := bl_small hy
  obtain ⟨hY1, hY2⟩ := lt_two_pow_sub (y := y) (by omega) hb64
  have hb0 := bl_pos.2 (show y ≠ 0 by omega)
  obtain ⟨s, hs⟩ : ∃ s, s = 64 - bl y := ⟨_, rfl⟩
  rw [← hs] at hlz hY1 hY2
  have hs64 : s < 64 := by omega
  -- the divisor, moved
  obtain ⟨Y, hY⟩ : ∃ Y, Y = y * 2 ^ s := ⟨_, rfl⟩
  rw [← hY] at hY1 hY2
  obtain ⟨y1, hy1⟩ : ∃ q, q = Y / 4294967296 := ⟨_, rfl⟩
  obtain ⟨y0, hy0⟩ : ∃ q, q = Y % 4294967296 := ⟨_, rfl⟩
  -- the number, moved
  obtain ⟨u, hu⟩ : ∃ q, q = hi * 2 ^ s + lo / 2 ^ (64 - s) := ⟨_, rfl⟩
  obtain ⟨v, hv⟩ : ∃ q, q = lo * 2 ^ s % 18446744073709551616 := ⟨_, rfl⟩
  obtain ⟨n1, hn1⟩ : ∃ q, q = v / 4294967296 := ⟨_, rfl⟩
  obtain ⟨n0, hn0⟩ : ∃ q, q = v % 4294967296 := ⟨_, rfl⟩
  have hpw : 2 ^ s * 2 ^ (64 - s) = 18446744073709551616 := by rw [← Nat.pow_add, show s + (64 - s) = 64 by omega]
  have hlod : lo / 2 ^ (64 - s) < 2 ^ s := by
    rw [Nat.div_lt_iff_lt_mul (Nat.two_pow_pos _), hpw]; exact hlo
  have huY : u < Y := by
    rw [hu, hY]
    calc hi * 2 ^ s + lo / 2 ^ (64 - s) < (hi + 1) * 2 ^ s := by rw [Nat.add_mul]; omega
      _ ≤ y * 2 ^ s := Nat.mul_le_mul_right _ hhi
  have hXU : (hi * W64 + lo) * 2 ^ s = u * 18446744073709551616 + v := by
    obtain ⟨e1, e2⟩ := shl_split lo 18446744073709551616 (2 ^ s) (Nat.two_pow_pos _) (2 ^ (64 - s)) hpw.symm (Nat.two_pow_pos _)
    have e3 := Nat.div_add_mod (lo * 2 ^ s) 18446744073709551616
    rw [e1, ← hv] at e3
    rw [hu, Nat.add_mul, ← e3, show W64 = 18446744073709551616 from rfl]
    grind
  have hy1b : y1 < 4294967296 := by omega
  have hy1h : 4294967296 ≤ 2 * y1 := by omega
  have hy0b : y0 < 4294967296 := by omega
  have hn1b : n1 < 4294967296 := by omega
  have hn0b : n0 < 4294967296 := by omega
  have hYs : y1 * 4294967296 + y0 = Y := by rw [hy1, hy0, Nat.div_add_mod']
  have hvs : n1 * 4294967296 + n0 = v := by rw [hn1, hn0, Nat.div_add_mod']
  obtain ⟨t, ht⟩ : ∃ t, t = 64 - s := ⟨_, rfl⟩
  obtain ⟨H, hH⟩ : ∃ H, H = hi * 2 ^ s := ⟨_, rfl⟩
  obtain ⟨L, hL⟩ : ∃ L, L = lo / 2 ^ t := ⟨_, rfl⟩
  rw [← ht] at hlod hu hpw
  rw [← hL] at hlod hu
  rw [← hH] at hu
  have fs : IntKind.u64.wrap (s : Int) = s := wrapN (by omega)
  have fsm : min s 64 = s := by omega
  have ftm : min t 64 = t := by omega
  have ft : IntKind.u64.wrap (64 - (s : Int)) = (t : Nat) := by rw [show (64 - (s : Int)) = (t : Nat) by omega]; exact wrapN (by omega)
  have fY : IntKind.u64.wrap ((y : Int) * 2 ^ s) = (Y : Nat) := by
    rw [show ((y : Int) * 2 ^ s) = ((Y : Nat) : Int) by rw [hY]; simp]; exact wrapN hY1
  have fH : IntKind.u64.wrap ((hi : Int) * 2 ^ s) = (H : Nat) := by
    rw [show ((hi : Int) * 2 ^ s) = ((H : Nat) : Int) by rw [hH]; simp]; exact wrapN (by omega)
  have fv : IntKind.u64.wrap ((lo : Int) * 2 ^ s) = (v : Nat) := by
    rw [show ((lo : Int) * 2 ^ s) = ((lo * 2 ^ s : Nat) : Int) by simp, hv]; exact wrapM
  have fL : (lo : Int) / 2 ^ t = (L : Nat) := by rw [hL]; simp
  have for_ : bits .or .u64 (H : Int) (L : Int) = (u : Nat) := by
    rw [u64_or_nat _ _ (by omega) (by omega), or_add hlod (by rw [hH]; exact Nat.dvd_mul_left _ _), hu]
  have fy1 : (Y : Int) / 4294967296 = (y1 : Nat) := by omega
  have fy0 : bits .and .u64 (Y : Int) 4294967295 = (y0 : Nat) := by
    rw [show (4294967295 : Int) = ((4294967295 : Nat) : Int) from rfl, u64_and_nat _ _ (by omega) (by omega), hy0]
    exact congrArg _ (Nat.and_two_pow_sub_one_eq_mod Y 32)
  have fn1 : (v : Int) / 4294967296 = (n1 : Nat) := by omega
  have fn0 : bits .and .u64 (v : Int) 4294967295 = (n0 : Nat) := by
    rw [show (4294967295 : Int) = ((4294967295 : Nat) : Int) from rfl, u64_and_nat _ _ (by omega) (by omega), hn0]
    exact congrArg _ (Nat.and_two_pow_sub_one_eq_mod v 32)
  have fz : ((y1 : Int) == 0) = false := by simp; omega
  have fz' : (y1 : Int) ≠ 0 := by omega
  have hD := DG.start hy1b hy1h hy0b hn1b (show u < y1 * 4294967296 + y0 by omega)
  obtain ⟨q, hq⟩ : ∃ q, q = u / y1 := ⟨_, rfl⟩
  obtain ⟨r, hr⟩ : ∃ q, q = u % y1 := ⟨_, rfl⟩
  rw [← hq, ← hr] at hD
  have fq : IntKind.u64.wrap ((u : Int) / (y1 : Int)) = (q : Nat) := by
    rw [← Int.natCast_ediv, ← hq]
    exact wrapN (by have := hD.2.2.2; omega)
  have fr : IntKind.u64.wrap ((u : Int) - IntKind.u64.wrap ((q : Int) * (y1 : Int))) = (r : Nat) := by
    have h := hD.1
    have h' : q * y1 ≤ u := by omega
    rw [show (q : Int) * (y1 : Int) = ((q * y1 : Nat) : Int) by simp, wrapN (show q * y1 < _ by omega), show (u : Int) - ((q * y1 : Nat) : Int) = (r : Nat) by omega]
    exact wrapN (by have := hD.2.2.1; omega)
  obtain ⟨Q1, hQ1⟩ : ∃ q, q = (u * 4294967296 + n1) / Y := ⟨_, rfl⟩
  obtain ⟨U2, hU2⟩ : ∃ q, q = (u * 4294967296 + n1) % Y := ⟨_, rfl⟩
  have hYp : 0 < Y := by omega
  have hU2l : U2 < Y := by rw [hU2]; exact Nat.mod_lt _ hYp
  have hQ1l : Q1 < 4294967296 := by rw [hQ1]; exact digit_lt huY hn1b
  have f21 := wrap_rest u n1 Q1 Y U2 (by rw [hQ1, hU2, Nat.mul_comm _ Y, Nat.div_add_mod]) (by omega)
  have hD2 := DG.start (n := n0) hy1b hy1h hy0b hn0b (show U2 < y1 * 4294967296 + y0 by omega)
  obtain ⟨q2, hq2⟩ : ∃ q, q = U2 / y1 := ⟨_, rfl⟩
  obtain ⟨r2, hr2⟩ : ∃ q, q = U2 % y1 := ⟨_, rfl⟩
  rw [← hq2, ← hr2] at hD2
  have fq2 : IntKind.u64.wrap ((U2 : Int).tdiv (y1 : Int)) = (q2 : Nat) := by
    rw [show (U2 : Int).tdiv (y1 : Int) = ((U2 / y1 : Nat) : Int) from rfl, ← hq2]
    exact wrapN (by have := hD2.2.2.2; omega)
  have fq2' : IntKind.u64.wrap ((U2 : Int) / (y1 : Int)) = (q2 : Nat) := by
    rw [← Int.natCast_ediv, ← hq2]
    exact wrapN (by have := hD2.2.2.2; omega)
  have fr2 : IntKind.u64.wrap ((U2 : Int) - IntKind.u64.wrap ((q2 : Int) * (y1 : Int))) = (r2 : Nat) := by
    have h := hD2.1
    have h' : q2 * y1 ≤ U2 := by omega
    rw [show (q2 : Int) * (y1 : Int) = ((q2 * y1 : Nat) : Int) by simp, wrapN (show q2 * y1 < _ by omega), show (U2 : Int) - ((q2 * y1 : Nat) : Int) = (r2 : Nat) by omega]
    exact wrapN (by have := hD2.2.2.1; omega)
  obtain ⟨Q2, hQ2⟩ : ∃ q, q = (U2 * 4294967296 + n0) / Y := ⟨_, rfl⟩
  obtain ⟨R, hR⟩ : ∃ q, q = (U2 * 4294967296 + n0) % Y := ⟨_, rfl⟩
  have hRl : R < Y := by rw [hR]; exact Nat.mod_lt _ hYp
  have hQ2l : Q2 < 4294967296 := by rw [hQ2]; exact digit_lt hU2l hn0b
  have f31 := wrap_rest U2 n0 Q2 Y R (by rw [hQ2, hR, Nat.mul_comm _ Y, Nat.div_add_mod]) (by omega)
  have f32 : IntKind.u64.wrap (IntKind.u64.wrap ((Q1 : Int) * 4294967296) + (Q2 : Int)) = (Q1 * 4294967296 + Q2 : Nat) := by
    rw [show (Q1 : Int) * 4294967296 = ((Q1 * 4294967296 : Nat) : Int) by omega, wrapN (by omega), show (((Q1 * 4294967296 : Nat) : Int) + (Q2 : Int)) = ((Q1 * 4294967296 + Q2 : Nat) : Int) by omega]
    exact wrapN (by omega)
  have f33 : (R : Int) / 2 ^ s = (R / 2 ^ s : Nat) := by simp
  have hjoin := two_digits (X := hi * W64 + lo) (p := 2 ^ s) (u := u) (n1 := n1) (n0 := n0) (y := y) (b := 4294967296) (Nat.two_pow_pos _) (by omega) (by rw [hXU, ← hvs, Nat.add_mul, Nat.mul_assoc, show (4294967296 : Nat) * 4294967296 = 18446744073709551616 from rfl, Nat.add_assoc])
  rw [← hY, ← hQ1, ← hU2, ← hQ2, ← hR] at hjoin
  obtain ⟨A, hA⟩ : ∃ A, A = (hi * W64 + lo) / y := ⟨_, rfl⟩
  obtain ⟨B, hB⟩ : ∃ A, A = (hi * W64 + lo) % y := ⟨_, rfl⟩
  rw [← hA, ← hB] at hjoin ⊢
  rw [← hjoin.1] at f32
  have f34 : (Q1 : Int) * 4294967296 + (Q2 : Int) = (A : Nat) := by rw [hjoin.1]; omega
  rw [← hjoin.2] at f33
  have HD := Lib.hid hD
  have HD2 := Lib.hid hD2
  have HQ1 := Lib.hid hQ1
  have HQ2 := Lib.hid hQ2
  have hu' : u < y1 * 4294967296 + y0 := by omega
  have hu2' : U2 < y1 * 4294967296 + y0 := by omega
  have Hu := Lib.hid hu'
  have Hu2 := Lib.hid hu2'
  have HYs := Lib.hid hYs
  clear hD hXU hY huY hlod hu hpw hL hH ht hq hr hn1 hn0 hv hy1 hy0 hb0 hb64 hs hD2 hQ1 hQ2 hjoin hA hB hR hU2 hq2 hr2 hu' hu2' hYs
  go_enter Tryz.func187, Tryz.ntmps187
  go_wp2_with (go_at_call 188; refine (hlz _).mono ?_; rintro e w1 ⟨rfl, rfl⟩)
  go_loopw [15, 16] (fun a b wi => ∃ q r : Nat, a = .int .u64 q ∧ b = .int .u64 r ∧ DG 4294967296 y1 y0 u n1 q r ∧ wi = w1) (fun a _ _ => (intOf a).toNat)
  case atStart => exact ⟨q, r, rfl, rfl, HD.out, rfl⟩
  case round =>
    clear fq fr HD
    obtain ⟨q', r', rfl, rfl, hD, rfl⟩ := hrel
    have hqb := hD.2.2.2
    have hrb := hD.2.2.1
    obtain ⟨m1, m2, m3, k1, k2, k3, k4, k5⟩ := dg_facts hD hy0b hn1b
    have hcases : (q' < 4294967296 ∧ m2 ≤ m3) ∨ ((4294967296 ≤ q' ∨ q' < 4294967296 ∧ m3 < m2) ∧ 4294967296 ≤ r' + y1) ∨ ((4294967296 ≤ q' ∨ q' < 4294967296 ∧ m3 < m2) ∧ r' + y1 < 4294967296) := by omega
    have fadd : IntKind.u64.wrap ((r' : Int) + (y1 : Int)) = (r' + y1 : Nat) := by
      rw [← Int.natCast_add]; exact wrapN (by omega)
    have hmuch : (4294967296 ≤ q' ∨ q' < 4294967296 ∧ m3 < m2) → 0 < q' := fun h => (hD.much hn1b Hu.out (by omega)).1
    have hnext : (4294967296 ≤ q' ∨ q' < 4294967296 ∧ m3 < m2) → r' + y1 < 4294967296 → DG 4294967296 y1 y0 u n1 (q' - 1) (r' + y1) := fun h h' => hD.next hn1b Hu.out (by omega) h'
    have hbroke : (4294967296 ≤ q' ∨ q' < 4294967296 ∧ m3 < m2) → 4294967296 ≤ r' + y1 → Q1 = q' - 1 := fun h h' => by
      rw [HQ1.out, ← HYs.out]; exact hD.broke hn1b hy0b Hu.out (by omega) h'
    have hstop : m2 ≤ m3 → Q1 = q' := fun h => by
      rw [HQ1.out, ← HYs.out]; exact hD.stop (by omega)
    have Hnext := Lib.hid hnext
    clear k4 k5 hD hnext
    obtain ⟨m5, hm5⟩ : ∃ m, m = r' + y1 := ⟨_, rfl⟩
    rw [← hm5] at fadd hcases hbroke
    rcases hcases with hc | hc | hc
    · replace k3 := k3 hc.1
      have g1 : decide ((4294967296 : Int) ≤ (q' : Int)) = false := by simp; omega
      have g2 : decide ((m3 : Int) < (m2 : Int)) = false := by simp; omega
      obtain rfl := hstop hc.2
      clear hstop hbroke hmuch
      go_wp2_with fail
      clear k1 k2 k3 g1 g2 fadd Hnext hc hm5
      go_loopw [18, 16] (fun a b wi => ∃ q r : Nat, a = .int .u64 q ∧ b = .int .u64 r ∧ DG 4294967296 y1 y0 U2 n0 q r ∧ wi = wr) (fun a _ _ => (intOf a).toNat)
      case atStart => exact ⟨q2, r2, rfl, rfl, HD2.out, rfl⟩
      case round =>
        obtain ⟨q3, r3, rfl, rfl, hD, rfl⟩ := hrel
        have hqb := hD.2.2.2
        have hrb := hD.2.2.1
        obtain ⟨l1, l2, l3, k1, k2, k3, k4, k5⟩ := dg_facts hD hy0b hn0b
        have hcases : (q3 < 4294967296 ∧ l2 ≤ l3) ∨ ((4294967296 ≤ q3 ∨ q3 < 4294967296 ∧ l3 < l2) ∧ 4294967296 ≤ r3 + y1) ∨ ((4294967296 ≤ q3 ∨ q3 < 4294967296 ∧ l3 < l2) ∧ r3 + y1 < 4294967296) := by omega
        have fadd : IntKind.u64.wrap ((r3 : Int) + (y1 : Int)) = (r3 + y1 : Nat) := by
          rw [← Int.natCast_add]; exact wrapN (by omega)
        have hmuch : (4294967296 ≤ q3 ∨ q3 < 4294967296 ∧ l3 < l2) → 0 < q3 := fun h => (hD.much hn0b Hu2.out (by omega)).1
        have hnext : (4294967296 ≤ q3 ∨ q3 < 4294967296 ∧ l3 < l2) → r3 + y1 < 4294967296 → DG 4294967296 y1 y0 U2 n0 (q3 - 1) (r3 + y1) := fun h h' => hD.next hn0b Hu2.out (by omega) h'
        have hbroke : (4294967296 ≤ q3 ∨ q3 < 4294967296 ∧ l3 < l2) → 4294967296 ≤ r3 + y1 → Q2 = q3 - 1 := fun h h' => by
          rw [HQ2.out, ← HYs.out]; exact hD.broke hn0b hy0b Hu2.out (by omega) h'
        have hstop : l2 ≤ l3 → Q2 = q3 := fun h => by
          rw [HQ2.out, ← HYs.out]; exact hD.stop (by omega)
        have Hnext := Lib.hid hnext
        clear k4 k5 hD hnext
        obtain ⟨m5, hm5⟩ : ∃ m, m = r3 + y1 := ⟨_, rfl⟩
        rw [← hm5] at fadd hcases hbroke
        rcases hcases with hc | hc | hc
        · replace k3 := k3 hc.1
          have g1 : decide ((4294967296 : Int) ≤ (q3 : Int)) = false := by simp; omega
          have g2 : decide ((l3 : Int) < (l2 : Int)) = false := by simp; omega
          obtain rfl := hstop hc.2
          clear hstop hbroke hmuch
          go_wp2_with fail
          go_ret2
          exact ⟨rfl, Grow.refl _⟩
        · have hq0 := hmuch hc.1
          have hqe : q3 = Q2 + 1 := by have := hbroke hc.1 hc.2; omega
          have fdec : IntKind.u64.wrap ((q3 : Int) - 1) = (Q2 : Nat) := by
            rw [show (q3 : Int) - 1 = (Q2 : Nat) by omega]; exact wrapN (by omega)
          clear hqe
          have g3 : decide ((4294967296 : Int) ≤ (m5 : Int)) = true := by simp; omega
          rcases hc.1 with h | h
          · have g1 : decide ((4294967296 : Int) ≤ (q3 : Int)) = true := by simp only [decide_eq_true_eq]; omega
            clear hstop hbroke hmuch hc k3 hm5 h
            go_wp2_with fail
            go_ret2
            exact ⟨rfl, Grow.refl _⟩
          · replace k3 := k3 h.1
            have g1 : decide ((4294967296 : Int) ≤ (q3 : Int)) = false := by simp only [decide_eq_false_iff_not]; omega
            have g2 : l3 < l2 := h.2
            clear hstop hbroke hmuch hc hm5 h
            go_wp2_with fail
            go_ret2
            exact ⟨rfl, Grow.refl _⟩
        · have hq0 := hmuch hc.1
          have hDn := Hnext.out hc.1 (by omega)
          obtain ⟨q4, hq4⟩ : ∃ q4, q4 = q3 - 1 := ⟨_, rfl⟩
          have fdec : IntKind.u64.wrap ((q3 : Int) - 1) = (q4 : Nat) := by
            rw [show (q3 : Int) - 1 = (q4 : Nat) by omega]; exact wrapN (by omega)
          have Hq4 := Lib.hid hq4
          have g3 : decide ((4294967296 : Int) ≤ (m5 : Int)) = false := by simp; omega
          rw [← hm5, ← hq4] at hDn
          have HDn := Lib.hid hDn
          clear hDn hq4
          rcases hc.1 with h | h
          · have g1 : decide ((4294967296 : Int) ≤ (q3 : Int)) = true := by simp only [decide_eq_true_eq]; omega
            clear hstop hbroke hmuch hc k3 hm5 h
            go_wp2_with fail
            go_round
            case rel => exact ⟨q4, m5, rfl, rfl, HDn.out, by first | rfl | trivial⟩
            case measure =>
              have := Hq4.out
              simp [intOf]
              omega
          · replace k3 := k3 h.1
            have g1 : decide ((4294967296 : Int) ≤ (q3 : Int)) = false := by simp only [decide_eq_false_iff_not]; omega
            have g2 : l3 < l2 := h.2
            clear hstop hbroke hmuch hc hm5 h
            go_wp2_with fail
            go_round
            case rel => exact ⟨q4, m5, rfl, rfl, HDn.out, by first | rfl | trivial⟩
            case measure =>
              have := Hq4.out
              simp [intOf]
              omega
    · have hq0 := hmuch hc.1
      have hqe : q' = Q1 + 1 := by have := hbroke hc.1 hc.2; omega
      have fdec : IntKind.u64.wrap ((q' : Int) - 1) = (Q1 : Nat) := by
        rw [show (q' : Int) - 1 = (Q1 : Nat) by omega]; exact wrapN (by omega)
      clear hqe
      have g3 : decide ((4294967296 : Int) ≤ (m5 : Int)) = true := by simp; omega
      have hg : (decide ((4294967296 : Int) ≤ (q' : Int)) = true) ∨ (decide ((4294967296 : Int) ≤ (q' : Int)) = false ∧ m3 < m2 ∧ IntKind.u64.wrap ((q' : Int) * (y0 : Int)) = (m2 : Nat)) := by
        rcases hc.1 with h | h
        · exact .inl (by simp only [decide_eq_true_eq]; omega)
        · exact .inr ⟨by simp only [decide_eq_false_iff_not]; omega, h.2, k3 h.1⟩
      clear hstop hbroke hmuch hc k3 hm5
      rcases hg with g1 | ⟨g1, g2, g4⟩
      all_goals
        go_wp2_with fail
        clear k1 k2 g1 g3 fadd Hnext hqb hrb fdec
        go_loopw [18, 16] (fun a b wi => ∃ q r : Nat, a = .int .u64 q ∧ b = .int .u64 r ∧ DG 4294967296 y1 y0 U2 n0 q r ∧ wi = wr) (fun a _ _ => (intOf a).toNat)
        case atStart => exact ⟨q2, r2, rfl, rfl, HD2.out, rfl⟩
        case round =>
          obtain ⟨q3, r3, rfl, rfl, hD, rfl⟩ := hrel
          have hqb := hD.2.2.2
          have hrb := hD.2.2.1
          obtain ⟨l1, l2, l3, k1, k2, k3, k4, k5⟩ := dg_facts hD hy0b hn0b
          have hcases : (q3 < 4294967296 ∧ l2 ≤ l3) ∨ ((4294967296 ≤ q3 ∨ q3 < 4294967296 ∧ l3 < l2) ∧ 4294967296 ≤ r3 + y1) ∨ ((4294967296 ≤ q3 ∨ q3 < 4294967296 ∧ l3 < l2) ∧ r3 + y1 < 4294967296) := by omega
          have fadd : IntKind.u64.wrap ((r3 : Int) + (y1 : Int)) = (r3 + y1 : Nat) := by
            rw [← Int.natCast_add]; exact wrapN (by omega)
          have hmuch : (4294967296 ≤ q3 ∨ q3 < 4294967296 ∧ l3 < l2) → 0 < q3 := fun h => (hD.much hn0b Hu2.out (by omega)).1
          have hnext : (4294967296 ≤ q3 ∨ q3 < 4294967296 ∧ l3 < l2) → r3 + y1 < 4294967296 → DG 4294967296 y1 y0 U2 n0 (q3 - 1) (r3 + y1) := fun h h' => hD.next hn0b Hu2.out (by omega) h'
          have hbroke : (4294967296 ≤ q3 ∨ q3 < 4294967296 ∧ l3 < l2) → 4294967296 ≤ r3 + y1 → Q2 = q3 - 1 := fun h h' => by
            rw [HQ2.out, ← HYs.out]; exact hD.broke hn0b hy0b Hu2.out (by omega) h'
          have hstop : l2 ≤ l3 → Q2 = q3 := fun h => by
            rw [HQ2.out, ← HYs.out]; exact hD.stop (by omega)
          have Hnext := Lib.hid hnext
          clear k4 k5 hD hnext
          obtain ⟨m5, hm5⟩ : ∃ m, m = r3 + y1 := ⟨_, rfl⟩
          rw [← hm5] at fadd hcases hbroke
          rcases hcases with hc | hc | hc
          · replace k3 := k3 hc.1
            have g1 : decide ((4294967296 : Int) ≤ (q3 : Int)) = false := by simp; omega
            have g2 : decide ((l3 : Int) < (l2 : Int)) = false := by simp; omega
            obtain rfl := hstop hc.2
            clear hstop hbroke hmuch
            go_wp2_with fail
            go_ret2
            exact ⟨rfl, Grow.refl _⟩
          · have hq0 := hmuch hc.1
            have hqe : q3 = Q2 + 1 := by have := hbroke hc.1 hc.2; omega
            have fdec : IntKind.u64.wrap ((q3 : Int) - 1) = (Q2 : Nat) := by
              rw [show (q3 : Int) - 1 = (Q2 : Nat) by omega]; exact wrapN (by omega)
            clear hqe
            have g3 : decide ((4294967296 : Int) ≤ (m5 : Int)) = true := by simp; omega
            rcases hc.1 with h | h
            · have g1 : decide ((4294967296 : Int) ≤ (q3 : Int)) = true := by simp only [decide_eq_true_eq]; omega
              clear hstop hbroke hmuch hc k3 hm5 h
              go_wp2_with fail
              go_ret2
              exact ⟨rfl, Grow.refl _⟩
            · replace k3 := k3 h.1
              have g1 : decide ((4294967296 : Int) ≤ (q3 : Int)) = false := by simp only [decide_eq_false_iff_not]; omega
              have g2 : l3 < l2 := h.2
              clear hstop hbroke hmuch hc hm5 h
              go_wp2_with fail
              go_ret2
              exact ⟨rfl, Grow.refl _⟩
          · have hq0 := hmuch hc.1
            have hDn := Hnext.out hc.1 (by omega)
            obtain ⟨q4, hq4⟩ : ∃ q4, q4 = q3 - 1 := ⟨_, rfl⟩
            have fdec : IntKind.u64.wrap ((q3 : Int) - 1) = (q4 : Nat) := by
              rw [show (q3 : Int) - 1 = (q4 : Nat) by omega]; exact wrapN (by omega)
            have Hq4 := Lib.hid hq4
            have g3 : decide ((4294967296 : Int) ≤ (m5 : Int)) = false := by simp; omega
            rw [← hm5, ← hq4] at hDn
            have HDn := Lib.hid hDn
            clear hDn hq4
            rcases hc.1 with h | h
            · have g1 : decide ((4294967296 : Int) ≤ (q3 : Int)) = true := by simp only [decide_eq_true_eq]; omega
              clear hstop hbroke hmuch hc k3 hm5 h
              go_wp2_with fail
              go_round
              case rel => exact ⟨q4, m5, rfl, rfl, HDn.out, by first | rfl | trivial⟩
              case measure =>
              have := Hq4.out
              simp [intOf]
              omega
            · replace k3 := k3 h.1
              have g1 : decide ((4294967296 : Int) ≤ (q3 : Int)) = false := by simp only [decide_eq_false_iff_not]; omega
              have g2 : l3 < l2 := h.2
              clear hstop hbroke hmuch hc hm5 h
              go_wp2_with fail
              go_round
              case rel => exact ⟨q4, m5, rfl, rfl, HDn.out, by first | rfl | trivial⟩
              case measure =>
              have := Hq4.out
              simp [intOf]
              omega
    · have hq0 := hmuch hc.1
      have hDn := Hnext.out hc.1 (by omega)
      obtain ⟨q4, hq4⟩ : ∃ q4, q4 = q' - 1 := ⟨_, rfl⟩
      have fdec : IntKind.u64.wrap ((q' : Int) - 1) = (q4 : Nat) := by
        rw [show (q' : Int) - 1 = (q4 : Nat) by omega]; exact wrapN (by omega)
      have Hq4 := Lib.hid hq4
      have g3 : decide ((4294967296 : Int) ≤ (m5 : Int)) = false := by simp; omega
      rw [← hm5, ← hq4] at hDn
      have HDn := Lib.hid hDn
      clear hDn hq4
      rcases hc.1 with h | h
      · have g1 : decide ((4294967296 : Int) ≤ (q' : Int)) = true := by simp only [decide_eq_true_eq]; omega
        clear hstop hbroke hmuch hc k3 hm5 h
        go_wp2_with fail
        go_round
        case rel => exact ⟨q4, m5, rfl, rfl, HDn.out, by first | rfl | trivial⟩
        case measure =>
              have := Hq4.out
              simp [intOf]
              omega
      · replace k3 := k3 h.1
        have g1 : decide ((4294967296 : Int) ≤ (q' : Int)) = false := by simp only [decide_eq_false_iff_not]; omega
        have g2 : m3 < m2 := h.2
        clear hstop hbroke hmuch hc hm5 h
        go_wp2_with fail
        go_round
        case rel => exact ⟨q4, m5, rfl, rfl, HDn.out, by first | rfl | trivial⟩
        case measure =>
              have := Hq4.out
              simp [intOf]
              omega

theorem bits_Div64 (hi lo y : Nat) (hy : y < W64) (hhi : hi < y) (hlo : lo < W64) (w : World) :
    Calls Tryz.prog 187 #[.int .u64 hi, .int .u64 lo, .int .u64 y] w fun e w' => e = .returned (.tuple #[.int .u64 ((hi * W64 + lo) / y : Nat), .int .u64 ((hi * W64 + lo) % y : Nat)]) ∧ Grow w w' := by
  rcases Nat.eq_zero_or_pos hi with rfl | hp
  · rw [Nat.zero_mul, Nat.zero_add]
    exact bits_Div64_zero lo y hhi hlo w
  · exact bits_Div64_big hi lo y hy hhi hlo hp w
end Go.Proofs.YtimjnkfcnpfoeaaGreatDoor

/-
  nat.divWord, shiftUp, shiftDown.
-/
namespace Go.Proofs.YtimjnkfcnpfoeaaGreatDoor
open Go.RowKit

/-- where a division by one word stands: the words from k on are done -/
def DwI (W d : Nat) (l : List Nat) (k r : Nat) (zs : List Nat) : Prop :=
  zs.length = l.length ∧ Dig W zs ∧ (∀ i, i < k → dg zs i = dg l i) ∧ r < d ∧ val W (zs.drop k) * d + r = val W (l.drop k)
theorem drop_dg {l : List Nat} {k : Nat} (h : k < l.length) : l.drop k = dg l k :: l.drop (k + 1) := by
  rw [List.drop_eq_getElem_cons h, dg_eq h]
theorem dg_set_self {l : List Nat} {k : Nat} (h : k < l.length) (y : Nat) : dg (l.set k y) k = y := by
  unfold dg; rw [List.getElem?_set_self h]; rfl
theorem DwI.next {W d : Nat} {l : List Nat} {k r : Nat} {zs : List Nat} (h : DwI W d l (k + 1) r zs) (hk : k < l.length) (hd : Dig W l) (hW : 0 < W) :
    DwI W d l k ((r * W + dg l k) % d) (zs.set k ((r * W + dg l k) / d)) := by
  obtain ⟨h1, h2, h3, h4, h5⟩ := h
  have hk' : k < zs.length := by rw [h1]; exact hk
  have hx := dg_lt hW hd k
  refine ⟨by rw [List.length_set, h1], dig_set h2 _ (digit_lt h4 hx), fun i hi => ?_, Nat.mod_lt _ (by omega), ?_⟩
  · rw [dg_set_ne _ _ (by omega)]; exact h3 i (by omega)
  · rw [drop_dg (l := zs.set k _) (by rw [List.length_set]; exact hk'), dg_set_self hk', drop_dg hk, val_cons, val_cons, List.drop_set_of_lt (by omega), ← h5]
    have e := Nat.div_add_mod (r * W + dg l k) d
    generalize (r * W + dg l k) / d = q at *
    generalize (r * W + dg l k) % d = m at *
    generalize val W (zs.drop (k + 1)) = V at *
    grind

set_option maxHeartbeats 1000000 in
set_option maxRecDepth 100000 in
theorem nat_divWord (b : Nat) (l : List Nat) (d : Nat) (w0 w : World) (hr : Wrow w b l) (hdl : Dig W64 l) (hd0 : 0 < d) (hdW : d < W64) (hm : l.length ≤ 34359738368) (hg0 : Grow w0 w) (hb0 : w0.heap.size ≤ b) :
    Calls Tryz.prog 157 #[.slice (some ⟨b, 0, none⟩) l.length l.length, .int .u64 d] w fun e w' => ∃ zs : List Nat, e = .returned (.tuple #[.slice (some ⟨b, 0, none⟩) (trimL zs).length zs.length, .int .u64 (val W64 l % d : Nat)]) ∧ Wrow w' b zs ∧ zs.length = l.length ∧ Dig W64 zs ∧ val W64 zs = val W64 l / d ∧ Grow w0 w' := by
  obtain ⟨n, hn⟩ : ∃ n, n = l.length := ⟨_, rfl⟩
  rw [← hn] at hm
  rw [← hn]
  have hs0 : DwI W64 d l n 0 l := ⟨rfl, hdl, fun _ _ => rfl, hd0, by rw [hn, List.drop_length]; simp [val]⟩
  have Hs0 := Lib.hid hs0
  have Hr := Lib.hid hr
  have Hdl := Lib.hid hdl
  have Hn := Lib.hid hn
  have Hg0 := Lib.hid hg0
  clear hs0 hr hdl hn hg0
  go_enter Tryz.func157, Tryz.ntmps157
  go_wp2_with fail
  go_loopw [6, 7] (fun r i wr => ∃ (k r' : Nat) (zs : List Nat), k ≤ n ∧ i = .int .i64 ((k : Int) - 1) ∧ r = .int .u64 r' ∧ DwI W64 d l k r' zs ∧ Wrow wr b zs ∧ Grow w0 wr) (fun _ i _ => (intOf i + 1).toNat)
  case atStart => exact ⟨n, 0, l, Nat.le_refl _, rfl, rfl, Hs0.out, Hr.out, Hg0.out⟩
  case round =>
    obtain ⟨k, r', zs, hk, rfl, rfl, hI, hR, hG⟩ := hrel
    have HI := Lib.hid hI
    have HG := Lib.hid hG
    have HR := Lib.hid hR
    clear hI hG hR
    rcases Nat.eq_zero_or_pos k with rfl | hpos
    · have hval : val W64 zs * d + r' = val W64 l := by have := HI.out.2.2.2.2; simpa using this
      have hres : val W64 l % d = r' ∧ val W64 l / d = val W64 zs := by
        have := HI.out.2.2.2.1
        rw [← hval, Nat.mul_comm, Nat.mul_add_mod, Nat.mod_eq_of_lt this, Nat.mul_add_div hd0, Nat.div_eq_of_lt this]
        simp
      have htrim : ∀ W : World, Grow wr W → Calls Tryz.prog 166 #[.slice (some ⟨b, 0, none⟩) n n] W fun e w' => e = .returned (.slice (some ⟨b, 0, none⟩) (trimL zs).length zs.length) ∧ W = w' := fun W hW => by
        have hl := HI.out.1
        rw [← Hn.out] at hl
        rw [← hl]
        exact nat_trim _ zs zs.length W (fun _ => ⟨_, _, rfl, (HR.out.grow hW).wds⟩) (Nat.le_refl _) (by omega)
      have Hres := Lib.hid hres
      have Htrim := Lib.hid htrim
      clear hval hres htrim
      have hc : decide ((0 : Int) ≤ ((0 : Nat) : Int) - 1) = false := by decide
      go_wp2_with (go_at_call 166; refine (Htrim.out _ (Grow.refl _)).mono ?_; rintro e w1 ⟨rfl, rfl⟩)
      go_ret2
      exact ⟨zs, by rw [Hres.out.1]; rfl, HR.out, by rw [Hn.out]; exact HI.out.1, HI.out.2.1, Hres.out.2.symm, HG.out⟩
    · obtain ⟨j, rfl⟩ : ∃ j, k = j + 1 := ⟨k - 1, by omega⟩
      have hjn : j < n := by omega
      have hjl : j < l.length := by rw [← Hn.out]; exact hjn
      have hnx := HI.out.next hjl Hdl.out W64_pos
      have hjz : j < zs.length := by rw [HI.out.1]; exact hjl
      have hc := HR.out.cell j
      have hf := HR.out.frozen j
      rw [List.getElem?_eq_getElem hjz, ← dg_eq hjz, HI.out.2.2.1 j (by omega)] at hc
      have hx := dg_lt W64_pos Hdl.out j
      have hrd := HI.out.2.2.2.1
      obtain ⟨x, hxd⟩ : ∃ x, x = dg l j := ⟨_, rfl⟩
      rw [← hxd] at hc hx hnx
      have hdiv := bits_Div64 r' x d hdW hrd hx
      obtain ⟨q, hq⟩ : ∃ q, q = (r' * W64 + x) / d := ⟨_, rfl⟩
      obtain ⟨m, hm'⟩ : ∃ q, q = (r' * W64 + x) % d := ⟨_, rfl⟩
      rw [← hq, ← hm'] at hdiv hnx
      have Hdiv := Lib.hid hdiv
      have Hnx := Lib.hid hnx
      clear hdiv hnx hq hm' hxd
      have e1 : ((j + 1 : Nat) : Int) - 1 = (j : Nat) := by omega
      rw [e1]
      simp only [Option.map_some] at hc
      have hc0 : decide ((0 : Int) ≤ (j : Int)) = true := by simp
      go_wp2_with (go_at_call 187; ((with_reducible refine (Hdiv.out _).mono ?_); rintro e w1 ⟨rfl, hg⟩); have hc2 : w1.cell? ⟨b, j, none⟩ = some (.int .u64 x) := (hg.cell (p := ⟨b, j, none⟩) HR.out.lt).trans hc; have hf := (HR.out.grow hg).frozen j; have HR1 := Lib.hid (HR.out.grow hg); have HG1 := Lib.hid (HG.out.trans hg))
      go_roundw
      case rel => exact ⟨j, m, zs.set j q, by omega, by go_num, rfl, Hnx.out, HR1.out.set j q, HG1.out.setCell (p := ⟨b, j, none⟩) hb0 _⟩
      case measure => simp [intOf]
end Go.Proofs.YtimjnkfcnpfoeaaGreatDoor

/-
  A word of a long quotient: plain numbers.
-/
namespace Go.Proofs.YtimjnkfcnpfoeaaGreatDoor
/-- the greatest word whose product with the divisor's two highest words fits -/
def GW (W u2 u1 u0 v1 v0 g : Nat) : Prop := g < W ∧ g * (v1 * W + v0) ≤ (u2 * W + u1) * W + u0 ∧ ∀ g', g' < W → g' * (v1 * W + v0) ≤ (u2 * W + u1) * W + u0 → g' ≤ g
def GI (W u2 u1 u0 v1 v0 g r : Nat) : Prop := g < W ∧ g * v1 + r = u2 * W + u1 ∧ ∀ g', g' < W → g' * (v1 * W + v0) ≤ (u2 * W + u1) * W + u0 → g' ≤ g
theorem GI.full {W u2 u1 u0 v1 v0 : Nat} (hW : 0 < W) (h : u2 = v1) : GI W u2 u1 u0 v1 v0 (W - 1) (u1 + v1) := by
  refine ⟨by omega, ?_, fun g' hg' _ => by omega⟩
  obtain ⟨k, rfl⟩ : ∃ k, W = k + 1 := ⟨W - 1, by omega⟩
  subst h
  rw [Nat.add_sub_cancel, Nat.mul_add, Nat.mul_one, Nat.mul_comm k]
  omega
theorem GI.quo {W u2 u1 u0 v1 v0 : Nat} (hW : 0 < W) (h : u2 < v1) (h1 : u1 < W) (h0 : u0 < W) : GI W u2 u1 u0 v1 v0 ((u2 * W + u1) / v1) ((u2 * W + u1) % v1) := by
  have hlt : u2 * W + u1 < v1 * W := by
    have : (u2 + 1) * W ≤ v1 * W := Nat.mul_le_mul_right _ h
    rw [Nat.add_mul, Nat.one_mul] at this
    omega
  refine ⟨(Nat.div_lt_iff_lt_mul (by omega)).2 (by rw [Nat.mul_comm W v1]; exact hlt), by rw [Nat.mul_comm]; exact Nat.div_add_mod _ _, fun g' _ hg => ?_⟩
  rw [Nat.le_div_iff_mul_le (by omega)]
  have h2 : g' * v1 * W ≤ g' * (v1 * W + v0) := by rw [Nat.mul_add, Nat.mul_assoc]; omega
  have h3 : g' * v1 * W < (u2 * W + u1 + 1) * W := by rw [Nat.add_mul (u2 * W + u1), Nat.one_mul]; omega
  have := Nat.lt_of_mul_lt_mul_right h3
  omega
theorem GI.stop {W u2 u1 u0 v1 v0 g r : Nat} (h : GI W u2 u1 u0 v1 v0 g r) (hs : g * v0 ≤ r * W + u0) : GW W u2 u1 u0 v1 v0 g := by
  refine ⟨h.1, ?_, h.2.2⟩
  rw [← h.2.1, Nat.mul_add, Nat.add_mul (g * v1), Nat.mul_assoc]
  omega
theorem GI.over {W u2 u1 u0 v1 v0 g r : Nat} (h : GI W u2 u1 u0 v1 v0 g r) (h0 : v0 < W) (hr : W ≤ r) : GW W u2 u1 u0 v1 v0 g := by
  refine h.stop ?_
  have h1 : g * v0 ≤ W * W := Nat.mul_le_mul (Nat.le_of_lt h.1) (Nat.le_of_lt h0)
  have h2 : W * W ≤ r * W := Nat.mul_le_mul_right _ hr
  omega
theorem GI.next {W u2 u1 u0 v1 v0 g r : Nat} (h : GI W u2 u1 u0 v1 v0 g r) (hs : ¬ g * v0 ≤ r * W + u0) : 0 < g ∧ GI W u2 u1 u0 v1 v0 (g - 1) (r + v1) := by
  have hg : 0 < g := by
    rcases Nat.eq_zero_or_pos g with h0 | h0
    · rw [h0, Nat.zero_mul] at hs; omega
    · exact h0
  obtain ⟨k, rfl⟩ : ∃ k, g = k + 1 := ⟨g - 1, by omega⟩
  have h1 := h.2.1
  rw [Nat.add_mul, Nat.one_mul] at h1
  refine ⟨hg, by have := h.1; omega, by rw [Nat.add_sub_cancel]; omega, fun g' hg' hv => ?_⟩
  have h2 := h.2.2 g' hg' hv
  rcases Nat.lt_or_ge g' (k + 1) with h3 | h3
  · omega
  · obtain rfl : g' = k + 1 := by omega
    exfalso
    apply hs
    rw [← h.2.1, Nat.mul_add, Nat.add_mul ((k + 1) * v1), Nat.mul_assoc] at hv
    omega
/-- the test of two words -/
theorem two_word {W p r u0 : Nat} (hW : 0 < W) (h0 : u0 < W) : p ≤ r * W + u0 ↔ (p / W < r ∨ (p / W = r ∧ p % W ≤ u0)) := by
  have h1 := Nat.div_add_mod p W
  have h2 := Nat.mod_lt p hW
  constructor
  · intro h
    rcases Nat.lt_or_ge (p / W) r with h3 | h3
    · exact .inl h3
    · refine .inr ?_
      have h4 : p / W ≤ r := by
        rcases Nat.lt_or_ge r (p / W) with h5 | h5
        · have : W * (r + 1) ≤ W * (p / W) := Nat.mul_le_mul_left _ h5
          rw [Nat.mul_add, Nat.mul_one, Nat.mul_comm W r] at this
          omega
        · exact h5
      have h5 : p / W = r := by omega
      refine ⟨h5, ?_⟩
      rw [h5, Nat.mul_comm] at h1
      omega
  · rintro (h | ⟨h, h3⟩)
    · have : W * (p / W + 1) ≤ W * r := Nat.mul_le_mul_left _ h
      rw [Nat.mul_add, Nat.mul_one, Nat.mul_comm W r] at this
      omega
    · rw [h, Nat.mul_comm] at h1
      omega
end Go.Proofs.YtimjnkfcnpfoeaaGreatDoor

/-
  nat.guessWord.
-/
namespace Go.Proofs.YtimjnkfcnpfoeaaGreatDoor
open Go.RowKit
set_option maxHeartbeats 2000000 in
set_option maxRecDepth 100000 in
theorem nat_guessWord (u2 u1 u0 v1 v0 : Nat) (h2 : u2 ≤ v1) (h1 : u1 < 18446744073709551616) (h0 : u0 < 18446744073709551616) (hv1 : v1 < 18446744073709551616) (hv0 : v0 < 18446744073709551616) (w : World) :
    Calls Tryz.prog 190 #[.int .u64 u2, .int .u64 u1, .int .u64 u0, .int .u64 v1, .int .u64 v0] w fun e w' => ∃ g : Nat, e = .returned (.int .u64 g) ∧ GW W64 u2 u1 u0 v1 v0 g ∧ Grow w w' := by
  rcases Nat.lt_or_ge u2 v1 with hlt | hge
  · have hdv := bits_Div64 u2 u1 v1 hv1 hlt h1
    have hst : GI W64 u2 u1 u0 v1 v0 ((u2 * W64 + u1) / v1) (0 * W64 + (u2 * W64 + u1) % v1) := by rw [Nat.zero_mul, Nat.zero_add]; exact GI.quo W64_pos hlt h1 h0
    obtain ⟨g0, hg0⟩ : ∃ g, g = (u2 * W64 + u1) / v1 := ⟨_, rfl⟩
    obtain ⟨r0, hr0⟩ : ∃ g, g = (u2 * W64 + u1) % v1 := ⟨_, rfl⟩
    have hr1 : r0 < 18446744073709551616 := by rw [hr0]; exact Nat.lt_trans (Nat.mod_lt _ (by omega)) hv1
    rw [← hg0, ← hr0] at hdv hst
    have Hdv := Lib.hid hdv
    have Hst := Lib.hid (And.intro hst (And.intro hr1 (Nat.zero_le 1)))
    clear hdv hst hg0 hr0 hr1
    have hc : ((u2 : Int) == (v1 : Int)) = false := by simp; omega
    go_enter Tryz.func190, Tryz.ntmps190
    go_wp2_with (go_at_call 187; ((with_reducible refine (Hdv.out _).mono ?_); rintro e w1 ⟨rfl, hg1⟩))
    have Hw := Lib.hid hg1
    clear hg1 hlt hc
    go_loopw [11, 12, 13] (fun x y z wr => ∃ (g r o : Nat), x = .int .u64 g ∧ y = .int .u64 r ∧ z = .int .u64 o ∧ (GI W64 u2 u1 u0 v1 v0 g (o * W64 + r) ∧ r < 18446744073709551616 ∧ o ≤ 1) ∧ Grow w wr) (fun x _ _ _ => (intOf x).toNat)
    case atStart => exact ⟨_, _, _, rfl, rfl, rfl, Hst.out, Hw.out⟩
    case round =>
      clear Hst Hw
      obtain ⟨g, r, o, rfl, rfl, rfl, ⟨hI, hr, ho⟩, hG⟩ := hrel
      have hgW : g < 18446744073709551616 := hI.1
      have HI := Lib.hid hI
      have HG := Lib.hid hG
      clear hI hG
      rcases Nat.eq_zero_or_pos o with rfl | hpos
      · rw [Nat.zero_mul, Nat.zero_add] at HI
        have hmul : ∀ W : World, Calls Tryz.prog 127 #[.int .u64 (g : Int), .int .u64 (v0 : Int)] W fun e w' => e = .returned (.tuple #[.int .u64 ((g * v0 / W64 : Nat) : Int), .int .u64 ((g * v0 % W64 : Nat) : Int)]) ∧ W = w' := by
          intro W
          refine (Tryz.bits_Mul64 g v0 hgW hv0 W).mono fun e w' ⟨he, hw⟩ => ⟨?_, hw.symm⟩
          rw [he]; rfl
        have htw := two_word (W := W64) (p := g * v0) (r := r) (u0 := u0) W64_pos h0
        obtain ⟨hi, hhi⟩ : ∃ q, q = g * v0 / W64 := ⟨_, rfl⟩
        obtain ⟨lo, hlo⟩ : ∃ q, q = g * v0 % W64 := ⟨_, rfl⟩
        rw [← hhi, ← hlo] at hmul htw
        have Hmul := Lib.hid hmul
        clear hmul hhi hlo
        by_cases hgo : g * v0 ≤ r * W64 + u0
        · have hs := HI.out.stop hgo
          have HS := Lib.hid hs
          rw [htw] at hgo
          clear htw hs
          rcases Nat.lt_or_ge hi r with hhr | hhr
          · have c1 : decide ((hi : Int) < (r : Int)) = true := by simp; omega
            clear hgo
            go_wp2_with (go_at_call 127; ((with_reducible refine (Hmul.out _).mono ?_); rintro e w1 ⟨rfl, rfl⟩))
            go_ret
            exact ⟨g, rfl, HS.out, HG.out⟩
          · obtain ⟨rfl, hlu⟩ : hi = r ∧ lo ≤ u0 := by omega
            have c1 : decide ((hi : Int) < (hi : Int)) = false := by simp
            have c2 : decide ((lo : Int) ≤ (u0 : Int)) = true := by simp; omega
            have c3 : ((hi : Int) == (hi : Int)) = true := by simp
            clear hgo
            go_wp2_with (go_at_call 127; ((with_reducible refine (Hmul.out _).mono ?_); rintro e w1 ⟨rfl, rfl⟩))
            go_ret
            exact ⟨g, rfl, HS.out, HG.out⟩
        · obtain ⟨hgp, hnx⟩ := HI.out.next hgo
          rw [htw] at hgo
          obtain ⟨k, rfl⟩ : ∃ k, g = k + 1 := ⟨g - 1, by omega⟩
          rw [Nat.add_sub_cancel] at hnx
          have hadd := run_Add64' r v1 0 (by omega) (r : Int) (v1 : Int) 0 rfl rfl rfl
          rw [Nat.add_zero] at hadd
          have hre : (r + v1) / 18446744073709551616 * W64 + (r + v1) % 18446744073709551616 = r + v1 := by rw [Nat.mul_comm]; exact Nat.div_add_mod _ _
          have hr1 : (r + v1) % 18446744073709551616 < 18446744073709551616 := Nat.mod_lt _ (by omega)
          have ho1 : (r + v1) / 18446744073709551616 ≤ 1 := by omega
          rw [← hre] at hnx
          obtain ⟨r0, hr0⟩ : ∃ g, g = (r + v1) % 18446744073709551616 := ⟨_, rfl⟩
          obtain ⟨o0, ho0⟩ : ∃ g, g = (r + v1) / 18446744073709551616 := ⟨_, rfl⟩
          rw [← hr0, ← ho0] at hnx hadd
          rw [← hr0] at hr1
          rw [← ho0] at ho1
          have Hnx := Lib.hid (And.intro hnx (And.intro hr1 ho1))
          have e1 : ((k + 1 : Nat) : Int) = (k : Int) + 1 := by omega
          rw [e1] at Hmul ⊢
          clear hnx hr0 ho0 hr1 ho1 hre htw e1
          rcases Nat.lt_or_ge r hi with hhr | hhr
          · have c1 : decide ((hi : Int) < (r : Int)) = false := by simp; omega
            have c3 : ((hi : Int) == (r : Int)) = false := by simp; omega
            clear hgo
            go_wp2_with (go_at_call 127; ((with_reducible refine (Hmul.out _).mono ?_); rintro e w1 ⟨rfl, rfl⟩))
            go_roundw
            case rel => exact ⟨k, r0, o0, by go_num, rfl, rfl, Hnx.out, HG.out⟩
            case measure => simp [intOf]
          · obtain ⟨rfl, hlu⟩ : hi = r ∧ u0 < lo := by omega
            have c1 : decide ((hi : Int) < (hi : Int)) = false := by simp
            have c2 : decide ((lo : Int) ≤ (u0 : Int)) = false := by simp; omega
            have c3 : ((hi : Int) == (hi : Int)) = true := by simp
            clear hgo
            go_wp2_with (go_at_call 127; ((with_reducible refine (Hmul.out _).mono ?_); rintro e w1 ⟨rfl, rfl⟩))
            go_roundw
            case rel => exact ⟨k, r0, o0, by go_num, rfl, rfl, Hnx.out, HG.out⟩
            case measure => simp [intOf]
      · obtain rfl : o = 1 := by omega
        have hs := HI.out.over hv0 (by omega)
        have HS := Lib.hid hs
        clear hs
        go_wp2_with fail
        go_ret
        exact ⟨g, rfl, HS.out, HG.out⟩
  · obtain rfl : v1 = u2 := by omega
    have hadd := run_Add64' u1 v1 0 (by omega) (u1 : Int) (v1 : Int) 0 rfl rfl rfl
    rw [Nat.add_zero] at hadd
    have hst : GI W64 v1 u1 u0 v1 v0 18446744073709551615 ((u1 + v1) / 18446744073709551616 * W64 + (u1 + v1) % 18446744073709551616) := by
      have := GI.full (W := W64) (u1 := u1) (u0 := u0) (v0 := v0) W64_pos (rfl : v1 = v1)
      rw [show W64 - 1 = 18446744073709551615 from rfl] at this
      rw [show (u1 + v1) / 18446744073709551616 * W64 + (u1 + v1) % 18446744073709551616 = u1 + v1 from by rw [Nat.mul_comm]; exact Nat.div_add_mod _ _]
      exact this
    have hr1 : (u1 + v1) % 18446744073709551616 < 18446744073709551616 := Nat.mod_lt _ (by omega)
    have ho1 : (u1 + v1) / 18446744073709551616 ≤ 1 := by omega
    obtain ⟨r0, hr0⟩ : ∃ g, g = (u1 + v1) % 18446744073709551616 := ⟨_, rfl⟩
    obtain ⟨o0, ho0⟩ : ∃ g, g = (u1 + v1) / 18446744073709551616 := ⟨_, rfl⟩
    rw [← hr0, ← ho0] at hst hadd
    rw [← hr0] at hr1
    rw [← ho0] at ho1
    have Hst := Lib.hid (And.intro hst (And.intro hr1 ho1))
    clear hst hr0 ho0 hr1 ho1
    have hc : ((v1 : Int) == (v1 : Int)) = true := by simp
    go_enter Tryz.func190, Tryz.ntmps190
    go_wp2_with fail
    have Hw := Lib.hid (Grow.refl w)
    clear hadd hc hge h2
    have h2 := hv1
    go_loopw [11, 12, 13] (fun x y z wr => ∃ (g r o : Nat), x = .int .u64 g ∧ y = .int .u64 r ∧ z = .int .u64 o ∧ (GI W64 v1 u1 u0 v1 v0 g (o * W64 + r) ∧ r < 18446744073709551616 ∧ o ≤ 1) ∧ Grow w wr) (fun x _ _ _ => (intOf x).toNat)
    case atStart => exact ⟨_, _, _, rfl, rfl, rfl, Hst.out, Hw.out⟩
    case round =>
      clear Hst Hw
      obtain ⟨g, r, o, rfl, rfl, rfl, ⟨hI, hr, ho⟩, hG⟩ := hrel
      have hgW : g < 18446744073709551616 := hI.1
      have HI := Lib.hid hI
      have HG := Lib.hid hG
      clear hI hG
      rcases Nat.eq_zero_or_pos o with rfl | hpos
      · rw [Nat.zero_mul, Nat.zero_add] at HI
        have hmul : ∀ W : World, Calls Tryz.prog 127 #[.int .u64 (g : Int), .int .u64 (v0 : Int)] W fun e w' => e = .returned (.tuple #[.int .u64 ((g * v0 / W64 : Nat) : Int), .int .u64 ((g * v0 % W64 : Nat) : Int)]) ∧ W = w' := by
          intro W
          refine (Tryz.bits_Mul64 g v0 hgW hv0 W).mono fun e w' ⟨he, hw⟩ => ⟨?_, hw.symm⟩
          rw [he]; rfl
        have htw := two_word (W := W64) (p := g * v0) (r := r) (u0 := u0) W64_pos h0
        obtain ⟨hi, hhi⟩ : ∃ q, q = g * v0 / W64 := ⟨_, rfl⟩
        obtain ⟨lo, hlo⟩ : ∃ q, q = g * v0 % W64 := ⟨_, rfl⟩
        rw [← hhi, ← hlo] at hmul htw
        have Hmul := Lib.hid hmul
        clear hmul hhi hlo
        by_cases hgo : g * v0 ≤ r * W64 + u0
        · have hs := HI.out.stop hgo
          have HS := Lib.hid hs
          rw [htw] at hgo
          clear htw hs
          rcases Nat.lt_or_ge hi r with hhr | hhr
          · have c1 : decide ((hi : Int) < (r : Int)) = true := by simp; omega
            clear hgo
            go_wp2_with (go_at_call 127; ((with_reducible refine (Hmul.out _).mono ?_); rintro e w1 ⟨rfl, rfl⟩))
            go_ret
            exact ⟨g, rfl, HS.out, HG.out⟩
          · obtain ⟨rfl, hlu⟩ : hi = r ∧ lo ≤ u0 := by omega
            have c1 : decide ((hi : Int) < (hi : Int)) = false := by simp
            have c2 : decide ((lo : Int) ≤ (u0 : Int)) = true := by simp; omega
            have c3 : ((hi : Int) == (hi : Int)) = true := by simp
            clear hgo
            go_wp2_with (go_at_call 127; ((with_reducible refine (Hmul.out _).mono ?_); rintro e w1 ⟨rfl, rfl⟩))
            go_ret
            exact ⟨g, rfl, HS.out, HG.out⟩
        · obtain ⟨hgp, hnx⟩ := HI.out.next hgo
          rw [htw] at hgo
          obtain ⟨k, rfl⟩ : ∃ k, g = k + 1 := ⟨g - 1, by omega⟩
          rw [Nat.add_sub_cancel] at hnx
          have hadd := run_Add64' r v1 0 (by omega) (r : Int) (v1 : Int) 0 rfl rfl rfl
          rw [Nat.add_zero] at hadd
          have hre : (r + v1) / 18446744073709551616 * W64 + (r + v1) % 18446744073709551616 = r + v1 := by rw [Nat.mul_comm]; exact Nat.div_add_mod _ _
          have hr1 : (r + v1) % 18446744073709551616 < 18446744073709551616 := Nat.mod_lt _ (by omega)
          have ho1 : (r + v1) / 18446744073709551616 ≤ 1 := by omega
          rw [← hre] at hnx
          obtain ⟨r0, hr0⟩ : ∃ g, g = (r + v1) % 18446744073709551616 := ⟨_, rfl⟩
          obtain ⟨o0, ho0⟩ : ∃ g, g = (r + v1) / 18446744073709551616 := ⟨_, rfl⟩
          rw [← hr0, ← ho0] at hnx hadd
          rw [← hr0] at hr1
          rw [← ho0] at ho1
          have Hnx := Lib.hid (And.intro hnx (And.intro hr1 ho1))
          have e1 : ((k + 1 : Nat) : Int) = (k : Int) + 1 := by omega
          rw [e1] at Hmul ⊢
          clear hnx hr0 ho0 hr1 ho1 hre htw e1
          rcases Nat.lt_or_ge r hi with hhr | hhr
          · have c1 : decide ((hi : Int) < (r : Int)) = false := by simp; omega
            have c3 : ((hi : Int) == (r : Int)) = false := by simp; omega
            clear hgo
            go_wp2_with (go_at_call 127; ((with_reducible refine (Hmul.out _).mono ?_); rintro e w1 ⟨rfl, rfl⟩))
            go_roundw
            case rel => exact ⟨k, r0, o0, by go_num, rfl, rfl, Hnx.out, HG.out⟩
            case measure => simp [intOf]
          · obtain ⟨rfl, hlu⟩ : hi = r ∧ u0 < lo := by omega
            have c1 : decide ((hi : Int) < (hi : Int)) = false := by simp
            have c2 : decide ((lo : Int) ≤ (u0 : Int)) = false := by simp; omega
            have c3 : ((hi : Int) == (hi : Int)) = true := by simp
            clear hgo
            go_wp2_with (go_at_call 127; ((with_reducible refine (Hmul.out _).mono ?_); rintro e w1 ⟨rfl, rfl⟩))
            go_roundw
            case rel => exact ⟨k, r0, o0, by go_num, rfl, rfl, Hnx.out, HG.out⟩
            case measure => simp [intOf]
      · obtain rfl : o = 1 := by omega
        have hs := HI.out.over hv0 (by omega)
        have HS := Lib.hid hs
        clear hs
        go_wp2_with fail
        go_ret
        exact ⟨g, rfl, HS.out, HG.out⟩
end Go.Proofs.YtimjnkfcnpfoeaaGreatDoor

/-
  A long number moved up and down by bits: plain numbers.
-/
namespace Go.Proofs.YtimjnkfcnpfoeaaGreatDoor
theorem dg_set_at {l : List Nat} {k : Nat} (h : k < l.length) (y : Nat) : dg (l.set k y) k = y := by
  unfold dg
  rw [List.getElem?_set_self h]
  rfl
def ShU (W P wh : Nat) (l : List Nat) (i : Nat) (zs : List Nat) : Prop :=
  zs.length = l.length + wh + 1 ∧ Dig W zs ∧ val W zs = val W (l.take i) * (W ^ wh * P) ∧ dg zs (i + wh) < P ∧ ∀ t, i + wh < t → dg zs t = 0
theorem ShU.start {W P wh : Nat} (l : List Nat) (hW : 0 < W) (hP : 0 < P) : ShU W P wh l 0 (List.replicate (l.length + wh + 1) 0) := by
  have hz : ∀ t, dg (List.replicate (l.length + wh + 1) 0) t = 0 := fun t => by unfold dg; rw [List.getElem?_replicate]; split <;> rfl
  exact ⟨by simp, fun x hx => by rw [(List.mem_replicate.1 hx).2]; exact hW, by simp [val_zeros, val], by rw [hz]; exact hP, fun t _ => hz t⟩
theorem low_high {W P R x c : Nat} (hW : W = P * R) (hR : 0 < R) (hc : c < P) (hx : x < W) : c + x % R * P < W ∧ x / R < P ∧ x % R * P + W * (x / R) = P * x := by
  have h1 : x % R + 1 ≤ R := Nat.mod_lt x hR
  have h2 : (x % R + 1) * P ≤ R * P := Nat.mul_le_mul_right _ h1
  rw [Nat.add_mul, Nat.one_mul] at h2
  refine ⟨by rw [hW, Nat.mul_comm P R]; omega, (Nat.div_lt_iff_lt_mul hR).2 (by rw [← hW]; exact hx), ?_⟩
  have h3 := Nat.div_add_mod x R
  rw [hW]
  calc x % R * P + P * R * (x / R) = P * (R * (x / R) + x % R) := by grind
    _ = P * x := by rw [h3]
theorem ShU.next {W P R wh : Nat} {l : List Nat} {i : Nat} {zs : List Nat} (h : ShU W P wh l i zs) (hW : W = P * R) (hR : 0 < R) (hi : i < l.length) (hd : Dig W l) (hW0 : 0 < W) :
    ShU W P wh l (i + 1) ((zs.set (i + wh) (dg zs (i + wh) + dg l i % R * P)).set (i + wh + 1) (dg l i / R)) := by
  obtain ⟨h1, h2, h3, h4, h5⟩ := h
  have hx := dg_lt hW0 hd i
  obtain ⟨a1, a2, a3⟩ := low_high (c := dg zs (i + wh)) hW hR h4 hx
  have hP : P ≤ W := by rw [hW]; exact Nat.le_mul_of_pos_right _ hR
  have hk1 : i + wh < zs.length := by omega
  have hk2 : i + wh + 1 < zs.length := by omega
  have e1 := val_set W zs (i + wh) (dg zs (i + wh) + dg l i % R * P) hk1
  have e2 := val_set W (zs.set (i + wh) (dg zs (i + wh) + dg l i % R * P)) (i + wh + 1) (dg l i / R) (by rw [List.length_set]; exact hk2)
  rw [dg_set_ne _ _ (by omega), h5 (i + wh + 1) (by omega), Nat.mul_zero, Nat.add_zero] at e2
  refine ⟨by simp [h1], dig_set (dig_set h2 _ a1) _ (by omega), ?_, ?_, fun t ht => ?_⟩
  · rw [e2, val_take_dg, Nat.add_mul, ← h3]
    have e3 : W ^ (i + wh) * (dg l i % R * P) + W ^ (i + wh + 1) * (dg l i / R) = W ^ i * dg l i * (W ^ wh * P) := by
      calc W ^ (i + wh) * (dg l i % R * P) + W ^ (i + wh + 1) * (dg l i / R) = W ^ (i + wh) * (dg l i % R * P + W * (dg l i / R)) := by rw [Nat.pow_succ]; grind
        _ = W ^ i * dg l i * (W ^ wh * P) := by rw [a3, Nat.pow_add]; grind
    rw [Nat.mul_add] at e1
    omega
  · rw [show i + 1 + wh = i + wh + 1 by omega, dg_set_at (by rw [List.length_set]; exact hk2)]
    exact a2
  · rw [dg_set_ne _ _ (by omega), dg_set_ne _ _ (by omega)]
    exact h5 t (by omega)
theorem ShU.done {W P wh : Nat} {l zs : List Nat} (h : ShU W P wh l l.length zs) : val W zs = val W l * (W ^ wh * P) := by
  have := h.2.2.1
  rwa [List.take_length] at this
theorem pow_split (n : Nat) : 18446744073709551616 ^ (n / 64) * 2 ^ (n % 64) = 2 ^ n := by
  rw [show (18446744073709551616 : Nat) = 2 ^ 64 from rfl, ← Nat.pow_mul, ← Nat.pow_add, Nat.div_add_mod]
/-- down -/
def ShD (W P R wh : Nat) (l : List Nat) (i : Nat) (zs : List Nat) : Prop :=
  zs.length = l.length - wh ∧ (∀ t, t < i → dg zs t = dg l (t + wh) / P + dg l (t + wh + 1) % P * R) ∧ ∀ t, i ≤ t → dg zs t = 0
theorem down_digit {W P R x y : Nat} (hW : W = P * R) (hP : 0 < P) (hx : x < W) : x / P + y % P * R < W ∧ x / P < R := by
  have h0 : x / P < R := (Nat.div_lt_iff_lt_mul hP).2 (by rw [Nat.mul_comm, ← hW]; exact hx)
  have h1 : y % P + 1 ≤ P := Nat.mod_lt y hP
  have h2 : (y % P + 1) * R ≤ P * R := Nat.mul_le_mul_right _ h1
  rw [Nat.add_mul, Nat.one_mul] at h2
  exact ⟨by rw [hW]; omega, h0⟩
theorem val_cut {W : Nat} (hW : 0 < W) {l : List Nat} (hd : Dig W l) (k : Nat) : val W (l.drop k) = val W l / W ^ k := by
  have h1 := val_append W (l.take k) (l.drop k)
  rw [List.take_append_drop] at h1
  rcases Nat.lt_or_ge k l.length with h | h
  · have hl : (l.take k).length = k := by simp; omega
    have h2 := val_lt (B := W) (l := l.take k) fun x hx => hd x (List.mem_of_mem_take hx)
    rw [hl] at h1 h2
    rw [h1, Nat.add_mul_div_left _ _ (Nat.pow_pos hW), Nat.div_eq_of_lt h2, Nat.zero_add]
  · rw [List.drop_of_length_le h]
    have h2 := val_lt hd
    have h3 : W ^ l.length ≤ W ^ k := Nat.pow_le_pow_right hW h
    rw [Nat.div_eq_of_lt (by omega)]
    rfl
/-- every word out of two neighbours: the number divided by P -/
theorem val_down {W P R : Nat} (hW : W = P * R) (hP : 0 < P) (hW0 : 0 < W) : ∀ (l zs : List Nat), Dig W l → zs.length = l.length → (∀ t, t < l.length → dg zs t = dg l t / P + dg l (t + 1) % P * R) → val W zs = val W l / P
  | [], zs, _, hl, _ => by
    rw [List.eq_nil_of_length_eq_zero hl]
    exact (Nat.zero_div P).symm
  | x :: l, [], _, hl, _ => by simp at hl
  | x :: l, z :: zs, hd, hl, h => by
    have ih := val_down hW hP hW0 l zs (fun y hy => hd y (by simp [hy])) (by simpa using hl) fun t ht => by
      have := h (t + 1) (by simp; omega)
      exact this
    have h0 := h 0 (by simp)
    have hz : z = x / P + dg l 0 % P * R := h0
    rw [val_cons, val_cons, ih, hz]
    have hdl : val W l % P = dg l 0 % P := by
      cases l with
      | nil => rfl
      | cons y l' =>
        show (y + W * val W l') % P = y % P
        rw [hW, Nat.mul_assoc, Nat.add_mul_mod_self_left]
    have e1 := Nat.div_add_mod (val W l) P
    have e2 := Nat.div_add_mod x P
    have hm := Nat.mod_lt x hP
    rw [← hdl]
    have e3 : x + W * val W l = P * (x / P + val W l % P * R + W * (val W l / P)) + x % P := by
      calc x + W * val W l = P * (x / P) + x % P + W * (P * (val W l / P) + val W l % P) := by rw [e1, e2]
        _ = P * (x / P + val W l % P * R + W * (val W l / P)) + x % P := by rw [hW]; grind
    rw [e3, Nat.mul_add_div hP, Nat.div_eq_of_lt hm, Nat.add_zero]
theorem dg_drop (l : List Nat) (k t : Nat) : dg (l.drop k) t = dg l (k + t) := by unfold dg; rw [List.getElem?_drop]
theorem ShD.done {W P R wh : Nat} {l zs : List Nat} (hW : W = P * R) (hP : 0 < P) (hW0 : 0 < W) (hd : Dig W l) (h : ShD W P R wh l (l.length - wh) zs) : val W zs = val W l / (W ^ wh * P) := by
  rw [← Nat.div_div_eq_div_mul, ← val_cut hW0 hd wh]
  refine val_down hW hP hW0 _ _ (fun y hy => hd y (List.mem_of_mem_drop hy)) (by rw [h.1, List.length_drop]) fun t ht => ?_
  rw [List.length_drop] at ht
  rw [h.2.1 t ht, dg_drop, dg_drop, show wh + (t + 1) = t + wh + 1 by omega, Nat.add_comm wh t]
theorem ShD.start {W P R wh : Nat} (l : List Nat) : ShD W P R wh l 0 (List.replicate (l.length - wh) 0) :=
  ⟨by simp, fun t ht => by omega, fun t _ => by unfold dg; rw [List.getElem?_replicate]; split <;> rfl⟩
theorem ShD.next {W P R wh : Nat} {l : List Nat} {i : Nat} {zs : List Nat} (h : ShD W P R wh l i zs) (hi : i < l.length - wh) : ShD W P R wh l (i + 1) (zs.set i (dg l (i + wh) / P + dg l (i + wh + 1) % P * R)) := by
  refine ⟨by rw [List.length_set]; exact h.1, fun t ht => ?_, fun t ht => by rw [dg_set_ne _ _ (by omega)]; exact h.2.2 t (by omega)⟩
  rcases Nat.lt_or_ge t i with hlt | hge
  · rw [dg_set_ne _ _ (by omega)]; exact h.2.1 t hlt
  · obtain rfl : t = i := by omega
    rw [dg_set_at (by rw [h.1]; exact hi)]
theorem ShD.dig {W P R wh : Nat} {l zs : List Nat} (hW : W = P * R) (hP : 0 < P) (hW0 : 0 < W) (hd : Dig W l) (h : ShD W P R wh l (l.length - wh) zs) : Dig W zs := fun x hx => by
  obtain ⟨t, ht, rfl⟩ := List.getElem_of_mem hx
  rw [← dg_eq ht, h.2.1 t (by rw [← h.1]; exact ht)]
  exact (down_digit hW hP (dg_lt hW0 hd _)).1
end Go.Proofs.YtimjnkfcnpfoeaaGreatDoor

/-
  nat.shiftUp, nat.shiftDown.
-/
namespace Go.Proofs.YtimjnkfcnpfoeaaGreatDoor
open Go.RowKit
set_option maxHeartbeats 2000000 in
set_option maxRecDepth 100000 in
theorem nat_shiftUp (A : Option Addr) (l : List Nat) (c n : Nat) (hd : Dig W64 l) (hm : l.length ≤ 34359738368) (hn : n ≤ 1099511627776) (w : World) (hr : Rd w A l) :
    Calls Tryz.prog 189 #[.slice A l.length c, .int .i64 n] w fun e w' => ∃ zs : List Nat, e = .returned (.slice (some ⟨w.heap.size, 0, none⟩) zs.length zs.length) ∧ Wrow w' w.heap.size zs ∧ zs.length = l.length + n / 64 + 1 ∧ Dig W64 zs ∧ val W64 zs = val W64 l * 2 ^ n ∧ Grow w w' := by
  have hps := pow_split n
  obtain ⟨wh, hwh⟩ : ∃ q, q = n / 64 := ⟨_, rfl⟩
  obtain ⟨p, hp⟩ : ∃ q, q = n % 64 := ⟨_, rfl⟩
  rw [← hwh, ← hp] at hps
  rw [← hwh, ← hps]
  have hp64 : p < 64 := by omega
  have hwhm : wh ≤ 17179869184 := by omega
  have q1 : (n : Int).tdiv 64 = (wh : Nat) := by rw [Int.tdiv_eq_ediv_of_nonneg (by omega)]; omega
  have q2 : (n : Int).tmod 64 = (p : Nat) := by rw [Int.tmod_eq_emod_of_nonneg (by omega)]; omega
  have q3 : (n : Int) / 64 = (wh : Nat) := by omega
  have q4 : (n : Int) % 64 = (p : Nat) := by omega
  obtain ⟨m, hml⟩ : ∃ m, m = l.length := ⟨_, rfl⟩
  have hs0 := ShU.start (W := W64) (P := 2 ^ p) (wh := wh) l W64_pos (Nat.two_pow_pos _)
  rw [← hml] at hm hs0
  rw [← hml]
  obtain ⟨t, ht⟩ : ∃ t, t = 64 - p := ⟨_, rfl⟩
  have hpw : W64 = 2 ^ p * 2 ^ t := by rw [← Nat.pow_add, show p + t = 64 by omega]; rfl
  have fs : IntKind.u64.wrap (p : Int) = p := wrapN (by omega)
  have fsm : min p 64 = p := by omega
  have ftm : min t 64 = t := by omega
  have ft : IntKind.u64.wrap (64 - (p : Int)) = (t : Nat) := by rw [show (64 - (p : Int)) = (t : Nat) by omega]; exact wrapN (by omega)
  have hmk := make_u64 (m + wh + 1) (by omega) ((m : Int) + (wh : Int) + 1) (by omega)
  have Hr := Lib.hid hr
  have Hd := Lib.hid hd
  have Hml := Lib.hid hml
  have Hs0 := Lib.hid hs0
  have Hpw := Lib.hid hpw
  have hb0 := Blk.new w 26 (cellsW (List.replicate (m + wh + 1) 0))
  have Hb0 := Lib.hid hb0
  clear hr hd hml hs0 hpw hb0 hps hwh hp ht
  go_enter Tryz.func189, Tryz.ntmps189
  go_wp2_with fail
  clear hmk
  go_loopw [23] (fun i wr => ∃ (k : Nat) (zs : List Nat), k ≤ m ∧ i = .int .i64 k ∧ ShU W64 (2 ^ p) wh l k zs ∧ Wrow wr w.heap.size zs ∧ Grow w wr) (fun i _ => m - (intOf i).toNat)
  case atStart => exact ⟨0, _, by omega, rfl, Hs0.out, Hb0.out, Grow.alloc _ _⟩
  case round =>
    obtain ⟨k, zs, hk, rfl, hI, hR, hG⟩ := hrel
    have HI := Lib.hid hI
    have HG := Lib.hid hG
    have HR := Lib.hid hR
    clear hI hG hR
    rcases Nat.lt_or_ge k m with hkm | hkm
    · have hkl : k < l.length := by rw [← Hml.out]; exact hkm
      obtain ⟨b1, o1, rfl, hw1⟩ := (Hr.out.grow HG.out) (by rintro rfl; simp at hkl)
      have hc := hw1.cell hkl
      rw [← dg_eq hkl] at hc
      have hz := HI.out.1
      have hkz : k + wh < zs.length := by rw [hz, ← Hml.out]; omega
      have hkz1 : k + wh + 1 < zs.length := by rw [hz, ← Hml.out]; omega
      have hc1 := HR.out.cell (k + wh)
      rw [List.getElem?_eq_getElem hkz, ← dg_eq hkz] at hc1
      have hf1 := HR.out.frozen (k + wh)
      have hnx := HI.out.next (R := 2 ^ t) Hpw.out (Nat.two_pow_pos _) hkl Hd.out W64_pos
      have hxW := dg_lt W64_pos Hd.out k
      have hcP := HI.out.2.2.2.1
      obtain ⟨x, hx⟩ : ∃ x, x = dg l k := ⟨_, rfl⟩
      obtain ⟨y, hy⟩ : ∃ x, x = dg zs (k + wh) := ⟨_, rfl⟩
      rw [← hx] at hc hnx hxW
      rw [← hy] at hc1 hnx hcP
      simp only [Option.map_some] at hc1
      obtain ⟨L, hL⟩ : ∃ L, L = x % 2 ^ t * 2 ^ p := ⟨_, rfl⟩
      obtain ⟨Hh, hH⟩ : ∃ L, L = x / 2 ^ t := ⟨_, rfl⟩
      rw [← hL, ← hH] at hnx
      have hlh := low_high (c := y) Hpw.out (Nat.two_pow_pos _) hcP hxW
      rw [← hL, ← hH] at hlh
      obtain ⟨S, hS⟩ : ∃ S, S = y + L := ⟨_, rfl⟩
      rw [← hS] at hnx
      have fL : IntKind.u64.wrap ((x : Int) * 2 ^ p) = (L : Nat) := by
        have e := (shl_split x W64 (2 ^ p) (Nat.two_pow_pos _) (2 ^ t) Hpw.out (Nat.two_pow_pos _)).2
        rw [show ((x : Int) * 2 ^ p) = ((x * 2 ^ p : Nat) : Int) by simp, hL, ← e]; exact wrapM
      have fH : (x : Int) / 2 ^ t = (Hh : Nat) := by rw [hH]; simp
      have fo : bits .or .u64 (y : Int) (L : Int) = (S : Nat) := by
        rw [hS]
        have hyW : y < 18446744073709551616 := by have := hlh.1; unfold W64 at this; omega
        rw [u64_or_nat _ _ hyW (by have := hlh.1; unfold W64 at this; omega), or_add' hcP (by rw [hL]; exact Nat.dvd_mul_left _ _), Nat.add_comm]
      have hset1 := HR.out.set (k + wh) S
      have hc2 := hset1.cell (k + wh + 1)
      have hf2 := hset1.frozen (k + wh + 1)
      rw [List.getElem?_eq_getElem (by rw [List.length_set]; exact hkz1)] at hc2
      simp only [Option.map_some] at hc2
      obtain ⟨old, hold⟩ : ∃ v, v = Value.int .u64 ((zs.set (k + wh) S)[k + wh + 1]'(by rw [List.length_set]; exact hkz1) : Nat) := ⟨_, rfl⟩
      rw [← hold] at hc2
      clear hold
      have hset2 := hset1.set (k + wh + 1) Hh
      have Hset2 := Lib.hid hset2
      have Hnx := Lib.hid hnx
      clear hS hset1 hset2 hnx hlh hx hy hL hH hw1 hz hkz hkz1
      have hdj : decide ((k : Int) < (m : Int)) = true := by simp; omega
      have hcs : ((k + wh : Nat) : Int) = (k : Int) + (wh : Int) := by omega
      go_wp2_with fail
      go_roundw
      case rel => exact ⟨k + 1, _, by omega, by go_num, Hnx.out, Hset2.out, (HG.out.setCell (p := ⟨w.heap.size, k + wh, none⟩) (Nat.le_refl _) _).setCell (p := ⟨w.heap.size, k + wh + 1, none⟩) (Nat.le_refl _) _⟩
      case measure => simp [intOf]; omega
    · obtain rfl : k = m := by omega
      have hdn := HI.out
      rw [Hml.out] at hdn
      have hdn2 := hdn.done
      have Hdn := Lib.hid hdn2
      clear hdn hdn2
      have hdj : decide ((k : Int) < (k : Int)) = false := by simp
      go_wp2_with fail
      go_ret
      exact ⟨zs, by rw [HI.out.1, ← Hml.out]; rfl, HR.out, by rw [HI.out.1, Hml.out], HI.out.2.1, Hdn.out, HG.out⟩
set_option maxHeartbeats 2000000 in
set_option maxRecDepth 100000 in
theorem nat_shiftDown (A : Option Addr) (l : List Nat) (c n : Nat) (hd : Dig W64 l) (hm : l.length ≤ 34359738368) (hn : n / 64 < l.length) (w : World) (hr : Rd w A l) :
    Calls Tryz.prog 191 #[.slice A l.length c, .int .i64 n] w fun e w' => ∃ zs : List Nat, e = .returned (.slice (some ⟨w.heap.size, 0, none⟩) zs.length zs.length) ∧ Wrow w' w.heap.size zs ∧ zs.length = l.length - n / 64 ∧ Dig W64 zs ∧ val W64 zs = val W64 l / 2 ^ n ∧ Grow w w' := by
  have hps := pow_split n
  obtain ⟨wh, hwh⟩ : ∃ q, q = n / 64 := ⟨_, rfl⟩
  obtain ⟨p, hp⟩ : ∃ q, q = n % 64 := ⟨_, rfl⟩
  have hp64 : p < 64 := by omega
  have hn2 : n < 2199023255616 := by omega
  have q1 : (n : Int).tdiv 64 = (wh : Nat) := by rw [Int.tdiv_eq_ediv_of_nonneg (by omega)]; omega
  have q2 : (n : Int).tmod 64 = (p : Nat) := by rw [Int.tmod_eq_emod_of_nonneg (by omega)]; omega
  have q3 : (n : Int) / 64 = (wh : Nat) := by omega
  have q4 : (n : Int) % 64 = (p : Nat) := by omega
  rw [← hwh, ← hp] at hps
  rw [← hwh] at hn
  rw [← hwh, ← hps]
  obtain ⟨m, hml⟩ : ∃ m, m = l.length := ⟨_, rfl⟩
  obtain ⟨t, ht⟩ : ∃ t, t = 64 - p := ⟨_, rfl⟩
  have hs0 := ShD.start (W := W64) (P := 2 ^ p) (R := 2 ^ t) (wh := wh) l
  rw [← hml] at hm hs0 hn
  rw [← hml]
  obtain ⟨k0, hk0⟩ : ∃ k, k = m - wh := ⟨_, rfl⟩
  rw [← hk0] at hs0
  rw [← hk0]
  have hpw : W64 = 2 ^ p * 2 ^ t := by rw [← Nat.pow_add, show p + t = 64 by omega]; rfl
  have fs : IntKind.u64.wrap (p : Int) = p := wrapN (by omega)
  have fsm : min p 64 = p := by omega
  have ftm : min t 64 = t := by omega
  have ft : IntKind.u64.wrap (64 - (p : Int)) = (t : Nat) := by rw [show (64 - (p : Int)) = (t : Nat) by omega]; exact wrapN (by omega)
  have fk : (m : Int) - (wh : Int) = (k0 : Nat) := by omega
  have fw : IntKind.i64.wrap ((m : Int) - (wh : Int)) = (k0 : Nat) := by rw [fk]; exact IntWalk.i64_in _ (by omega)
  have hmk := make_u64 k0 (by omega) (k0 : Int) rfl
  have hge : decide ((m : Int) ≤ (wh : Int)) = false := by simp; omega
  have Hr := Lib.hid hr
  have Hd := Lib.hid hd
  have Hml := Lib.hid hml
  have Hs0 := Lib.hid hs0
  have Hpw := Lib.hid hpw
  have Hk0 := Lib.hid hk0
  have hb0 := Blk.new w 26 (cellsW (List.replicate k0 0))
  have Hb0 := Lib.hid hb0
  have hk0p : k0 ≤ 34359738368 := by omega
  have hwm : wh ≤ 34359738368 := by omega
  clear hr hd hml hs0 hpw hb0 hps hwh hp ht hk0
  go_enter Tryz.func191, Tryz.ntmps191
  go_wp2_with fail
  rw [show decide (m ≤ wh) = false by simp; omega]
  clear hmk hge
  go_loopw [25] (fun i wr => ∃ (k : Nat) (zs : List Nat), k ≤ k0 ∧ i = .int .i64 k ∧ ShD W64 (2 ^ p) (2 ^ t) wh l k zs ∧ Wrow wr w.heap.size zs ∧ Grow w wr) (fun i _ => k0 - (intOf i).toNat)
  case atStart => exact ⟨0, _, by omega, rfl, Hs0.out, Hb0.out, Grow.alloc _ _⟩
  case round =>
    obtain ⟨k, zs, hk, rfl, hI, hR, hG⟩ := hrel
    have HI := Lib.hid hI
    have HG := Lib.hid hG
    have HR := Lib.hid hR
    clear hI hG hR
    rcases Nat.lt_or_ge k k0 with hkm | hkm
    · have hkl : k + wh < l.length := by rw [← Hml.out]; have := Hk0.out; omega
      obtain ⟨b1, o1, rfl, hw1⟩ := (Hr.out.grow HG.out) (by rintro rfl; simp at hkl)
      have hb1 : b1 < w.heap.size := by
        obtain ⟨b2, o2, e2, h2⟩ := Hr.out (by rintro rfl; simp at hkl)
        injection e2 with e2
        injection e2 with e3
        rw [e3]
        exact h2.lt
      have hc := hw1.cell hkl
      rw [← dg_eq hkl] at hc
      have hnx := HI.out.next (i := k) (by rw [← Hml.out, ← Hk0.out]; exact hkm)
      have hz := HI.out.1
      rw [← Hml.out, ← Hk0.out] at hz
      have hkz : k < zs.length := by omega
      have hc1 := HR.out.cell k
      rw [List.getElem?_eq_getElem hkz] at hc1
      have hf1 := HR.out.frozen k
      simp only [Option.map_some] at hc1
      obtain ⟨old, hold⟩ : ∃ v, v = Value.int .u64 (zs[k]'hkz : Nat) := ⟨_, rfl⟩
      rw [← hold] at hc1
      clear hold
      have hxW := dg_lt W64_pos Hd.out (k + wh)
      have hyW := dg_lt W64_pos Hd.out (k + wh + 1)
      obtain ⟨x, hx⟩ : ∃ x, x = dg l (k + wh) := ⟨_, rfl⟩
      obtain ⟨y, hy⟩ : ∃ x, x = dg l (k + wh + 1) := ⟨_, rfl⟩
      rw [← hx] at hc hnx hxW
      rw [← hy] at hnx hyW
      obtain ⟨q, hq⟩ : ∃ q, q = x / 2 ^ p := ⟨_, rfl⟩
      obtain ⟨L, hL⟩ : ∃ q, q = y % 2 ^ p * 2 ^ t := ⟨_, rfl⟩
      have hdd := down_digit (y := y) Hpw.out (Nat.two_pow_pos _) hxW
      rw [← hq, ← hL] at hnx hdd
      have fq : (x : Int) / 2 ^ p = (q : Nat) := by rw [hq]; simp
      have hdj : decide ((k : Int) < (k0 : Int)) = true := by simp; omega
      rcases Nat.lt_or_ge (k + wh + 1) m with hin | hin
      · have hin2 : k + wh + 1 < l.length := by rw [← Hml.out]; exact hin
        have hcy := hw1.cell hin2
        rw [← dg_eq hin2, ← hy] at hcy
        obtain ⟨S, hS⟩ : ∃ S, S = q + L := ⟨_, rfl⟩
        rw [← hS] at hnx
        have fL : IntKind.u64.wrap ((y : Int) * 2 ^ t) = (L : Nat) := by
          have e := (shl_split y W64 (2 ^ t) (Nat.two_pow_pos _) (2 ^ p) (by rw [Nat.mul_comm]; exact Hpw.out) (Nat.two_pow_pos _)).2
          rw [show ((y : Int) * 2 ^ t) = ((y * 2 ^ t : Nat) : Int) by simp, hL, ← e]; exact wrapM
        have fo : bits .or .u64 (q : Int) (L : Int) = (S : Nat) := by
          rw [hS]
          have hyW : q < 18446744073709551616 := by have := hdd.1; unfold W64 at this; omega
          rw [u64_or_nat _ _ hyW (by have := hdd.1; unfold W64 at this; omega), or_add' hdd.2 (by rw [hL]; exact Nat.dvd_mul_left _ _), Nat.add_comm]
        have hset1 := HR.out.set k q
        have hc2 := hset1.cell k
        have hf2 := hset1.frozen k
        rw [List.getElem?_set_self hkz] at hc2
        simp only [Option.map_some] at hc2
        have hc3 : (wr.setCell ⟨w.heap.size, k, none⟩ (.int .u64 q)).cell? ⟨b1, o1 + (k + wh + 1), none⟩ = some (.int .u64 y) := by
          rw [← hcy]
          exact World.cell?_of_block (Below.heap_setCell wr ⟨w.heap.size, k, none⟩ _ b1 (by show b1 ≠ w.heap.size; omega))
        have hset2 := hset1.set k S
        rw [List.set_set] at hset2
        have Hset2 := Lib.hid hset2
        have Hnx := Lib.hid hnx
        have hc9 : decide ((k : Int) + (wh : Int) + 1 < (m : Int)) = true := by simp; omega
        clear hS hset1 hset2 hnx hdd hx hy hq hL hw1 hz hkz hcy
        go_wp2_with fail
        have hG1 := HG.out.setCell (p := ⟨w.heap.size, k, none⟩) (Nat.le_refl _) (.int .u64 q)
        have hset2 := Hset2.out
        clear Hset2
        generalize wr.setCell ⟨w.heap.size, k, none⟩ (.int .u64 q) = w1 at hc2 hf2 hc3 hset2 hG1 ⊢
        have Hset2 := Lib.hid hset2
        have HG1 := Lib.hid hG1
        clear hset2 hG1 hc hc1 hf1 hc9 hdj
        obtain ⟨K0, hK0⟩ : ∃ K, K = k + wh := ⟨_, rfl⟩
        obtain ⟨K1, hK1⟩ : ∃ K, K = k + wh + 1 := ⟨_, rfl⟩
        have f0 : IntKind.i64.wrap ((k : Int) + (wh : Int)) = (K0 : Nat) := by rw [show ((k : Int) + (wh : Int)) = (K0 : Nat) by omega]; exact IntWalk.i64_in _ (by omega)
        have f1 : IntKind.i64.wrap ((K0 : Int) + 1) = (K1 : Nat) := by rw [show ((K0 : Int) + 1) = (K1 : Nat) by omega]; exact IntWalk.i64_in _ (by omega)
        have hK1m : K1 < m := by omega
        rw [← hK1] at hc3
        clear hK0 hK1 hin hin2 hkl
        go_still_tail 15, (by kernel_rfl)
        go_wp2_with fail
        go_roundw
        case rel => exact ⟨k + 1, _, by omega, by go_num, Hnx.out, Hset2.out.grow (Grow.drew _), (HG1.out.setCell (p := ⟨w.heap.size, k, none⟩) (Nat.le_refl _) _).trans (Grow.drew _)⟩
        case measure => simp [intOf]; omega
      · have hy0 : y = 0 := by rw [hy]; exact dg_over (by rw [← Hml.out]; exact hin)
        have hL0 : L = 0 := by rw [hL, hy0, Nat.zero_mod, Nat.zero_mul]
        rw [hL0, Nat.add_zero] at hnx
        have hset1 := HR.out.set k q
        have Hset1 := Lib.hid hset1
        have Hnx := Lib.hid hnx
        have hc9 : decide ((k : Int) + (wh : Int) + 1 < (m : Int)) = false := by simp; omega
        clear hset1 hnx hdd hx hy hq hL hw1 hz hkz hy0 hL0
        go_wp2_with fail
        go_roundw
        case rel => exact ⟨k + 1, _, by omega, by go_num, Hnx.out, Hset1.out, HG.out.setCell (p := ⟨w.heap.size, k, none⟩) (Nat.le_refl _) _⟩
        case measure => simp [intOf]; omega
    · obtain rfl : k = k0 := by omega
      have hdn := HI.out
      rw [Hk0.out, Hml.out] at hdn
      have hdn2 := hdn.done Hpw.out (Nat.two_pow_pos _) W64_pos Hd.out
      have hdn3 := hdn.dig Hpw.out (Nat.two_pow_pos _) W64_pos Hd.out
      have Hdn := Lib.hid hdn2
      have Hdg := Lib.hid hdn3
      clear hdn hdn2 hdn3
      have hdj : decide ((k : Int) < (k : Int)) = false := by simp
      go_wp2_with fail
      go_ret
      have hz := HI.out.1
      rw [← Hml.out, ← Hk0.out] at hz
      exact ⟨zs, by rw [hz]; rfl, HR.out, hz, Hdg.out, Hdn.out, HG.out⟩
end Go.Proofs.YtimjnkfcnpfoeaaGreatDoor

/-
  Long division, one word of the quotient: plain numbers.
-/
namespace Go.Proofs.YtimjnkfcnpfoeaaGreatDoor
theorem val_low {W : Nat} (hW : 0 < W) {l : List Nat} (hd : Dig W l) {k : Nat} (h : ∀ t, k ≤ t → dg l t = 0) : val W l < W ^ k := by
  have h1 := val_append W (l.take k) (l.drop k)
  rw [List.take_append_drop] at h1
  have h2 : val W (l.drop k) = 0 := by
    have : ∀ (l : List Nat), (∀ t, dg l t = 0) → val W l = 0 := fun l => by
      induction l with
      | nil => intro _; rfl
      | cons x l ih =>
        intro h
        rw [val_cons, ih fun t => h (t + 1), show x = 0 from h 0]
        simp
    exact this _ fun t => by rw [dg_drop]; exact h _ (by omega)
  rw [h2, Nat.mul_zero, Nat.add_zero] at h1
  rw [h1]
  have h3 := val_lt (B := W) (l := l.take k) fun x hx => hd x (List.mem_of_mem_take hx)
  exact Nat.lt_of_lt_of_le h3 (Nat.pow_le_pow_right hW (by simp; omega))
theorem dg_high {W : Nat} (hW : 0 < W) {l : List Nat} (hd : Dig W l) {k : Nat} (h : val W l < W ^ k) (t : Nat) (ht : k ≤ t) : dg l t = 0 := by
  rcases Nat.lt_or_ge t l.length with hl | hl
  · have h1 := val_append W (l.take t) (l.drop t)
    rw [List.take_append_drop] at h1
    have h2 : (l.take t).length = t := by simp; omega
    rw [h2] at h1
    have h3 : W ^ k ≤ W ^ t := Nat.pow_le_pow_right hW ht
    have h4 : val W (l.drop t) = 0 := by
      rcases Nat.eq_zero_or_pos (val W (l.drop t)) with h0 | h0
      · exact h0
      · have : W ^ t * 1 ≤ W ^ t * val W (l.drop t) := Nat.mul_le_mul_left _ h0
        omega
    obtain ⟨x, r, hx⟩ : ∃ x r, l.drop t = x :: r := by
      cases hdr : l.drop t with
      | nil => have := congrArg List.length hdr; simp at this; omega
      | cons x r => exact ⟨x, r, rfl⟩
    rw [hx, val_cons] at h4
    have h5 : dg (l.drop t) 0 = 0 := by rw [hx]; show x = 0; omega
    rw [dg_drop] at h5
    exact h5
  · exact dg_over hl
/-- the words of a number from place j on -/
theorem val_window {W : Nat} (hW : 0 < W) {l : List Nat} (hd : Dig W l) (j : Nat) : val W l / W ^ j = val W (l.drop j) := (val_cut hW hd j).symm
/-- its three highest words -/
theorem top_three {W : Nat} {l : List Nat} (hd : Dig W l) (hW : 0 < W) (k : Nat) (h : ∀ t, k + 3 ≤ t → dg l t = 0) :
    ∃ ul, ul < W ^ k ∧ val W l = ((dg l (k + 2) * W + dg l (k + 1)) * W + dg l k) * W ^ k + ul := by
  refine ⟨val W (l.take k), ?_, ?_⟩
  · have h3 := val_lt (B := W) (l := l.take k) fun x hx => hd x (List.mem_of_mem_take hx)
    exact Nat.lt_of_lt_of_le h3 (Nat.pow_le_pow_right hW (by simp; omega))
  · have h1 := val_take_dg W l k
    have h2 := val_take_dg W l (k + 1)
    have h3 := val_take_dg W l (k + 2)
    have h4 : val W (l.take (k + 3)) = val W l := by
      have h5 := val_append W (l.take (k + 3)) (l.drop (k + 3))
      rw [List.take_append_drop] at h5
      have h6 := val_low hW (l := l.drop (k + 3)) (fun x hx => hd x (List.mem_of_mem_drop hx)) (k := 0) fun t _ => by rw [dg_drop]; exact h _ (by omega)
      have h7 : val W (l.drop (k + 3)) = 0 := by simpa using h6
      rw [h7, Nat.mul_zero, Nat.add_zero] at h5
      exact h5.symm
    rw [← h4, h3, h2, h1, Nat.pow_succ, Nat.pow_succ]
    grind
theorem top_two {W : Nat} {l : List Nat} (hd : Dig W l) (hW : 0 < W) (k : Nat) (h : ∀ t, k + 2 ≤ t → dg l t = 0) :
    ∃ ul, ul < W ^ k ∧ val W l = (dg l (k + 1) * W + dg l k) * W ^ k + ul := by
  obtain ⟨ul, h1, h2⟩ := top_three hd hW k fun t ht => h t (by omega)
  refine ⟨ul, h1, ?_⟩
  rw [h2, h (k + 2) (by omega)]
  simp
/-- the guess: the word of the quotient, or one more -/
theorem guess_ok {W n : Nat} {D V : List Nat} (hW : 0 < W) (hdD : Dig W D) (hdV : Dig W V) (hD : ∀ t, n + 3 ≤ t → dg D t = 0) (hV : ∀ t, n + 2 ≤ t → dg V t = 0) (hv1 : 0 < dg V (n + 1)) (hlt : val W D < val W V * W) {g : Nat}
    (h : GW W (dg D (n + 2)) (dg D (n + 1)) (dg D n) (dg V (n + 1)) (dg V n) g) : g = val W D / val W V ∨ (g = val W D / val W V + 1 ∧ val W D < g * val W V) := by
  obtain ⟨ul, hul, eD⟩ := top_three hdD hW n hD
  obtain ⟨vl, hvl, eV⟩ := top_two hdV hW n hV
  obtain ⟨h1, h2, h3⟩ := h
  have hp : 0 < W ^ n := Nat.pow_pos hW
  have hV2 : W ≤ dg V (n + 1) * W + dg V n := by
    have : 1 * W ≤ dg V (n + 1) * W := Nat.mul_le_mul_right _ hv1
    omega
  have hV0 : 0 < val W V := by
    rw [eV]
    have : 1 * 1 ≤ (dg V (n + 1) * W + dg V n) * W ^ n := Nat.mul_le_mul (by omega) hp
    omega
  refine guess_cases hV0 ?_ ?_
  · refine h3 _ ((Nat.div_lt_iff_lt_mul hV0).2 (by rw [Nat.mul_comm]; exact hlt)) ?_
    have h4 := Nat.div_mul_le_self (val W D) (val W V)
    refine guess_lo (p := W ^ n) (vl := vl) hul ?_
    rw [← eV, ← eD]
    exact h4
  · have := guess_hi hp hvl hul hV2 h1 h2
    rw [← eV, ← eD] at this
    exact this
/-- the guess's premise -/
theorem guess_pre {W n : Nat} {D V : List Nat} (hW : 0 < W) (hdD : Dig W D) (hdV : Dig W V) (hD : ∀ t, n + 3 ≤ t → dg D t = 0) (hV : ∀ t, n + 2 ≤ t → dg V t = 0) (hlt : val W D < val W V * W) : dg D (n + 2) ≤ dg V (n + 1) := by
  obtain ⟨ul, hul, eD⟩ := top_three hdD hW n hD
  obtain ⟨vl, hvl, eV⟩ := top_two hdV hW n hV
  have hp : 0 < W ^ n := Nat.pow_pos hW
  rcases Nat.lt_or_ge (dg V (n + 1)) (dg D (n + 2)) with h | h
  · exfalso
    have h0 := dg_lt hW hdV n
    have h1 : (dg V (n + 1) * W + dg V n) * W ^ n + vl < (dg V (n + 1) + 1) * W * W ^ n := by
      have : (dg V (n + 1) * W + dg V n + 1) * W ^ n ≤ (dg V (n + 1) + 1) * W * W ^ n := Nat.mul_le_mul_right _ (by rw [Nat.add_mul, Nat.one_mul]; omega)
      rw [Nat.add_mul _ 1, Nat.one_mul] at this
      omega
    have h2 : (dg V (n + 1) + 1) * W * W ^ n * W ≤ val W D := by
      rw [eD]
      have : (dg V (n + 1) + 1) * (W * W * W ^ n) ≤ dg D (n + 2) * (W * W * W ^ n) := Nat.mul_le_mul_right _ h
      calc (dg V (n + 1) + 1) * W * W ^ n * W = (dg V (n + 1) + 1) * (W * W * W ^ n) := by grind
        _ ≤ dg D (n + 2) * (W * W * W ^ n) := this
        _ ≤ ((dg D (n + 2) * W + dg D (n + 1)) * W + dg D n) * W ^ n + ul := by
          have e : ((dg D (n + 2) * W + dg D (n + 1)) * W + dg D n) * W ^ n + ul = dg D (n + 2) * (W * W * W ^ n) + (dg D (n + 1) * W * W ^ n + dg D n * W ^ n + ul) := by grind
          omega
    rw [← eV] at h1
    have h3 : val W V * W ≤ (dg V (n + 1) + 1) * W * W ^ n * W := Nat.mul_le_mul_right _ (Nat.le_of_lt h1)
    omega
  · exact h
end Go.Proofs.YtimjnkfcnpfoeaaGreatDoor

/-
  Long division: the words taken away, and given back; the whole loop: plain numbers.
-/
namespace Go.Proofs.YtimjnkfcnpfoeaaGreatDoor
theorem sub_word {W x y b : Nat} (hb : b ≤ 1) (hx : x < W) (hy : y < W) : (x + W - y - b) % W + y + b = x + (if x < y + b then 1 else 0) * W ∧ (x + W - y - b) % W < W := by
  refine ⟨?_, Nat.mod_lt _ (by omega)⟩
  split
  · rename_i h
    rw [Nat.mod_eq_of_lt (by omega)]; omega
  · rename_i h
    rw [show x + W - y - b = x - y - b + W by omega, Nat.add_mod_right, Nat.mod_eq_of_lt (by omega)]
    omega
/-- while g times the divisor is taken away -/
def DvM (W j g : Nat) (vs us : List Nat) (i cy br : Nat) (zs : List Nat) : Prop :=
  zs.length = us.length ∧ Dig W zs ∧ (∀ t, j + i ≤ t → dg zs t = dg us t) ∧ val W zs + g * val W (vs.take i) * W ^ j = val W us + (cy + br) * W ^ (j + i) ∧ cy < W ∧ br ≤ 1
theorem DvM.start {W j g : Nat} {vs us : List Nat} (hW : 0 < W) (hd : Dig W us) : DvM W j g vs us 0 0 0 us :=
  ⟨rfl, hd, fun _ _ => rfl, by simp [val], hW, by omega⟩
/-- the words of one place -/
theorem mul_word {W g x cy : Nat} (hW : 0 < W) (hg : g < W) (hx : x < W) (hc : cy < W) :
    g * x / W + (g * x % W + cy) / W < W ∧ (g * x / W + (g * x % W + cy) / W) * W + (g * x % W + cy) % W = g * x + cy := by
  have e1 := Nat.div_add_mod (g * x) W
  have e2 := Nat.div_add_mod (g * x % W + cy) W
  have e3 : (g * x / W + (g * x % W + cy) / W) * W + (g * x % W + cy) % W = g * x + cy := by
    rw [Nat.add_mul, Nat.mul_comm (g * x / W), Nat.mul_comm ((g * x % W + cy) / W)]
    omega
  refine ⟨?_, e3⟩
  have h1 : g * x ≤ (W - 1) * (W - 1) := Nat.mul_le_mul (by omega) (by omega)
  obtain ⟨k, rfl⟩ : ∃ k, W = k + 1 := ⟨W - 1, by omega⟩
  rw [Nat.add_sub_cancel] at h1
  have h2 : g * x + cy < (k + 1) * (k + 1) := by
    have : (k + 1) * (k + 1) = k * k + k + k + 1 := by grind
    omega
  rw [← e3] at h2
  exact Nat.lt_of_mul_lt_mul_right (show (g * x / (k + 1) + (g * x % (k + 1) + cy) / (k + 1)) * (k + 1) < (k + 1) * (k + 1) by omega)
theorem DvM.next {W j g : Nat} {vs us : List Nat} {i cy br : Nat} {zs : List Nat} (h : DvM W j g vs us i cy br zs) (hW : 0 < W) (hg : g < W) (hv : Dig W vs) (hu : Dig W us) (hi : j + i < us.length) :
    DvM W j g vs us (i + 1) (g * dg vs i / W + (g * dg vs i % W + cy) / W) (if dg us (j + i) < (g * dg vs i % W + cy) % W + br then 1 else 0) (zs.set (j + i) ((dg us (j + i) + W - (g * dg vs i % W + cy) % W - br) % W)) := by
  obtain ⟨h1, h2, h3, h4, h5, h6⟩ := h
  have hx := dg_lt hW hv i
  have hux := dg_lt hW hu (j + i)
  obtain ⟨a1, a2⟩ := mul_word hW hg hx h5
  obtain ⟨b1, b2⟩ := sub_word (W := W) (x := dg us (j + i)) (y := (g * dg vs i % W + cy) % W) h6 hux (Nat.mod_lt _ hW)
  obtain ⟨s, hs⟩ : ∃ s, s = (g * dg vs i % W + cy) % W := ⟨_, rfl⟩
  obtain ⟨c, hc⟩ : ∃ s, s = g * dg vs i / W + (g * dg vs i % W + cy) / W := ⟨_, rfl⟩
  rw [← hs, ← hc] at a2
  rw [← hc] at a1
  rw [← hs] at b1 b2
  rw [← hs, ← hc]
  obtain ⟨z, hz⟩ : ∃ z, z = (dg us (j + i) + W - s - br) % W := ⟨_, rfl⟩
  obtain ⟨e, he⟩ : ∃ e, e = (if dg us (j + i) < s + br then 1 else 0) := ⟨_, rfl⟩
  rw [← hz, ← he] at b1
  rw [← hz] at b2
  rw [← hz, ← he]
  have e1 := val_set W zs (j + i) z (by omega)
  rw [h3 (j + i) (Nat.le_refl _)] at e1
  refine ⟨by simp [h1], dig_set h2 _ b2, fun t ht => by rw [dg_set_ne _ _ (by omega)]; exact h3 t (by omega), ?_, a1, by rw [he]; split <;> omega⟩
  rw [val_take_dg]
  have e2 : val W (zs.set (j + i) z) + g * (val W (vs.take i) + W ^ i * dg vs i) * W ^ j + W ^ (j + i) * dg us (j + i) = val W us + (c + e) * W ^ (j + (i + 1)) + W ^ (j + i) * dg us (j + i) := by
    calc val W (zs.set (j + i) z) + g * (val W (vs.take i) + W ^ i * dg vs i) * W ^ j + W ^ (j + i) * dg us (j + i)
        = (val W (zs.set (j + i) z) + W ^ (j + i) * dg us (j + i)) + g * val W (vs.take i) * W ^ j + W ^ (j + i) * (g * dg vs i) := by rw [Nat.pow_add]; grind
      _ = (val W zs + W ^ (j + i) * z) + g * val W (vs.take i) * W ^ j + W ^ (j + i) * (g * dg vs i) := by rw [e1]
      _ = (val W zs + g * val W (vs.take i) * W ^ j) + W ^ (j + i) * (z + g * dg vs i) := by grind
      _ = val W us + W ^ (j + i) * (z + (g * dg vs i + cy) + br) := by rw [h4]; grind
      _ = val W us + W ^ (j + i) * ((z + s + br) + c * W) := by rw [← a2]; grind
      _ = val W us + W ^ (j + i) * ((dg us (j + i) + e * W) + c * W) := by rw [b1]
      _ = val W us + (c + e) * W ^ (j + (i + 1)) + W ^ (j + i) * dg us (j + i) := by rw [← Nat.add_assoc, Nat.pow_succ]; grind
  omega
/-- the highest place -/
theorem DvM.last {W j g n : Nat} {vs us : List Nat} {cy br : Nat} {zs : List Nat} (h : DvM W j g vs us n cy br zs) (hW : 0 < W) (hu : Dig W us) (hi : j + n < us.length) (hvn : val W (vs.take n) = val W vs) :
    (zs.set (j + n) ((dg us (j + n) + W - cy - br) % W)).length = us.length ∧ Dig W (zs.set (j + n) ((dg us (j + n) + W - cy - br) % W)) ∧ (∀ t, j + n + 1 ≤ t → dg (zs.set (j + n) ((dg us (j + n) + W - cy - br) % W)) t = dg us t) ∧
    val W (zs.set (j + n) ((dg us (j + n) + W - cy - br) % W)) + g * val W vs * W ^ j = val W us + (if dg us (j + n) < cy + br then 1 else 0) * W ^ (j + n + 1) := by
  obtain ⟨h1, h2, h3, h4, h5, h6⟩ := h
  rw [hvn] at h4
  have hux := dg_lt hW hu (j + n)
  obtain ⟨b1, b2⟩ := sub_word (W := W) (x := dg us (j + n)) (y := cy) h6 hux h5
  obtain ⟨z, hz⟩ : ∃ s, s = (dg us (j + n) + W - cy - br) % W := ⟨_, rfl⟩
  obtain ⟨e, he⟩ : ∃ e, e = (if dg us (j + n) < cy + br then 1 else 0) := ⟨_, rfl⟩
  rw [← hz, ← he] at b1
  rw [← hz] at b2
  rw [← hz, ← he]
  have e1 := val_set W zs (j + n) z (by omega)
  rw [h3 (j + n) (Nat.le_refl _)] at e1
  refine ⟨by simp [h1], dig_set h2 _ b2, fun t ht => by rw [dg_set_ne _ _ (by omega)]; exact h3 t (by omega), ?_⟩
  have e2 : val W (zs.set (j + n) z) + g * val W vs * W ^ j + W ^ (j + n) * dg us (j + n) = val W us + e * W ^ (j + n + 1) + W ^ (j + n) * dg us (j + n) := by
    calc val W (zs.set (j + n) z) + g * val W vs * W ^ j + W ^ (j + n) * dg us (j + n)
        = (val W zs + g * val W vs * W ^ j) + W ^ (j + n) * z := by grind
      _ = val W us + W ^ (j + n) * (z + cy + br) := by rw [h4]; grind
      _ = val W us + W ^ (j + n) * (dg us (j + n) + e * W) := by rw [b1]
      _ = val W us + e * W ^ (j + n + 1) + W ^ (j + n) * dg us (j + n) := by rw [Nat.pow_succ]; grind
  omega
/-- while the divisor is given back -/
def DvA (W j : Nat) (vs us : List Nat) (i c : Nat) (zs : List Nat) : Prop :=
  zs.length = us.length ∧ Dig W zs ∧ (∀ t, j + i ≤ t → dg zs t = dg us t) ∧ val W zs + c * W ^ (j + i) = val W us + val W (vs.take i) * W ^ j ∧ c ≤ 1
theorem DvA.start {W j : Nat} {vs us : List Nat} (hd : Dig W us) : DvA W j vs us 0 0 us := ⟨rfl, hd, fun _ _ => rfl, by simp [val], by omega⟩
theorem DvA.next {W j : Nat} {vs us : List Nat} {i c : Nat} {zs : List Nat} (h : DvA W j vs us i c zs) (hW : 0 < W) (hv : Dig W vs) (hu : Dig W us) (hi : j + i < us.length) :
    DvA W j vs us (i + 1) ((dg us (j + i) + dg vs i + c) / W) (zs.set (j + i) ((dg us (j + i) + dg vs i + c) % W)) := by
  obtain ⟨h1, h2, h3, h4, h5⟩ := h
  have hx := dg_lt hW hv i
  have hux := dg_lt hW hu (j + i)
  have b1 := Nat.div_add_mod (dg us (j + i) + dg vs i + c) W
  obtain ⟨z, hz⟩ : ∃ s, s = (dg us (j + i) + dg vs i + c) % W := ⟨_, rfl⟩
  obtain ⟨e, he⟩ : ∃ e, e = (dg us (j + i) + dg vs i + c) / W := ⟨_, rfl⟩
  rw [← hz, ← he] at b1
  rw [← hz, ← he]
  have e1 := val_set W zs (j + i) z (by omega)
  rw [h3 (j + i) (Nat.le_refl _)] at e1
  have hzW : z < W := by rw [hz]; exact Nat.mod_lt _ hW
  have he1 : e ≤ 1 := by
    have : e < 2 := by rw [he, Nat.div_lt_iff_lt_mul hW]; omega
    omega
  refine ⟨by simp [h1], dig_set h2 _ hzW, fun t ht => by rw [dg_set_ne _ _ (by omega)]; exact h3 t (by omega), ?_, he1⟩
  rw [val_take_dg]
  have e2 : val W (zs.set (j + i) z) + e * W ^ (j + (i + 1)) + W ^ (j + i) * dg us (j + i) = val W us + (val W (vs.take i) + W ^ i * dg vs i) * W ^ j + W ^ (j + i) * dg us (j + i) := by
    calc val W (zs.set (j + i) z) + e * W ^ (j + (i + 1)) + W ^ (j + i) * dg us (j + i)
        = val W zs + W ^ (j + i) * (W * e + z) := by rw [← Nat.add_assoc j i 1, Nat.pow_succ]; grind
      _ = val W zs + c * W ^ (j + i) + W ^ (j + i) * (dg us (j + i) + dg vs i) := by rw [b1]; grind
      _ = val W us + val W (vs.take i) * W ^ j + W ^ (j + i) * (dg us (j + i) + dg vs i) := by rw [h4]
      _ = val W us + (val W (vs.take i) + W ^ i * dg vs i) * W ^ j + W ^ (j + i) * dg us (j + i) := by rw [Nat.pow_add]; grind
  omega
/-- the whole loop: k words of the quotient are still to come -/
def DvI (W V X k : Nat) (us qs : List Nat) : Prop := Dig W us ∧ Dig W qs ∧ val W us + V * val W qs = X ∧ val W us < V * W ^ k ∧ ∀ t, t < k → dg qs t = 0
/-- the word fitted -/
theorem DvI.fit {W V X j g : Nat} {us qs zs : List Nat} (h : DvI W V X (j + 1) us qs) (hW : 0 < W) (hV : 0 < V) (hg : g < W) (hj : j < qs.length) (hcase : g = val W us / W ^ j / V ∨ (g = val W us / W ^ j / V + 1 ∧ val W us / W ^ j < g * V))
    (hz : Dig W zs) (hv : val W zs + g * V * W ^ j = val W us) : DvI W V X j zs (qs.set j g) := by
  obtain ⟨h1, h2, h3, h4, h5⟩ := h
  have hp : 0 < W ^ j := Nat.pow_pos hW
  have hq := val_set W qs j g hj
  rw [h5 j (by omega), Nat.mul_zero, Nat.add_zero] at hq
  have hle : g * V ≤ val W us / W ^ j := (Nat.le_div_iff_mul_le hp).2 (by omega)
  have hge : g = val W us / W ^ j / V := by
    rcases hcase with h | h
    · exact h
    · omega
  refine ⟨hz, dig_set h2 _ hg, ?_, ?_, fun t ht => by rw [dg_set_ne _ _ (by omega)]; exact h5 t (by omega)⟩
  · rw [hq, Nat.mul_add, ← h3, ← hv]
    grind
  · have h6 : val W us / W ^ j < (g + 1) * V := by
      rw [hge]
      have := Nat.lt_mul_div_succ (val W us / W ^ j) hV
      rw [Nat.mul_comm] at this
      exact this
    rw [Nat.div_lt_iff_lt_mul hp, Nat.add_mul g, Nat.one_mul, Nat.add_mul] at h6
    omega
/-- the word was one too much: given back -/
theorem DvI.back {W V X j n g e : Nat} {us qs ys zs : List Nat} (h : DvI W V X (j + 1) us qs) (hW : 0 < W) (hV : 0 < V) (hg : g < W) (hj : j < qs.length) (hcase : g = val W us / W ^ j / V ∨ (g = val W us / W ^ j / V + 1 ∧ val W us / W ^ j < g * V))
    (hVM : V * W ^ j ≤ W ^ (j + n + 1)) (hy : val W ys < W ^ (j + n + 1)) (hv : val W ys + g * V * W ^ j = val W us + 1 * W ^ (j + n + 1)) (hz : Dig W zs) (hzl : val W zs < W ^ (j + n + 1)) (he : val W zs + e * W ^ (j + n + 1) = val W ys + V * W ^ j) : 0 < g ∧ DvI W V X j zs (qs.set j (g - 1)) := by
  have hp : 0 < W ^ j := Nat.pow_pos hW
  generalize W ^ (j + n + 1) = M at hy hv hzl he hVM
  rw [Nat.one_mul] at hv
  have hgt : val W us < g * V * W ^ j := by omega
  have hg1 : g = val W us / W ^ j / V + 1 := by
    rcases hcase with h' | h'
    · exfalso
      have h6 : g * V ≤ val W us / W ^ j := by rw [h']; exact Nat.div_mul_le_self _ _
      have h7 := (Nat.le_div_iff_mul_le hp).1 h6
      omega
    · exact h'.1
  have hg0 : 0 < g := by rw [hg1]; exact Nat.succ_pos _
  obtain ⟨q, rfl⟩ : ∃ q, g = q + 1 := ⟨g - 1, by omega⟩
  refine ⟨hg0, ?_⟩
  rw [Nat.add_sub_cancel]
  refine h.fit hW hV (by omega) hj (.inl (Nat.succ.inj hg1)) hz ?_
  rw [Nat.add_mul q 1, Nat.one_mul, Nat.add_mul] at hv
  have hq : q * V * W ^ j ≤ val W us := by
    have h6 : q * V ≤ val W us / W ^ j := by rw [show q = val W us / W ^ j / V from Nat.succ.inj hg1]; exact Nat.div_mul_le_self _ _
    exact (Nat.le_div_iff_mul_le hp).1 h6
  have he1 : e = 1 := by
    have h8 : val W ys + V * W ^ j < 2 * M := by
      have : val W us < q * V * W ^ j + V * W ^ j := by rw [Nat.add_mul q 1, Nat.one_mul, Nat.add_mul] at hgt; exact hgt
      omega
    have h9 : M ≤ val W ys + V * W ^ j := by omega
    rcases Nat.lt_or_ge e 1 with h0 | h0
    · have : e = 0 := by omega
      rw [this, Nat.zero_mul] at he
      omega
    · rcases Nat.lt_or_ge e 2 with h2 | h2
      · omega
      · have : 2 * M ≤ e * M := Nat.mul_le_mul_right _ h2
        omega
  rw [he1, Nat.one_mul] at he
  omega
theorem DvI.done {W V X : Nat} {us qs : List Nat} (h : DvI W V X 0 us qs) (hV : 0 < V) : val W qs = X / V ∧ val W us = X % V := by
  obtain ⟨h1, h2, h3, h4, h5⟩ := h
  rw [Nat.pow_zero, Nat.mul_one] at h4
  rw [← h3, Nat.add_mul_div_left _ _ hV, Nat.div_eq_of_lt h4, Nat.zero_add, Nat.add_mul_mod_self_left, Nat.mod_eq_of_lt h4]
  exact ⟨rfl, rfl⟩
end Go.Proofs.YtimjnkfcnpfoeaaGreatDoor

/-
  Long division: the start: plain numbers.
-/
namespace Go.Proofs.YtimjnkfcnpfoeaaGreatDoor
theorem W64_2 : W64 = 2 ^ 64 := rfl
theorem div_norm {ly vs : List Nat} {n1 s top : Nat} (hd : Dig W64 ly) (hl : ly.length = n1 + 1) (htop : top = dg ly n1) (h0 : top ≠ 0) (hs : s = 64 - bl top) (htW : top < W64) (hv : Dig W64 vs) (hvv : val W64 vs = val W64 ly * 2 ^ s) :
    val W64 vs < W64 ^ (n1 + 1) ∧ W64 ^ n1 * 2 ^ s ≤ val W64 vs ∧ 0 < dg vs n1 ∧ 0 < val W64 ly := by
  have h1 := val_take_dg W64 ly n1
  rw [show ly.take (n1 + 1) = ly by rw [← hl, List.take_length], ← htop] at h1
  have h2 := val_lt (B := W64) (l := ly.take n1) fun x hx => hd x (List.mem_of_mem_take hx)
  rw [show (ly.take n1).length = n1 by simp; omega] at h2
  have hb : bl top ≤ 64 := bl_small htW
  have hlt := lt_bl top
  have hp : 0 < W64 ^ n1 := Nat.pow_pos W64_pos
  have hbl : 1 ≤ bl top := bl_pos.2 h0
  have h3 : val W64 ly < W64 ^ n1 * 2 ^ bl top := by
    have : W64 ^ n1 * (top + 1) ≤ W64 ^ n1 * 2 ^ bl top := Nat.mul_le_mul_left _ hlt
    rw [Nat.mul_add, Nat.mul_one] at this
    omega
  have h4 : W64 ^ n1 * 1 ≤ W64 ^ n1 * top := Nat.mul_le_mul_left _ (by omega)
  have h5 : val W64 vs < W64 ^ (n1 + 1) := by
    rw [hvv, Nat.pow_succ]
    calc val W64 ly * 2 ^ s < W64 ^ n1 * 2 ^ bl top * 2 ^ s := Nat.mul_lt_mul_of_pos_right h3 (Nat.two_pow_pos _)
      _ = W64 ^ n1 * W64 := by rw [Nat.mul_assoc, ← Nat.pow_add, show bl top + s = 64 by omega, W64_2]
  have h6 : W64 ^ n1 * 2 ^ s ≤ val W64 vs := by rw [hvv]; exact Nat.mul_le_mul_right _ (by omega)
  refine ⟨h5, h6, ?_, by omega⟩
  rcases Nat.eq_zero_or_pos (dg vs n1) with hz | hz
  · exfalso
    have h7 := val_low W64_pos hv (k := n1) fun t ht => by
      rcases Nat.lt_or_ge n1 t with h | h
      · exact dg_high W64_pos hv h5 t h
      · obtain rfl : t = n1 := by omega
        exact hz
    have : W64 ^ n1 * 1 ≤ W64 ^ n1 * 2 ^ s := Nat.mul_le_mul_left _ (Nat.two_pow_pos _)
    omega
  · exact hz
theorem div_start {lx us vs : List Nat} {m n1 s k0 : Nat} (hd : Dig W64 lx) (hl : lx.length = m) (hu : Dig W64 us) (huv : val W64 us = val W64 lx * 2 ^ s) (hvn : W64 ^ n1 * 2 ^ s ≤ val W64 vs) (hk : n1 + k0 = m) :
    DvI W64 (val W64 vs) (val W64 us) k0 us (List.replicate k0 0) := by
  refine ⟨hu, fun x hx => by rw [(List.mem_replicate.1 hx).2]; exact W64_pos, by rw [val_zeros]; simp, ?_, fun t _ => by unfold dg; rw [List.getElem?_replicate]; split <;> rfl⟩
  have h1 := val_lt hd
  rw [hl] at h1
  rw [huv]
  calc val W64 lx * 2 ^ s < W64 ^ m * 2 ^ s := Nat.mul_lt_mul_of_pos_right h1 (Nat.two_pow_pos _)
    _ = W64 ^ n1 * 2 ^ s * W64 ^ k0 := by rw [← hk, Nat.pow_add]; grind
    _ ≤ val W64 vs * W64 ^ k0 := Nat.mul_le_mul_right _ hvn
/-- what the guess needs of the loop's numbers -/
theorem DvI.top {X j n2 : Nat} {us qs vs : List Nat} (h : DvI W64 (val W64 vs) X (j + 1) us qs) (hv : Dig W64 vs) (hvW : val W64 vs < W64 ^ (n2 + 2)) :
    Dig W64 (us.drop j) ∧ (∀ t, n2 + 3 ≤ t → dg (us.drop j) t = 0) ∧ (∀ t, n2 + 2 ≤ t → dg vs t = 0) ∧ val W64 (us.drop j) < val W64 vs * W64 ∧ (∀ t, j + n2 + 3 ≤ t → dg us t = 0) := by
  have hW := W64_pos
  have hp : 0 < W64 ^ j := Nat.pow_pos hW
  have h1 : val W64 us < W64 ^ (j + n2 + 3) := by
    refine Nat.lt_of_lt_of_le h.2.2.2.1 ?_
    calc val W64 vs * W64 ^ (j + 1) ≤ W64 ^ (n2 + 2) * W64 ^ (j + 1) := Nat.mul_le_mul_right _ (Nat.le_of_lt hvW)
      _ = W64 ^ (j + n2 + 3) := by rw [← Nat.pow_add]; congr 1; omega
  have h2 := dg_high hW h.1 h1
  refine ⟨fun x hx => h.1 x (List.mem_of_mem_drop hx), fun t ht => by rw [dg_drop]; exact h2 _ (by omega), dg_high hW hv hvW, ?_, h2⟩
  rw [← val_window hW h.1, Nat.div_lt_iff_lt_mul hp, Nat.mul_assoc, Nat.mul_comm W64, ← Nat.pow_succ]
  exact h.2.2.2.1
theorem val_take_n {vs : List Nat} {n : Nat} (hv : Dig W64 vs) (h : val W64 vs < W64 ^ n) : val W64 (vs.take n) = val W64 vs := by
  have h1 := val_append W64 (vs.take n) (vs.drop n)
  rw [List.take_append_drop] at h1
  have h2 := val_window W64_pos hv n
  rw [Nat.div_eq_of_lt h] at h2
  rw [← h2, Nat.mul_zero, Nat.add_zero] at h1
  exact h1.symm
theorem borrow_pos {M g V p a b : Nat} (hy : a < M) (hv : a + g * V * p = b + 1 * M) : 0 < g := by
  rcases Nat.eq_zero_or_pos g with h | h
  · rw [h, Nat.zero_mul, Nat.zero_mul] at hv; omega
  · exact h
theorem DvA.last {W j n : Nat} {vs us : List Nat} {c : Nat} {zs : List Nat} (h : DvA W j vs us n c zs) (hW : 0 < W) (hi : j + n < us.length) (hvn : val W (vs.take n) = val W vs) :
    (zs.set (j + n) ((dg us (j + n) + c) % W)).length = us.length ∧ Dig W (zs.set (j + n) ((dg us (j + n) + c) % W)) ∧ (∀ t, j + n + 1 ≤ t → dg (zs.set (j + n) ((dg us (j + n) + c) % W)) t = dg us t) ∧
    val W (zs.set (j + n) ((dg us (j + n) + c) % W)) + (dg us (j + n) + c) / W * W ^ (j + n + 1) = val W us + val W vs * W ^ j := by
  obtain ⟨h1, h2, h3, h4, h5⟩ := h
  rw [hvn] at h4
  have b1 := Nat.div_add_mod (dg us (j + n) + c) W
  have b2 := Nat.mod_lt (dg us (j + n) + c) hW
  obtain ⟨z, hz⟩ : ∃ z, z = (dg us (j + n) + c) % W := ⟨_, rfl⟩
  obtain ⟨e, he⟩ : ∃ e, e = (dg us (j + n) + c) / W := ⟨_, rfl⟩
  rw [← hz, ← he] at b1
  rw [← hz] at b2
  rw [← hz, ← he]
  have e1 := val_set W zs (j + n) z (by omega)
  rw [h3 (j + n) (Nat.le_refl _)] at e1
  refine ⟨by simp [h1], dig_set h2 _ b2, fun t ht => by rw [dg_set_ne _ _ (by omega)]; exact h3 t (by omega), ?_⟩
  have e2 : val W (zs.set (j + n) z) + e * W ^ (j + n + 1) + W ^ (j + n) * dg us (j + n) = val W us + val W vs * W ^ j + W ^ (j + n) * dg us (j + n) := by
    calc val W (zs.set (j + n) z) + e * W ^ (j + n + 1) + W ^ (j + n) * dg us (j + n)
        = val W zs + W ^ (j + n) * (W * e + z) := by rw [Nat.pow_succ]; grind
      _ = val W zs + c * W ^ (j + n) + W ^ (j + n) * dg us (j + n) := by rw [b1]; grind
      _ = val W us + val W vs * W ^ j + W ^ (j + n) * dg us (j + n) := by rw [h4]
  omega
end Go.Proofs.YtimjnkfcnpfoeaaGreatDoor

/-
  Small laws of the walk: what stands behind a block's end, an exit, a return; the size up to which divisions are told.
-/
namespace Go.Proofs.YtimjnkfcnpfoeaaGreatDoor
open Go.RowKit
section
variable {P : Program} {Q : Exit → Act → World → Prop} {n : Act → World → Prop} {a : Act} {w : World}
theorem then_exit {id : Nat} (h : Q (.exit id) a w) : Exit.then n Q (.exit id) a w := h
theorem then_ret (h : Q .ret a w) : Exit.then n Q .ret a w := h
theorem blk_norm {id : Nat} (h : Q .normal a w) : Exit.inBlock id Q .normal a w := h
theorem blk_ret {id : Nat} (h : Q .ret a w) : Exit.inBlock id Q .ret a w := h
theorem blk_exit {id : Nat} (h : Q .normal a w) : Exit.inBlock id Q (.exit id) a w := by
  show (if id = id then Q .normal a w else _)
  rw [if_pos rfl]; exact h
theorem blk_pass {id j : Nat} (hj : j ≠ id) (h : Q (.exit j) a w) : Exit.inBlock id Q (.exit j) a w := by
  show (if j = id then _ else Q (.exit j) a w)
  rw [if_neg hj]; exact h
theorem ret_b {fn : Func} {R : Ending → World → Prop} (hd : a.defers = []) (h : ∀ N : Value → Prop, (∀ v, R (.returned v) w → N v) → ResUpon w N ((results fn a.tmps).run P w)) : bodyPost P fn R .ret a w := by
  have h1 := h (fun v => R (.returned v) w) (fun v hv => hv)
  revert h1
  cases hres : (results fn a.tmps).run P w with
  | ok v w' =>
    rintro ⟨rfl, hv⟩
    exact bodyPost_ret hres hd hv
  | halt x w' => exact fun h => (h : False).elim
end
/-- the size in bits up to which divisions are told -/
def BIG : Nat := 1099511627520
theorem BIG_le : BIG ≤ 1099511627776 := by decide
theorem BIG_ge : 64 ≤ BIG := by decide
theorem fits_most {a : Nat} (h : bl a ≤ BIG) : bl a ≤ 1099511627776 := Nat.le_trans h BIG_le
end Go.Proofs.YtimjnkfcnpfoeaaGreatDoor

/-
  A statement whose order Go leaves open, once more: beside the head's operations some that only take a result apart (floating ones) may be run behind the first store.
-/
namespace Go.Proofs.YtimjnkfcnpfoeaaGreatDoor
open Go.RowKit
section
variable {P : Program} {ops : Array Oper} {Q : Exit → Act → World → Prop} {L : Act → World → Prop}
def pureB (o : Oper) : Bool := match o.op with
  | .extract _ _ => true
  | .move _ => true
  | _ => false
theorem pure_yields {F : World → Prop} {o : Oper} {v : Value} {a : Act} {w : World} (hp : pureB o = true) (hy : YieldsIf P ops F o v a) (hw : F w) : Yields P ops o v a := by
  refine hy.imp (fun ⟨h1, h2⟩ => ⟨h1, fun w' => ?_⟩) id
  have h3 := h2 w hw
  obtain ⟨d, op, ty, pos, af, gd⟩ := o
  cases op <;> first | (exact absurd hp Bool.false_ne_true) | skip
  · simp only [execOp, go_sem] at h3 ⊢
    injection h3 with h3
    rw [h3]
    rfl
  · rename_i x i _
    change (Sem.run P (Functor.map Next.value (Instr.extract (a.eval x) i)) w) = _ at h3
    show (Sem.run P (Functor.map Next.value (Instr.extract (a.eval x) i)) w') = _
    generalize a.eval x = t at h3 ⊢
    unfold Instr.extract at h3 ⊢
    revert h3
    split
    · split
      · intro h3
        injection h3 with h3
        rw [← h3]
        rfl
      · intro h3
        cases h3
    · intro h3
      cases h3
def floatB (ops : Array Oper) (n : Nat) (fl : List Nat) : Bool := fl.all fun i => decide (i < n) && (match ops[i]? with
  | some oi => pureB oi && (List.range ops.size).all fun j => decide (j = i) || (match ops[j]? with
    | some oj => oj.after.any (fun e => Region.binds .any e && decide (e.on = i)) || oi.apart ops oj || waitB ops ops.size i j
    | none => true)
  | none => false)
theorem floatB_spec {n : Nat} {fl : List Nat} (h : floatB ops n fl = true) (i : Nat) (hi : i ∈ fl) : i < n ∧ ∃ oi, ops[i]? = some oi ∧ pureB oi = true ∧ ∀ j oj, ops[j]? = some oj → j ≠ i →
    (∃ e ∈ oj.after, Region.binds .any e = true ∧ e.on = i) ∨ oi.apart ops oj = true ∨ waitB ops ops.size i j = true := by
  have h1 := List.all_eq_true.1 h i hi
  simp only [Bool.and_eq_true, decide_eq_true_eq] at h1
  obtain ⟨h1, h2⟩ := h1
  refine ⟨h1, ?_⟩
  cases ho : ops[i]? with
  | none => rw [ho] at h2; cases h2
  | some oi =>
    rw [ho] at h2
    simp only [Bool.and_eq_true, List.all_eq_true, List.mem_range] at h2
    refine ⟨oi, rfl, h2.1, fun j oj hj hne => ?_⟩
    have h3 := h2.2 j (Array.getElem?_eq_some_iff.1 hj).1
    rw [hj] at h3
    simp only [Bool.or_eq_true, decide_eq_true_eq, hne, false_or] at h3
    rcases h3 with (h3 | h3) | h3
    · obtain ⟨e, he, hb⟩ := Array.any_eq_true'.1 h3
      simp only [Bool.and_eq_true, decide_eq_true_eq] at hb
      exact .inl ⟨e, he, hb.1, hb.2⟩
    · exact .inr (.inl h3)
    · exact .inr (.inr h3)
def sinkF (ops : Array Oper) (n : Nat) (fl : List Nat) : Bool := (List.range n).all fun i => fl.contains i || (List.range (n + 1)).any fun j => decide (i < j) && !fl.contains j && Region.waitsFor .any ops j i
theorem tail_waitsF {n : Nat} {fl : List Nat} {listed : Array Bool} (hs : sinkF ops n fl = true) (hc : Region.chainB .any ops n = true) (hn : n < ops.size) (inv : HeadInv .any ops n listed) :
    ∀ (d i : Nat), n - i = d → i < n → i ∉ fl → listed.getD i true = false → ∀ t, n ≤ t → t ∉ Region.ready .any ops listed := by
  intro d
  induction d using Nat.strongRecOn with
  | _ d ih =>
    intro i hd hi hfl hun t ht hr
    obtain ⟨_, ot, hot, hall⟩ := mem_ready.1 hr
    have htlt : t < ops.size := (Array.getElem?_eq_some_iff.1 hot).1
    by_cases htn : t = n
    · subst htn
      have h1 := List.all_eq_true.1 hs i (List.mem_range.2 hi)
      simp only [Bool.or_eq_true, List.contains_iff_mem, hfl, false_or] at h1
      obtain ⟨j, hj, hj2⟩ := List.any_eq_true.1 h1
      simp only [Bool.and_eq_true, decide_eq_true_eq, Bool.not_eq_true', List.contains_eq_mem, decide_eq_false_iff_not] at hj2
      obtain ⟨oj, hoj, e, he, hb, hon⟩ := Region.waitsFor_spec hj2.2
      have hjle : j ≤ t := by have := List.mem_range.1 hj; omega
      by_cases hjt : j = t
      · subst hjt
        have : oj = ot := Option.some.inj (hoj.symm.trans hot)
        subst this
        have h2 := hall e he hb
        rw [hon, getD_both hun] at h2
        cases h2
      · cases hl : listed.getD j false with
        | true =>
          have h2 := inv.closed j oj hoj hl e he hb
          rw [hon, getD_both hun] at h2
          cases h2
        | false =>
          have hjs : j < listed.size := by rw [inv.size]; omega
          exact ih (t - j) (by omega) j rfl (by omega) hj2.1.2 (getD_in hjs hl) t (Nat.le_refl _) hr
    · have h1 := List.all_eq_true.1 hc t (List.mem_range.2 htlt)
      simp only [Bool.or_eq_true, decide_eq_true_eq] at h1
      rcases h1 with h1 | h1
      · omega
      · obtain ⟨o', ho', e, he, hb, hon⟩ := Region.waitsFor_spec h1
        have : o' = ot := Option.some.inj (ho'.symm.trans hot)
        subst this
        have h2 := hall e he hb
        rw [hon, getD_both (inv.tail (t - 1) (by omega) (by omega))] at h2
        cases h2
theorem grow_soundF {B n g : Nat} {s0 fl : List Nat} (hfl : floatB ops n fl = true) (hsel : Region.noSelect ops = true) (hn : n ≤ ops.size) (hback : backB ops n s0 = true)
    (hT : ∀ listed, HeadInv .any ops n listed → ∀ i, i < n → i ∉ fl → listed.getD i true = false → ∀ t, n ≤ t → t ∉ Region.ready .any ops listed)
    (hL : ∀ listed a w, HeadInv .any ops n listed → (∀ i, i < n → listed.getD i true = true) → L a w → wpAny P .any ops (NoP Q) g listed a w) :
    ∀ (m : Nat) (s : List (Nat × Nat)) (listed : Array Bool) (tk : List Nat) (a : Act) (F : World → Prop) (w : World), s.length = m → (∀ i, i ∈ s.map (·.2) ↔ (i < n ∧ listed.getD i true = false)) → (s.map (·.2)).Nodup →
      HeadInv .any ops n listed → pairB ops s = true → (∀ e ∈ s, 2 ≤ e.1 → ∀ o, ops[e.2]? = some o → AllocOp P ops o) → (∀ e ∈ s, e.2 ∈ fl → ¬ 0 < e.1) → (∀ w w', Grow w w' → F w → F w') → F w → (∀ w, F w → B ≤ w.heap.size ∧ ∀ b ∈ tk, b < w.heap.size) → OKs P ops L B (pickOps ops s) tk a F → wpAny P .any ops (NoP Q) (m + g) listed a w := by
  intro m
  induction m with
  | zero =>
    intro s listed tk a F w hlen hset _ inv _ _ _ _ hw _ h
    have hs : s = [] := List.eq_nil_of_length_eq_zero hlen
    subst hs
    rw [Nat.zero_add]
    refine hL listed a w inv (fun i hi => ?_) (h w hw)
    cases hl : listed.getD i true with
    | true => rfl
    | false => have := (hset i).2 ⟨hi, hl⟩; simp at this
  | succ m ih =>
    intro s listed tk a F w hlen hset hnd inv hp hA hK hmono hw hFB h
    obtain ⟨i0, hi0n, hi0⟩ : ∃ i, i < n ∧ i ∈ Region.ready .any ops listed := by
      refine Classical.byContradiction fun hno => ?_
      have key : ∀ p i, i < n → listed.getD i true = false → s0.idxOf i = p → False := by
        intro p
        induction p using Nat.strongRecOn with
        | ind p ihp =>
          intro i hi hun hpos
          have hb := List.all_eq_true.1 hback i (List.mem_range.2 hi)
          have hio : ops[i]? = some ops[i] := by simp
          rw [hio] at hb
          simp only [Array.all_eq_true_iff_forall_mem, Bool.or_eq_true, Bool.not_eq_true', Bool.and_eq_true, decide_eq_true_eq] at hb
          refine hno ⟨i, hi, mem_ready.2 ⟨hun, ops[i], hio, fun e he hbi => ?_⟩⟩
          rcases hb e he with h1 | h1
          · rw [h1] at hbi; cases hbi
          · cases hl : listed.getD e.on false with
            | true => rfl
            | false =>
              have hlt : e.on < listed.size := by rw [inv.size]; omega
              exact (ihp (s0.idxOf e.on) (by omega) e.on h1.1 (getD_in hlt hl) rfl).elim
      cases s with
      | nil => simp at hlen
      | cons e s =>
        have he := (hset e.2).1 (by simp)
        exact key _ e.2 he.1 he.2 rfl
    have hne : Region.ready .any ops listed ≠ [] := fun h0 => by rw [h0] at hi0; cases hi0
    have bring : ∀ i, i < n → i ∈ Region.ready .any ops listed → ∃ k oi pre post, s = pre ++ (k, i) :: post ∧ ops[i]? = some oi ∧ (∀ e ∈ oi.after, Region.binds .any e = true → listed.getD e.on false = true) ∧ OKs P ops L B ((k, oi) :: pickOps ops (pre ++ post)) tk a F := by
      intro i hin hi
      have hun := (mem_ready.1 hi).1
      obtain ⟨_, oi, hoi, hall⟩ := mem_ready.1 hi
      have hmem := (hset i).2 ⟨hin, hun⟩
      obtain ⟨⟨k, i'⟩, hki, hii⟩ := List.mem_map.1 hmem
      simp only at hii
      subst hii
      obtain ⟨pre, post, rfl⟩ := List.append_of_mem hki
      have hsw : ∀ x ∈ pickOps ops pre, (∀ cs b, x.2.op ≠ .select cs b) ∧ swapB ops x (k, oi) = true := by
        rintro ⟨kx, ox⟩ hx
        obtain ⟨j, hj, hoj⟩ := mem_pickOps hx
        refine ⟨fun cs b => Region.noSelect_spec hsel j ox cs b hoj, ?_⟩
        rcases pairB_at hp (kx, j) hj with h1 | ⟨ox', oi', h1, h2, h3⟩
        · exfalso
          have hl := waitB_listed inv _ i' j h1 (fun o ho e he hb => by
            have : o = oi := Option.some.inj (ho.symm.trans hoi)
            subst this
            exact hall e he hb)
          have hju := ((hset j).1 (by simp only [List.map_append, List.mem_append]; exact .inl (List.mem_map.2 ⟨(kx, j), hj, rfl⟩))).2
          rw [getD_both hju] at hl
          cases hl
        · have e1 : ox' = ox := Option.some.inj (h1.symm.trans hoj)
          have e2 : oi' = oi := Option.some.inj (h2.symm.trans hoi)
          subst e1; subst e2
          exact h3
      refine ⟨k, oi, pre, post, rfl, hoi, hall, ?_⟩
      rw [pickOps_append] at h ⊢
      have hpk : pickOps ops ((k, i') :: post) = (k, oi) :: pickOps ops post := by simp [pickOps, hoi]
      rw [hpk] at h
      exact OKs.front (fun cs b => Region.noSelect_spec hsel i' oi cs b hoi) (pickOps ops pre) tk a F hsw h
    have goon : ∀ (i : Nat) (k : Nat) (pre post : List (Nat × Nat)), i < n → i ∈ Region.ready .any ops listed → s = pre ++ (k, i) :: post → ∀ (tk' : List Nat) (a' : Act) (F' : World → Prop) (w' : World), (∀ w w', Grow w w' → F' w → F' w') → F' w' → (∀ w, F' w → B ≤ w.heap.size ∧ ∀ b ∈ tk', b < w.heap.size) → OKs P ops L B (pickOps ops (pre ++ post)) tk' a' F' → wpAny P .any ops (NoP Q) (m + g) (listed.setIfInBounds i true) a' w' := by
      intro i' k pre post hin hi hs tk' a' F' w' hmono' hw' hFB' h'
      subst hs
      have hnd' : (pre.map (·.2)).Nodup ∧ (i' ∉ post.map (·.2) ∧ (post.map (·.2)).Nodup) ∧ ∀ x ∈ pre.map (·.2), x ≠ i' ∧ x ∉ post.map (·.2) := by
        simp only [List.map_append, List.map_cons, List.nodup_append, List.nodup_cons] at hnd
        refine ⟨hnd.1, hnd.2.1, fun x hx => ⟨fun e => hnd.2.2 x hx i' (by simp) e, fun hx' => hnd.2.2 x hx x (by simp only [List.mem_cons]; exact .inr hx') rfl⟩⟩
      refine ih (pre ++ post) (listed.setIfInBounds i' true) tk' a' F' w' (by simp at hlen ⊢; omega) (fun j => ?_) ?_ (inv.set hi hin) (pairB_sub ?_ hp) (fun e he => hA e ?_) (fun e he => hK e ?_) hmono' hw' hFB' h'
      · by_cases hji : i' = j
        · subst hji
          constructor
          · intro hj
            simp only [List.map_append, List.mem_append] at hj
            rcases hj with hj | hj
            · exact absurd rfl (hnd'.2.2 _ hj).1
            · exact absurd hj hnd'.2.1.1
          · rintro ⟨_, hj⟩
            have hlt : i' < listed.size := by rw [inv.size]; omega
            simp [hlt] at hj
        · rw [getD_set_ne true hji, ← hset j]
          simp only [List.map_append, List.map_cons, List.mem_append, List.mem_cons]
          constructor
          · rintro (h1 | h1)
            · exact .inl h1
            · exact .inr (.inr h1)
          · rintro (h1 | h1 | h1)
            · exact .inl h1
            · exact absurd h1.symm hji
            · exact .inr h1
      · rw [List.map_append, List.nodup_append]
        exact ⟨hnd'.1, hnd'.2.1.2, fun x hx y hy hxy => (hnd'.2.2 x hx).2 (hxy ▸ hy)⟩
      · exact (List.Sublist.refl pre).append (List.sublist_cons_self _ _)
      · simp only [List.mem_append, List.mem_cons] at he ⊢
        rcases he with he | he
        · exact .inl he
        · exact .inr (.inr he)
      · simp only [List.mem_append, List.mem_cons] at he ⊢
        rcases he with he | he
        · exact .inl he
        · exact .inr (.inr he)
    rw [show m + 1 + g = (m + g) + 1 by omega]
    by_cases hex : ∃ i, i ∈ fl ∧ i ∈ Region.ready .any ops listed
    · obtain ⟨i, hifl, hi⟩ := hex
      obtain ⟨hin, oi0, hoi0, hpure, hfree⟩ := floatB_spec hfl i hifl
      obtain ⟨k, oi, pre, post, hs, hoi, hall, hfr⟩ := bring i hin hi
      have : oi0 = oi := Option.some.inj (hoi0.symm.trans hoi)
      subst this
      have hk : k = 0 := by
        rcases Nat.eq_zero_or_pos k with h0 | h0
        · exact h0
        · exfalso
          exact hK (k, i) (by rw [hs]; simp) hifl (by simpa using h0)
      subst hk
      obtain ⟨v, hy, h'⟩ := hfr
      refine wpAny_first (v := v) hoi (Region.noSelect_spec hsel) (fun c a w h => h) (m + g) listed a w (fun j oj hj hne' hun' hno => ?_) hi (pure_yields hpure hy hw) ?_
      · rcases hfree j oj hj hne' with h1 | h1 | h1
        · obtain ⟨e, he, hb, hon⟩ := h1
          exact absurd hon (hno e he hb)
        · exact h1
        · exfalso
          have hl := waitB_listed inv _ i j h1 (fun o ho e he hb => by
            have : o = oi0 := Option.some.inj (ho.symm.trans hoi)
            subst this
            exact hall e he hb)
          rw [getD_both hun'] at hl
          cases hl
      · exact goon i 0 pre post hin hi hs tk _ F w hmono hw hFB h'
    · have hnf : i0 ∉ fl := fun hc => hex ⟨i0, hc, hi0⟩
      refine ⟨fun h0 => absurd h0 hne, fun i hi => ?_⟩
      have hin : i < n := by
        rcases Nat.lt_or_ge i n with h' | h'
        · exact h'
        · exact (hT listed inv i0 hi0n hnf (mem_ready.1 hi0).1 i h' hi).elim
      obtain ⟨k, oi, pre, post, hs, hoi, hall, hfr⟩ := bring i hin hi
      refine wpOp_mono (fun a' w' h3 => ?_) (OKs.step (Q := Q) hoi (fun hk => hA (k, i) (by rw [hs]; simp) hk oi hoi) hmono hw hFB hfr)
      obtain ⟨F', tk', hmono', hw', hFB', h'⟩ := h3
      exact goon i k pre post hin hi hs tk' a' F' w' hmono' hw' hFB' h'

def growFB (ts : List TypeId) (l : List Oper) (n : Nat) (fl : List Nat) (s : List (Nat × Nat)) : Bool :=
  Region.noSelect l.toArray && decide (n < l.toArray.size) && sinkF l.toArray n fl && Region.chainB .any l.toArray n && setB (s.map (·.2)) n && pairB l.toArray s && backB l.toArray n (s.map (·.2)) &&
    Region.seqB .any l.toArray (l.toArray.size - n) n (headEnd n l.toArray.size) && allocB ts l.toArray s && floatB l.toArray n fl && (s.all fun e => !fl.contains e.2 || decide (e.1 = 0))
/-- A region that draws its order: a head of n operations, in the order s (kind, place); then a tail in its forced order. -/
theorem wp_region_growF {id : Nat} {a : Act} {w : World} {l : List Oper} {ts : List TypeId} (hts : ∀ t ∈ ts, AllocT P t) (n : Nat) (fl : List Nat) (s : List (Nat × Nat)) (F : World → Prop) (hm : P.follows .mixedOrders = true) (hB : growFB ts l n fl s = true)
    (hmono : ∀ w w', Grow w w' → F w → F w') (hF : F w) (h : OKs P l.toArray (fun a' w' => wpList P l.toArray (NoP Q) (l.drop n) a' w') w.heap.size (pickOps l.toArray s) [] a (fun u => Grow w u ∧ F u)) : (Code.region id l.toArray true).wp P Q a w := by
  simp only [growFB, setB, Bool.and_eq_true, decide_eq_true_eq, List.all_eq_true, List.mem_range, List.contains_iff_mem] at hB
  obtain ⟨⟨⟨⟨⟨⟨⟨⟨⟨⟨hsel, hn⟩, hs⟩, hc⟩, ⟨⟨hset1, hset2⟩, hnd⟩⟩, hpair⟩, hback⟩, hseq⟩, hall⟩, hfl⟩, hk⟩ := hB
  have hdl : (l.drop n).length = l.toArray.size - n := by simp
  have inv0 : HeadInv .any l.toArray n (Array.replicate l.toArray.size false) :=
    ⟨by simp, fun j oj _ hl => (by rw [getD_replicate_false] at hl; cases hl), fun t _ ht => getD_in (by simpa using ht) (getD_replicate_false _ _)⟩
  have hun0 : ∀ i, i < n → (Array.replicate l.toArray.size false).getD i true = false := fun i hi => getD_in (by simp at hn ⊢; omega) (getD_replicate_false _ _)
  have hlen : s.length = n := by
    have h1 : (s.map (·.2)).Perm (List.range n) := (List.perm_ext_iff_of_nodup hnd List.nodup_range).2 fun i => ⟨fun hi => List.mem_range.2 (hset2 i hi), fun hi => hset1 i (List.mem_range.1 hi)⟩
    simpa using h1.length_eq
  refine Code.wp_mono NoP.up (wp_region_any hm ?_)
  have H := grow_soundF (P := P) (Q := Q) (B := w.heap.size) (L := fun a' w' => wpList P l.toArray (NoP Q) (l.drop n) a' w') (g := l.toArray.size - n) hfl hsel (Nat.le_of_lt hn) hback (fun listed inv i hi hf hun t ht => tail_waitsF hs hc hn inv (n - i) i rfl hi hf hun t ht)
    (fun listed a' w' inv hall hK => by
      have hl : listed = headEnd n l.toArray.size := by
        refine Array.ext (by simp [headEnd, inv.size]) fun i h1 h2 => ?_
        have hi : i < l.toArray.size := by rw [← inv.size]; exact h1
        simp only [headEnd, Array.getElem_ofFn]
        by_cases hin : i < n
        · have := hall i hin
          simpa [h1, hin] using this
        · have := inv.tail i (by omega) hi
          simpa [h1, hin] using this
      have := wpAny_of_seq (md := .any) (Q' := NoP Q) (l.drop n) n listed a' w' (fun j => by simp [List.getElem?_drop]) (by rw [hdl, hl]; exact hseq) hK
      rwa [hdl] at this)
    n s (Array.replicate l.toArray.size false) [] a (fun u => Grow w u ∧ F u) w.drew hlen (fun i => ⟨fun hi => ⟨hset2 i hi, hun0 i (hset2 i hi)⟩, fun hi => hset1 i hi.1⟩) hnd inv0 hpair (allocOp_of hts hall) (fun e he hf => by
      have h1 := hk e he
      simp only [Bool.or_eq_true, Bool.not_eq_true', List.contains_eq_mem, decide_eq_false_iff_not, decide_eq_true_eq] at h1
      rcases h1 with h1 | h1
      · exact absurd hf h1
      · omega)
    (fun u u' hu hh => ⟨hh.1.trans hu, hmono u u' hu hh.2⟩) ⟨Grow.drew w, hmono _ _ (Grow.drew w) hF⟩ (fun u hu => ⟨hu.1.size, fun b hb => by cases hb⟩) h
  rw [show n + (l.toArray.size - n) = l.toArray.size by omega] at H
  exact H

end
section
variable {P : Program} {Q : Exit → Act → World → Prop}
theorem wp_region_bxF {id : Nat} {a : Act} {w u : World} {l : List Oper} {ts : List TypeId} {bl : List (Nat × TypeId × Array Value)} (hts : ∀ t ∈ ts, AllocT P t) (n : Nat) (fl : List Nat) (s : List (Nat × Nat)) (hm : P.follows .mixedOrders = true) (hB : growFB ts l n fl s = true)
    (hb : Bx u bl) (hG : Grow w u) (h : OKs P l.toArray (fun a' w' => wpList P l.toArray (NoP Q) (l.drop n) a' w') u.heap.size (pickOps l.toArray s) [] a (fun v => Grow u v ∧ Bx v bl ∧ Grow w v)) : (Code.region id l.toArray true).wp P Q a u :=
  wp_region_growF hts n fl s (fun v => Bx v bl ∧ Grow w v) hm hB (fun _ _ hg hh => ⟨hh.1.grow hg, hh.2.trans hg⟩) ⟨hb, hG⟩ h
theorem OKs.imp {ops : Array Oper} {L L' : Act → World → Prop} {B : Nat} (hl : ∀ a w, L a w → L' a w) : ∀ (r : List (Nat × Oper)) (tk : List Nat) (a : Act) (F : World → Prop), OKs P ops L B r tk a F → OKs P ops L' B r tk a F
  | [], _, _, _, h => fun w hw => hl _ _ (h w hw)
  | (0, _) :: r, tk, _, F, ⟨v, hy, h⟩ => ⟨v, hy, OKs.imp hl r tk _ F h⟩
  | (1, _) :: r, tk, _, _, ⟨X, f, T, hm, hs, h⟩ => ⟨X, f, T, hm, hs, fun x => OKs.imp hl r tk _ _ (h x)⟩
  | (_ + 2, _) :: r, _, _, _, h => fun b hb hn => OKs.imp hl r _ _ _ (h b hb hn)
/-- a region's end: only the normal one -/
def NoK (K : Act → World → Prop) : Exit → Act → World → Prop
  | .normal, a, w => K a w
  | _, _, _ => False
theorem NoK.eq : NoP Q = NoK (Q .normal) := by
  funext e a w
  cases e <;> rfl
theorem NoK.norm {K : Act → World → Prop} {a : Act} {w : World} (h : K a w) : NoK K .normal a w := h
/-- the laws over boxes, with what stands behind under names -/
theorem wp_rd {id : Nat} {a : Act} {w u : World} {l tl : List Oper} {ts : List TypeId} {bl : List (Nat × TypeId × Array Value)} (hts : ∀ t ∈ ts, AllocT P t) (n : Nat) (fl : List Nat) (s : List (Nat × Nat)) (hm : P.follows .mixedOrders = true) (hB : growFB ts l n fl s = true) (htl : l.drop n = tl)
    (G : World → Prop) (hGm : ∀ u u', Grow u u' → G u → G u') (hb : Bx u bl) (hG : Grow w u) (hg : G u)
    (h : ∀ K L : Act → World → Prop, (∀ a w, Q .normal a w → K a w) → (∀ a' w', wpList P l.toArray (NoK K) tl a' w' → L a' w') → OKs P l.toArray L u.heap.size (pickOps l.toArray s) [] a (fun v => Grow u v ∧ Bx v bl ∧ Grow w v ∧ G v)) : (Code.region id l.toArray true).wp P Q a u :=
  wp_region_growF hts n fl s (fun v => Bx v bl ∧ Grow w v ∧ G v) hm hB (fun _ _ hg hh => ⟨hh.1.grow hg, hh.2.1.trans hg, hGm _ _ hg hh.2.2⟩) ⟨hb, hG, hg⟩ (h _ _ (fun _ _ h => h) fun _ _ h => by rw [NoK.eq, htl]; exact h)
theorem wp_rs {id : Nat} {a : Act} {w u : World} {l tl : List Oper} {ts : List TypeId} {bl : List (Nat × TypeId × Array Value)} (hts : ∀ t ∈ ts, AllocT P t) (n : Nat) (ks : List Nat) (hB : seqsB ts l n ks = true) (htl : l.drop n = tl)
    (G : World → Prop) (hGm : ∀ u u', Grow u u' → G u → G u') (hb : Bx u bl) (hG : Grow w u) (hg : G u)
    (h : ∀ K L : Act → World → Prop, (∀ a w, Q .normal a w → K a w) → (∀ a' w', wpList P l.toArray (NoK K) tl a' w' → L a' w') → OKs P l.toArray L u.heap.size (ks.zip l) [] a (fun v => Grow u v ∧ Bx v bl ∧ Grow w v ∧ G v)) : (Code.region id l.toArray false).wp P Q a u :=
  wp_region_bsg hts n ks hB G hGm hb hG hg (h _ _ (fun _ _ h => h) fun _ _ h => by rw [NoK.eq, htl]; exact h)
theorem wp_r0 {id : Nat} {a : Act} {u : World} {l : List Oper} (h : ∀ K : Act → World → Prop, (∀ a w, Q .normal a w → K a w) → wpList P l.toArray (NoK K) l a u) : (Code.region id l.toArray false).wp P Q a u :=
  Code.wp_mono NoP.up (wp_region_lit (by rw [NoK.eq]; exact h _ fun _ _ h => h))
theorem Fr.ne {w : World} {l : List Nat} (h : Fr w l) (i j : Nat) {x y : Nat} (hi : l[i]? = some x) (hj : l[j]? = some y) (hij : i ≠ j) : x ≠ y := by
  obtain ⟨hi1, hi2⟩ := List.getElem?_eq_some_iff.1 hi
  obtain ⟨hj1, hj2⟩ := List.getElem?_eq_some_iff.1 hj
  have hnd := List.pairwise_iff_getElem.1 h.2
  rcases Nat.lt_or_gt_of_ne hij with h' | h'
  · have := hnd i j hi1 hj1 h'; rw [hi2, hj2] at this; exact this
  · have := hnd j i hj1 hi1 h'; rw [hi2, hj2] at this; exact fun e => this e.symm
theorem noG : ∀ u u' : World, Grow u u' → True → True := fun _ _ _ h => h
theorem okf {ops : Array Oper} {L : Act → World → Prop} {B : Nat} {r : List (Nat × Oper)} {tk : List Nat} {a a' : Act} {F : World → Prop} (h : a = a') (hk : OKs P ops L B r tk a' F) : OKs P ops L B r tk a F := h ▸ hk
end
end Go.Proofs.YtimjnkfcnpfoeaaGreatDoor

/-
  nat.divWords.
-/
namespace Go.Proofs.YtimjnkfcnpfoeaaGreatDoor
open Go.RowKit
theorem size_u64 : (Tryz.prog.info? 26).map (·.size) = some 1 := by kernel_rfl
theorem wrow_src {w : World} {b : Nat} {l : List Nat} (h : Wrow w b l) : ∀ j v, (l.map fun x => Value.int .u64 (x : Nat))[j]? = some v → w.cell? (Addr.add ⟨b, 0, none⟩ j) = some v := fun j v hj => by
  rw [Go.WideShapes.add_plain, Nat.zero_add, h.cell]
  rw [List.getElem?_map] at hj
  exact hj
theorem copy_world {w w1 w2 : World} {m : Nat} {vs us : List Nat} (hg1 : Grow w w1) (hv : Wrow w1 w.heap.size vs) (hg2 : Grow (w1.alloc (.cells (cellsW (List.replicate (m + 1) 0)) 26)) w2) (hu : Wrow w2 (w1.alloc (.cells (cellsW (List.replicate (m + 1) 0)) 26)).heap.size us) (hul : us.length = m + 1) :
    ∃ w3, (Builtin.copy_ #[169, 169] 3 #[.slice (some ⟨w1.heap.size, 0, none⟩) (m + 1) (m + 1), .slice (some ⟨w1.heap.size + 1, 0, none⟩) (m + 1) (m + 1)]).run Tryz.prog w2 = .ok (goInt (m + 1)) w3 ∧ Wrow w3 w1.heap.size us ∧ Wrow w3 w.heap.size vs ∧ Grow w w3 ∧ w1.heap.size < w3.heap.size ∧ w.heap.size < w1.heap.size := by
  rw [alloc_size] at hu
  have hz : Wrow w2 w1.heap.size (List.replicate (m + 1) 0) := Blk.grow hg2 (Blk.new w1 26 _)
  have hlen : (us.map fun x => Value.int .u64 (x : Nat)).length = m + 1 := by simp [hul]
  have hsz : (cellsW (List.replicate (m + 1) 0)).size = m + 1 := by unfold cellsW; simp
  have hlv : w.heap.size < w1.heap.size := hv.lt
  have hs2 := hg2.size
  rw [alloc_size] at hs2
  have hr := run_copy_row (P := Tryz.prog) w2 169 169 3 26 w1.heap.size 0 (m + 1) (m + 1) ⟨w1.heap.size + 1, 0, none⟩ (m + 1) (m + 1) (cellsW (List.replicate (m + 1) 0)) 26 (us.map fun x => Value.int .u64 (x : Nat)) Tryz.underlying169 size_u64 hz (by rw [hlen]; exact (Nat.min_self _).symm) (wrow_src hu) (by rw [hlen, hsz]; omega) (fun v hv => by
    obtain ⟨x, _, rfl⟩ := List.mem_map.1 hv
    rfl)
  rw [hlen] at hr
  have he : ((cellsW (List.replicate (m + 1) 0)).toList.take 0 ++ (us.map fun x => Value.int .u64 (x : Nat)) ++ (cellsW (List.replicate (m + 1) 0)).toList.drop (0 + (m + 1))).toArray = cellsW us := by
    rw [List.take_zero, List.nil_append, List.drop_of_length_le (by rw [Array.length_toList, hsz]; omega), List.append_nil]
    rfl
  rw [he] at hr
  have hgw : Grow w w2 := hg1.trans ((Grow.alloc _ _).trans hg2)
  refine ⟨_, hr, setRow_heap w2 _ _ _ _ _ hz, ?_, below_setRow hgw (Nat.le_of_lt hlv) _, ?_, hlv⟩
  · exact (setRow_other w2 _ _ _ (by omega)).trans (Blk.grow ((Grow.alloc _ _).trans hg2) hv)
  · show w1.heap.size < (w2.setRow _ _).heap.size
    simp only [World.setRow, Array.size_modify]
    omega
theorem bx_u {w u : World} {b9 b8 b4 : Nat} {zs vs qs : List Nat} (hB : Bx u [(b9, 26, cellsW zs), (b8, 26, cellsW vs), (b4, 26, cellsW qs)]) (hF : Fr w [b9, b8, b4]) (hG : Grow w u) (i y : Nat) :
    Bx (u.setCell ⟨b9, i, none⟩ (.int .u64 (y : Nat))) [(b9, 26, cellsW (zs.set i y)), (b8, 26, cellsW vs), (b4, 26, cellsW qs)] ∧ Grow w (u.setCell ⟨b9, i, none⟩ (.int .u64 (y : Nat))) := by
  have hBG := hB.over hF hG 0 rfl i [.int .u64 (y : Nat)] rfl
  simp only [List.modify_zero_cons, wrAll, cellsW_set] at hBG
  exact hBG
theorem bx_q {w u : World} {b9 b8 b4 : Nat} {zs vs qs : List Nat} (hB : Bx u [(b9, 26, cellsW zs), (b8, 26, cellsW vs), (b4, 26, cellsW qs)]) (hF : Fr w [b9, b8, b4]) (hG : Grow w u) (i y : Nat) :
    Bx (u.setCell ⟨b4, i, none⟩ (.int .u64 (y : Nat))) [(b9, 26, cellsW zs), (b8, 26, cellsW vs), (b4, 26, cellsW (qs.set i y))] ∧ Grow w (u.setCell ⟨b4, i, none⟩ (.int .u64 (y : Nat))) := by
  have hBG := hB.over hF hG 2 rfl i [.int .u64 (y : Nat)] rfl
  simp only [List.modify_succ_cons, List.modify_zero_cons, wrAll, cellsW_set] at hBG
  exact hBG
theorem bx_cell {u : World} {l : List (Nat × TypeId × Array Value)} {b : Nat} {zs : List Nat} (hB : Bx u l) (h : (b, 26, cellsW zs) ∈ l) {i : Nat} (hi : i < zs.length) : u.cell? ⟨b, i, none⟩ = some (.int .u64 (dg zs i : Nat)) ∧ u.frozen? ⟨b, i, none⟩ = false := by
  have hb : Blk u b 26 (cellsW zs) := hB _ h
  refine ⟨?_, hb.frozen i⟩
  rw [hb.cell, cellsW_get, List.getElem?_eq_getElem hi, dg_eq hi]
  rfl
theorem mul64 (g x : Nat) (hg : g < 18446744073709551616) (hx : x < 18446744073709551616) (W : World) : Calls Tryz.prog 127 #[.int .u64 (g : Int), .int .u64 (x : Int)] W fun e w' => e = .returned (.tuple #[.int .u64 ((g * x / W64 : Nat) : Int), .int .u64 ((g * x % W64 : Nat) : Int)]) ∧ W = w' := by
  refine (Tryz.bits_Mul64 g x hg hx W).mono fun e w' ⟨he, hw⟩ => ⟨?_, hw.symm⟩
  rw [he]; rfl
set_option maxHeartbeats 4000000 in
set_option maxRecDepth 100000 in
theorem nat_divWords (A1 A2 : Option Addr) (lx ly : List Nat) (c1 c2 : Nat) (hdx : Dig W64 lx) (hdy : Dig W64 ly) (hn2 : 2 ≤ ly.length) (hle : ly.length ≤ lx.length) (htop : dg ly (ly.length - 1) ≠ 0) (hm : lx.length ≤ 34359738360) (w : World) (hx : Rd w A1 lx) (hy : Rd w A2 ly) :
    Calls Tryz.prog 158 #[.slice A1 lx.length c1, .slice A2 ly.length c2] w fun e w' => ∃ (bq br : Nat) (qs rs : List Nat), e = .returned (.tuple #[.slice (some ⟨bq, 0, none⟩) qs.length qs.length, .slice (some ⟨br, 0, none⟩) rs.length rs.length]) ∧
      Wrow w' bq qs ∧ Wrow w' br rs ∧ Dig W64 qs ∧ Dig W64 rs ∧ qs.length ≤ lx.length ∧ rs.length ≤ lx.length ∧ val W64 qs = val W64 lx / val W64 ly ∧ val W64 rs = val W64 lx % val W64 ly ∧ Grow w w' := by
  obtain ⟨n, hn⟩ : ∃ n, n = ly.length := ⟨_, rfl⟩
  obtain ⟨m, hmx⟩ : ∃ m, m = lx.length := ⟨_, rfl⟩
  have hdt := dg_lt W64_pos hdy (ly.length - 1)
  rw [← hn] at hn2 hle htop hdt
  rw [← hmx] at hle hm
  rw [← hn, ← hmx]
  obtain ⟨n1, hn1⟩ : ∃ n1, n1 = n - 1 := ⟨_, rfl⟩
  rw [← hn1] at htop hdt
  have hn1l : n1 < ly.length := by omega
  obtain ⟨b2, o2, rfl, hw2⟩ := hy (by rintro rfl; simp at hn; omega)
  have hc := hw2.cell hn1l
  rw [← dg_eq hn1l] at hc
  obtain ⟨top, htp⟩ : ∃ t, t = dg ly n1 := ⟨_, rfl⟩
  rw [← htp] at htop hdt hc
  obtain ⟨s, hs⟩ : ∃ s, s = 64 - bl top := ⟨_, rfl⟩
  have hs64 : s < 64 := by have := bl_pos.2 htop; omega
  have hlz : ∀ W, Calls Tryz.prog 188 #[.int .u64 top] W fun e w' => e = .returned (.int .i64 s) ∧ w' = W := fun W => by
    have := bits_LeadingZeros64 top hdt W
    rw [← hs] at this
    exact this
  have hup1 : ∀ W, Grow w W → Calls Tryz.prog 189 #[.slice (some ⟨b2, o2, none⟩) n c2, .int .i64 s] W fun e w' => ∃ zs : List Nat, e = .returned (.slice (some ⟨W.heap.size, 0, none⟩) (n + 1) (n + 1)) ∧ (Wrow w' W.heap.size zs ∧ zs.length = n + 1 ∧ Dig W64 zs ∧ val W64 zs = val W64 ly * 2 ^ s) ∧ Grow W w' := fun W hg => by
    rw [hn]
    refine (nat_shiftUp _ ly c2 s hdy (by omega) (by omega) W (hy.grow hg)).mono fun e w' ⟨zs, he, h1, h2, h3, h4, h5⟩ => ⟨zs, ?_, ⟨h1, by rw [h2]; omega, h3, h4⟩, h5⟩
    rw [he, h2, show ly.length + s / 64 + 1 = ly.length + 1 by omega]
  have hup2 : ∀ W, Grow w W → Calls Tryz.prog 189 #[.slice A1 m c1, .int .i64 s] W fun e w' => ∃ zs : List Nat, e = .returned (.slice (some ⟨W.heap.size, 0, none⟩) (m + 1) (m + 1)) ∧ (Wrow w' W.heap.size zs ∧ zs.length = m + 1 ∧ Dig W64 zs ∧ val W64 zs = val W64 lx * 2 ^ s) ∧ Grow W w' := fun W hg => by
    rw [hmx]
    refine (nat_shiftUp _ lx c1 s hdx (by omega) (by omega) W (hx.grow hg)).mono fun e w' ⟨zs, he, h1, h2, h3, h4, h5⟩ => ⟨zs, ?_, ⟨h1, by rw [h2]; omega, h3, h4⟩, h5⟩
    rw [he, h2, show lx.length + s / 64 + 1 = lx.length + 1 by omega]
  obtain ⟨k0, hk0⟩ : ∃ k, k = m - n + 1 := ⟨_, rfl⟩
  have hmk1 := make_u64 (m + 1) (by omega) ((m : Int) + 1) (by omega)
  have hmk2 := make_u64 k0 (by omega) ((m : Int) - (n : Int) + 1) (by omega)
  have f1 : IntKind.i64.wrap ((n : Int) - 1) = (n1 : Nat) := by rw [show ((n : Int) - 1) = (n1 : Nat) by omega]; exact IntWalk.i64_in _ (by omega)
  have hn1n : n1 < n := by omega
  have Hlz := Lib.hid hlz
  have Hup1 := Lib.hid hup1
  have Hup2 := Lib.hid hup2
  have Hs := Lib.hid hs
  have Htp := Lib.hid htp
  have Hn := Lib.hid hn
  have Hmx := Lib.hid hmx
  have Hdy := Lib.hid hdy
  have Hdx := Lib.hid hdx
  have Hk0 := Lib.hid hk0
  have Hn1 := Lib.hid hn1
  have Htop := Lib.hid htop
  have Hdt := Lib.hid hdt
  clear hlz hup1 hup2 hs htp hn hmx hdy hdx hx hy hw2 hk0 hn1 hdt hn1l
  go_enter Tryz.func158, Tryz.ntmps158
  go_wp2_with (first
    | (go_at_call 188; ((with_reducible refine (Hlz.out _).mono ?_); rintro e wz ⟨rfl, hwz⟩; have hwz := hwz.symm; subst hwz))
    | (go_at_call 189; first
        | ((with_reducible refine (Hup1.out _ (Grow.refl _)).mono ?_); rintro e w1 ⟨vs, rfl, hv, hg1⟩; have Hv := Lib.hid hv; have HG1 := Lib.hid hg1; clear hv hg1)
        | ((with_reducible refine (Hup2.out _ (HG1.out.trans (Grow.alloc _ _))).mono ?_); rintro e w2 ⟨us, rfl, hu, hg2⟩; obtain ⟨w3, hcopy, h3u, h3v, hG3, hz1, hz2⟩ := copy_world HG1.out Hv.out.1 hg2 hu.1 hu.2.1; have Hu := Lib.hid hu.2; have H3u := Lib.hid h3u; have H3v := Lib.hid h3v; have HG3 := Lib.hid hG3; clear hu hg2 h3u h3v hG3)))
  clear hmk1 hmk2 hcopy hc htop
  obtain ⟨X, hX⟩ : ∃ X, X = val W64 us := ⟨_, rfl⟩
  obtain ⟨hvr, hvl, hvd, hvv⟩ := Hv.out
  obtain ⟨hul, hud, huv⟩ := Hu.out
  obtain ⟨z1, z2, z3, z4⟩ := div_norm (n1 := n1) Hdy.out (by rw [← Hn.out]; have := Hn1.out; omega) Htp.out Htop.out Hs.out Hdt.out hvd hvv
  have hst := div_start (k0 := k0) (n1 := n1) Hdx.out Hmx.out.symm hud huv z2 (by have := Hn1.out; have := Hk0.out; omega)
  rw [← hX] at hst
  have hXe : X = val W64 lx * 2 ^ s := by rw [hX]; exact huv
  have hB3 : Bx (w3.alloc (.cells (cellsW (List.replicate k0 0)) 26)) [(w1.heap.size, 26, cellsW us), (w.heap.size, 26, cellsW vs), (w3.heap.size, 26, cellsW (List.replicate k0 0))] :=
    Bx.cons (Blk.grow (Grow.alloc _ _) H3u.out) (Bx.cons (Blk.grow (Grow.alloc _ _) H3v.out) (Bx.cons (Blk.new w3 26 _) (Bx.nil _)))
  have hF : Fr w [w1.heap.size, w.heap.size, w3.heap.size] := ⟨fun b hb => by
    simp only [List.mem_cons, List.not_mem_nil, or_false] at hb
    rcases hb with rfl | rfl | rfl <;> omega, by
    simp only [List.nodup_cons, List.mem_cons, List.not_mem_nil, or_false, not_or, not_false_eq_true, List.nodup_nil, and_true]
    omega⟩
  have hG3 := HG3.out.trans (Grow.alloc w3 (.cells (cellsW (List.replicate k0 0)) 26))
  have Hst := Lib.hid (And.intro hst (And.intro hul (And.intro (List.length_replicate (n := k0) (a := 0)) (And.intro hB3 hG3))))
  have HXe := Lib.hid hXe
  have HV := Lib.hid (And.intro hvl (And.intro hvd (And.intro z1 (And.intro z3 (And.intro z4 hvv)))))
  clear hX hvr hvl hvd hvv hul hud huv z1 z2 z3 z4 hst hXe hB3 hG3 Hv Hu H3u H3v HG3 HG1 Hup1 Hup2 Hlz
  obtain ⟨k1, hk1⟩ : ∃ k1, k1 = k0 - 1 := ⟨_, rfl⟩
  have hk1e : (m : Int) - (n : Int) = ((k0 : Nat) : Int) - 1 := by have := Hk0.out; omega
  rw [hk1e, Int.sub_add_cancel]
  generalize w1.heap.size = b9 at Hst hF hz1 hz2 ⊢
  generalize hb8 : w.heap.size = b8 at Hst hF hz2 ⊢
  generalize w3.alloc _ = wq at Hst ⊢
  generalize w3.heap.size = b4 at Hst hF hz1 ⊢
  rw [← hb8] at hz2
  go_loopw [10] (fun i wr => ∃ (k : Nat) (us qs : List Nat), k ≤ k0 ∧ i = .int .i64 ((k : Int) - 1) ∧ DvI W64 (val W64 vs) X k us qs ∧ us.length = m + 1 ∧ qs.length = k0 ∧ Bx wr [(b9, 26, cellsW us), (b8, 26, cellsW vs), (b4, 26, cellsW qs)] ∧ Grow w wr) (fun i _ => (intOf i + 1).toNat)
  case atStart => exact ⟨k0, us, _, Nat.le_refl _, rfl, Hst.out⟩
  case round =>
    clear Hst us
    obtain ⟨k, us, qs, hk, rfl, hI, hul, hql, hB, hG⟩ := hrel
    obtain ⟨u, rfl⟩ : ∃ x, x = wr := ⟨_, rfl⟩
    have HI := Lib.hid hI
    have Hul := Lib.hid hul
    have Hql := Lib.hid hql
    clear hI hul hql
    rcases Nat.eq_zero_or_pos k with rfl | hpos
    · have hV0 : 0 < val W64 vs := by rw [HV.out.2.2.2.2.2]; exact Nat.mul_pos HV.out.2.2.2.2.1 (Nat.two_pow_pos _)
      obtain ⟨dn1, dn2⟩ := HI.out.done hV0
      have hvW : val W64 vs < W64 ^ n := by have := HV.out.2.2.1; rw [show n1 + 1 = n by have := Hn1.out; omega] at this; exact this
      have hult : val W64 us < W64 ^ n := by rw [dn2]; exact Nat.lt_trans (Nat.mod_lt _ hV0) hvW
      have htk := val_take_n HI.out.1 hult
      have htl : (us.take n).length = n := by rw [List.length_take, Hul.out]; omega
      have hp2 : 0 < 2 ^ s := Nat.two_pow_pos _
      rw [HXe.out, HV.out.2.2.2.2.2] at dn1 dn2
      rw [Nat.mul_div_mul_right _ _ hp2] at dn1
      rw [Nat.mul_mod_mul_right] at dn2
      have hbu : Wrow u b9 us := hB.head
      have hsd : ∀ W, Grow u W → Calls Tryz.prog 191 #[.slice (some ⟨b9, 0, none⟩) n (m + 1), .int .i64 s] W fun e w' => ∃ rs : List Nat, e = .returned (.slice (some ⟨W.heap.size, 0, none⟩) n n) ∧ (Wrow w' W.heap.size rs ∧ rs.length = n ∧ Dig W64 rs ∧ val W64 rs = val W64 lx % val W64 ly) ∧ Grow W w' := fun W hg => by
        have hrd : Rd W (some ⟨b9, 0, none⟩) (us.take n) := fun _ => ⟨b9, 0, rfl, ((hbu.grow hg).wds).take n⟩
        have := nat_shiftDown (some ⟨b9, 0, none⟩) (us.take n) (m + 1) s (fun x hx => HI.out.1 x (List.mem_of_mem_take hx)) (by rw [htl]; omega) (by rw [htl]; omega) W hrd
        rw [htl] at this
        refine this.mono fun e w' ⟨rs, he, h1, h2, h3, h4, h5⟩ => ⟨rs, ?_, ⟨h1, by rw [h2]; omega, h3, ?_⟩, h5⟩
        · rw [he, h2, show n - s / 64 = n by omega]
        · rw [h4, htk, dn2, Nat.mul_div_cancel _ hp2]
      have Hsd := Lib.hid hsd
      have Hdn1 := Lib.hid dn1
      have hBq : Wrow u b4 qs := hB.tail.tail.head
      have HBq := Lib.hid hBq
      have HG := Lib.hid hG
      have hnm : (n : Int) ≤ (m : Int) + 1 := by omega
      clear hsd dn1 dn2 hvW hult htk htl hp2 hbu hBq hB hG hV0
      have hc : decide ((0 : Int) ≤ ((0 : Nat) : Int) - 1) = false := by decide
      go_wp2_with (go_at_call 191; ((with_reducible refine (Hsd.out _ (Grow.refl _)).mono ?_); rintro e w1 ⟨rs, rfl, hr, hg⟩; have Hr := Lib.hid hr; have Hg := Lib.hid hg; clear hr hg))
      go_ret2
      exact ⟨b4, u.heap.size, qs, rs, by rw [Hql.out, Hr.out.2.1]; rfl, HBq.out.grow Hg.out, Hr.out.1, HI.out.2.1, Hr.out.2.2.1, by rw [Hql.out]; have := Hk0.out; omega, by rw [Hr.out.2.1]; exact hle, Hdn1.out, Hr.out.2.2.2, HG.out.trans Hg.out⟩
    · obtain ⟨j, rfl⟩ : ∃ j, k = j + 1 := ⟨k - 1, by omega⟩
      obtain ⟨n2, hn2e⟩ : ∃ n2, n = n2 + 2 := ⟨n - 2, by omega⟩
      have hn1e : n1 = n2 + 1 := by have := Hn1.out; omega
      have hvW : val W64 vs < W64 ^ (n2 + 2) := by have := HV.out.2.2.1; rw [hn1e] at this; exact this
      obtain ⟨d1, d2, d3, d4, d5⟩ := HI.out.top HV.out.2.1 hvW
      have hpre := guess_pre W64_pos d1 HV.out.2.1 d2 d3 d4
      have hgok := fun g => guess_ok (g := g) W64_pos d1 HV.out.2.1 d2 d3 (by have := HV.out.2.2.2.1; rw [hn1e] at this; exact this) d4
      rw [← val_window W64_pos HI.out.1] at hgok
      simp only [dg_drop] at hpre hgok
      have hkk : j + n < m + 1 := by have := Hk0.out; omega
      obtain ⟨J2, hJ2⟩ : ∃ J, J = j + n := ⟨_, rfl⟩
      obtain ⟨J1, hJ1⟩ : ∃ J, J = j + (n2 + 1) := ⟨_, rfl⟩
      obtain ⟨J0, hJ0⟩ : ∃ J, J = j + n2 := ⟨_, rfl⟩
      have e2 : j + (n2 + 2) = J2 := by omega
      rw [e2, ← hJ1, ← hJ0, ← hn1e] at hgok
      rw [e2, ← hn1e] at hpre
      have g2 : (cellsW us)[J2]? = some (.int .u64 (dg us J2 : Nat)) := by rw [cellsW_get, List.getElem?_eq_getElem (by rw [Hul.out]; omega), ← dg_eq (by rw [Hul.out]; omega)]; rfl
      have g1 : (cellsW us)[J1]? = some (.int .u64 (dg us J1 : Nat)) := by rw [cellsW_get, List.getElem?_eq_getElem (by rw [Hul.out]; omega), ← dg_eq (by rw [Hul.out]; omega)]; rfl
      have g0 : (cellsW us)[J0]? = some (.int .u64 (dg us J0 : Nat)) := by rw [cellsW_get, List.getElem?_eq_getElem (by rw [Hul.out]; omega), ← dg_eq (by rw [Hul.out]; omega)]; rfl
      have p1 : (cellsW vs)[n1]? = some (.int .u64 (dg vs n1 : Nat)) := by rw [cellsW_get, List.getElem?_eq_getElem (by rw [HV.out.1]; omega), ← dg_eq (by rw [HV.out.1]; omega)]; rfl
      have p0 : (cellsW vs)[n2]? = some (.int .u64 (dg vs n2 : Nat)) := by rw [cellsW_get, List.getElem?_eq_getElem (by rw [HV.out.1]; omega), ← dg_eq (by rw [HV.out.1]; omega)]; rfl
      have hgw := fun W => nat_guessWord (dg us J2) (dg us J1) (dg us J0) (dg vs n1) (dg vs n2) hpre (dg_lt W64_pos HI.out.1 _) (dg_lt W64_pos HI.out.1 _) (dg_lt W64_pos HV.out.2.1 _) (dg_lt W64_pos HV.out.2.1 _) W
      have fa : IntKind.i64.wrap ((j : Int) + (n : Int)) = (J2 : Nat) := by rw [show ((j : Int) + (n : Int)) = (J2 : Nat) by omega]; exact IntWalk.i64_in _ (by omega)
      have fb : IntKind.i64.wrap ((J2 : Int) - 1) = (J1 : Nat) := by rw [show ((J2 : Int) - 1) = (J1 : Nat) by omega]; exact IntWalk.i64_in _ (by omega)
      have fc : IntKind.i64.wrap ((J2 : Int) - 2) = (J0 : Nat) := by rw [show ((J2 : Int) - 2) = (J0 : Nat) by omega]; exact IntWalk.i64_in _ (by omega)
      have fd : IntKind.i64.wrap ((n : Int) - 2) = (n2 : Nat) := by rw [show ((n : Int) - 2) = (n2 : Nat) by omega]; exact IntWalk.i64_in _ (by omega)
      have hb2 : (J2 : Int) < (m : Int) + 1 := by omega
      have hb1 : (J1 : Int) < (m : Int) + 1 := by omega
      have hb0 : (J0 : Int) < (m : Int) + 1 := by omega
      have hn2n : n2 < n := by omega
      obtain ⟨U2, hU2⟩ : ∃ x, x = dg us J2 := ⟨_, rfl⟩
      obtain ⟨U1, hU1⟩ : ∃ x, x = dg us J1 := ⟨_, rfl⟩
      obtain ⟨U0, hU0⟩ : ∃ x, x = dg us J0 := ⟨_, rfl⟩
      obtain ⟨V1, hV1⟩ : ∃ x, x = dg vs n1 := ⟨_, rfl⟩
      obtain ⟨V0, hV0⟩ : ∃ x, x = dg vs n2 := ⟨_, rfl⟩
      rw [← hU2, ← hU1, ← hU0, ← hV1, ← hV0] at hgw
      rw [← hU2] at g2
      rw [← hU1] at g1
      rw [← hU0] at g0
      rw [← hV1] at p1
      rw [← hV0] at p0
      simp only [← hU2, ← hU1, ← hU0, ← hV1, ← hV0] at hgok
      have Hgw := Lib.hid hgw
      have Hgok := Lib.hid hgok
      have Hd5 := Lib.hid d5
      have HJ2 := Lib.hid hJ2
      have Hn2e := Lib.hid hn2e
      have Hn1e := Lib.hid hn1e
      have HvW := Lib.hid hvW
      have e1 : ((j + 1 : Nat) : Int) - 1 = (j : Nat) := by omega
      rw [e1]
      clear hgw hgok hpre d1 d2 d3 d4 d5 e2 hJ2 hJ1 hJ0 hn2e hn1e hvW hU2 hU1 hU0 hV1 hV0 e1
      have hc0 : decide ((0 : Int) ≤ (j : Int)) = true := by simp
      go_wp2_with fail
      refine wp_rd (w := w) allocs 31 [] [(0, 0), (0, 1), (0, 2), (0, 3), (0, 4), (0, 5), (0, 6), (0, 7), (0, 8), (0, 9), (0, 10), (0, 11), (0, 12), (0, 13), (0, 14), (0, 15), (0, 16), (0, 17), (0, 18), (0, 19), (0, 20), (0, 21), (0, 22), (0, 23), (0, 24), (0, 25), (0, 26), (0, 27), (0, 28), (0, 29), (1, 30)] (by kernel_rfl) (by kernel_rfl) (by simp only [List.drop_succ_cons, List.drop_zero]; exact rfl) (fun _ => True) noG hB hG trivial ?_
      intro K L hN hL
      simp only [pickOps, List.getElem?_toArray, List.getElem?_cons_zero, List.getElem?_cons_succ]
      apply gy
      · exact rfl
      · (rintro v - N hN; go_simp; exact hN)
      refine okf (by simp only [Act.put, List.setIfInBounds_toArray, List.set_cons_succ, List.set_cons_zero]; exact rfl) ?_
      apply gy
      · exact rfl
      · (rintro v - N hN; go_simp; exact hN)
      refine okf (by simp only [Act.put, List.setIfInBounds_toArray, List.set_cons_succ, List.set_cons_zero]; exact rfl) ?_
      apply gy
      · exact rfl
      · (rintro v - N hN; go_simp; exact hN)
      refine okf (by simp only [Act.put, List.setIfInBounds_toArray, List.set_cons_succ, List.set_cons_zero]; exact rfl) ?_
      apply gy
      · exact rfl
      · (rintro v - N hN; go_simp; exact hN)
      refine okf (by simp only [Act.put, List.setIfInBounds_toArray, List.set_cons_succ, List.set_cons_zero]; exact rfl) ?_
      apply gy
      · exact rfl
      · (rintro v - N hN; go_simp; exact hN)
      refine okf (by simp only [Act.put, List.setIfInBounds_toArray, List.set_cons_succ, List.set_cons_zero]; exact rfl) ?_
      apply gy
      · exact rfl
      · (rintro v ⟨hgu, hB, hG, -⟩ N hN; have r := hB.r; simp only [BxR] at r; go_simp; exact hN)
      refine okf (by simp only [Act.put, List.setIfInBounds_toArray, List.set_cons_succ, List.set_cons_zero]; exact rfl) ?_
      apply gy
      · exact rfl
      · (rintro v - N hN; go_simp; exact hN)
      refine okf (by simp only [Act.put, List.setIfInBounds_toArray, List.set_cons_succ, List.set_cons_zero]; exact rfl) ?_
      apply gy
      · exact rfl
      · (rintro v - N hN; go_simp; exact hN)
      refine okf (by simp only [Act.put, List.setIfInBounds_toArray, List.set_cons_succ, List.set_cons_zero]; exact rfl) ?_
      apply gy
      · exact rfl
      · (rintro v - N hN; go_simp; exact hN)
      refine okf (by simp only [Act.put, List.setIfInBounds_toArray, List.set_cons_succ, List.set_cons_zero]; exact rfl) ?_
      apply gy
      · exact rfl
      · (rintro v - N hN; go_simp; exact hN)
      refine okf (by simp only [Act.put, List.setIfInBounds_toArray, List.set_cons_succ, List.set_cons_zero]; exact rfl) ?_
      apply gy
      · exact rfl
      · (rintro v - N hN; go_simp; exact hN)
      refine okf (by simp only [Act.put, List.setIfInBounds_toArray, List.set_cons_succ, List.set_cons_zero]; exact rfl) ?_
      apply gy
      · exact rfl
      · (rintro v - N hN; go_simp; exact hN)
      refine okf (by simp only [Act.put, List.setIfInBounds_toArray, List.set_cons_succ, List.set_cons_zero]; exact rfl) ?_
      apply gy
      · exact rfl
      · (rintro v ⟨hgu, hB, hG, -⟩ N hN; have r := hB.r; simp only [BxR] at r; go_simp; exact hN)
      refine okf (by simp only [Act.put, List.setIfInBounds_toArray, List.set_cons_succ, List.set_cons_zero]; exact rfl) ?_
      apply gy
      · exact rfl
      · (rintro v - N hN; go_simp; exact hN)
      refine okf (by simp only [Act.put, List.setIfInBounds_toArray, List.set_cons_succ, List.set_cons_zero]; exact rfl) ?_
      apply gy
      · exact rfl
      · (rintro v - N hN; go_simp; exact hN)
      refine okf (by simp only [Act.put, List.setIfInBounds_toArray, List.set_cons_succ, List.set_cons_zero]; exact rfl) ?_
      apply gy
      · exact rfl
      · (rintro v - N hN; go_simp; exact hN)
      refine okf (by simp only [Act.put, List.setIfInBounds_toArray, List.set_cons_succ, List.set_cons_zero]; exact rfl) ?_
      apply gy
      · exact rfl
      · (rintro v - N hN; go_simp; exact hN)
      refine okf (by simp only [Act.put, List.setIfInBounds_toArray, List.set_cons_succ, List.set_cons_zero]; exact rfl) ?_
      apply gy
      · exact rfl
      · (rintro v - N hN; go_simp; exact hN)
      refine okf (by simp only [Act.put, List.setIfInBounds_toArray, List.set_cons_succ, List.set_cons_zero]; exact rfl) ?_
      apply gy
      · exact rfl
      · (rintro v - N hN; go_simp; exact hN)
      refine okf (by simp only [Act.put, List.setIfInBounds_toArray, List.set_cons_succ, List.set_cons_zero]; exact rfl) ?_
      apply gy
      · exact rfl
      · (rintro v ⟨hgu, hB, hG, -⟩ N hN; have r := hB.r; simp only [BxR] at r; go_simp; exact hN)
      refine okf (by simp only [Act.put, List.setIfInBounds_toArray, List.set_cons_succ, List.set_cons_zero]; exact rfl) ?_
      apply gy
      · exact rfl
      · (rintro v - N hN; go_simp; exact hN)
      refine okf (by simp only [Act.put, List.setIfInBounds_toArray, List.set_cons_succ, List.set_cons_zero]; exact rfl) ?_
      apply gy
      · exact rfl
      · (rintro v - N hN; go_simp; exact hN)
      refine okf (by simp only [Act.put, List.setIfInBounds_toArray, List.set_cons_succ, List.set_cons_zero]; exact rfl) ?_
      apply gy
      · exact rfl
      · (rintro v - N hN; go_simp; exact hN)
      refine okf (by simp only [Act.put, List.setIfInBounds_toArray, List.set_cons_succ, List.set_cons_zero]; exact rfl) ?_
      apply gy
      · exact rfl
      · (rintro v - N hN; go_simp; exact hN)
      refine okf (by simp only [Act.put, List.setIfInBounds_toArray, List.set_cons_succ, List.set_cons_zero]; exact rfl) ?_
      apply gy
      · exact rfl
      · (rintro v ⟨hgu, hB, hG, -⟩ N hN; have r := hB.r; simp only [BxR] at r; go_simp; exact hN)
      refine okf (by simp only [Act.put, List.setIfInBounds_toArray, List.set_cons_succ, List.set_cons_zero]; exact rfl) ?_
      apply gy
      · exact rfl
      · (rintro v - N hN; go_simp; exact hN)
      refine okf (by simp only [Act.put, List.setIfInBounds_toArray, List.set_cons_succ, List.set_cons_zero]; exact rfl) ?_
      apply gy
      · exact rfl
      · (rintro v - N hN; go_simp; exact hN)
      refine okf (by simp only [Act.put, List.setIfInBounds_toArray, List.set_cons_succ, List.set_cons_zero]; exact rfl) ?_
      apply gy
      · exact rfl
      · (rintro v - N hN; go_simp; exact hN)
      refine okf (by simp only [Act.put, List.setIfInBounds_toArray, List.set_cons_succ, List.set_cons_zero]; exact rfl) ?_
      apply gy
      · exact rfl
      · (rintro v - N hN; go_simp; exact hN)
      refine okf (by simp only [Act.put, List.setIfInBounds_toArray, List.set_cons_succ, List.set_cons_zero]; exact rfl) ?_
      apply gy
      · exact rfl
      · (rintro v ⟨hgu, hB, hG, -⟩ N hN; have r := hB.r; simp only [BxR] at r; go_simp; exact hN)
      refine okf (by simp only [Act.put, List.setIfInBounds_toArray, List.set_cons_succ, List.set_cons_zero]; exact rfl) ?_
      refine gx (Nat) (fun g : Nat => .int .u64 g) (fun g W => GW W64 U2 U1 U0 V1 V0 g) (fun x u u' hg h => h) rfl ?_ (fun x87 => ?_)
      · (rintro v ⟨hgu, hB, hG, -⟩ N hN; go_simp; ((with_reducible refine (Hgw.out _).mono ?_); rintro e w1 ⟨x, rfl, hx, hg⟩; exact ⟨_, rfl, hN x w1 hx hg⟩))
      refine okf (by simp only [Act.put, List.setIfInBounds_toArray, List.set_cons_succ, List.set_cons_zero]; exact rfl) ?_
      refine gend ?_
      rintro v ⟨⟨hgu, hB1, hG1, -⟩, hx87⟩
      clear hB hG
      have hB := hB1
      have hG := hG1
      clear hB1 hG1
      refine hL _ _ ?_
      clear hL L hgu
      obtain ⟨u, rfl⟩ : ∃ x, x = v := ⟨_, rfl⟩
      go_wp2_with fail
      refine NoK.norm (hN _ _ ?_)
      clear hN K
      obtain ⟨g, rfl⟩ : ∃ g, g = x87 := ⟨_, rfl⟩
      have hgW : g < 18446744073709551616 := hx87.1
      have hcase := Hgok.out g hx87
      have Hcase := Lib.hid hcase
      clear hcase hx87 g2 g1 g0 p1 p0 Hgw Hgok
      clear fb fc fd hb1 hb0
      refine then_norm ?_
      go_wp2_with fail
      go_loopw [12, 13, 89] (fun x y t wr => ∃ (i cy br : Nat) (zs : List Nat), i ≤ n ∧ t = .int .i64 i ∧ x = .int .u64 cy ∧ y = .int .u64 br ∧ DvM W64 j g vs us i cy br zs ∧ Bx wr [(b9, 26, cellsW zs), (b8, 26, cellsW vs), (b4, 26, cellsW qs)] ∧ Grow w wr) (fun _ _ t _ => n - (intOf t).toNat)
      case atStart => exact ⟨0, 0, 0, us, by omega, rfl, rfl, rfl, DvM.start W64_pos HI.out.1, hB, hG⟩
      case round =>
        clear hB hG u
        obtain ⟨i, cy, br, zs, hi, rfl, rfl, rfl, hM, hB, hG⟩ := hrel
        obtain ⟨u, rfl⟩ : ∃ x, x = wr := ⟨_, rfl⟩
        have hcyW := hM.2.2.2.2.1
        have hbr := hM.2.2.2.2.2
        have hzl := hM.1
        have HM := Lib.hid hM
        have HB := Lib.hid hB
        have HG := Lib.hid hG
        rw [Hul.out] at hzl
        clear hM
        rcases Nat.lt_or_ge i n with hin | hin
        · have hJI : j + i < m + 1 := by have := Hk0.out; omega
          obtain ⟨q1, q2⟩ := bx_cell hB (b := b9) (zs := zs) (by simp) (i := j + i) (by omega)
          obtain ⟨q3, q4⟩ := bx_cell hB (b := b8) (zs := vs) (by simp) (i := i) (by rw [HV.out.1]; omega)
          rw [HM.out.2.2.1 (j + i) (Nat.le_refl _)] at q1
          have hnx := HM.out.next W64_pos hgW HV.out.2.1 HI.out.1 (by rw [Hul.out]; exact hJI)
          have hxW := dg_lt W64_pos HV.out.2.1 i
          have huW := dg_lt W64_pos HI.out.1 (j + i)
          obtain ⟨x, hx⟩ : ∃ x, x = dg vs i := ⟨_, rfl⟩
          obtain ⟨uu, huu⟩ : ∃ x, x = dg us (j + i) := ⟨_, rfl⟩
          rw [← hx] at q3 hnx hxW
          rw [← huu] at q1 hnx huW
          have hml := mul64 g x hgW hxW
          have hmw := mul_word W64_pos hgW hxW hcyW
          have hloW : g * x % W64 < 18446744073709551616 := Nat.mod_lt _ W64_pos
          obtain ⟨hi', hhi⟩ : ∃ q, q = g * x / W64 := ⟨_, rfl⟩
          obtain ⟨lo, hlo⟩ : ∃ q, q = g * x % W64 := ⟨_, rfl⟩
          rw [← hhi, ← hlo] at hml hnx hmw
          rw [← hlo] at hloW
          have hadd := run_Add64' lo cy 0 (by omega) (lo : Int) (cy : Int) 0 rfl rfl rfl
          rw [Nat.add_zero] at hadd
          have hs1W : (lo + cy) % W64 < 18446744073709551616 := Nat.mod_lt _ W64_pos
          obtain ⟨s1, hs1⟩ : ∃ q, q = (lo + cy) % W64 := ⟨_, rfl⟩
          obtain ⟨c, hcc⟩ : ∃ q, q = (lo + cy) / W64 := ⟨_, rfl⟩
          rw [show (18446744073709551616 : Nat) = W64 from rfl] at hadd
          rw [← hs1, ← hcc] at hadd hnx hmw
          rw [← hs1] at hs1W
          obtain ⟨cy', hcy'⟩ : ∃ q, q = hi' + c := ⟨_, rfl⟩
          rw [← hcy'] at hnx hmw
          have fcy : IntKind.u64.wrap ((hi' : Int) + (c : Int)) = (cy' : Nat) := by rw [show ((hi' : Int) + (c : Int)) = (cy' : Nat) by omega]; exact wrapN hmw.1
          have hsub := run_Sub64' uu s1 br hbr (uu : Int) (s1 : Int) (br : Int) rfl rfl rfl
          rw [show (18446744073709551616 : Nat) = W64 from rfl] at hsub
          obtain ⟨z, hz⟩ : ∃ q, q = (uu + W64 - s1 - br) % W64 := ⟨_, rfl⟩
          obtain ⟨br', hbr'⟩ : ∃ q, q = (if uu < s1 + br then 1 else 0 : Nat) := ⟨_, rfl⟩
          rw [← hz, ← hbr'] at hsub hnx
          have Hml := Lib.hid hml
          have Hnx := Lib.hid hnx
          obtain ⟨JI, hJe⟩ : ∃ J, J = j + i := ⟨_, rfl⟩
          rw [← hJe] at q1 q2 hJI
          have HJe := Lib.hid hJe
          have fJ : IntKind.i64.wrap ((j : Int) + (i : Int)) = (JI : Nat) := by rw [show ((j : Int) + (i : Int)) = (JI : Nat) by omega]; exact IntWalk.i64_in _ (by omega)
          have hJb : (JI : Int) < (m : Int) + 1 := by omega
          have hdi : decide ((i : Int) < (n : Int)) = true := by simp; omega
          clear hml hnx hx huu hhi hlo hs1 hcc hcy' hz hbr' hJe hmw hB hG
          go_wp2_with (go_at_call 127; ((with_reducible refine (Hml.out _).mono ?_); rintro e w1 ⟨rfl, rfl⟩))
          go_roundw
          case rel =>
            have hb := bx_u HB.out hF HG.out JI z
            exact ⟨i + 1, cy', br', zs.set JI z, by omega, by go_num, rfl, rfl, by rw [HJe.out]; exact Hnx.out, hb.1, hb.2⟩
          case measure => simp [intOf]; omega
        · obtain rfl : i = n := by omega
          have hJ : j + i < us.length := by rw [Hul.out]; exact hkk
          have hvn := val_take_n (n := i) HV.out.2.1 (by have := HvW.out; rw [← Hn2e.out] at this; exact this)
          have hls := HM.out.last W64_pos HI.out.1 hJ hvn
          obtain ⟨q1, q2⟩ := bx_cell hB (b := b9) (zs := zs) (by simp) (i := j + i) (by omega)
          rw [HM.out.2.2.1 (j + i) (Nat.le_refl _)] at q1
          have huW := dg_lt W64_pos HI.out.1 (j + i)
          obtain ⟨uu, huu⟩ : ∃ x, x = dg us (j + i) := ⟨_, rfl⟩
          rw [← huu] at q1 hls huW
          have hsub := run_Sub64' uu cy br hbr (uu : Int) (cy : Int) (br : Int) rfl rfl rfl
          rw [show (18446744073709551616 : Nat) = W64 from rfl] at hsub
          obtain ⟨z, hz⟩ : ∃ q, q = (uu + W64 - cy - br) % W64 := ⟨_, rfl⟩
          rw [← hz] at hsub hls
          rw [← HJ2.out] at q1 q2 hls
          obtain ⟨ys, hys⟩ : ∃ y, y = zs.set J2 z := ⟨_, rfl⟩
          have hb := bx_u HB.out hF HG.out J2 z
          rw [← hys] at hls hb
          obtain ⟨y1, y2, y3, y4⟩ := hls
          have hjk : j < qs.length := by rw [Hql.out]; omega
          obtain ⟨q5, q6⟩ := bx_cell hb.1 (b := b4) (zs := qs) (by simp) (i := j) hjk
          have hdi : decide ((i : Int) < (i : Int)) = false := by simp
          have Hb := Lib.hid hb
          have hjk0 : (j : Int) < (k0 : Int) := by have := Hql.out; omega
          have hV0 : 0 < val W64 vs := by
            rw [HV.out.2.2.2.2.2]; exact Nat.mul_pos HV.out.2.2.2.2.1 (Nat.two_pow_pos _)
          have Hy := Lib.hid (And.intro y1 (And.intro y2 y3))
          clear hz huu hys y1 y2 y3 hvn hB hG hb HB HG HM hJ
          by_cases huc : uu < cy + br
          · rw [if_pos huc] at hsub y4
            have hylt : val W64 ys < W64 ^ (j + i + 1) := val_low W64_pos Hy.out.2.1 fun t ht => by
              rw [Hy.out.2.2 t (by rw [HJ2.out]; exact ht)]
              exact Hd5.out t (by have := Hn2e.out; omega)
            have hgp := borrow_pos hylt (by rw [← HJ2.out]; exact y4)
            have Hylt := Lib.hid hylt
            have Hy4 := Lib.hid y4
            have HV0 := Lib.hid hV0
            obtain ⟨g1, hg1⟩ : ∃ q, g = q + 1 := ⟨g - 1, by omega⟩
            have fg : IntKind.u64.wrap ((g : Int) - 1) = (g1 : Nat) := by rw [show ((g : Int) - 1) = (g1 : Nat) by omega]; exact wrapN (by omega)
            have Hg1 := Lib.hid hg1
            clear hg1 hylt y4 hV0 hgp
            go_wp2_with fail
            clear hsub q1 q2 q5 q6 huc
            go_loopw [19, 150] (fun x t wr => ∃ (p c : Nat) (zs : List Nat), p ≤ i ∧ t = .int .i64 p ∧ x = .int .u64 c ∧ DvA W64 j vs ys p c zs ∧ Bx wr [(b9, 26, cellsW zs), (b8, 26, cellsW vs), (b4, 26, cellsW qs)] ∧ Grow w wr) (fun _ t _ => i - (intOf t).toNat)
            case atStart => exact ⟨0, 0, ys, by omega, rfl, rfl, DvA.start Hy.out.2.1, Hb.out.1, Hb.out.2⟩
            case round =>
              clear u Hb
              obtain ⟨p, c, zs, hp, rfl, rfl, hA, hB, hG⟩ := hrel
              obtain ⟨u, rfl⟩ : ∃ x, x = wr := ⟨_, rfl⟩
              have hc1 := hA.2.2.2.2
              have hzl := hA.1
              rw [Hy.out.1, Hul.out] at hzl
              have HA := Lib.hid hA
              clear hA
              rcases Nat.lt_or_ge p i with hpi | hpi
              · have hJP : j + p < m + 1 := by omega
                have k1 : (cellsW zs)[j + p]? = some (.int .u64 (dg ys (j + p) : Nat)) := by rw [cellsW_get, List.getElem?_eq_getElem (by omega), ← dg_eq (by omega), HA.out.2.2.1 (j + p) (Nat.le_refl _)]; rfl
                have k2 : (cellsW vs)[p]? = some (.int .u64 (dg vs p : Nat)) := by rw [cellsW_get, List.getElem?_eq_getElem (by rw [HV.out.1]; omega), ← dg_eq (by rw [HV.out.1]; omega)]; rfl
                have hnx := HA.out.next W64_pos HV.out.2.1 Hy.out.2.1 (by rw [Hy.out.1, Hul.out]; exact hJP)
                obtain ⟨x, hx⟩ : ∃ x, x = dg vs p := ⟨_, rfl⟩
                obtain ⟨yy, hyy⟩ : ∃ x, x = dg ys (j + p) := ⟨_, rfl⟩
                rw [← hx] at k2 hnx
                rw [← hyy] at k1 hnx
                have hadd := run_Add64' yy x c hc1 (yy : Int) (x : Int) (c : Int) rfl rfl rfl
                rw [show (18446744073709551616 : Nat) = W64 from rfl] at hadd
                obtain ⟨z3, hz3⟩ : ∃ q, q = (yy + x + c) % W64 := ⟨_, rfl⟩
                obtain ⟨c3, hc3⟩ : ∃ q, q = (yy + x + c) / W64 := ⟨_, rfl⟩
                rw [← hz3, ← hc3] at hadd hnx
                have Hnx := Lib.hid hnx
                obtain ⟨JP, hJe⟩ : ∃ J, J = j + p := ⟨_, rfl⟩
                rw [← hJe] at k1
                have HJe := Lib.hid hJe
                have fJ : IntKind.i64.wrap ((j : Int) + (p : Int)) = (JP : Nat) := by rw [show ((j : Int) + (p : Int)) = (JP : Nat) by omega]; exact IntWalk.i64_in _ (by omega)
                have hJb : (JP : Int) < (m : Int) + 1 := by omega
                have hpb : (p : Int) < (i : Int) := by omega
                have hdp : decide ((p : Int) < (i : Int)) = true := by simp; omega
                clear hnx hx hyy hz3 hc3 hJe hJP
                go_wp2_with fail
                refine wp_rd (w := w) allocs 20 [18] [(0, 0), (0, 1), (0, 2), (0, 3), (0, 4), (0, 5), (0, 6), (0, 7), (0, 8), (0, 9), (0, 10), (0, 11), (0, 12), (0, 13), (0, 14), (1, 15), (0, 16), (0, 17), (0, 18), (0, 19)] (by kernel_rfl) (by kernel_rfl) (by simp only [List.drop_succ_cons, List.drop_zero]; exact rfl) (fun _ => True) noG hB hG trivial ?_
                intro K L hN hL
                simp only [pickOps, List.getElem?_toArray, List.getElem?_cons_zero, List.getElem?_cons_succ]
                apply gy
                · exact rfl
                · (rintro v - N hN; go_simp; exact hN)
                refine okf (by simp only [Act.put, List.setIfInBounds_toArray, List.set_cons_succ, List.set_cons_zero]; exact rfl) ?_
                apply gy
                · exact rfl
                · (rintro v - N hN; go_simp; exact hN)
                refine okf (by simp only [Act.put, List.setIfInBounds_toArray, List.set_cons_succ, List.set_cons_zero]; exact rfl) ?_
                apply gy
                · exact rfl
                · (rintro v - N hN; go_simp; exact hN)
                refine okf (by simp only [Act.put, List.setIfInBounds_toArray, List.set_cons_succ, List.set_cons_zero]; exact rfl) ?_
                apply gy
                · exact rfl
                · (rintro v - N hN; go_simp; exact hN)
                refine okf (by simp only [Act.put, List.setIfInBounds_toArray, List.set_cons_succ, List.set_cons_zero]; exact rfl) ?_
                apply gy
                · exact rfl
                · (rintro v - N hN; go_simp; exact hN)
                refine okf (by simp only [Act.put, List.setIfInBounds_toArray, List.set_cons_succ, List.set_cons_zero]; exact rfl) ?_
                apply gy
                · exact rfl
                · (rintro v - N hN; go_simp; exact hN)
                refine okf (by simp only [Act.put, List.setIfInBounds_toArray, List.set_cons_succ, List.set_cons_zero]; exact rfl) ?_
                apply gy
                · exact rfl
                · (rintro v - N hN; go_simp; exact hN)
                refine okf (by simp only [Act.put, List.setIfInBounds_toArray, List.set_cons_succ, List.set_cons_zero]; exact rfl) ?_
                apply gy
                · exact rfl
                · (rintro v - N hN; go_simp; exact hN)
                refine okf (by simp only [Act.put, List.setIfInBounds_toArray, List.set_cons_succ, List.set_cons_zero]; exact rfl) ?_
                apply gy
                · exact rfl
                · (rintro v - N hN; go_simp; exact hN)
                refine okf (by simp only [Act.put, List.setIfInBounds_toArray, List.set_cons_succ, List.set_cons_zero]; exact rfl) ?_
                apply gy
                · exact rfl
                · (rintro v ⟨hgu, hB, hG, -⟩ N hN; have r := hB.r; simp only [BxR] at r; go_simp; exact hN)
                refine okf (by simp only [Act.put, List.setIfInBounds_toArray, List.set_cons_succ, List.set_cons_zero]; exact rfl) ?_
                apply gy
                · exact rfl
                · (rintro v - N hN; go_simp; exact hN)
                refine okf (by simp only [Act.put, List.setIfInBounds_toArray, List.set_cons_succ, List.set_cons_zero]; exact rfl) ?_
                apply gy
                · exact rfl
                · (rintro v - N hN; go_simp; exact hN)
                refine okf (by simp only [Act.put, List.setIfInBounds_toArray, List.set_cons_succ, List.set_cons_zero]; exact rfl) ?_
                apply gy
                · exact rfl
                · (rintro v - N hN; go_simp; exact hN)
                refine okf (by simp only [Act.put, List.setIfInBounds_toArray, List.set_cons_succ, List.set_cons_zero]; exact rfl) ?_
                apply gy
                · exact rfl
                · (rintro v ⟨hgu, hB, hG, -⟩ N hN; have r := hB.r; simp only [BxR] at r; go_simp; exact hN)
                refine okf (by simp only [Act.put, List.setIfInBounds_toArray, List.set_cons_succ, List.set_cons_zero]; exact rfl) ?_
                apply gy
                · exact rfl
                · (rintro v - N hN; go_simp; exact hN)
                refine okf (by simp only [Act.put, List.setIfInBounds_toArray, List.set_cons_succ, List.set_cons_zero]; exact rfl) ?_
                apply gm
                · exact rfl
                · (rintro v ⟨hgu, hB, hG, -⟩ N hN; go_simp; exact hN _ (Grow.refl _))
                refine okf (by simp only [Act.put, List.setIfInBounds_toArray, List.set_cons_succ, List.set_cons_zero]; exact rfl) ?_
                apply gy
                · exact rfl
                · (rintro v - N hN; go_simp; exact hN)
                refine okf (by simp only [Act.put, List.setIfInBounds_toArray, List.set_cons_succ, List.set_cons_zero]; exact rfl) ?_
                apply gy
                · exact rfl
                · (rintro v - N hN; go_simp; exact hN)
                refine okf (by simp only [Act.put, List.setIfInBounds_toArray, List.set_cons_succ, List.set_cons_zero]; exact rfl) ?_
                apply gy
                · exact rfl
                · (rintro v - N hN; go_simp; exact hN)
                refine okf (by simp only [Act.put, List.setIfInBounds_toArray, List.set_cons_succ, List.set_cons_zero]; exact rfl) ?_
                apply gy
                · exact rfl
                · (rintro v - N hN; go_simp; exact hN)
                refine okf (by simp only [Act.put, List.setIfInBounds_toArray, List.set_cons_succ, List.set_cons_zero]; exact rfl) ?_
                refine gend ?_
                rintro v ⟨hgu, hB1, hG1, -⟩
                clear hB hG
                have hB := hB1
                have hG := hG1
                clear hB1 hG1
                refine hL _ _ ?_
                clear hL L hgu
                obtain ⟨u, rfl⟩ : ∃ x, x = v := ⟨_, rfl⟩
                have r := hB.r
                simp only [BxR] at r
                go_wp2_with fail
                clear r
                have hb := bx_u hB hF hG JP z3
                clear hB hG
                generalize World.setCell u _ _ = u0 at hb ⊢
                obtain ⟨hB, hG⟩ := hb
                obtain ⟨u, rfl⟩ : ∃ x, x = u0 := ⟨_, rfl⟩
                refine NoK.norm (hN _ _ ?_)
                clear hN K
                refine blk_norm (then_norm ?_)
                go_wp2_with fail
                go_roundw
                case rel => exact ⟨p + 1, c3, zs.set JP z3, by omega, by go_num, rfl, by rw [HJe.out]; exact Hnx.out, hB, hG⟩
                case measure => simp [intOf]; omega
              · obtain rfl : p = i := by omega
                have hJ : j + p < ys.length := by rw [Hy.out.1, Hul.out]; exact hkk
                have hvW : val W64 vs < W64 ^ p := by have := HvW.out; rw [← Hn2e.out] at this; exact this
                have hla := HA.out.last W64_pos hJ (val_take_n HV.out.2.1 hvW)
                obtain ⟨q1, q2⟩ := bx_cell hB (b := b9) (zs := zs) (by simp) (i := j + p) (by omega)
                rw [HA.out.2.2.1 (j + p) (Nat.le_refl _)] at q1
                obtain ⟨yy, hyy⟩ : ∃ x, x = dg ys (j + p) := ⟨_, rfl⟩
                rw [← hyy] at q1 hla
                obtain ⟨z4, hz4⟩ : ∃ q, q = (yy + c) % W64 := ⟨_, rfl⟩
                have fz : IntKind.u64.wrap ((yy : Int) + (c : Int)) = (z4 : Nat) := by
                  rw [show ((yy : Int) + (c : Int)) = ((yy + c : Nat) : Int) by omega, hz4]; exact wrapM
                rw [← hz4, ← HJ2.out] at hla
                rw [← HJ2.out] at q1 q2
                obtain ⟨xs, hxs⟩ : ∃ y, y = zs.set J2 z4 := ⟨_, rfl⟩
                have hb := bx_u hB hF hG J2 z4
                rw [← hxs] at hla hb
                obtain ⟨x1, x2, x3, x4⟩ := hla
                have hjk : j < qs.length := by rw [Hql.out]; omega
                obtain ⟨q5, q6⟩ := bx_cell hb.1 (b := b4) (zs := qs) (by simp) (i := j) hjk
                have hxlt : val W64 xs < W64 ^ (j + p + 1) := val_low W64_pos x2 fun t ht => by
                  rw [x3 t (by rw [HJ2.out]; exact ht), Hy.out.2.2 t (by rw [HJ2.out]; exact ht)]
                  exact Hd5.out t (by have := Hn2e.out; omega)
                have hVM : val W64 vs * W64 ^ j ≤ W64 ^ (j + p + 1) := by
                  refine Nat.le_trans (Nat.mul_le_mul_right _ (Nat.le_of_lt hvW)) ?_
                  rw [← Nat.pow_add]
                  exact Nat.pow_le_pow_right W64_pos (by omega)
                have hv4 := Hy4.out
                rw [HJ2.out] at hv4 x4
                have hbk := HI.out.back (n := p) W64_pos HV0.out hgW hjk Hcase.out hVM Hylt.out hv4 x2 hxlt x4
                have hbk2 := hbk.2
                rw [show g - 1 = g1 by have := Hg1.out; omega] at hbk2
                have Hbk := Lib.hid hbk2
                have Hb := Lib.hid hb
                have Hx1 := Lib.hid x1
                have hdp : decide ((p : Int) < (p : Int)) = false := by simp
                have hjk0 : (j : Int) < (k0 : Int) := by have := Hql.out; omega
                clear hbk hbk2 hv4 hVM hxlt x1 x2 x3 x4 hb hxs hz4 hyy hvW hB hG hJ HA
                go_wp2_with fail
                go_roundw
                case rel =>
                  have hb2 := bx_q Hb.out.1 hF Hb.out.2 j g1
                  exact ⟨j, xs, qs.set j g1, by omega, by go_num, Hbk.out, by rw [Hx1.out, Hy.out.1]; exact Hul.out, by rw [List.length_set]; exact Hql.out, hb2.1, hb2.2⟩
                case measure => simp [intOf]
          · rw [if_neg huc] at hsub y4
            have hfit := HI.out.fit W64_pos hV0 hgW hjk Hcase.out Hy.out.2.1 (by rw [y4, Nat.zero_mul, Nat.add_zero])
            have Hfit := Lib.hid hfit
            clear hfit hV0 y4
            go_wp2_with fail
            go_roundw
            case rel =>
              have hb2 := bx_q Hb.out.1 hF Hb.out.2 j g
              exact ⟨j, ys, qs.set j g, by omega, by go_num, Hfit.out, by rw [Hy.out.1]; exact Hul.out, by rw [List.length_set]; exact Hql.out, hb2.1, hb2.2⟩
            case measure => simp [intOf]
end Go.Proofs.YtimjnkfcnpfoeaaGreatDoor

/-
  Nat.Div up to BIG.
-/
namespace Go.Proofs.YtimjnkfcnpfoeaaGreatDoor
open Go.RowKit

theorem quo_wrap (a b : Nat) (h : a / b < W64) : IntKind.u64.wrap ((a : Int) / (b : Int)) = ((a / b : Nat) : Int) := by
  rw [← Int.natCast_ediv]
  generalize a / b = q at *
  unfold W64 at h; exact u64_wrap_id (x := (q : Int)) (by omega) (by omega)
theorem rem_wrap (a b : Nat) (h : a % b < W64) : IntKind.u64.wrap ((a : Int) % (b : Int)) = ((a % b : Nat) : Int) := by
  rw [← Int.natCast_emod]
  generalize a % b = q at *
  unfold W64 at h; exact u64_wrap_id (x := (q : Int)) (by omega) (by omega)
set_option maxHeartbeats 1000000 in
set_option maxRecDepth 100000 in
theorem nat_Div_small (a b : Nat) (ha : a < W64) (hb : b < W64) (h0 : b ≠ 0) (w : World) : Calls Tryz.prog 123 #[natV a, natV b] w fun e w' => e = .returned (.tuple #[natV (a / b), natV (a % b), .bool true]) ∧ Grow w w' := by
  have hbits : ∀ W : World, Calls Tryz.prog 119 #[natV b] W fun e w' => e = .returned (.int .i64 (bl b)) ∧ Grow W w' := fun W => nat_Bits b (Nat.le_trans (bl_small hb) (by omega)) W
  have hq : a / b < W64 := Nat.lt_of_le_of_lt (Nat.div_le_self a b) ha
  have hm : a % b < W64 := Nat.lt_of_le_of_lt (Nat.mod_le a b) ha
  have hne : ((bl b : Int) == 0) = false := by have := bl_pos.2 h0; simp; omega
  have hb0 : (natLo b == 0) = false := by rw [natLo_small hb]; simpa using h0
  have hE1 : (natMo a).toList.isEmpty = true := by rw [natMo_isEmpty]; simpa using ha
  have hE2 : (natMo b).toList.isEmpty = true := by rw [natMo_isEmpty]; simpa using hb
  have hb1 : ¬ natLo b = 0 := by rw [natLo_small hb]; omega
  have hw1 : IntKind.u64.wrap ((natLo a).tdiv (natLo b)) = natLo (a / b) := by
    rw [Int.tdiv_eq_ediv_of_nonneg (natLo_nonneg a), natLo_small ha, natLo_small hb, natLo_small hq]; exact quo_wrap a b hq
  have hw2 : IntKind.u64.wrap ((natLo a).tmod (natLo b)) = natLo (a % b) := by
    rw [Int.tmod_eq_emod_of_nonneg (natLo_nonneg a), natLo_small ha, natLo_small hb, natLo_small hm]; exact rem_wrap a b hm
  have hw3 : (natLo a).tmod (natLo b) = natLo (a % b) := by
    rw [Int.tmod_eq_emod_of_nonneg (natLo_nonneg a), natLo_small ha, natLo_small hb, natLo_small hm]; exact (Int.natCast_emod a b).symm
  have hw4 : natLo a % natLo b = natLo (a % b) := by
    rw [natLo_small ha, natLo_small hb, natLo_small hm]; exact (Int.natCast_emod a b).symm
  have hn1 := natLo_nonneg a
  have hn2 := natLo_nonneg b
  have Hmo := Lib.hid (And.intro (natMo_small hq) (natMo_small hm))
  have Hbits := Lib.hid hbits
  clear hbits hq hm
  go_enter Tryz.func123, Tryz.ntmps123
  refine wp_seq (wp_r0 ?_)
  intro K hN
  go_wp2_with fail
  generalize hu : World.alloc (World.alloc (World.alloc (World.alloc w _) _) _) _ = u
  obtain ⟨hB, hG⟩ := bx_first [(_, _), (_, _), (_, _), (_, _)] w u hu
  have hF := fr_first w [(28, #[]), (28, #[]), (28, #[]), (28, #[])]
  simp only [numbered, List.map_cons, List.map_nil] at hB hF
  clear hu
  generalize w.heap.size + 1 + 1 + 1 = b5 at hB hF ⊢
  generalize w.heap.size + 1 + 1 = b4 at hB hF ⊢
  generalize w.heap.size + 1 = b3 at hB hF ⊢
  generalize w.heap.size = b2 at hB hF ⊢
  refine NoK.norm (hN _ _ ?_)
  clear hN K
  refine then_norm ?_
  refine wp_seq ?_
  refine wp_seq ?_
  refine wp_rs (w := w) allocs 3 [0, 1, 0] (by kernel_rfl) (by simp only [List.drop_succ_cons, List.drop_nil]; exact rfl) (fun _ => True) noG hB hG trivial ?_
  intro K L hN hL
  simp only [List.zip_cons_cons, List.zip_nil_left]
  apply gy
  · exact rfl
  · (rintro v ⟨hgu, hB, hG, -⟩ N hN; have r := hB.r; simp only [BxR] at r; go_simp; exact hN)
  refine okf (by simp only [Act.put, List.setIfInBounds_toArray, List.set_cons_succ, List.set_cons_zero]; exact rfl) ?_
  apply gm
  · exact rfl
  · (rintro v ⟨hgu, hB, hG, -⟩ N hN; go_simp; ((with_reducible refine (Hbits.out _).mono ?_); rintro e w1 ⟨rfl, hb⟩; exact ⟨_, rfl, hN _ hb⟩))
  refine okf (by simp only [Act.put, List.setIfInBounds_toArray, List.set_cons_succ, List.set_cons_zero]; exact rfl) ?_
  apply gy
  · exact rfl
  · (rintro v - N hN; go_simp; exact hN)
  refine okf (by simp only [Act.put, List.setIfInBounds_toArray, List.set_cons_succ, List.set_cons_zero]; exact rfl) ?_
  refine gend ?_
  rintro v ⟨hgu, hB1, hG1, -⟩
  clear hB hG
  have hB := hB1
  have hG := hG1
  clear hB1 hG1
  refine hL _ _ ?_
  clear hL L hgu
  obtain ⟨u, rfl⟩ : ∃ x, x = v := ⟨_, rfl⟩
  refine wpList_nil ?_
  refine NoK.norm (hN _ _ ?_)
  clear hN K
  refine then_norm ?_
  refine wp_cond_split rfl ?_ ?_
  · intro ht
    cases ht
  · intro ht
    have ht13 := ht
    refine wp_skip ?_
    refine then_norm ?_
    refine wp_seq ?_
    refine wp_seq ?_
    refine wp_r0 ?_
    intro K hN
    have r := hB.r
    simp only [BxR] at r
    go_wp2_with fail
    clear r
    refine NoK.norm (hN _ _ ?_)
    clear hN K
    refine then_norm ?_
    refine wp_cond_split rfl ?_ ?_
    · intro ht
      have ht23 := ht
      refine wp_seq ?_
      refine Code.wp_mono NoP.up ?_
      have r := hB.r
      simp only [BxR] at r
      have hD : b2 ≠ b4 ∧ b2 ≠ b5 ∧ b3 ≠ b4 ∧ b3 ≠ b5 ∧ b4 ≠ b2 ∧ b4 ≠ b3 ∧ b4 ≠ b5 ∧ b5 ≠ b2 ∧ b5 ≠ b3 ∧ b5 ≠ b4 := ⟨hF.ne 0 2 rfl rfl (by decide), hF.ne 0 3 rfl rfl (by decide), hF.ne 1 2 rfl rfl (by decide), hF.ne 1 3 rfl rfl (by decide), hF.ne 2 0 rfl rfl (by decide), hF.ne 2 1 rfl rfl (by decide), hF.ne 2 3 rfl rfl (by decide), hF.ne 3 0 rfl rfl (by decide), hF.ne 3 1 rfl rfl (by decide), hF.ne 3 2 rfl rfl (by decide)⟩
      go_region
      clear r hD
      generalize hu0 : World.setCell (World.setCell u _ _) _ _ = u0
      have hBG := hB.over hF hG 2 rfl 0 [_, _] hu0
      clear hB hG hu0
      simp only [List.modify_succ_cons, List.modify_zero_cons, wrAll, List.setIfInBounds_toArray, List.set_cons_zero, List.set_cons_succ, Nat.zero_add, Nat.reduceAdd] at hBG
      obtain ⟨hB, hG⟩ := hBG
      clear u
      generalize hu1 : World.setCell (World.setCell u0 _ _) _ _ = u1
      have hBG := hB.over hF hG 3 rfl 0 [_, _] hu1
      clear hB hG hu1
      simp only [List.modify_succ_cons, List.modify_zero_cons, wrAll, List.setIfInBounds_toArray, List.set_cons_zero, List.set_cons_succ, Nat.zero_add, Nat.reduceAdd] at hBG
      obtain ⟨hB, hG⟩ := hBG
      clear u0
      obtain ⟨u, rfl⟩ : ∃ x, x = u1 := ⟨_, rfl⟩
      replace hB := hB.grow (Grow.drew u)
      replace hG := hG.trans (Grow.drew u)
      obtain ⟨u, rfl⟩ : ∃ x, x = u.drew := ⟨_, rfl⟩
      refine NoP.norm ?_
      refine then_norm ?_
      refine wp_ret ?_
      refine then_ret ?_
      refine ret_b rfl ?_
      intro N hN
      have r := hB.r
      simp only [BxR] at r
      simp only [results, Tryz.results123]
      go_simp
      refine hN _ ?_
      clear hN N r
      refine And.intro ?_ hG
      rw [natV, natV, Hmo.out.1, Hmo.out.2]
    · intro ht
      cases ht
end Go.Proofs.YtimjnkfcnpfoeaaGreatDoor

/-
  Plain numbers: bytes laid into words from the lowest on; zeros at the end; words moved down in place; a difference in place; the greatest common divisor by halves.
-/
namespace Go.Proofs.YtimjnkfcnpfoeaaGreatDoor
theorem dg_le_val (W : Nat) (l : List Nat) (k : Nat) : W ^ k * dg l k ≤ val W l := by
  have h1 := val_take_dg W l k
  have h2 := val_append W (l.take (k + 1)) (l.drop (k + 1))
  rw [List.take_append_drop] at h2
  omega
theorem pow256 (i : Nat) : (256 : Nat) ^ i = W64 ^ (i / 8) * 2 ^ (8 * (i % 8)) := by
  rw [W64_pow, show (256 : Nat) = 2 ^ 8 from rfl, ← Nat.pow_mul, ← Nat.pow_mul, ← Nat.pow_add]
  congr 1
  omega
/-- the byte number i is laid into words that hold the bytes below it -/
theorem lay_low {zs : List Nat} {i y : Nat} (hi : i / 8 < zs.length) (hv : val W64 zs < 256 ^ i) (hy : y < 256) :
    dg zs (i / 8) ||| y * 2 ^ (8 * (i % 8)) = dg zs (i / 8) + y * 2 ^ (8 * (i % 8)) ∧ dg zs (i / 8) + y * 2 ^ (8 * (i % 8)) < W64 ∧
    val W64 (zs.set (i / 8) (dg zs (i / 8) + y * 2 ^ (8 * (i % 8)))) = val W64 zs + y * 256 ^ i := by
  have h1 := dg_le_val W64 zs (i / 8)
  have h2 : dg zs (i / 8) < 2 ^ (8 * (i % 8)) := by
    rw [pow256 i] at hv
    exact Nat.lt_of_mul_lt_mul_left (Nat.lt_of_le_of_lt h1 hv)
  have h3 := val_set W64 zs (i / 8) (dg zs (i / 8) + y * 2 ^ (8 * (i % 8))) hi
  have h4 : y * 256 ^ i = W64 ^ (i / 8) * (y * 2 ^ (8 * (i % 8))) := by rw [pow256]; grind
  have h5 : (y + 1) * 2 ^ (8 * (i % 8)) ≤ 256 * 2 ^ (8 * (i % 8)) := Nat.mul_le_mul_right _ hy
  have h6 : 256 * 2 ^ (8 * (i % 8)) ≤ W64 := by
    rw [show (256 : Nat) = 2 ^ 8 from rfl, ← Nat.pow_add, W64_pow]
    exact Nat.pow_le_pow_right (by omega) (by omega)
  rw [Nat.add_mul, Nat.one_mul] at h5
  refine ⟨?_, by omega, ?_⟩
  · rw [or_add' h2 (Nat.dvd_mul_left _ _), Nat.add_comm]
  · rw [Nat.mul_add] at h3
    omega
theorem val_take_lt {W : Nat} (hW : 0 < W) {l : List Nat} (h : Dig W l) (k : Nat) : val W (l.take k) < W ^ k := by
  rcases Nat.lt_or_ge k l.length with hk | hk
  · have := val_lt (B := W) (l := l.take k) (fun x hx => h x (List.mem_of_mem_take hx))
    rwa [List.length_take, Nat.min_eq_left (by omega)] at this
  · rw [val_take_over W l k hk]
    exact Nat.lt_of_lt_of_le (val_lt h) (Nat.pow_le_pow_right hW hk)
/-- z zeros at the end, then a one -/
def Tz (V z : Nat) : Prop := ∃ m, V = 2 ^ z * (2 * m + 1)
theorem val_take_zero {W : Nat} {l : List Nat} {k : Nat} (h : ∀ i, i < k → dg l i = 0) : val W (l.take k) = 0 := by
  induction k with
  | zero => rfl
  | succ k ih => rw [val_take_dg, ih (fun i hi => h i (by omega)), h k (by omega)]; simp
theorem tz_words {l : List Nat} {k t m : Nat} (h0 : ∀ i, i < k → dg l i = 0) (hk : k < l.length) (hx : dg l k = 2 ^ t * (2 * m + 1)) (ht : t < 64) : Tz (val W64 l) (64 * k + t) := by
  have h1 := val_append W64 (l.take k) (l.drop k)
  rw [List.take_append_drop, val_take_zero h0, List.length_take, Nat.min_eq_left (by omega), List.drop_eq_getElem_cons hk, ← dg_eq hk, val_cons, hx, Nat.zero_add] at h1
  refine ⟨m + 2 ^ (63 - t) * val W64 (l.drop (k + 1)), ?_⟩
  rw [h1, Nat.pow_add, Nat.pow_mul]
  have e : W64 = 2 ^ t * (2 * 2 ^ (63 - t)) := by
    rw [← Nat.pow_succ', ← Nat.pow_add, W64_pow]
    congr 1
    omega
  rw [show (2 : Nat) ^ 64 = W64 from rfl, Nat.mul_assoc]
  congr 1
  rw [e]
  grind
theorem Tz.inj {V z z' : Nat} (h : Tz V z) (h' : Tz V z') : z = z' := by
  obtain ⟨m, hm⟩ := h
  obtain ⟨m', hm'⟩ := h'
  have key : ∀ a b x y : Nat, a < b → 2 ^ a * (2 * x + 1) = 2 ^ b * (2 * y + 1) → False := by
    intro a b x y hab he
    obtain ⟨d, rfl⟩ : ∃ d, b = a + (d + 1) := ⟨b - a - 1, by omega⟩
    rw [Nat.pow_add, Nat.mul_assoc] at he
    have := Nat.eq_of_mul_eq_mul_left (Nat.two_pow_pos a) he
    rw [Nat.pow_succ, Nat.mul_comm (2 ^ d) 2, Nat.mul_assoc] at this
    omega
  rcases Nat.lt_trichotomy z z' with h | h | h
  · exact (key _ _ _ _ h (hm.symm.trans hm')).elim
  · exact h
  · exact (key _ _ _ _ h (hm'.symm.trans hm)).elim
/-- words moved down in place: those below i are done -/
def DnI (P R : Nat) (l : List Nat) (i : Nat) (zs : List Nat) : Prop :=
  zs.length = l.length ∧ (∀ t, t < i → dg zs t = dg l t / P + dg l (t + 1) % P * R) ∧ ∀ t, i ≤ t → dg zs t = dg l t
theorem DnI.start (P R : Nat) (l : List Nat) : DnI P R l 0 l := ⟨rfl, fun t ht => by omega, fun _ _ => rfl⟩
theorem DnI.next {P R : Nat} {l zs : List Nat} {i : Nat} (h : DnI P R l i zs) (hi : i < l.length) : DnI P R l (i + 1) (zs.set i (dg l i / P + dg l (i + 1) % P * R)) := by
  refine ⟨by rw [List.length_set]; exact h.1, fun t ht => ?_, fun t ht => by rw [dg_set_ne _ _ (by omega)]; exact h.2.2 t (by omega)⟩
  rcases Nat.lt_or_ge t i with hlt | hge
  · rw [dg_set_ne _ _ (by omega)]; exact h.2.1 t hlt
  · obtain rfl : t = i := by omega
    rw [dg_set_at (by rw [h.1]; exact hi)]
theorem DnI.done {W P R : Nat} {l zs : List Nat} (hW : W = P * R) (hP : 0 < P) (hW0 : 0 < W) (hd : Dig W l) (h : DnI P R l l.length zs) : val W zs = val W l / P ∧ Dig W zs :=
  ⟨val_down hW hP hW0 l zs hd h.1 h.2.1, fun x hx => by
    obtain ⟨t, ht, rfl⟩ := List.getElem_of_mem hx
    rw [← dg_eq ht, h.2.1 t (by rw [← h.1]; exact ht)]
    exact (down_digit hW hP (dg_lt hW0 hd _)).1⟩
/-- a difference in place: the words below k are done -/
def SbI (W : Nat) (lx ly : List Nat) (k br : Nat) (zs : List Nat) : Prop :=
  zs.length = lx.length ∧ Dig W zs ∧ br ≤ 1 ∧ (∀ t, k ≤ t → dg zs t = dg lx t) ∧ val W (zs.take k) + val W (ly.take k) = val W (lx.take k) + br * W ^ k
theorem SbI.start (W : Nat) {lx : List Nat} (ly : List Nat) (h : Dig W lx) : SbI W lx ly 0 0 lx := ⟨rfl, h, by omega, fun _ _ => rfl, by simp [val]⟩
theorem take_set_succ {zs : List Nat} {k z : Nat} (h : k < zs.length) : (zs.set k z).take (k + 1) = zs.take k ++ [z] := by
  rw [List.take_succ_eq_append_getElem (by rw [List.length_set]; exact h), List.take_set_of_le (Nat.le_refl k), List.getElem_set_self]
theorem SbI.next {W : Nat} {lx ly zs : List Nat} {k br : Nat} (h : SbI W lx ly k br zs) (hW : 0 < W) (hx : Dig W lx) (hy : Dig W ly) (hk : k < lx.length) :
    SbI W lx ly (k + 1) (if dg lx k < dg ly k + br then 1 else 0) (zs.set k ((dg lx k + W - dg ly k - br) % W)) := by
  obtain ⟨h1, h2, h3, h4, h5⟩ := h
  refine ⟨by rw [List.length_set]; exact h1, dig_set h2 _ (Nat.mod_lt _ hW), by split <;> omega, fun t ht => by rw [dg_set_ne _ _ (by omega)]; exact h4 t (by omega), ?_⟩
  rw [take_set_succ (by omega)]
  exact sub_step h3 (dg_lt hW hx k) (dg_lt hW hy k) (by rw [List.length_take]; omega) h5
theorem SbI.done {W : Nat} {lx ly zs : List Nat} {k br : Nat} (h : SbI W lx ly k br zs) (hk : k = lx.length) (hl : ly.length ≤ lx.length) (hle : val W ly ≤ val W lx) : val W zs = val W lx - val W ly := by
  obtain ⟨h1, h2, h3, h4, h5⟩ := h
  subst hk
  have h6 := val_lt h2
  rw [List.take_of_length_le (by omega), List.take_of_length_le hl, List.take_length] at h5
  rw [h1] at h6
  rcases Nat.eq_zero_or_pos br with rfl | hp
  · omega
  · obtain rfl : br = 1 := by omega
    omega
/-- an odd number below another: one step of the greatest common divisor by halves -/
theorem gcd_half {v w z m g : Nat} (hw : w % 2 = 1) (hlt : w < v) (hz : v - w = 2 ^ z * m) (h : Nat.gcd v w = g) : Nat.gcd m w = g := by
  rw [← h, ← Nat.gcd_sub_self_left (Nat.le_of_lt hlt), hz]
  refine (Nat.Coprime.gcd_mul_left_cancel m ?_).symm
  exact Nat.Coprime.pow_left z (by
    rw [Nat.coprime_iff_gcd_eq_one]
    show Nat.gcd 2 w = 1
    rw [Nat.gcd_rec, hw]; rfl)
theorem cop2 {w : Nat} (hw : w % 2 = 1) (z : Nat) : Nat.Coprime (2 ^ z) w := Nat.Coprime.pow_left z (by
    show Nat.gcd 2 w = 1
    rw [Nat.gcd_rec, hw]; rfl)
theorem gcd_twos {x y a b v w : Nat} (hx : x = 2 ^ a * v) (hy : y = 2 ^ b * w) (hv : v % 2 = 1) (hw : w % 2 = 1) : Nat.gcd x y = 2 ^ min a b * Nat.gcd v w := by
  subst hx; subst hy
  rcases Nat.le_total a b with h | h
  · obtain ⟨d, rfl⟩ : ∃ d, b = a + d := ⟨b - a, by omega⟩
    rw [Nat.min_eq_left h, Nat.pow_add, Nat.mul_assoc, Nat.gcd_mul_left]
    congr 1
    rw [Nat.gcd_comm, Nat.Coprime.gcd_mul_left_cancel w (cop2 hv d), Nat.gcd_comm]
  · obtain ⟨d, rfl⟩ : ∃ d, a = b + d := ⟨a - b, by omega⟩
    rw [Nat.min_eq_right h, Nat.pow_add, Nat.mul_assoc, Nat.gcd_mul_left]
    congr 1
    exact Nat.Coprime.gcd_mul_left_cancel v (cop2 hw d)
theorem ctz_spec (x : Nat) (h0 : x ≠ 0) (h : x < W64) : ∃ m, x = 2 ^ Lib.ctz 64 x * (2 * m + 1) ∧ Lib.ctz 64 x < 64 := by
  have := Lib.ctzFrom_spec 64 x (by omega) h
  unfold Lib.ctz
  rw [if_neg h0]
  exact this
end Go.Proofs.YtimjnkfcnpfoeaaGreatDoor

/-
  Bytes: Nat.Bytes.
-/
namespace Go.Proofs.YtimjnkfcnpfoeaaGreatDoor
open Go.RowKit
theorem heap_lt {u : World} {b : Nat} {o : Obj} (h : u.heap[b]? = some o) : b < u.heap.size := by
  rcases Nat.lt_or_ge b u.heap.size with hlt | hge
  · exact hlt
  · rw [Array.getElem?_eq_none hge] at h; cases h

theorem dg_digs {B : Nat} (hB : 2 ≤ B) (a k : Nat) : dg (digs B a) k = a / B ^ k % B := by
  induction k generalizing a with
  | zero =>
    by_cases h : a = 0
    · subst h; rw [digs_zero]; simp [dg]
    · rw [digs_pos hB h]; simp [dg]
  | succ k ih =>
    by_cases h : a = 0
    · subst h; rw [digs_zero]; simp [dg]
    · rw [digs_pos hB h]
      have : dg (a % B :: digs B (a / B)) (k + 1) = dg (digs B (a / B)) k := by simp [dg]
      rw [this, ih, Nat.pow_succ', Nat.div_div_eq_div_mul]
/-- the bytes, the lowest first -/
def byt (a : Nat) : List Nat := digs 256 a
theorem byt_length (a : Nat) : (byt a).length = (bl a + 7) / 8 := by
  have h1 := @digs_length_le 256 a ((bl a + 7) / 8) (by omega) (by
    refine Nat.lt_of_lt_of_le (lt_bl a) ?_
    rw [show (256 : Nat) = 2 ^ 8 from rfl, ← Nat.pow_mul]
    exact Nat.pow_le_pow_right (by omega) (by omega))
  rcases Nat.eq_zero_or_pos (bl a) with h | h
  · have := bl_eq_zero.1 h
    subst this
    rfl
  · have h2 : 256 ^ ((bl a + 7) / 8 - 1) ≤ a := by
      rw [show (256 : Nat) = 2 ^ 8 from rfl, ← Nat.pow_mul]
      exact bl_lt.1 (by omega)
    have := digs_length_gt (B := 256) (by omega) h2
    unfold byt
    omega
theorem byt_dig (a : Nat) : Dig 256 (byt a) := dig_digs (by omega) a
/-- the byte number k off the words -/
theorem word_byte (a k : Nat) : dg (digs W64 a) (k / 8) / 2 ^ (8 * (k % 8)) % 256 = dg (byt a) k := by
  unfold byt
  rw [dg_digs W64_ge, dg_digs (by omega)]
  have e1 : (256 : Nat) ^ k = W64 ^ (k / 8) * 2 ^ (8 * (k % 8)) := by
    rw [W64_pow, show (256 : Nat) = 2 ^ 8 from rfl, ← Nat.pow_mul, ← Nat.pow_mul, ← Nat.pow_add]
    congr 1
    omega
  rw [e1, ← Nat.div_div_eq_div_mul]
  generalize a / W64 ^ (k / 8) = x
  have hr : k % 8 < 8 := Nat.mod_lt _ (by omega)
  generalize k % 8 = r at hr
  have e2 : W64 = 2 ^ (8 * r) * (256 * 2 ^ (56 - 8 * r)) := by
    rw [W64_pow, show (256 : Nat) = 2 ^ 8 from rfl, ← Nat.pow_add, ← Nat.pow_add]
    congr 1
    omega
  rw [e2, Nat.mod_mul_right_div_self, Nat.mod_mul_right_mod]
def cells8 (l : List Nat) : Array Value := (l.map fun x => Value.int .u8 (x : Nat)).toArray
theorem cells8_get (l : List Nat) (i : Nat) : (cells8 l)[i]? = (l[i]?).map fun x => Value.int .u8 (x : Nat) := by
  unfold cells8; simp
theorem cells8_set (l : List Nat) (i y : Nat) : (cells8 l).setIfInBounds i (.int .u8 (y : Nat)) = cells8 (l.set i y) := by
  unfold cells8
  rw [List.setIfInBounds_toArray, List.map_set]
theorem cells_made8 (n : Nat) : madeCells (Value.int .u8 0).cells (n * 1) = cells8 (List.replicate n 0) := by
  unfold cells8 madeCells
  refine Array.ext (by simp) fun i h1 h2 => ?_
  simp [Value.cells, Nat.mod_one]
theorem make_u8 (n : Nat) (hn : n ≤ 1099511627776) (x : Int) (hx : x = n) (W : World) : (Instr.makeSlice 180 (.int .i64 x) (.int .i64 x)).run Tryz.prog W =
    .ok (.slice (some ⟨W.heap.size, 0, none⟩) n n) (W.alloc (.cells (cells8 (List.replicate n 0)) 5)) := by
  obtain ⟨i0, hi0, hz0, hz1, hz2⟩ := info_parts info_u8
  have hr := run_make (P := Tryz.prog) W 180 5 i0 (.int .u8 0) Tryz.underlying180 hi0 hz0 .i64 .i64 n n (by omega) (by omega) (by rw [hz2]; omega) (by omega)
  rw [hx]
  rw [hr, hz1]
  simp only [Int.toNat_natCast]
  rw [cells_made8]
/-- what is written after k rounds: the lowest k bytes at the end -/
def bytTo (l : List Nat) (k : Nat) : List Nat := List.replicate (l.length - k) 0 ++ (l.take k).reverse
theorem bytTo_len (l : List Nat) {k : Nat} (h : k ≤ l.length) : (bytTo l k).length = l.length := by
  unfold bytTo; simp; omega
theorem bytTo_set (l : List Nat) {k : Nat} (h : k < l.length) : (bytTo l k).set (l.length - 1 - k) (dg l k) = bytTo l (k + 1) := by
  unfold bytTo
  obtain ⟨m, hm⟩ : ∃ m, l.length - k = m + 1 := ⟨l.length - k - 1, by omega⟩
  rw [hm, show l.length - (k + 1) = m by omega, show l.length - 1 - k = m by omega, List.replicate_succ', List.append_assoc, List.set_append_right _ _ (by simp), List.length_replicate, Nat.sub_self]
  rw [List.take_succ_eq_append_getElem h, List.reverse_append, dg_eq h]
  rfl
theorem bytTo_all (l : List Nat) : bytTo l l.length = l.reverse := by unfold bytTo; simp
/-- a slice of bytes -/
def By (u : World) (A : Option Addr) (l : List Nat) : Prop :=
  l ≠ [] → ∃ b off cs fr, A = some ⟨b, off, none⟩ ∧ u.heap[b]? = some (.cells cs 5 fr) ∧ ∀ i x, l[i]? = some x → cs[off + i]? = some (.int .u8 (x : Nat))
theorem By.grow {u u' : World} {A : Option Addr} {l : List Nat} (h : By u A l) (hg : Grow u u') : By u' A l := fun hn => by
  obtain ⟨b, off, cs, fr, e, hb, hc⟩ := h hn
  exact ⟨b, off, cs, fr, e, (hg.block b (heap_lt hb)).trans hb, hc⟩
theorem By.cell {u : World} {A : Option Addr} {l : List Nat} (h : By u A l) {i : Nat} (hi : i < l.length) : ∃ b off, A = some ⟨b, off, none⟩ ∧ u.cell? ⟨b, off + i, none⟩ = some (.int .u8 (dg l i : Nat)) := by
  obtain ⟨b, off, cs, fr, e, hb, hc⟩ := h (fun h0 => by rw [h0] at hi; cases hi)
  refine ⟨b, off, e, ?_⟩
  rw [dg_eq hi, ← hc i _ (List.getElem?_eq_getElem hi)]
  exact cell_of_row u b (off + i) cs 5 fr hb
theorem By.of {u : World} {b : Nat} {l : List Nat} (h : Blk u b 5 (cells8 l)) : By u (some ⟨b, 0, none⟩) l := fun _ =>
  ⟨b, 0, cells8 l, (0, 0), rfl, h, fun i x hi => by rw [Nat.zero_add, cells8_get, hi]; rfl⟩

set_option maxHeartbeats 1000000 in
set_option maxRecDepth 100000 in
theorem nat_Bytes (a : Nat) (ha : bl a ≤ 1099511627760) (w : World) : Calls Tryz.prog 151 #[natV a] w fun e w' => ∃ A, e = .returned (.slice A (byt a).length (byt a).length) ∧ By w' A (byt a).reverse ∧ Grow w w' := by
  obtain ⟨n, hn⟩ : ∃ n, n = (byt a).length := ⟨_, rfl⟩
  have hnb : (n : Int) = ((bl a : Int) + 7) / 8 := by rw [hn, byt_length]; omega
  have hm : n ≤ 1099511627776 := by omega
  have hmk := make_u8 n hm
  have hbits : ∀ W, Calls Tryz.prog 119 #[natV a] W fun e w' => e = .returned (.int .i64 (bl a)) ∧ Grow W w' := fun W => nat_Bits a (by omega) W
  have hwords : ∀ W, Calls Tryz.prog 130 #[natV a] W fun e w' => ∃ A, e = .returned (.slice A (digs W64 a).length (digs W64 a).length) ∧ Own W w' A (digs W64 a) ∧ Grow W w' := fun W => nat_words a (by omega) W
  obtain ⟨m, hmw⟩ : ∃ m, m = (digs W64 a).length := ⟨_, rfl⟩
  rw [← hmw] at hwords
  rw [← hn]
  have Hbits := Lib.hid hbits
  have Hwords := Lib.hid hwords
  have Hn := Lib.hid hn
  have Hmw := Lib.hid hmw
  have hb1 : IntKind.i64.wrap ((bl a : Int) + 7) = (bl a : Int) + 7 := IntWalk.i64_in _ (by omega)
  have hdv : ((bl a : Int) + 7).tdiv 8 = (n : Int) := by rw [Int.tdiv_eq_ediv_of_nonneg (by omega)]; exact hnb.symm
  have hdv2 : ((bl a : Int) + 7) / 8 = (n : Int) := hnb.symm
  clear hbits hwords hn hmw hnb
  go_enter Tryz.func151, Tryz.ntmps151
  go_wp2_with (first
    | (go_at_call 119; ((with_reducible refine (Hbits.out _).mono ?_); rintro e w1 ⟨rfl, hg1⟩; have hmk1 := hmk (n : Int) rfl w1; have hbx := (Blk.new w 28 _).grow hg1; have hc1 := hbx.cell; have hlt1 := hbx.lt))
    | (go_at_call 130; ((with_reducible refine (Hwords.out _).mono ?_); rintro e w2 ⟨A2, rfl, hown, hg2⟩)))
  clear hmk hmk1 hc1 hdv hdv2 hb1
  have hgw1 : Grow w w1 := (Grow.alloc _ _).trans hg1
  have hgw2 : Grow w w2 := hgw1.trans ((Grow.alloc _ _).trans hg2)
  have hrow : Blk w2 w1.heap.size 5 (cells8 (List.replicate n 0)) := (Blk.new w1 5 _).grow hg2
  have Hown := Lib.hid hown
  have hsz2 := hg2.size
  rw [alloc_size] at hsz2
  clear hown
  go_loopw [16] (fun i wr => ∃ k : Nat, k ≤ n ∧ i = .int .i64 k ∧ Blk wr w1.heap.size 5 (cells8 (bytTo (byt a) k)) ∧ Own (w1.alloc (.cells (cells8 (List.replicate n 0)) 5)) wr A2 (digs W64 a) ∧ Grow w wr) (fun i _ => n - (intOf i).toNat)
  case atStart => exact ⟨0, Nat.zero_le _, rfl, by rw [show bytTo (byt a) 0 = List.replicate n 0 by unfold bytTo; rw [← Hn.out]; simp]; exact hrow, Hown.out, hgw2⟩
  case round =>
    obtain ⟨k, hk, rfl, hR, hO, hG⟩ := hrel
    have HR := Lib.hid hR
    have HO := Lib.hid hO
    have HG := Lib.hid hG
    clear hR hO hG
    rcases Nat.lt_or_ge k n with hlt | hge
    · have hkl : k < (byt a).length := by rw [← Hn.out]; exact hlt
      have hwk : k / 8 < (digs W64 a).length := by
        refine digs_length_gt W64_ge ?_
        have h1 : k < (bl a + 7) / 8 := by rw [← byt_length]; exact hkl
        rw [W64_pow, ← Nat.pow_mul]
        exact bl_lt.1 (by omega)
      obtain ⟨b2, hb2, rfl, hrow2⟩ := HO.out (by intro e; rw [e] at hwk; cases hwk)
      have hc2 := hrow2.cell (k / 8)
      rw [List.getElem?_eq_getElem hwk, ← dg_eq hwk] at hc2
      simp only [Option.map_some] at hc2
      have hxl : dg (digs W64 a) (k / 8) < 18446744073709551616 := dg_lt W64_pos (dig_digs W64_ge a) _
      have hby := word_byte a k
      have hbl := dg_lt (by omega) (byt_dig a) k
      have hst := bytTo_set (byt a) hkl
      rw [← Hn.out] at hst
      have hcs := HR.out.cell (n - 1 - k)
      have hfs := HR.out.frozen (n - 1 - k)
      rw [cells8_get, List.getElem?_eq_getElem (by rw [bytTo_len _ (by omega), ← Hn.out]; omega)] at hcs
      simp only [Option.map_some] at hcs
      generalize (bytTo (byt a) k)[n - 1 - k]'_ = old at hcs
      have hwm : k / 8 < m := by rw [Hmw.out]; exact hwk
      obtain ⟨q, hq⟩ : ∃ q, q = k / 8 := ⟨_, rfl⟩
      obtain ⟨r, hr⟩ : ∃ r, r = k % 8 := ⟨_, rfl⟩
      have hr8 : r < 8 := by omega
      rw [← hq] at hc2 hxl hby hwm
      rw [← hr] at hby
      obtain ⟨x, hx⟩ : ∃ x, x = dg (digs W64 a) q := ⟨_, rfl⟩
      obtain ⟨y, hy⟩ : ∃ y, y = dg (byt a) k := ⟨_, rfl⟩
      rw [← hx] at hc2 hxl hby
      rw [← hy] at hby hbl hst
      have hqi : (k : Int) / 8 = (q : Int) := by omega
      have hri : (k : Int) % 8 = (r : Int) := by omega
      have Hst := Lib.hid hst
      have Hby := Lib.hid hby
      have hne : w1.heap.size < b2 := by rw [alloc_size] at hb2; omega
      have hnn : (0 : Int) ≤ (n : Int) - 1 - (k : Int) := by omega
      have hnt : ((n : Int) - 1 - (k : Int)).toNat = n - 1 - k := by omega
      clear hq hr hx hy hst hby hwk
      go_wp2_with fail
      have hv : ((x : Int) / 2 ^ (8 * r) % 256) = (y : Int) := by rw [← Hby.out]; simp
      rw [hv]
      refine ⟨⟨k + 1, by omega, by go_num, ?_, fun _ => ⟨b2, hb2, rfl, hrow2.far (p := ⟨w1.heap.size, n - 1 - k, none⟩) (by show b2 ≠ w1.heap.size; omega) _⟩, HG.out.setCell (p := ⟨w1.heap.size, n - 1 - k, none⟩) hgw1.size _⟩, by simp [intOf]; omega⟩
      have := HR.out.set_ (n - 1 - k) (.int .u8 (y : Nat))
      rw [cells8_set, Hst.out] at this
      exact this
    · obtain rfl : k = n := by omega
      go_wp2_with fail
      go_ret
      refine ⟨_, rfl, ?_, HG.out⟩
      have := By.of HR.out
      rw [Hn.out, bytTo_all] at this
      exact this
end Go.Proofs.YtimjnkfcnpfoeaaGreatDoor
