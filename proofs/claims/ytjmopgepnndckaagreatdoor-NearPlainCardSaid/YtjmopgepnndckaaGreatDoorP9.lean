/-
  Contracts and laws: NatE.
-/
import Derived.Test.YtjmopgepnndckaaGreatDoorP8
set_option linter.unusedSimpArgs false
set_option linter.unusedVariables false
namespace Go.Proofs.YtjmopgepnndckaaGreatDoor
open Go.RowKit
theorem len_lt {a b : Nat} (h : (upper a).length < (upper b).length) : a < b := by
 have h1 : a / W64 < b / W64 := by
  rcases Nat.lt_or_ge (a / W64) (b / W64) with h2 | h2
  ·exact h2
  ·exfalso
   have hb := val_lt (dig_digs W64_ge (a / W64))
   rw [val_digs W64_ge] at hb
   have h3 : (digs W64 (b / W64)).length ≤ (digs W64 (a / W64)).length := digs_length_le W64_ge (Nat.lt_of_le_of_lt h2 hb)
   unfold upper at h
   omega
 rcases Nat.lt_or_ge a b with h2 | h2
 ·exact h2
 ·have := Nat.div_le_div_right (c := W64) h2
  omega
theorem val_split (a : Nat) : val W64 (upper a) = a / W64 := val_digs W64_ge _
theorem upper_lt {a b : Nat} (h : a / W64 < b / W64) : a < b := by
 rcases Nat.lt_or_ge a b with h2 | h2
 ·exact h2
 ·have := Nat.div_le_div_right (c := W64) h2
  omega
theorem low_lt {a b : Nat} (h : upper a = upper b) (hl : a % W64 < b % W64) : a < b := by
 have h1 : a / W64 = b / W64 := by rw [← val_split a, ← val_split b, h]
 have h2 := Nat.mod_add_div a W64
 have h3 := Nat.mod_add_div b W64
 rw [h1] at h2
 omega
theorem low_eq {a b : Nat} (h : upper a = upper b) (hl : a % W64 = b % W64) : a = b := by
 have h1 : a / W64 = b / W64 := by rw [← val_split a, ← val_split b, h]
 rw [← Nat.mod_add_div a W64, ← Nat.mod_add_div b W64, h1, hl]
set_option maxHeartbeats 1000000 in
set_option maxRecDepth 100000 in
theorem nat_Cmp_len (a b : Nat) (hne : (upper a).length ≠ (upper b).length) (w : World) : Calls Tryz.prog 123 #[natV a, natV b] w fun e w' => e = .returned (.int .i64 (cmpN a b)) ∧ Grow w w' := by
 have h1 := natMo_size a
 have h2 := natMo_size b
 have hq : (((natMo a).size : Int) != ((natMo b).size : Int)) = true := by simp; omega
 rcases Nat.lt_or_gt_of_ne hne with h | h
 ·rw [cmpN_lt (len_lt h)]
  have hd : decide ((natMo a).size < (natMo b).size) = true := by simp; omega
  clear h1 h2 hne h
  go_enter Tryz.func123, Tryz.ntmps123
  go_wp2
  go_ret
  exact ⟨rfl, (Grow.alloc _ _).trans (Grow.alloc _ _)⟩
 ·rw [cmpN_gt (len_lt h)]
  have hd : decide ((natMo a).size < (natMo b).size) = false := by simp; omega
  clear h1 h2 hne h
  go_enter Tryz.func123, Tryz.ntmps123
  go_wp2
  go_ret
  exact ⟨rfl, (Grow.alloc _ _).trans (Grow.alloc _ _)⟩
set_option maxHeartbeats 1000000 in
set_option maxRecDepth 100000 in
theorem nat_Cmp_same (a b : Nat) (hle : (upper a).length = (upper b).length) (ha : bl a ≤ 1099511627776) (w : World) : Calls Tryz.prog 123 #[natV a, natV b] w fun e w' => e = .returned (.int .i64 (cmpN a b)) ∧ Grow w w' := by
  obtain ⟨m, hm⟩ : ∃ m, m = (upper a).length := ⟨_, rfl⟩
  have h1 : (natMo a).size = 8 * m := by rw [natMo_size, hm]
  have h2 : (natMo b).size = 8 * m := by rw [natMo_size, hm, hle]
  have hub := upper_bits a
  have hmm : m ≤ 17179869184 := by omega
  have hq : (((8 * m : Nat) : Int) != ((8 * m : Nat) : Int)) = false := by simp
  obtain ⟨la, hla⟩ : ∃ la, la = upper a := ⟨_, rfl⟩
  obtain ⟨lb, hlb⟩ : ∃ lb, lb = upper b := ⟨_, rfl⟩
  have Hla := Lib.hid hla
  have Hlb := Lib.hid hlb
  have hlena : la.length = m := by rw [hla, hm]
  have hlenb : lb.length = m := by rw [hlb, hm, hle]
  have Hlena := Lib.hid hlena
  have Hlenb := Lib.hid hlenb
  have Hs1 := Lib.hid h1
  have Hs2 := Lib.hid h2
  clear hle ha hm hub hla hlb hlena hlenb
  go_enter Tryz.func123, Tryz.ntmps123
  go_wp2_with fail
  generalize hu : World.alloc (World.alloc w _) _ = u
  obtain ⟨hB, hG⟩ := bx_first [(_, _), (_, _)] w u hu
  simp only [numbered] at hB
  clear hu
  generalize w.heap.size + 1 = b3 at hB ⊢
  generalize w.heap.size = b2 at hB ⊢
  go_loopw [5] (fun i wr => ∃ k : Nat, k ≤ m ∧ i = .int .i64 (8 * (k : Int) - 8) ∧ la.drop k = lb.drop k ∧ Bx wr [(b2, 45, #[.int .u64 (natLo a), .string (natMo a)]), (b3, 45, #[.int .u64 (natLo b), .string (natMo b)])] ∧ Grow w wr) (fun i _ => (intOf i + 8).toNat)
  case atStart => exact ⟨m, Nat.le_refl _, rfl, by rw [List.drop_of_length_le (by rw [Hlena.out]; exact Nat.le_refl _), List.drop_of_length_le (by rw [Hlenb.out]; exact Nat.le_refl _)], hB, hG⟩
  case round =>
    obtain ⟨k, hk, rfl, hdr, hB2, hG2⟩ := hrel
    have Hdr := Lib.hid hdr
    clear hdr hB hG
    rcases Nat.eq_zero_or_pos k with rfl | hpos
    · have r := hB2.r
      simp only [BxR] at r
      have hne : ¬ (0 : Int) ≤ 8 * ((0 : Nat) : Int) - 8 := by omega
      go_wp2_with fail
      refine (nat_cmpWord (a % W64) (b % W64) _).mono ?_
      rintro e w1 ⟨rfl, hg⟩
      go_wp2_with fail
      go_ret
      refine ⟨congrArg (fun n => Ending.returned (.int .i64 n)) ?_, hG2.trans hg⟩
      have hu : upper a = upper b := by rw [← Hla.out, ← Hlb.out]; exact Hdr.out
      rcases Nat.lt_trichotomy (a % W64) (b % W64) with h | h | h
      · rw [cmpN_lt (low_lt hu h), cmpN_lt h]
      · rw [cmpN_eq (low_eq hu h), cmpN_eq h]
      · rw [cmpN_gt (low_lt hu.symm h), cmpN_gt h]
    · have hka : k - 1 < (upper a).length := by rw [← Hla.out, Hlena.out]; omega
      have hkb : k - 1 < (upper b).length := by rw [← Hlb.out, Hlenb.out]; omega
      obtain ⟨x, hx⟩ : ∃ x, x = dg la (k - 1) := ⟨_, rfl⟩
      obtain ⟨y, hy⟩ : ∃ y, y = dg lb (k - 1) := ⟨_, rfl⟩
      have hwx : ∀ W : World, Calls Tryz.prog 155 #[.string ((natMo a).extract (8 * k - 8) (8 * m))] W fun e w' => e = .returned (.int .u64 (x : Nat)) ∧ Grow W w' := by
        intro W
        rw [hx, dg_eq (by rw [Hla.out]; exact hka), ← Hs1.out, show 8 * k - 8 = 8 * (k - 1) by omega]
        have := word_at a (k - 1) hka _ (Lib.extract_to_end _ _) W
        simp only [Hla.out]
        exact this
      have hwy : ∀ W : World, Calls Tryz.prog 155 #[.string ((natMo b).extract (8 * k - 8) (8 * m))] W fun e w' => e = .returned (.int .u64 (y : Nat)) ∧ Grow W w' := by
        intro W
        rw [hy, dg_eq (by rw [Hlb.out]; exact hkb), ← Hs2.out, show 8 * k - 8 = 8 * (k - 1) by omega]
        have := word_at b (k - 1) hkb _ (Lib.extract_to_end _ _) W
        simp only [Hlb.out]
        exact this
      have Hwx := Lib.hid hwx
      have Hwy := Lib.hid hwy
      have Hx := Lib.hid hx
      have Hy := Lib.hid hy
      have hge : (0 : Int) ≤ 8 * (k : Int) - 8 := by omega
      have hge2 : (8 : Int) ≤ 8 * (k : Int) := by omega
      have hge3 : 8 * (k : Int) - 8 ≤ 8 * (m : Int) := by omega
      have htn : (8 * (k : Int) - 8).toNat = 8 * k - 8 := by omega
      clear hwx hwy hx hy hka hkb
      go_wp2_with fail
      refine wp_region_bx (w := w) allocs 11 [(0, 0), (0, 1), (0, 2), (0, 3), (0, 5), (0, 6), (0, 7), (0, 8), (1, 4), (1, 9), (0, 10)] (by kernel_rfl) (by kernel_rfl) hB2 hG2 ?_
      simp only [pickOps, List.getElem?_toArray, List.getElem?_cons_zero, List.getElem?_cons_succ]
      repeat (first
        | (apply gy
           · exact rfl
           · (rintro v ⟨-, hB, -⟩ N hN; have r := hB.r; simp only [BxR] at r; go_simp; exact hN))
        | (apply gm
           · exact rfl
           · (rintro v - N hN; go_simp; (first | ((with_reducible refine (Hwx.out _).mono ?_); rintro e w1 ⟨rfl, hb⟩; exact ⟨_, rfl, hN _ hb⟩) | ((with_reducible refine (Hwy.out _).mono ?_); rintro e w1 ⟨rfl, hb⟩; exact ⟨_, rfl, hN _ hb⟩)))))
      refine gend ?_
      rintro v ⟨-, hB3, hG3⟩
      clear hB2 hG2
      simp only [List.drop_succ_cons, List.drop_zero]
      go_wp2_with fail
      refine NoP.norm ?_
      by_cases hxy : x = y
      · subst hxy
        have hb : ((x : Int) != (x : Int)) = false := by simp
        go_wp2_with fail
        go_roundw
        case rel =>
          refine ⟨k - 1, by omega, by go_num, ?_, hB3, hG3⟩
          have h3 := Hdr.out
          have e1 : la.drop (k - 1) = dg la (k - 1) :: la.drop k := by
            rw [List.drop_eq_getElem_cons (by rw [Hlena.out]; omega), dg_eq (by rw [Hlena.out]; omega), show k - 1 + 1 = k by omega]
          have e2 : lb.drop (k - 1) = dg lb (k - 1) :: lb.drop k := by
            rw [List.drop_eq_getElem_cons (by rw [Hlenb.out]; omega), dg_eq (by rw [Hlenb.out]; omega), show k - 1 + 1 = k by omega]
          rw [e1, e2, h3, ← Hx.out, ← Hy.out]
        case measure => simp [intOf]; omega
      · have hb : ((x : Int) != (y : Int)) = true := by simp; omega
        go_wp2_with fail
        refine (nat_cmpWord x y _).mono ?_
        rintro e w1 ⟨rfl, hg⟩
        go_wp2_with fail
        go_ret
        refine ⟨congrArg (fun n => Ending.returned (.int .i64 n)) ?_, hG3.trans hg⟩
        have h3 := Hdr.out
        have hda : Dig W64 la := by rw [Hla.out]; exact dig_upper a
        have hdb : Dig W64 lb := by rw [Hlb.out]; exact dig_upper b
        have hk1 : k - 1 + 1 = k := by omega
        rcases Nat.lt_or_gt_of_ne hxy with h | h
        · have := val_lt_of_digit (la := la) (lb := lb) (k := k - 1) hda (by rw [Hlena.out, Hlenb.out]) (by rw [Hlena.out]; omega) (by rw [hk1]; exact h3) (by rw [← Hx.out, ← Hy.out]; exact h)
          rw [Hla.out, Hlb.out, val_split, val_split] at this
          rw [cmpN_lt h, cmpN_lt (upper_lt this)]
        · have := val_lt_of_digit (la := lb) (lb := la) (k := k - 1) hdb (by rw [Hlena.out, Hlenb.out]) (by rw [Hlenb.out]; omega) (by rw [hk1]; exact h3.symm) (by rw [← Hx.out, ← Hy.out]; exact h)
          rw [Hla.out, Hlb.out, val_split, val_split] at this
          rw [cmpN_gt h, cmpN_gt (upper_lt this)]
--! nat_Cmp = nat_Cmp _ _ SIDE _
theorem nat_Cmp (a b : Nat) (ha : bl a ≤ 1099511627776) (w : World) : Calls Tryz.prog 123 #[natV a, natV b] w fun e w' => e = .returned (.int .i64 (cmpN a b)) ∧ Grow w w' := by
 by_cases h : (upper a).length = (upper b).length
 ·exact nat_Cmp_same a b h ha w
 ·exact nat_Cmp_len a b h w
end Go.Proofs.YtjmopgepnndckaaGreatDoor
