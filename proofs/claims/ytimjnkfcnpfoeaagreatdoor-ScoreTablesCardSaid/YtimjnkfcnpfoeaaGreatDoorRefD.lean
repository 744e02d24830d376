/-
  The document's numbers: NatDiv by one limb, NatGcd.
-/
import Derived.Test.YtimjnkfcnpfoeaaGreatDoorRefC
set_option linter.unusedSimpArgs false
namespace Go.Proofs.YtimjnkfcnpfoeaaGreatDoor
open Go.RowKit

theorem ln_one {b : Nat} (h0 : b ≠ 0) (h : b < W32) : ln b = 1 ∧ digs W32 b = [b] := by
  have e : digs W32 b = [b] := by
    rw [digs_pos W32_ge h0, Nat.mod_eq_of_lt h, Nat.div_eq_of_lt h]; rfl
  exact ⟨by unfold ln; rw [e]; rfl, e⟩
theorem Rn.nil (u : World) : Rn u (none, 0) 0 := ⟨Lim.nil _ _, Nat.le_refl _, by omega⟩
theorem Ret.nn {a b : Nat} {w : World} {P : Program} {f : FuncId} {args : Array Value} {W : World} (h : Calls P f args W (Ret (nnR a b) w)) : Calls P f args W fun e w' => ∃ x y : Ax, e = .returned (.tuple #[.slice x.1 (ln a) x.2, .slice y.1 (ln b) y.2]) ∧ Rn w' x a ∧ Rn w' y b ∧ Grow w w' :=
  h.mono fun _ _ ⟨x, he, ht, hg⟩ => ⟨x.1, x.2, he, ht.1, ht.2, hg⟩
/-- the divisions that are told -/
def RDiv (b : Nat) : Prop := b < W32
set_option maxHeartbeats 1000000 in
set_option maxRecDepth 100000 in
theorem ref1_NatDiv (x y : Ax) (a b : Nat) (w : World) (hx : Rn w x a) (hy : Rn w y b) (h0 : b ≠ 0) (hs : RDiv b) : Calls Tryz.prog 132 #[nvV x a, nvV y b] w (Ret (nnR (a / b) (a % b)) w) := by
  have hcmp := ref1_NatCmp x y a b w hx hy
  by_cases hlt : a < b
  · rw [cmpN_lt hlt] at hcmp
    have Hcmp := Lib.hid hcmp
    have Hx := Lib.hid hx
    clear hcmp hx hy
    rw [Nat.div_eq_of_lt hlt, Nat.mod_eq_of_lt hlt]
    go_enter Tryz.func132, Tryz.ntmps132
    go_wp2_with (go_at_call 63; ((with_reducible refine (Hcmp.out).mono ?_); rintro e w1 ⟨rfl, hg⟩))
    go_ret2
    exact ⟨((none, 0), x), rfl, ⟨Rn.nil _, Hx.out.grow hg⟩, hg⟩
  · have hcz : decide (cmpN a b < 0) = false := by unfold cmpN; rw [if_neg hlt]; split <;> rfl
    obtain ⟨hl1, hdg⟩ := ln_one h0 hs
    obtain ⟨A2, c2⟩ := y
    have hcell := hy.1.cell (i := 0) (by rw [hdg]; simp)
    rw [hdg] at hcell
    obtain ⟨b2, o2, rfl, hc2⟩ := hcell
    have hc2' : ∀ W, Grow w W → W.cell? ⟨b2, o2, none⟩ = some (.int .u32 (b : Nat)) := fun W hg => by
      have h1 := (hy.1.grow hg).cell (i := 0) (by rw [hdg]; simp)
      rw [hdg] at h1
      obtain ⟨b3, o3, e3, h3⟩ := h1
      injection e3 with e3
      injection e3 with e4 e5
      subst e4; subst e5
      exact h3
    have hone : ∀ W, Grow w W → Calls Tryz.prog 170 #[nvV x a, .int .u32 b] W fun e w' => ∃ y : Ax, e = .returned (.tuple #[nvV y (a / b), .int .u32 (a % b : Nat)]) ∧ Rn w' y (a / b) ∧ Grow W w' := fun W hg => ref1_one x a b W (hx.grow hg) (Nat.pos_of_ne_zero h0) hs
    have hmod : a % b < W64 := Nat.lt_of_lt_of_le (Nat.mod_lt _ (Nat.pos_of_ne_zero h0)) (Nat.le_of_lt (Nat.lt_of_lt_of_le hs (by unfold W32 W64; omega)))
    have hof := ref1_NatOf (a % b) hmod
    obtain ⟨m, hme⟩ : ∃ m, m = a % b := ⟨_, rfl⟩
    rw [← hme] at hone hof hmod ⊢
    unfold W64 at hmod
    show Calls Tryz.prog 132 #[nvV x a, .slice (some ⟨b2, o2, none⟩) (ln b) c2] w _
    rw [hl1]
    have hcmp' : Calls Tryz.prog 63 #[nvV x a, .slice (some ⟨b2, o2, none⟩) 1 c2] w fun e w' => e = .returned (.int .i64 (cmpN a b)) ∧ Grow w w' := by
      rw [← hl1]; exact hcmp
    have Hcmp := Lib.hid hcmp'
    have Hone := Lib.hid hone
    have Hof := Lib.hid hof
    have Hc2 := Lib.hid hc2'
    clear hcmp hcmp' hone hof hc2' hc2 hy hx hdg hl1 hs hme
    go_enter Tryz.func132, Tryz.ntmps132
    go_wp2_with (first
      | (go_at_call 63; ((with_reducible refine (Hcmp.out).mono ?_); rintro e w1 ⟨rfl, hg1⟩; have hcc := Hc2.out w1 hg1))
      | (go_at_call 170; ((with_reducible refine (Hone.out w1 hg1).mono ?_); rintro e w2 ⟨y2, rfl, hy2, hg2⟩))
      | (go_at_call 84; ((with_reducible refine (Hof.out _).mono ?_); rintro e w3 ⟨y3, rfl, hy3, hg3⟩)))
    go_ret2
    exact ⟨(y2, y3), rfl, ⟨hy2.grow hg3, hy3⟩, hg1.trans (hg2.trans hg3)⟩

set_option maxHeartbeats 1000000 in
set_option maxRecDepth 100000 in
theorem ref1_NatGcd (x y : Ax) (a b : Nat) (w : World) (hx : Rn w x a) (hy : Rn w y b) (hs : RDiv b) : Calls Tryz.prog 131 #[nvV x a, nvV y b] w (Ret (natR (Nat.gcd a b)) w) := by
  have Hx := Lib.hid hx
  have Hy := Lib.hid hy
  have Hs := Lib.hid hs
  obtain ⟨g, hg⟩ : ∃ g, g = Nat.gcd a b := ⟨_, rfl⟩
  rw [← hg]
  have Hg := Lib.hid hg.symm
  clear hx hy hs hg
  go_enter Tryz.func131, Tryz.ntmps131
  go_wp2_with fail
  go_loopg [0, 1] b (fun k s t wr => ∃ (x y : Ax) (a : Nat), s = nvV x a ∧ t = nvV y k ∧ Nat.gcd a k = g ∧ RDiv k ∧ Rn wr x a ∧ Rn wr y k ∧ Grow w wr)
  case atStart => exact ⟨x, y, a, rfl, rfl, Hg.out, Hs.out, Hx.out, Hy.out, Grow.refl _⟩
  case round =>
    obtain ⟨x, y, a, rfl, rfl, hgc, hs, hx, hy, hG⟩ := hrel
    rcases Nat.eq_zero_or_pos gk with h0 | h0
    · have hl : ¬ 0 < ln gk := by rw [h0, ln_zero]; omega
      have Hgc : Hid (a = g) := by rw [h0, Nat.gcd_zero_right] at hgc; exact Lib.hid hgc
      have Hr := Lib.hid hx
      clear hgc hs hx hy h0
      go_wp2_with fail
      go_ret
      exact ⟨x, by rw [← Hgc.out]; rfl, by rw [← Hgc.out]; exact Hr.out, hG⟩
    · have hl : 0 < ln gk := ln_pos.2 (by omega)
      have hdv := ref1_NatDiv x y a gk wr hx hy (by omega) hs
      obtain ⟨q, hq⟩ : ∃ q, q = a / gk := ⟨_, rfl⟩
      obtain ⟨m, hm⟩ : ∃ m, m = a % gk := ⟨_, rfl⟩
      have hmlt : m < gk := by rw [hm]; exact Nat.mod_lt _ h0
      have Hgc : Hid (Nat.gcd gk m = g) := by rw [hm]; exact Lib.hid (gcd_step a gk g hgc)
      rw [← hq, ← hm] at hdv
      have Hdv := Lib.hid (Ret.nn hdv)
      have Hy := Lib.hid hy
      have Hs : Hid (RDiv m) := Lib.hid (Nat.lt_trans hmlt hs)
      clear hgc hs hx hy hq hm hdv
      go_wp2_with (go_at_call 132; ((with_reducible refine (Hdv.out).mono ?_); rintro e w1 ⟨y1, y2, rfl, hr1, hr2, hg1⟩))
      go_roundg m
      case rel => exact ⟨y, y2, gk, rfl, rfl, Hgc.out, Hs.out, Hy.out.grow hg1, hr2, hG.trans hg1⟩
      case measure => exact hmlt
end Go.Proofs.YtimjnkfcnpfoeaaGreatDoor
