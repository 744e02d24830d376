/-
  Contracts and laws: NatI NatK.
-/
import Derived.Test.YtjmopgepnndckaaGreatDoorP12
set_option linter.unusedSimpArgs false
set_option linter.unusedVariables false
namespace Go.Proofs.YtjmopgepnndckaaGreatDoor
open Go.RowKit
/-- where a division by one word stands: the words from k on are done -/
def DwI (W d : Nat) (l : List Nat) (k r : Nat) (zs : List Nat) : Prop :=
 zs.length = l.length ∧ Dig W zs ∧ (∀ i, i < k → dg zs i = dg l i) ∧ r < d ∧ val W (zs.drop k) * d + r = val W (l.drop k)
theorem drop_dg {l : List Nat} {k : Nat} (h : k < l.length) : l.drop k = dg l k :: l.drop (k + 1) := by
 rw [List.drop_eq_getElem_cons h, dg_eq h]
theorem dg_set_self {l : List Nat} {k : Nat} (h : k < l.length) (y : Nat) : dg (l.set k y) k = y := by
 unfold dg; rw [List.getElem?_set_self h]; rfl
theorem DwI.next {W d : Nat} {l : List Nat} {k r : Nat} {zs : List Nat} (h : DwI W d l (k + 1) r zs) (hk : k < l.length) (hd : Dig W l) (hW : 0 < W) :
  DwI W d l k ((r * W + dg l k) % d) (zs.set k ((r * W + dg l k) / d)) := by
 obtain ⟨h1, h2, h3, h4, h5⟩ := h
 have hk' : k < zs.length := by rw [h1]; exact hk
 have hx := dg_lt hW hd k
 refine ⟨by rw [List.length_set, h1], dig_set h2 _ (digit_lt h4 hx), fun i hi => ?_, Nat.mod_lt _ (by omega), ?_⟩
 ·rw [dg_set_ne _ _ (by omega)]; exact h3 i (by omega)
 ·rw [drop_dg (l := zs.set k _) (by rw [List.length_set]; exact hk'), dg_set_self hk', drop_dg hk, val_cons, val_cons, List.drop_set_of_lt (by omega), ← h5]
  have e := Nat.div_add_mod (r * W + dg l k) d
  generalize (r * W + dg l k) / d = q at *
  generalize (r * W + dg l k) % d = m at *
  generalize val W (zs.drop (k + 1)) = V at *
  grind
set_option maxHeartbeats 1000000 in
set_option maxRecDepth 100000 in
theorem nat_divWord (b : Nat) (l : List Nat) (d : Nat) (w0 w : World) (hr : Wrow w b l) (hdl : Dig W64 l) (hd0 : 0 < d) (hdW : d < W64) (hm : l.length ≤ 34359738368) (hg0 : Grow w0 w) (hb0 : w0.heap.size ≤ b) :
  Calls Tryz.prog 196 #[.slice (some ⟨b, 0, none⟩) l.length l.length, .int .u64 d] w fun e w' => ∃ zs : List Nat, e = .returned (.tuple #[.slice (some ⟨b, 0, none⟩) (trimL zs).length zs.length, .int .u64 (val W64 l % d : Nat)]) ∧ Wrow w' b zs ∧ zs.length = l.length ∧ Dig W64 zs ∧ val W64 zs = val W64 l / d ∧ Grow w0 w' := by
 obtain ⟨n, hn⟩ : ∃ n, n = l.length := ⟨_, rfl⟩
 rw [← hn] at hm
 rw [← hn]
 have hs0 : DwI W64 d l n 0 l := ⟨rfl, hdl, fun _ _ => rfl, hd0, by rw [hn, List.drop_length]; simp [val]⟩
 have Hs0 := Lib.hid hs0
 have Hr := Lib.hid hr
 have Hdl := Lib.hid hdl
 have Hn := Lib.hid hn
 have Hg0 := Lib.hid hg0
 clear hs0 hr hdl hn hg0
 go_enter Tryz.func196, Tryz.ntmps196
 go_wp2_with fail
 go_loopw [6, 7] (fun r i wr => ∃ (k r' : Nat) (zs : List Nat), k ≤ n ∧ i = .int .i64 ((k : Int) - 1) ∧ r = .int .u64 r' ∧ DwI W64 d l k r' zs ∧ Wrow wr b zs ∧ Grow w0 wr) (fun _ i _ => (intOf i + 1).toNat)
 case atStart => exact ⟨n, 0, l, Nat.le_refl _, rfl, rfl, Hs0.out, Hr.out, Hg0.out⟩
 case round =>
  obtain ⟨k, r', zs, hk, rfl, rfl, hI, hR, hG⟩ := hrel
  have HI := Lib.hid hI
  have HG := Lib.hid hG
  have HR := Lib.hid hR
  clear hI hG hR
  rcases Nat.eq_zero_or_pos k with rfl | hpos
  ·have hval : val W64 zs * d + r' = val W64 l := by have := HI.out.2.2.2.2; simpa using this
   have hres : val W64 l % d = r' ∧ val W64 l / d = val W64 zs := by
    have := HI.out.2.2.2.1
    rw [← hval, Nat.mul_comm, Nat.mul_add_mod, Nat.mod_eq_of_lt this, Nat.mul_add_div hd0, Nat.div_eq_of_lt this]
    simp
   have htrim : ∀ W : World, Grow wr W → Calls Tryz.prog 184 #[.slice (some ⟨b, 0, none⟩) n n] W fun e w' => e = .returned (.slice (some ⟨b, 0, none⟩) (trimL zs).length zs.length) ∧ W = w' := fun W hW => by
    have hl := HI.out.1
    rw [← Hn.out] at hl
    rw [← hl]
    exact nat_trim _ zs zs.length W (fun _ => ⟨_, _, rfl, (HR.out.grow hW).wds⟩) (Nat.le_refl _) (by omega)
   have Hres := Lib.hid hres
   have Htrim := Lib.hid htrim
   clear hval hres htrim
   have hc : decide ((0 : Int) ≤ ((0 : Nat) : Int) - 1) = false := by decide
   go_wp2_with (go_at_call 184; refine (Htrim.out _ (Grow.refl _)).mono ?_; rintro e w1 ⟨rfl, rfl⟩)
   go_ret2
   exact ⟨zs, by rw [Hres.out.1]; rfl, HR.out, by rw [Hn.out]; exact HI.out.1, HI.out.2.1, Hres.out.2.symm, HG.out⟩
  ·obtain ⟨j, rfl⟩ : ∃ j, k = j + 1 := ⟨k - 1, by omega⟩
   have hjn : j < n := by omega
   have hjl : j < l.length := by rw [← Hn.out]; exact hjn
   have hnx := HI.out.next hjl Hdl.out W64_pos
   have hjz : j < zs.length := by rw [HI.out.1]; exact hjl
   have hc := HR.out.cell j
   have hf := HR.out.frozen j
   rw [List.getElem?_eq_getElem hjz, ← dg_eq hjz, HI.out.2.2.1 j (by omega)] at hc
   have hx := dg_lt W64_pos Hdl.out j
   have hrd := HI.out.2.2.2.1
   obtain ⟨x, hxd⟩ : ∃ x, x = dg l j := ⟨_, rfl⟩
   rw [← hxd] at hc hx hnx
   have hdiv := bits_Div64 r' x d hdW hrd hx
   obtain ⟨q, hq⟩ : ∃ q, q = (r' * W64 + x) / d := ⟨_, rfl⟩
   obtain ⟨m, hm'⟩ : ∃ q, q = (r' * W64 + x) % d := ⟨_, rfl⟩
   rw [← hq, ← hm'] at hdiv hnx
   have Hdiv := Lib.hid hdiv
   have Hnx := Lib.hid hnx
   clear hdiv hnx hq hm' hxd
   have e1 : ((j + 1 : Nat) : Int) - 1 = (j : Nat) := by omega
   rw [e1]
   simp only [Option.map_some] at hc
   have hc0 : decide ((0 : Int) ≤ (j : Int)) = true := by simp
   go_wp2_with (go_at_call 211; ((with_reducible refine (Hdiv.out _).mono ?_); rintro e w1 ⟨rfl, hg⟩); have hc2 : w1.cell? ⟨b, j, none⟩ = some (.int .u64 x) := (hg.cell (p := ⟨b, j, none⟩) HR.out.lt).trans hc; have hf := (HR.out.grow hg).frozen j; have HR1 := Lib.hid (HR.out.grow hg); have HG1 := Lib.hid (HG.out.trans hg))
   go_roundw
   case rel => exact ⟨j, m, zs.set j q, by omega, by go_num, rfl, Hnx.out, HR1.out.set j q, HG1.out.setCell (p := ⟨b, j, none⟩) hb0 _⟩
   case measure => simp [intOf]
end Go.Proofs.YtjmopgepnndckaaGreatDoor
namespace Go.Proofs.YtjmopgepnndckaaGreatDoor
open Go.RowKit
set_option maxHeartbeats 2000000 in
set_option maxRecDepth 100000 in
theorem nat_guessWord (u2 u1 u0 v1 v0 : Nat) (h2 : u2 ≤ v1) (h1 : u1 < 18446744073709551616) (h0 : u0 < 18446744073709551616) (hv1 : v1 < 18446744073709551616) (hv0 : v0 < 18446744073709551616) (w : World) :
  Calls Tryz.prog 214 #[.int .u64 u2, .int .u64 u1, .int .u64 u0, .int .u64 v1, .int .u64 v0] w fun e w' => ∃ g : Nat, e = .returned (.int .u64 g) ∧ GW W64 u2 u1 u0 v1 v0 g ∧ Grow w w' := by
 rcases Nat.lt_or_ge u2 v1 with hlt | hge
 ·have hdv := bits_Div64 u2 u1 v1 hv1 hlt h1
  have hst : GI W64 u2 u1 u0 v1 v0 ((u2 * W64 + u1) / v1) (0 * W64 + (u2 * W64 + u1) % v1) := by rw [Nat.zero_mul, Nat.zero_add]; exact GI.quo W64_pos hlt h1 h0
  obtain ⟨g0, hg0⟩ : ∃ g, g = (u2 * W64 + u1) / v1 := ⟨_, rfl⟩
  obtain ⟨r0, hr0⟩ : ∃ g, g = (u2 * W64 + u1) % v1 := ⟨_, rfl⟩
  have hr1 : r0 < 18446744073709551616 := by rw [hr0]; exact Nat.lt_trans (Nat.mod_lt _ (by omega)) hv1
  rw [← hg0, ← hr0] at hdv hst
  have Hdv := Lib.hid hdv
  have Hst := Lib.hid (And.intro hst (And.intro hr1 (Nat.zero_le 1)))
  clear hdv hst hg0 hr0 hr1
  have hc : ((u2 : Int) == (v1 : Int)) = false := by simp; omega
  go_enter Tryz.func214, Tryz.ntmps214
  go_wp2_with (go_at_call 211; ((with_reducible refine (Hdv.out _).mono ?_); rintro e w1 ⟨rfl, hg1⟩))
  have Hw := Lib.hid hg1
  clear hg1 hlt hc
  go_loopw [11, 12, 13] (fun x y z wr => ∃ (g r o : Nat), x = .int .u64 g ∧ y = .int .u64 r ∧ z = .int .u64 o ∧ (GI W64 u2 u1 u0 v1 v0 g (o * W64 + r) ∧ r < 18446744073709551616 ∧ o ≤ 1) ∧ Grow w wr) (fun x _ _ _ => (intOf x).toNat)
  case atStart => exact ⟨_, _, _, rfl, rfl, rfl, Hst.out, Hw.out⟩
  case round =>
   clear Hst Hw
   obtain ⟨g, r, o, rfl, rfl, rfl, ⟨hI, hr, ho⟩, hG⟩ := hrel
   have hgW : g < 18446744073709551616 := hI.1
   have HI := Lib.hid hI
   have HG := Lib.hid hG
   clear hI hG
   rcases Nat.eq_zero_or_pos o with rfl | hpos
   ·rw [Nat.zero_mul, Nat.zero_add] at HI
    have hmul : ∀ W : World, Calls Tryz.prog 180 #[.int .u64 (g : Int), .int .u64 (v0 : Int)] W fun e w' => e = .returned (.tuple #[.int .u64 ((g * v0 / W64 : Nat) : Int), .int .u64 ((g * v0 % W64 : Nat) : Int)]) ∧ W = w' := by
     intro W
     refine (Tryz.bits_Mul64 g v0 hgW hv0 W).mono fun e w' ⟨he, hw⟩ => ⟨?_, hw.symm⟩
     rw [he]; rfl
    have htw := two_word (W := W64) (p := g * v0) (r := r) (u0 := u0) W64_pos h0
    obtain ⟨hi, hhi⟩ : ∃ q, q = g * v0 / W64 := ⟨_, rfl⟩
    obtain ⟨lo, hlo⟩ : ∃ q, q = g * v0 % W64 := ⟨_, rfl⟩
    rw [← hhi, ← hlo] at hmul htw
    have Hmul := Lib.hid hmul
    clear hmul hhi hlo
    by_cases hgo : g * v0 ≤ r * W64 + u0
    ·have hs := HI.out.stop hgo
     have HS := Lib.hid hs
     rw [htw] at hgo
     clear htw hs
     rcases Nat.lt_or_ge hi r with hhr | hhr
     ·have c1 : decide ((hi : Int) < (r : Int)) = true := by simp; omega
      clear hgo
      go_wp2_with (go_at_call 180; ((with_reducible refine (Hmul.out _).mono ?_); rintro e w1 ⟨rfl, rfl⟩))
      go_ret
      exact ⟨g, rfl, HS.out, HG.out⟩
     ·obtain ⟨rfl, hlu⟩ : hi = r ∧ lo ≤ u0 := by omega
      have c1 : decide ((hi : Int) < (hi : Int)) = false := by simp
      have c2 : decide ((lo : Int) ≤ (u0 : Int)) = true := by simp; omega
      have c3 : ((hi : Int) == (hi : Int)) = true := by simp
      clear hgo
      go_wp2_with (go_at_call 180; ((with_reducible refine (Hmul.out _).mono ?_); rintro e w1 ⟨rfl, rfl⟩))
      go_ret
      exact ⟨g, rfl, HS.out, HG.out⟩
    ·obtain ⟨hgp, hnx⟩ := HI.out.next hgo
     rw [htw] at hgo
     obtain ⟨k, rfl⟩ : ∃ k, g = k + 1 := ⟨g - 1, by omega⟩
     rw [Nat.add_sub_cancel] at hnx
     have hadd := run_Add64' r v1 0 (by omega) (r : Int) (v1 : Int) 0 rfl rfl rfl
     rw [Nat.add_zero] at hadd
     have hre : (r + v1) / 18446744073709551616 * W64 + (r + v1) % 18446744073709551616 = r + v1 := by rw [Nat.mul_comm]; exact Nat.div_add_mod _ _
     have hr1 : (r + v1) % 18446744073709551616 < 18446744073709551616 := Nat.mod_lt _ (by omega)
     have ho1 : (r + v1) / 18446744073709551616 ≤ 1 := by omega
     rw [← hre] at hnx
     obtain ⟨r0, hr0⟩ : ∃ g, g = (r + v1) % 18446744073709551616 := ⟨_, rfl⟩
     obtain ⟨o0, ho0⟩ : ∃ g, g = (r + v1) / 18446744073709551616 := ⟨_, rfl⟩
     rw [← hr0, ← ho0] at hnx hadd
     rw [← hr0] at hr1
     rw [← ho0] at ho1
     have Hnx := Lib.hid (And.intro hnx (And.intro hr1 ho1))
     have e1 : ((k + 1 : Nat) : Int) = (k : Int) + 1 := by omega
     rw [e1] at Hmul ⊢
     clear hnx hr0 ho0 hr1 ho1 hre htw e1
     rcases Nat.lt_or_ge r hi with hhr | hhr
     ·have c1 : decide ((hi : Int) < (r : Int)) = false := by simp; omega
      have c3 : ((hi : Int) == (r : Int)) = false := by simp; omega
      clear hgo
      go_wp2_with (go_at_call 180; ((with_reducible refine (Hmul.out _).mono ?_); rintro e w1 ⟨rfl, rfl⟩))
      go_roundw
      case rel => exact ⟨k, r0, o0, by go_num, rfl, rfl, Hnx.out, HG.out⟩
      case measure => simp [intOf]
     ·obtain ⟨rfl, hlu⟩ : hi = r ∧ u0 < lo := by omega
      have c1 : decide ((hi : Int) < (hi : Int)) = false := by simp
      have c2 : decide ((lo : Int) ≤ (u0 : Int)) = false := by simp; omega
      have c3 : ((hi : Int) == (hi : Int)) = true := by simp
      clear hgo
      go_wp2_with (go_at_call 180; ((with_reducible refine (Hmul.out _).mono ?_); rintro e w1 ⟨rfl, rfl⟩))
      go_roundw
      case rel => exact ⟨k, r0, o0, by go_num, rfl, rfl, Hnx.out, HG.out⟩
      case measure => simp [intOf]
   ·obtain rfl : o = 1 := by omega
    have hs := HI.out.over hv0 (by omega)
    have HS := Lib.hid hs
    clear hs
    go_wp2_with fail
    go_ret
    exact ⟨g, rfl, HS.out, HG.out⟩
 ·obtain rfl : v1 = u2 := by omega
  have hadd := run_Add64' u1 v1 0 (by omega) (u1 : Int) (v1 : Int) 0 rfl rfl rfl
  rw [Nat.add_zero] at hadd
  have hst : GI W64 v1 u1 u0 v1 v0 18446744073709551615 ((u1 + v1) / 18446744073709551616 * W64 + (u1 + v1) % 18446744073709551616) := by
   have := GI.full (W := W64) (u1 := u1) (u0 := u0) (v0 := v0) W64_pos (rfl : v1 = v1)
   rw [show W64 - 1 = 18446744073709551615 from rfl] at this
   rw [show (u1 + v1) / 18446744073709551616 * W64 + (u1 + v1) % 18446744073709551616 = u1 + v1 from by rw [Nat.mul_comm]; exact Nat.div_add_mod _ _]
   exact this
  have hr1 : (u1 + v1) % 18446744073709551616 < 18446744073709551616 := Nat.mod_lt _ (by omega)
  have ho1 : (u1 + v1) / 18446744073709551616 ≤ 1 := by omega
  obtain ⟨r0, hr0⟩ : ∃ g, g = (u1 + v1) % 18446744073709551616 := ⟨_, rfl⟩
  obtain ⟨o0, ho0⟩ : ∃ g, g = (u1 + v1) / 18446744073709551616 := ⟨_, rfl⟩
  rw [← hr0, ← ho0] at hst hadd
  rw [← hr0] at hr1
  rw [← ho0] at ho1
  have Hst := Lib.hid (And.intro hst (And.intro hr1 ho1))
  clear hst hr0 ho0 hr1 ho1
  have hc : ((v1 : Int) == (v1 : Int)) = true := by simp
  go_enter Tryz.func214, Tryz.ntmps214
  go_wp2_with fail
  have Hw := Lib.hid (Grow.refl w)
  clear hadd hc hge h2
  have h2 := hv1
  go_loopw [11, 12, 13] (fun x y z wr => ∃ (g r o : Nat), x = .int .u64 g ∧ y = .int .u64 r ∧ z = .int .u64 o ∧ (GI W64 v1 u1 u0 v1 v0 g (o * W64 + r) ∧ r < 18446744073709551616 ∧ o ≤ 1) ∧ Grow w wr) (fun x _ _ _ => (intOf x).toNat)
  case atStart => exact ⟨_, _, _, rfl, rfl, rfl, Hst.out, Hw.out⟩
  case round =>
   clear Hst Hw
   obtain ⟨g, r, o, rfl, rfl, rfl, ⟨hI, hr, ho⟩, hG⟩ := hrel
   have hgW : g < 18446744073709551616 := hI.1
   have HI := Lib.hid hI
   have HG := Lib.hid hG
   clear hI hG
   rcases Nat.eq_zero_or_pos o with rfl | hpos
   ·rw [Nat.zero_mul, Nat.zero_add] at HI
    have hmul : ∀ W : World, Calls Tryz.prog 180 #[.int .u64 (g : Int), .int .u64 (v0 : Int)] W fun e w' => e = .returned (.tuple #[.int .u64 ((g * v0 / W64 : Nat) : Int), .int .u64 ((g * v0 % W64 : Nat) : Int)]) ∧ W = w' := by
     intro W
     refine (Tryz.bits_Mul64 g v0 hgW hv0 W).mono fun e w' ⟨he, hw⟩ => ⟨?_, hw.symm⟩
     rw [he]; rfl
    have htw := two_word (W := W64) (p := g * v0) (r := r) (u0 := u0) W64_pos h0
    obtain ⟨hi, hhi⟩ : ∃ q, q = g * v0 / W64 := ⟨_, rfl⟩
    obtain ⟨lo, hlo⟩ : ∃ q, q = g * v0 % W64 := ⟨_, rfl⟩
    rw [← hhi, ← hlo] at hmul htw
    have Hmul := Lib.hid hmul
    clear hmul hhi hlo
    by_cases hgo : g * v0 ≤ r * W64 + u0
    ·have hs := HI.out.stop hgo
     have HS := Lib.hid hs
     rw [htw] at hgo
     clear htw hs
     rcases Nat.lt_or_ge hi r with hhr | hhr
     ·have c1 : decide ((hi : Int) < (r : Int)) = true := by simp; omega
      clear hgo
      go_wp2_with (go_at_call 180; ((with_reducible refine (Hmul.out _).mono ?_); rintro e w1 ⟨rfl, rfl⟩))
      go_ret
      exact ⟨g, rfl, HS.out, HG.out⟩
     ·obtain ⟨rfl, hlu⟩ : hi = r ∧ lo ≤ u0 := by omega
      have c1 : decide ((hi : Int) < (hi : Int)) = false := by simp
      have c2 : decide ((lo : Int) ≤ (u0 : Int)) = true := by simp; omega
      have c3 : ((hi : Int) == (hi : Int)) = true := by simp
      clear hgo
      go_wp2_with (go_at_call 180; ((with_reducible refine (Hmul.out _).mono ?_); rintro e w1 ⟨rfl, rfl⟩))
      go_ret
      exact ⟨g, rfl, HS.out, HG.out⟩
    ·obtain ⟨hgp, hnx⟩ := HI.out.next hgo
     rw [htw] at hgo
     obtain ⟨k, rfl⟩ : ∃ k, g = k + 1 := ⟨g - 1, by omega⟩
     rw [Nat.add_sub_cancel] at hnx
     have hadd := run_Add64' r v1 0 (by omega) (r : Int) (v1 : Int) 0 rfl rfl rfl
     rw [Nat.add_zero] at hadd
     have hre : (r + v1) / 18446744073709551616 * W64 + (r + v1) % 18446744073709551616 = r + v1 := by rw [Nat.mul_comm]; exact Nat.div_add_mod _ _
     have hr1 : (r + v1) % 18446744073709551616 < 18446744073709551616 := Nat.mod_lt _ (by omega)
     have ho1 : (r + v1) / 18446744073709551616 ≤ 1 := by omega
     rw [← hre] at hnx
     obtain ⟨r0, hr0⟩ : ∃ g, g = (r + v1) % 18446744073709551616 := ⟨_, rfl⟩
     obtain ⟨o0, ho0⟩ : ∃ g, g = (r + v1) / 18446744073709551616 := ⟨_, rfl⟩
     rw [← hr0, ← ho0] at hnx hadd
     rw [← hr0] at hr1
     rw [← ho0] at ho1
     have Hnx := Lib.hid (And.intro hnx (And.intro hr1 ho1))
     have e1 : ((k + 1 : Nat) : Int) = (k : Int) + 1 := by omega
     rw [e1] at Hmul ⊢
     clear hnx hr0 ho0 hr1 ho1 hre htw e1
     rcases Nat.lt_or_ge r hi with hhr | hhr
     ·have c1 : decide ((hi : Int) < (r : Int)) = false := by simp; omega
      have c3 : ((hi : Int) == (r : Int)) = false := by simp; omega
      clear hgo
      go_wp2_with (go_at_call 180; ((with_reducible refine (Hmul.out _).mono ?_); rintro e w1 ⟨rfl, rfl⟩))
      go_roundw
      case rel => exact ⟨k, r0, o0, by go_num, rfl, rfl, Hnx.out, HG.out⟩
      case measure => simp [intOf]
     ·obtain ⟨rfl, hlu⟩ : hi = r ∧ u0 < lo := by omega
      have c1 : decide ((hi : Int) < (hi : Int)) = false := by simp
      have c2 : decide ((lo : Int) ≤ (u0 : Int)) = false := by simp; omega
      have c3 : ((hi : Int) == (hi : Int)) = true := by simp
      clear hgo
      go_wp2_with (go_at_call 180; ((with_reducible refine (Hmul.out _).mono ?_); rintro e w1 ⟨rfl, rfl⟩))
      go_roundw
      case rel => exact ⟨k, r0, o0, by go_num, rfl, rfl, Hnx.out, HG.out⟩
      case measure => simp [intOf]
   ·obtain rfl : o = 1 := by omega
    have hs := HI.out.over hv0 (by omega)
    have HS := Lib.hid hs
    clear hs
    go_wp2_with fail
    go_ret
    exact ⟨g, rfl, HS.out, HG.out⟩
end Go.Proofs.YtjmopgepnndckaaGreatDoor
