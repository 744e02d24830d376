/-
  Contracts and laws: NatI NatK WordB.
-/
import Derived.Test.YtimjnkfcnpfoeaaGreatDoorV14
import Derived.BigQuiet
import Derived.StillTailTactics
set_option linter.unusedSimpArgs false
set_option linter.unusedVariables false
namespace Go.Proofs.YtimjnkfcnpfoeaaGreatDoor
open Go.RowKit
/-- where a division by one word stands: the words from k on are done -/
def DwI (W d : Nat) (l : List Nat) (k r : Nat) (zs : List Nat) : Prop :=
 zs.length = l.length ∧ Dig W zs ∧ (∀ i, i < k → dg zs i = dg l i) ∧ r < d ∧ val W (zs.drop k) * d + r = val W (l.drop k)
theorem drop_dg {l : List Nat} {k : Nat} (h : k < l.length) : l.drop k = dg l k :: l.drop (k + 1) := by
 rw [List.drop_eq_getElem_cons h, dg_eq h]
theorem dg_set_self {l : List Nat} {k : Nat} (h : k < l.length) (y : Nat) : dg (l.set k y) k = y := by
 unfold dg; rw [List.getElem?_set_self h]; rfl
theorem DwI.next {W d : Nat} {l : List Nat} {k r : Nat} {zs : List Nat} (h : DwI W d l (k + 1) r zs) (hk : k < l.length) (hd : Dig W l) (hW : 0 < W) :
  DwI W d l k ((r * W + dg l k) % d) (zs.set k ((r * W + dg l k) / d)) := by
 obtain ⟨h1, h2, h3, h4, h5⟩ := h
 have hk' : k < zs.length := by rw [h1]; exact hk
 have hx := dg_lt hW hd k
 refine ⟨by rw [List.length_set, h1], dig_set h2 _ (digit_lt h4 hx), fun i hi => ?_, Nat.mod_lt _ (by omega), ?_⟩
 ·rw [dg_set_ne _ _ (by omega)]; exact h3 i (by omega)
 ·rw [drop_dg (l := zs.set k _) (by rw [List.length_set]; exact hk'), dg_set_self hk', drop_dg hk, val_cons, val_cons, List.drop_set_of_lt (by omega), ← h5]
  have e := Nat.div_add_mod (r * W + dg l k) d
  generalize (r * W + dg l k) / d = q at *
  generalize (r * W + dg l k) % d = m at *
  generalize val W (zs.drop (k + 1)) = V at *
  grind
set_option maxHeartbeats 1000000 in
set_option maxRecDepth 100000 in
theorem nat_divWord (b : Nat) (l : List Nat) (d : Nat) (w0 w : World) (hr : Wrow w b l) (hdl : Dig W64 l) (hd0 : 0 < d) (hdW : d < W64) (hm : l.length ≤ 34359738368) (hg0 : Grow w0 w) (hb0 : w0.heap.size ≤ b) :
  Calls Tryz.prog 157 #[.slice (some ⟨b, 0, none⟩) l.length l.length, .int .u64 d] w fun e w' => ∃ zs : List Nat, e = .returned (.tuple #[.slice (some ⟨b, 0, none⟩) (trimL zs).length zs.length, .int .u64 (val W64 l % d : Nat)]) ∧ Wrow w' b zs ∧ zs.length = l.length ∧ Dig W64 zs ∧ val W64 zs = val W64 l / d ∧ Grow w0 w' := by
 obtain ⟨n, hn⟩ : ∃ n, n = l.length := ⟨_, rfl⟩
 rw [← hn] at hm
 rw [← hn]
 have hs0 : DwI W64 d l n 0 l := ⟨rfl, hdl, fun _ _ => rfl, hd0, by rw [hn, List.drop_length]; simp [val]⟩
 have Hs0 := Lib.hid hs0
 have Hr := Lib.hid hr
 have Hdl := Lib.hid hdl
 have Hn := Lib.hid hn
 have Hg0 := Lib.hid hg0
 clear hs0 hr hdl hn hg0
 go_enter Tryz.func157, Tryz.ntmps157
 go_wp2_with fail
 go_loopw [6, 7] (fun r i wr => ∃ (k r' : Nat) (zs : List Nat), k ≤ n ∧ i = .int .i64 ((k : Int) - 1) ∧ r = .int .u64 r' ∧ DwI W64 d l k r' zs ∧ Wrow wr b zs ∧ Grow w0 wr) (fun _ i _ => (intOf i + 1).toNat)
 case atStart => exact ⟨n, 0, l, Nat.le_refl _, rfl, rfl, Hs0.out, Hr.out, Hg0.out⟩
 case round =>
  obtain ⟨k, r', zs, hk, rfl, rfl, hI, hR, hG⟩ := hrel
  have HI := Lib.hid hI
  have HG := Lib.hid hG
  have HR := Lib.hid hR
  clear hI hG hR
  rcases Nat.eq_zero_or_pos k with rfl | hpos
  ·have hval : val W64 zs * d + r' = val W64 l := by have := HI.out.2.2.2.2; simpa using this
   have hres : val W64 l % d = r' ∧ val W64 l / d = val W64 zs := by
    have := HI.out.2.2.2.1
    rw [← hval, Nat.mul_comm, Nat.mul_add_mod, Nat.mod_eq_of_lt this, Nat.mul_add_div hd0, Nat.div_eq_of_lt this]
    simp
   have htrim : ∀ W : World, Grow wr W → Calls Tryz.prog 166 #[.slice (some ⟨b, 0, none⟩) n n] W fun e w' => e = .returned (.slice (some ⟨b, 0, none⟩) (trimL zs).length zs.length) ∧ W = w' := fun W hW => by
    have hl := HI.out.1
    rw [← Hn.out] at hl
    rw [← hl]
    exact nat_trim _ zs zs.length W (fun _ => ⟨_, _, rfl, (HR.out.grow hW).wds⟩) (Nat.le_refl _) (by omega)
   have Hres := Lib.hid hres
   have Htrim := Lib.hid htrim
   clear hval hres htrim
   have hc : decide ((0 : Int) ≤ ((0 : Nat) : Int) - 1) = false := by decide
   go_wp2_with (go_at_call 166; refine (Htrim.out _ (Grow.refl _)).mono ?_; rintro e w1 ⟨rfl, rfl⟩)
   go_ret2
   exact ⟨zs, by rw [Hres.out.1]; rfl, HR.out, by rw [Hn.out]; exact HI.out.1, HI.out.2.1, Hres.out.2.symm, HG.out⟩
  ·obtain ⟨j, rfl⟩ : ∃ j, k = j + 1 := ⟨k - 1, by omega⟩
   have hjn : j < n := by omega
   have hjl : j < l.length := by rw [← Hn.out]; exact hjn
   have hnx := HI.out.next hjl Hdl.out W64_pos
   have hjz : j < zs.length := by rw [HI.out.1]; exact hjl
   have hc := HR.out.cell j
   have hf := HR.out.frozen j
   rw [List.getElem?_eq_getElem hjz, ← dg_eq hjz, HI.out.2.2.1 j (by omega)] at hc
   have hx := dg_lt W64_pos Hdl.out j
   have hrd := HI.out.2.2.2.1
   obtain ⟨x, hxd⟩ : ∃ x, x = dg l j := ⟨_, rfl⟩
   rw [← hxd] at hc hx hnx
   have hdiv := bits_Div64 r' x d hdW hrd hx
   obtain ⟨q, hq⟩ : ∃ q, q = (r' * W64 + x) / d := ⟨_, rfl⟩
   obtain ⟨m, hm'⟩ : ∃ q, q = (r' * W64 + x) % d := ⟨_, rfl⟩
   rw [← hq, ← hm'] at hdiv hnx
   have Hdiv := Lib.hid hdiv
   have Hnx := Lib.hid hnx
   clear hdiv hnx hq hm' hxd
   have e1 : ((j + 1 : Nat) : Int) - 1 = (j : Nat) := by omega
   rw [e1]
   simp only [Option.map_some] at hc
   have hc0 : decide ((0 : Int) ≤ (j : Int)) = true := by simp
   go_wp2_with (go_at_call 187; ((with_reducible refine (Hdiv.out _).mono ?_); rintro e w1 ⟨rfl, hg⟩); have hc2 : w1.cell? ⟨b, j, none⟩ = some (.int .u64 x) := (hg.cell (p := ⟨b, j, none⟩) HR.out.lt).trans hc; have hf := (HR.out.grow hg).frozen j; have HR1 := Lib.hid (HR.out.grow hg); have HG1 := Lib.hid (HG.out.trans hg))
   go_roundw
   case rel => exact ⟨j, m, zs.set j q, by omega, by go_num, rfl, Hnx.out, HR1.out.set j q, HG1.out.setCell (p := ⟨b, j, none⟩) hb0 _⟩
   case measure => simp [intOf]
end Go.Proofs.YtimjnkfcnpfoeaaGreatDoor
namespace Go.Proofs.YtimjnkfcnpfoeaaGreatDoor
open Go.RowKit
set_option maxHeartbeats 2000000 in
set_option maxRecDepth 100000 in
theorem nat_guessWord (u2 u1 u0 v1 v0 : Nat) (h2 : u2 ≤ v1) (h1 : u1 < 18446744073709551616) (h0 : u0 < 18446744073709551616) (hv1 : v1 < 18446744073709551616) (hv0 : v0 < 18446744073709551616) (w : World) :
  Calls Tryz.prog 190 #[.int .u64 u2, .int .u64 u1, .int .u64 u0, .int .u64 v1, .int .u64 v0] w fun e w' => ∃ g : Nat, e = .returned (.int .u64 g) ∧ GW W64 u2 u1 u0 v1 v0 g ∧ Grow w w' := by
 rcases Nat.lt_or_ge u2 v1 with hlt | hge
 ·have hdv := bits_Div64 u2 u1 v1 hv1 hlt h1
  have hst : GI W64 u2 u1 u0 v1 v0 ((u2 * W64 + u1) / v1) (0 * W64 + (u2 * W64 + u1) % v1) := by rw [Nat.zero_mul, Nat.zero_add]; exact GI.quo W64_pos hlt h1 h0
  obtain ⟨g0, hg0⟩ : ∃ g, g = (u2 * W64 + u1) / v1 := ⟨_, rfl⟩
  obtain ⟨r0, hr0⟩ : ∃ g, g = (u2 * W64 + u1) % v1 := ⟨_, rfl⟩
  have hr1 : r0 < 18446744073709551616 := by rw [hr0]; exact Nat.lt_trans (Nat.mod_lt _ (by omega)) hv1
  rw [← hg0, ← hr0] at hdv hst
  have Hdv := Lib.hid hdv
  have Hst := Lib.hid (And.intro hst (And.intro hr1 (Nat.zero_le 1)))
  clear hdv hst hg0 hr0 hr1
  have hc : ((u2 : Int) == (v1 : Int)) = false := by simp; omega
  go_enter Tryz.func190, Tryz.ntmps190
  go_wp2_with (go_at_call 187; ((with_reducible refine (Hdv.out _).mono ?_); rintro e w1 ⟨rfl, hg1⟩))
  have Hw := Lib.hid hg1
  clear hg1 hlt hc
  go_loopw [11, 12, 13] (fun x y z wr => ∃ (g r o : Nat), x = .int .u64 g ∧ y = .int .u64 r ∧ z = .int .u64 o ∧ (GI W64 u2 u1 u0 v1 v0 g (o * W64 + r) ∧ r < 18446744073709551616 ∧ o ≤ 1) ∧ Grow w wr) (fun x _ _ _ => (intOf x).toNat)
  case atStart => exact ⟨_, _, _, rfl, rfl, rfl, Hst.out, Hw.out⟩
  case round =>
   clear Hst Hw
   obtain ⟨g, r, o, rfl, rfl, rfl, ⟨hI, hr, ho⟩, hG⟩ := hrel
   have hgW : g < 18446744073709551616 := hI.1
   have HI := Lib.hid hI
   have HG := Lib.hid hG
   clear hI hG
   rcases Nat.eq_zero_or_pos o with rfl | hpos
   ·rw [Nat.zero_mul, Nat.zero_add] at HI
    have hmul : ∀ W : World, Calls Tryz.prog 127 #[.int .u64 (g : Int), .int .u64 (v0 : Int)] W fun e w' => e = .returned (.tuple #[.int .u64 ((g * v0 / W64 : Nat) : Int), .int .u64 ((g * v0 % W64 : Nat) : Int)]) ∧ W = w' := by
     intro W
     refine (Tryz.bits_Mul64 g v0 hgW hv0 W).mono fun e w' ⟨he, hw⟩ => ⟨?_, hw.symm⟩
     rw [he]; rfl
    have htw := two_word (W := W64) (p := g * v0) (r := r) (u0 := u0) W64_pos h0
    obtain ⟨hi, hhi⟩ : ∃ q, q = g * v0 / W64 := ⟨_, rfl⟩
    obtain ⟨lo, hlo⟩ : ∃ q, q = g * v0 % W64 := ⟨_, rfl⟩
    rw [← hhi, ← hlo] at hmul htw
    have Hmul := Lib.hid hmul
    clear hmul hhi hlo
    by_cases hgo : g * v0 ≤ r * W64 + u0
    ·have hs := HI.out.stop hgo
     have HS := Lib.hid hs
     rw [htw] at hgo
     clear htw hs
     rcases Nat.lt_or_ge hi r with hhr | hhr
     ·have c1 : decide ((hi : Int) < (r : Int)) = true := by simp; omega
      clear hgo
      go_wp2_with (go_at_call 127; ((with_reducible refine (Hmul.out _).mono ?_); rintro e w1 ⟨rfl, rfl⟩))
      go_ret
      exact ⟨g, rfl, HS.out, HG.out⟩
     ·obtain ⟨rfl, hlu⟩ : hi = r ∧ lo ≤ u0 := by omega
      have c1 : decide ((hi : Int) < (hi : Int)) = false := by simp
      have c2 : decide ((lo : Int) ≤ (u0 : Int)) = true := by simp; omega
      have c3 : ((hi : Int) == (hi : Int)) = true := by simp
      clear hgo
      go_wp2_with (go_at_call 127; ((with_reducible refine (Hmul.out _).mono ?_); rintro e w1 ⟨rfl, rfl⟩))
      go_ret
      exact ⟨g, rfl, HS.out, HG.out⟩
    ·obtain ⟨hgp, hnx⟩ := HI.out.next hgo
     rw [htw] at hgo
     obtain ⟨k, rfl⟩ : ∃ k, g = k + 1 := ⟨g - 1, by omega⟩
     rw [Nat.add_sub_cancel] at hnx
     have hadd := run_Add64' r v1 0 (by omega) (r : Int) (v1 : Int) 0 rfl rfl rfl
     rw [Nat.add_zero] at hadd
     have hre : (r + v1) / 18446744073709551616 * W64 + (r + v1) % 18446744073709551616 = r + v1 := by rw [Nat.mul_comm]; exact Nat.div_add_mod _ _
     have hr1 : (r + v1) % 18446744073709551616 < 18446744073709551616 := Nat.mod_lt _ (by omega)
     have ho1 : (r + v1) / 18446744073709551616 ≤ 1 := by omega
     rw [← hre] at hnx
     obtain ⟨r0, hr0⟩ : ∃ g, g = (r + v1) % 18446744073709551616 := ⟨_, rfl⟩
     obtain ⟨o0, ho0⟩ : ∃ g, g = (r + v1) / 18446744073709551616 := ⟨_, rfl⟩
     rw [← hr0, ← ho0] at hnx hadd
     rw [← hr0] at hr1
     rw [← ho0] at ho1
     have Hnx := Lib.hid (And.intro hnx (And.intro hr1 ho1))
     have e1 : ((k + 1 : Nat) : Int) = (k : Int) + 1 := by omega
     rw [e1] at Hmul ⊢
     clear hnx hr0 ho0 hr1 ho1 hre htw e1
     rcases Nat.lt_or_ge r hi with hhr | hhr
     ·have c1 : decide ((hi : Int) < (r : Int)) = false := by simp; omega
      have c3 : ((hi : Int) == (r : Int)) = false := by simp; omega
      clear hgo
      go_wp2_with (go_at_call 127; ((with_reducible refine (Hmul.out _).mono ?_); rintro e w1 ⟨rfl, rfl⟩))
      go_roundw
      case rel => exact ⟨k, r0, o0, by go_num, rfl, rfl, Hnx.out, HG.out⟩
      case measure => simp [intOf]
     ·obtain ⟨rfl, hlu⟩ : hi = r ∧ u0 < lo := by omega
      have c1 : decide ((hi : Int) < (hi : Int)) = false := by simp
      have c2 : decide ((lo : Int) ≤ (u0 : Int)) = false := by simp; omega
      have c3 : ((hi : Int) == (hi : Int)) = true := by simp
      clear hgo
      go_wp2_with (go_at_call 127; ((with_reducible refine (Hmul.out _).mono ?_); rintro e w1 ⟨rfl, rfl⟩))
      go_roundw
      case rel => exact ⟨k, r0, o0, by go_num, rfl, rfl, Hnx.out, HG.out⟩
      case measure => simp [intOf]
   ·obtain rfl : o = 1 := by omega
    have hs := HI.out.over hv0 (by omega)
    have HS := Lib.hid hs
    clear hs
    go_wp2_with fail
    go_ret
    exact ⟨g, rfl, HS.out, HG.out⟩
 ·obtain rfl : v1 = u2 := by omega
  have hadd := run_Add64' u1 v1 0 (by omega) (u1 : Int) (v1 : Int) 0 rfl rfl rfl
  rw [Nat.add_zero] at hadd
  have hst : GI W64 v1 u1 u0 v1 v0 18446744073709551615 ((u1 + v1) / 18446744073709551616 * W64 + (u1 + v1) % 18446744073709551616) := by
   have := GI.full (W := W64) (u1 := u1) (u0 := u0) (v0 := v0) W64_pos (rfl : v1 = v1)
   rw [show W64 - 1 = 18446744073709551615 from rfl] at this
   rw [show (u1 + v1) / 18446744073709551616 * W64 + (u1 + v1) % 18446744073709551616 = u1 + v1 from by rw [Nat.mul_comm]; exact Nat.div_add_mod _ _]
   exact this
  have hr1 : (u1 + v1) % 18446744073709551616 < 18446744073709551616 := Nat.mod_lt _ (by omega)
  have ho1 : (u1 + v1) / 18446744073709551616 ≤ 1 := by omega
  obtain ⟨r0, hr0⟩ : ∃ g, g = (u1 + v1) % 18446744073709551616 := ⟨_, rfl⟩
  obtain ⟨o0, ho0⟩ : ∃ g, g = (u1 + v1) / 18446744073709551616 := ⟨_, rfl⟩
  rw [← hr0, ← ho0] at hst hadd
  rw [← hr0] at hr1
  rw [← ho0] at ho1
  have Hst := Lib.hid (And.intro hst (And.intro hr1 ho1))
  clear hst hr0 ho0 hr1 ho1
  have hc : ((v1 : Int) == (v1 : Int)) = true := by simp
  go_enter Tryz.func190, Tryz.ntmps190
  go_wp2_with fail
  have Hw := Lib.hid (Grow.refl w)
  clear hadd hc hge h2
  have h2 := hv1
  go_loopw [11, 12, 13] (fun x y z wr => ∃ (g r o : Nat), x = .int .u64 g ∧ y = .int .u64 r ∧ z = .int .u64 o ∧ (GI W64 v1 u1 u0 v1 v0 g (o * W64 + r) ∧ r < 18446744073709551616 ∧ o ≤ 1) ∧ Grow w wr) (fun x _ _ _ => (intOf x).toNat)
  case atStart => exact ⟨_, _, _, rfl, rfl, rfl, Hst.out, Hw.out⟩
  case round =>
   clear Hst Hw
   obtain ⟨g, r, o, rfl, rfl, rfl, ⟨hI, hr, ho⟩, hG⟩ := hrel
   have hgW : g < 18446744073709551616 := hI.1
   have HI := Lib.hid hI
   have HG := Lib.hid hG
   clear hI hG
   rcases Nat.eq_zero_or_pos o with rfl | hpos
   ·rw [Nat.zero_mul, Nat.zero_add] at HI
    have hmul : ∀ W : World, Calls Tryz.prog 127 #[.int .u64 (g : Int), .int .u64 (v0 : Int)] W fun e w' => e = .returned (.tuple #[.int .u64 ((g * v0 / W64 : Nat) : Int), .int .u64 ((g * v0 % W64 : Nat) : Int)]) ∧ W = w' := by
     intro W
     refine (Tryz.bits_Mul64 g v0 hgW hv0 W).mono fun e w' ⟨he, hw⟩ => ⟨?_, hw.symm⟩
     rw [he]; rfl
    have htw := two_word (W := W64) (p := g * v0) (r := r) (u0 := u0) W64_pos h0
    obtain ⟨hi, hhi⟩ : ∃ q, q = g * v0 / W64 := ⟨_, rfl⟩
    obtain ⟨lo, hlo⟩ : ∃ q, q = g * v0 % W64 := ⟨_, rfl⟩
    rw [← hhi, ← hlo] at hmul htw
    have Hmul := Lib.hid hmul
    clear hmul hhi hlo
    by_cases hgo : g * v0 ≤ r * W64 + u0
    ·have hs := HI.out.stop hgo
     have HS := Lib.hid hs
     rw [htw] at hgo
     clear htw hs
     rcases Nat.lt_or_ge hi r with hhr | hhr
     ·have c1 : decide ((hi : Int) < (r : Int)) = true := by simp; omega
      clear hgo
      go_wp2_with (go_at_call 127; ((with_reducible refine (Hmul.out _).mono ?_); rintro e w1 ⟨rfl, rfl⟩))
      go_ret
      exact ⟨g, rfl, HS.out, HG.out⟩
     ·obtain ⟨rfl, hlu⟩ : hi = r ∧ lo ≤ u0 := by omega
      have c1 : decide ((hi : Int) < (hi : Int)) = false := by simp
      have c2 : decide ((lo : Int) ≤ (u0 : Int)) = true := by simp; omega
      have c3 : ((hi : Int) == (hi : Int)) = true := by simp
      clear hgo
      go_wp2_with (go_at_call 127; ((with_reducible refine (Hmul.out _).mono ?_); rintro e w1 ⟨rfl, rfl⟩))
      go_ret
      exact ⟨g, rfl, HS.out, HG.out⟩
    ·obtain ⟨hgp, hnx⟩ := HI.out.next hgo
     rw [htw] at hgo
     obtain ⟨k, rfl⟩ : ∃ k, g = k + 1 := ⟨g - 1, by omega⟩
     rw [Nat.add_sub_cancel] at hnx
     have hadd := run_Add64' r v1 0 (by omega) (r : Int) (v1 : Int) 0 rfl rfl rfl
     rw [Nat.add_zero] at hadd
     have hre : (r + v1) / 18446744073709551616 * W64 + (r + v1) % 18446744073709551616 = r + v1 := by rw [Nat.mul_comm]; exact Nat.div_add_mod _ _
     have hr1 : (r + v1) % 18446744073709551616 < 18446744073709551616 := Nat.mod_lt _ (by omega)
     have ho1 : (r + v1) / 18446744073709551616 ≤ 1 := by omega
     rw [← hre] at hnx
     obtain ⟨r0, hr0⟩ : ∃ g, g = (r + v1) % 18446744073709551616 := ⟨_, rfl⟩
     obtain ⟨o0, ho0⟩ : ∃ g, g = (r + v1) / 18446744073709551616 := ⟨_, rfl⟩
     rw [← hr0, ← ho0] at hnx hadd
     rw [← hr0] at hr1
     rw [← ho0] at ho1
     have Hnx := Lib.hid (And.intro hnx (And.intro hr1 ho1))
     have e1 : ((k + 1 : Nat) : Int) = (k : Int) + 1 := by omega
     rw [e1] at Hmul ⊢
     clear hnx hr0 ho0 hr1 ho1 hre htw e1
     rcases Nat.lt_or_ge r hi with hhr | hhr
     ·have c1 : decide ((hi : Int) < (r : Int)) = false := by simp; omega
      have c3 : ((hi : Int) == (r : Int)) = false := by simp; omega
      clear hgo
      go_wp2_with (go_at_call 127; ((with_reducible refine (Hmul.out _).mono ?_); rintro e w1 ⟨rfl, rfl⟩))
      go_roundw
      case rel => exact ⟨k, r0, o0, by go_num, rfl, rfl, Hnx.out, HG.out⟩
      case measure => simp [intOf]
     ·obtain ⟨rfl, hlu⟩ : hi = r ∧ u0 < lo := by omega
      have c1 : decide ((hi : Int) < (hi : Int)) = false := by simp
      have c2 : decide ((lo : Int) ≤ (u0 : Int)) = false := by simp; omega
      have c3 : ((hi : Int) == (hi : Int)) = true := by simp
      clear hgo
      go_wp2_with (go_at_call 127; ((with_reducible refine (Hmul.out _).mono ?_); rintro e w1 ⟨rfl, rfl⟩))
      go_roundw
      case rel => exact ⟨k, r0, o0, by go_num, rfl, rfl, Hnx.out, HG.out⟩
      case measure => simp [intOf]
   ·obtain rfl : o = 1 := by omega
    have hs := HI.out.over hv0 (by omega)
    have HS := Lib.hid hs
    clear hs
    go_wp2_with fail
    go_ret
    exact ⟨g, rfl, HS.out, HG.out⟩
end Go.Proofs.YtimjnkfcnpfoeaaGreatDoor
namespace Go.Proofs.YtimjnkfcnpfoeaaGreatDoor
open Go.RowKit
theorem val_lt_len {B : Nat} {la lb : List Nat} (hB : 2 ≤ B) (h1 : Dig B la) (h3 : Tight lb) (h2 : Dig B lb) (h : la.length < lb.length) : val B la < val B lb := by
 have e1 := val_lt h1
 rcases (tight_iff h2).1 h3 with h4 | h4
 ·rw [h4] at h; simp at h
 ·exact Nat.lt_of_lt_of_le e1 (Nat.le_trans (Nat.pow_le_pow_right (by omega) (by omega)) h4)
theorem ret_i64 {x y : Int} (h : x = y) : Ending.returned (.int .i64 x) = .returned (.int .i64 y) := by rw [h]
set_option maxHeartbeats 1000000 in
theorem whole_trim (A : Option Addr) (l : List Nat) (c : Nat) (w : World) (h : Rd w A l) (hc : l.length ≤ c) (hm : c ≤ 9223372036854775807) :
  Calls Tryz.prog 193 #[.slice A l.length c] w fun e w' => e = .returned (.slice A (trimL l).length c) ∧ w = w' := by
 have H := Lib.hid h
 clear h
 obtain ⟨n, hn⟩ : ∃ n, n = l.length := ⟨_, rfl⟩
 rw [← hn]
 rw [← hn] at hc
 have Hn := Lib.hid hn
 clear hn
 go_enter Tryz.func193, Tryz.ntmps193
 go_wp2
 go_loop [0] (fun s => ∃ k : Nat, k ≤ n ∧ s = .slice A k c ∧ trimL (l.take k) = trimL l) (fun s => match s with | .slice _ k _ => k | _ => 0)
 case atStart => exact ⟨n, Nat.le_refl _, rfl, by rw [List.take_of_length_le (by rw [Hn.out]; exact Nat.le_refl _)]⟩
 case round =>
  obtain ⟨k, hk, rfl, ht⟩ := hrel
  have Ht := Lib.hid ht
  clear ht
  rcases Nat.eq_zero_or_pos k with rfl | hpos
  ·go_wp2
   go_ret
   refine ⟨?_, rfl⟩
   have : trimL l = [] := by rw [← Ht.out]; rfl
   rw [this]
   rfl
  ·have hkl : k - 1 < l.length := by rw [← Hn.out]; omega
   obtain ⟨b, off, rfl, hw⟩ := H.out (by rintro rfl; simp at hkl)
   have hcell := hw.cell hkl
   have Hw := Lib.hid hw
   clear hw
   have hsn : l.take k = l.take (k - 1) ++ [l[k - 1]] := by
    have := List.take_succ_eq_append_getElem hkl
    rw [show k - 1 + 1 = k by omega] at this
    exact this
   have Hsn := Lib.hid hsn
   clear hsn
   obtain ⟨x, hx⟩ : ∃ x, x = l[k - 1] := ⟨_, rfl⟩
   rw [← hx] at hcell
   have Hx := Lib.hid hx
   clear hx
   have hidx : (0 : Int) ≤ (k : Int) - 1 := by omega
   by_cases h0 : x = 0
   ·subst h0
    go_wp2
    go_round
    case rel => exact ⟨k - 1, by omega, by go_num, by rw [← Ht.out, Hsn.out, ← Hx.out, trimL_snoc_zero]⟩
    case measure => simp; omega
   ·have hb : ((x : Int) == 0) = false := by simpa using h0
    go_wp2
    go_ret
    refine ⟨?_, rfl⟩
    have : trimL l = l.take k := by rw [← Ht.out, Hsn.out, trimL_snoc _ (by rw [← Hx.out]; exact h0)]
    rw [this, List.length_take, Nat.min_eq_left (by omega)]
    rfl
set_option maxHeartbeats 1000000 in
set_option maxRecDepth 100000 in
theorem whole_compare_same (b1 o1 b2 o2 : Nat) (l1 l2 : List Nat) (c1 c2 : Nat) (w : World) (h1 : Wds w b1 o1 l1) (h2 : Wds w b2 o2 l2) (hd1 : Dig W64 l1) (hd2 : Dig W64 l2) (hl : l1.length = l2.length) (hm : l1.length ≤ 34359738368) :
  Calls Tryz.prog 162 #[.slice (some ⟨b1, o1, none⟩) l1.length c1, .slice (some ⟨b2, o2, none⟩) l2.length c2] w fun e w' => e = .returned (.int .i64 (cmpN (val W64 l1) (val W64 l2))) ∧ Grow w w' := by
 have H1 := Lib.hid h1
 have H2 := Lib.hid h2
 have Hd1 := Lib.hid hd1
 have Hd2 := Lib.hid hd2
 obtain ⟨n, hn⟩ : ∃ n, n = l1.length := ⟨_, rfl⟩
 rw [← hl, ← hn]
 rw [← hn] at hm
 have Hn1 := Lib.hid hn
 have Hn2 := Lib.hid (hn.trans hl)
 clear h1 h2 hd1 hd2 hl hn
 go_enter Tryz.func162, Tryz.ntmps162
 go_wp2_with fail
 go_loopw [5] (fun s wr => ∃ k : Nat, k ≤ n ∧ s = .int .i64 ((k : Int) - 1) ∧ l1.drop k = l2.drop k ∧ Grow w wr) (fun s _ => (intOf s + 1).toNat)
 case atStart => exact ⟨n, Nat.le_refl _, rfl, by rw [List.drop_of_length_le (Nat.le_of_eq Hn1.out.symm), List.drop_of_length_le (Nat.le_of_eq Hn2.out.symm)], Grow.refl _⟩
 case round =>
  obtain ⟨k, hk, rfl, hd, hG⟩ := hrel
  have Hd := Lib.hid hd
  clear hd
  rcases Nat.eq_zero_or_pos k with rfl | hpos
  ·have hc : decide ((0 : Int) ≤ ((0 : Nat) : Int) - 1) = false := by decide
   go_wp2_with fail
   go_ret
   refine ⟨ret_i64 ?_, hG⟩
   have := Hd.out
   simp only [List.drop_zero] at this
   rw [this, cmpN_eq rfl]
  ·obtain ⟨j, rfl⟩ : ∃ j, k = j + 1 := ⟨k - 1, by omega⟩
   have e1 : ((j + 1 : Nat) : Int) - 1 = (j : Nat) := by omega
   rw [e1]
   have hj1 : j < l1.length := by have := Hn1.out; omega
   have hj2 : j < l2.length := by have := Hn2.out; omega
   have hc1 := (H1.out.grow hG).cell hj1
   have hc2 := (H2.out.grow hG).cell hj2
   rw [← dg_eq hj1] at hc1
   rw [← dg_eq hj2] at hc2
   obtain ⟨p, hp⟩ : ∃ p, p = dg l1 j := ⟨_, rfl⟩
   obtain ⟨q, hq⟩ : ∃ q, q = dg l2 j := ⟨_, rfl⟩
   rw [← hp] at hc1
   rw [← hq] at hc2
   have Hp := Lib.hid hp
   have Hq := Lib.hid hq
   clear hp hq e1
   have hc0 : decide ((0 : Int) ≤ (j : Int)) = true := by simp
   rcases Nat.lt_trichotomy p q with hlt | heq | hgt
   ·have hb1 : ((p : Int) != (q : Int)) = true := by simp; omega
    have hb2 : decide ((p : Int) < (q : Int)) = true := by simp; omega
    go_wp2_with fail
    go_quiet (fail)
    go_wp2_with fail
    go_quiet (fail)
    go_wp2_with fail
    go_ret
    refine ⟨ret_i64 ?_, hG.trans ((grow_drewN _ _).trans (grow_drewN _ _))⟩
    have h1 := val_lt_of_digit Hd1.out (Hn1.out.symm.trans Hn2.out) hj1 Hd.out (by rw [← Hp.out, ← Hq.out]; exact hlt)
    rw [cmpN_lt h1]
   ·subst heq
    go_wp2_with fail
    go_quiet (fail)
    go_wp2_with fail
    exact ⟨⟨j, by omega, rfl, by rw [drop_dg hj1, drop_dg hj2, Hd.out, ← Hp.out, ← Hq.out], hG.trans (grow_drewN _ _)⟩, by simp [intOf]⟩
   ·have hb1 : ((p : Int) != (q : Int)) = true := by simp; omega
    have hb2 : decide ((p : Int) < (q : Int)) = false := by simp; omega
    go_wp2_with fail
    go_quiet (fail)
    go_wp2_with fail
    go_quiet (fail)
    go_wp2_with fail
    go_ret
    refine ⟨ret_i64 ?_, hG.trans ((grow_drewN _ _).trans (grow_drewN _ _))⟩
    have h1 := val_lt_of_digit Hd2.out (Hn2.out.symm.trans Hn1.out) hj2 Hd.out.symm (by rw [← Hp.out, ← Hq.out]; exact hgt)
    rw [cmpN_gt h1]
set_option maxHeartbeats 1000000 in
set_option maxRecDepth 100000 in
theorem whole_compare (b1 o1 b2 o2 : Nat) (l1 l2 : List Nat) (c1 c2 : Nat) (w : World) (h1 : Wds w b1 o1 l1) (h2 : Wds w b2 o2 l2) (hd1 : Dig W64 l1) (hd2 : Dig W64 l2) (ht1 : Tight l1) (ht2 : Tight l2) (hm : l1.length ≤ 34359738368) :
  Calls Tryz.prog 162 #[.slice (some ⟨b1, o1, none⟩) l1.length c1, .slice (some ⟨b2, o2, none⟩) l2.length c2] w fun e w' => e = .returned (.int .i64 (cmpN (val W64 l1) (val W64 l2))) ∧ Grow w w' := by
 rcases Nat.lt_trichotomy l1.length l2.length with h | h | h
 ·rw [cmpN_lt (val_lt_len W64_ge hd1 ht2 hd2 h)]
  generalize l1.length = x at *
  generalize l2.length = y at *
  clear h1 h2 hd1 hd2 ht1 ht2
  have hb : ((x : Int) != (y : Int)) = true := by simp; omega
  have hb2 : decide ((x : Int) < (y : Int)) = true := by simp; omega
  go_enter Tryz.func162, Tryz.ntmps162
  go_wp2_with fail
  go_ret
  exact ⟨rfl, Grow.refl _⟩
 ·exact whole_compare_same b1 o1 b2 o2 l1 l2 c1 c2 w h1 h2 hd1 hd2 h hm
 ·rw [cmpN_gt (val_lt_len W64_ge hd2 ht1 hd1 h)]
  generalize l1.length = x at *
  generalize l2.length = y at *
  clear h1 h2 hd1 hd2 ht1 ht2
  have hb : ((x : Int) != (y : Int)) = true := by simp; omega
  have hb2 : decide ((x : Int) < (y : Int)) = false := by simp; omega
  go_enter Tryz.func162, Tryz.ntmps162
  go_wp2_with fail
  go_ret
  exact ⟨rfl, Grow.refl _⟩
set_option maxHeartbeats 1000000 in
set_option maxRecDepth 100000 in
theorem whole_subtract (b1 o1 b2 o2 : Nat) (lx ly : List Nat) (c1 c2 : Nat) (w0 w : World) (h1 : Wds w b1 o1 lx) (h2 : Wds w b2 o2 ly) (hne : b1 ≠ b2) (hdx : Dig W64 lx) (hdy : Dig W64 ly) (hl : ly.length ≤ lx.length) (hle : val W64 ly ≤ val W64 lx) (hm : lx.length ≤ 34359738368)
  (hc : lx.length ≤ c1) (hcm : c1 ≤ 9223372036854775807) (hg0 : Grow w0 w) (hb0 : w0.heap.size ≤ b1) :
  Calls Tryz.prog 163 #[.slice (some ⟨b1, o1, none⟩) lx.length c1, .slice (some ⟨b2, o2, none⟩) ly.length c2] w fun e w' => ∃ zs : List Nat, e = .returned (.slice (some ⟨b1, o1, none⟩) (trimL zs).length c1) ∧ (Wds w' b1 o1 zs ∧ zs.length = lx.length ∧ Dig W64 zs ∧ val W64 zs = val W64 lx - val W64 ly ∧ Wds w' b2 o2 ly) ∧ Grow w0 w' := by
 obtain ⟨n, hn⟩ : ∃ n, n = lx.length := ⟨_, rfl⟩
 obtain ⟨m, hmm⟩ : ∃ n, n = ly.length := ⟨_, rfl⟩
 rw [← hn] at hm hc
 rw [← hn, ← hmm]
 have hmn : m ≤ n := by omega
 have Hs0 := Lib.hid (SbI.start W64 ly hdx)
 have H1 := Lib.hid h1
 have H2 := Lib.hid h2
 have Hdx := Lib.hid hdx
 have Hdy := Lib.hid hdy
 have Hn := Lib.hid hn
 have Hmm := Lib.hid hmm
 have Hl := Lib.hid hl
 have Hle := Lib.hid hle
 have Hg0 := Lib.hid hg0
 clear h1 h2 hdx hdy hn hmm hl hle hg0
 go_enter Tryz.func163, Tryz.ntmps163
 go_wp2_with fail
 go_loopw [5, 10] (fun r i wr => ∃ (k br : Nat) (zs : List Nat), k ≤ n ∧ i = .int .i64 k ∧ r = .int .u64 br ∧ SbI W64 lx ly k br zs ∧ Wds wr b1 o1 zs ∧ Wds wr b2 o2 ly ∧ Grow w0 wr) (fun _ i _ => n - (intOf i).toNat)
 case atStart => exact ⟨0, 0, lx, by omega, rfl, rfl, Hs0.out, H1.out, H2.out, Hg0.out⟩
 case round =>
  clear Hs0 H1 H2 Hg0
  obtain ⟨k, br, zs, hk, rfl, rfl, hI, hR, hR2, hG⟩ := hrel
  have hbr : br ≤ 1 := hI.2.2.1
  have HI := Lib.hid hI
  have HG := Lib.hid hG
  have HR := Lib.hid hR
  have HR2 := Lib.hid hR2
  clear hI hG hR hR2
  rcases Nat.lt_or_ge k n with hkn | hkn
  ·have hkl : k < lx.length := by rw [← Hn.out]; exact hkn
   have hkz : k < zs.length := by rw [HI.out.1]; exact hkl
   have hc1 := HR.out.cell hkz
   have hf1 := HR.out.frozen (o1 + k)
   rw [← dg_eq hkz, HI.out.2.2.2.1 k (Nat.le_refl _)] at hc1
   have hnx := HI.out.next W64_pos Hdx.out Hdy.out hkl
   obtain ⟨x, hx⟩ : ∃ x, x = dg lx k := ⟨_, rfl⟩
   obtain ⟨o, ho⟩ : ∃ o, o = dg ly k := ⟨_, rfl⟩
   rw [← hx, ← ho] at hnx
   rw [← hx] at hc1
   obtain ⟨sm, hsm⟩ : ∃ sm, sm = (x + W64 - o - br) % W64 := ⟨_, rfl⟩
   obtain ⟨t, ht⟩ : ∃ t, t = (if x < o + br then 1 else 0) := ⟨_, rfl⟩
   rw [← hsm, ← ht] at hnx
   have Hnx := Lib.hid hnx
   have Hset := Lib.hid (HR.out.set k sm hkz)
   have Hfar := Lib.hid (HR2.out.far (p := ⟨b1, o1 + k, none⟩) (fun e => hne e.symm) (.int .u64 (sm : Nat)))
   clear hnx hkz
   have hdk : decide ((k : Int) < (n : Int)) = true := by simp; omega
   by_cases hky : k < m
   ·have hc2 := HR2.out.cell (i := k) (by rw [← Hmm.out]; exact hky)
    rw [← dg_eq (by rw [← Hmm.out]; exact hky), ← ho] at hc2
    have hadd := run_Sub64' x o br hbr (x : Int) (o : Int) (br : Int) rfl rfl rfl
    rw [show (x + 18446744073709551616 - o - br) % 18446744073709551616 = sm from hsm.symm, show (if x < o + br then 1 else 0) = t from ht.symm] at hadd
    clear hsm ht hx ho
    go_wp2
    go_roundw
    case rel => exact ⟨k + 1, t, _, by omega, by go_num, rfl, Hnx.out, Hset.out, Hfar.out, HG.out.setCell (p := ⟨b1, o1 + k, none⟩) hb0 _⟩
    case measure => simp [intOf]; omega
   ·have hz : o = 0 := by rw [ho]; exact dg_over (by rw [← Hmm.out]; omega)
    have hadd := run_Sub64' x o br hbr (x : Int) 0 (br : Int) rfl (by rw [hz]; rfl) rfl
    rw [show (x + 18446744073709551616 - o - br) % 18446744073709551616 = sm from hsm.symm, show (if x < o + br then 1 else 0) = t from ht.symm] at hadd
    clear hsm ht hx ho hz
    go_wp2
    go_roundw
    case rel => exact ⟨k + 1, t, _, by omega, by go_num, rfl, Hnx.out, Hset.out, Hfar.out, HG.out.setCell (p := ⟨b1, o1 + k, none⟩) hb0 _⟩
    case measure => simp [intOf]; omega
  ·obtain rfl : n = k := by omega
   have htr : Calls Tryz.prog 193 #[.slice (some ⟨b1, o1, none⟩) n c1] wr fun e w' => e = .returned (.slice (some ⟨b1, o1, none⟩) (trimL zs).length c1) ∧ wr = w' := by
    have hl := HI.out.1
    rw [← Hn.out] at hl
    have := whole_trim (some ⟨b1, o1, none⟩) zs c1 wr (fun _ => ⟨_, _, rfl, HR.out⟩) (by omega) hcm
    rw [hl] at this
    exact this
   have Htr := Lib.hid htr
   clear htr
   have hdk : decide ((n : Int) < (n : Int)) = false := by simp
   go_wp2_with (go_at_call 193; ((with_reducible refine (Htr.out).mono ?_); rintro e w1 ⟨rfl, rfl⟩))
   go_ret
   exact ⟨zs, rfl, ⟨HR.out, by rw [HI.out.1, Hn.out], HI.out.2.1, HI.out.done Hn.out Hl.out Hle.out, HR2.out⟩, HG.out⟩
end Go.Proofs.YtimjnkfcnpfoeaaGreatDoor
