/-
  Contracts and laws: WordF.
-/
import Derived.Test.YtjmopgepnndckaaGreatDoorP23
import Derived.Deep.LoopGhost
import Derived.Deep.RegionWith
set_option linter.unusedSimpArgs false
set_option linter.unusedVariables false
namespace Go.Proofs.YtjmopgepnndckaaGreatDoor
open Go.RowKit
/-- behind the first two calls -/
structure BinS (u wr : World) (b1 : Nat) (z1 : List Nat) (b2 : Nat) (z2 : List Nat) (x y : Nat) : Prop where
 w1 : Wds wr b1 0 z1
 w2 : Wds wr b2 0 z2
 ne : b1 ≠ b2
 u1 : u.heap.size ≤ b1
 u2 : u.heap.size ≤ b2
 d1 : Dig W64 z1
 d2 : Dig W64 z2
 v1 : val W64 z1 = x
 v2 : val W64 z2 = y
 s1 : z1.length ≤ 17179869180
 s2 : z2.length ≤ 17179869180
 gr : Grow u wr
theorem BinS.down1 {u wr : World} {b1 b2 x y : Nat} {z1 z2 : List Nat} (h : BinS u wr b1 z1 b2 z2 x y) (hT : Tab u) (hx : x ≠ 0) :
  Calls Tryz.prog 200 #[.slice (some ⟨b1, 0, none⟩) z1.length z1.length] wr fun e w' => ∃ (o' c' : Nat) (zs : List Nat), e = .returned (.slice (some ⟨b1, o', none⟩) zs.length c') ∧ (Wds w' b1 o' zs ∧ Dig W64 zs ∧ Tight zs ∧ zs.length ≤ c' ∧ c' ≤ 17179869180 ∧ (∃ z, Tz (val W64 z1) z ∧ val W64 z1 = 2 ^ z * val W64 zs) ∧ val W64 zs % 2 = 1 ∧ Oth b1 wr w') ∧ Grow u w' :=
 down_trim b1 0 z1 z1.length u wr h.w1 h.d1 (by rw [h.v1]; exact hx) (Nat.le_refl _) h.s1 hT h.gr h.u1
theorem BinS.down2 {u wr : World} {b1 b2 x y a b : Nat} {z1 z2 : List Nat} (h : BinS u wr b1 z1 b2 z2 x y) (hT : Tab u) (hy : y ≠ 0) (ha : Tz x a) (hb : Tz y b) (o1 c1 : Nat) (l1 : List Nat) (w' : World)
  (hd : (Wds w' b1 o1 l1 ∧ Dig W64 l1 ∧ Tight l1 ∧ l1.length ≤ c1 ∧ c1 ≤ 17179869180 ∧ (∃ z, Tz (val W64 z1) z ∧ val W64 z1 = 2 ^ z * val W64 l1) ∧ val W64 l1 % 2 = 1 ∧ Oth b1 wr w') ∧ Grow u w') :
  Calls Tryz.prog 200 #[.slice (some ⟨b2, 0, none⟩) z2.length z2.length] w' fun e w'' => ∃ (o2 c2 : Nat) (l2 : List Nat) (g : Nat), e = .returned (.slice (some ⟨b2, o2, none⟩) l2.length c2) ∧ BinI u w'' b1 o1 c1 l1 b2 o2 c2 l2 g ∧ Nat.gcd x y = 2 ^ min a b * g := by
 obtain ⟨⟨k1, k2, k3, k4, k5, ⟨z, k6, k7⟩, k8, k9⟩, k10⟩ := hd
 refine (down_trim b2 0 z2 z2.length u w' (k9 _ _ _ h.ne.symm h.w2) h.d2 (by rw [h.v2]; exact hy) (Nat.le_refl _) h.s2 hT k10 h.u2).mono fun e w'' ⟨o2, c2, l2, he, ⟨d1, d2, d3, d4, d5, ⟨t, d6, d7⟩, d8, d9⟩, d10⟩ =>
  ⟨o2, c2, l2, Nat.gcd (val W64 l1) (val W64 l2), he, ⟨d9 _ _ _ h.ne k1, d1, h.ne, h.u1, h.u2, k2, d2, k3, d3, k8, d8, rfl, k4, d4, k5, d5, d10⟩, ?_⟩
 rw [h.v1] at k6 k7
 rw [h.v2] at d6 d7
 rw [ha.inj k6, hb.inj d6]
 exact gcd_twos k7 d7 k8 d8
theorem two_pow_le_of_gcd {x y a g : Nat} (h : Nat.gcd x y = 2 ^ a * g) (hx : x ≠ 0) (d : Nat) (hd : d ≤ a) : bl (g * 2 ^ d) ≤ bl x := by
 refine bl_mono ?_
 have h1 := Nat.gcd_le_left y (Nat.pos_of_ne_zero hx)
 have h2 : g * 2 ^ d ≤ g * 2 ^ a := Nat.mul_le_mul_left _ (Nat.pow_le_pow_right (by omega) hd)
 rw [h, Nat.mul_comm] at h1
 omega
theorem pow_lt_bl {x y a g : Nat} (h : Nat.gcd x y = 2 ^ a * g) (hx : x ≠ 0) : a < bl x := by
 have h1 := Nat.gcd_le_left y (Nat.pos_of_ne_zero hx)
 have h2 : Nat.gcd x y ≠ 0 := fun h0 => hx (Nat.eq_zero_of_gcd_eq_zero_left h0)
 rw [h] at h1 h2
 have h3 : g ≠ 0 := fun h0 => h2 (by rw [h0, Nat.mul_zero])
 exact bl_lt.2 (Nat.le_trans (Nat.le_mul_of_pos_right _ (Nat.pos_of_ne_zero h3)) h1)
theorem Grow.sz {w w' : World} (h : Grow w w') : w.heap.size ≤ w'.heap.size := Below.size h
theorem BinI.grow {u wr W : World} {bv ov cv : Nat} {lv : List Nat} {bw ow cw : Nat} {lw : List Nat} {g : Nat} (h : BinI u wr bv ov cv lv bw ow cw lw g) (hg : Grow wr W) : BinI u W bv ov cv lv bw ow cw lw g :=
 ⟨h.wv.grow hg, h.ww.grow hg, h.ne, h.uv, h.uw, h.dv, h.dw, h.tv, h.tw, h.av, h.aw, h.gc, h.sv, h.sw, h.mv, h.mw, h.gr.trans hg⟩
abbrev WL := Nat × List Nat
abbrev wlV (x : WL) : Value := .slice (some ⟨x.1, 0, none⟩) x.2.length x.2.length
def WLT (B a : Nat) (x : WL) (W : World) : Prop := B ≤ x.1 ∧ Wrow W x.1 x.2 ∧ Dig W64 x.2 ∧ val W64 x.2 = a ∧ x.2.length ≤ 17179869180
theorem WLT.grow {B a : Nat} {x : WL} {W W' : World} (hg : Grow W W') (h : WLT B a x W) : WLT B a x W' := ⟨h.1, h.2.1.grow hg, h.2.2⟩
theorem WLT.sz {B a : Nat} {x : WL} {W : World} (h : WLT B a x W) : x.1 + 1 ≤ W.heap.size := h.2.1.lt
theorem words_B (a : Nat) (ha : bl a ≤ 1099511627520) (B : Nat) (w : World) (hB : B ≤ w.heap.size) : Calls Tryz.prog 198 #[natV a] w (RetY (fun x : WL => wlV x) (WLT B a) w) :=
 (whole_words a ha w).mono fun e w' ⟨b, zs, he, ⟨h1, h2, h3, h4, h5⟩, hg⟩ => ⟨(b, zs), he, ⟨Nat.le_trans hB h1, h2, h3, h4, h5⟩, hg⟩
set_option maxHeartbeats 4000000 in
set_option maxRecDepth 100000 in
theorem whole_binary (x y : Nat) (hx : x ≠ 0) (hy : y ≠ 0) (hbx : bl x ≤ 1099511627520) (hby : bl y ≤ 1099511627520) (w : World) (hT : Tab w) :
  Calls Tryz.prog 179 #[natV x, natV y] w fun e w' => e = .returned (natV (Nat.gcd x y)) ∧ Grow w w' := by
 have Hw1 := Lib.hid (words_B x hbx)
 have Hw2 := Lib.hid (words_B y hby)
 have HT := Lib.hid hT
 have Hx := Lib.hid hx
 have Hy := Lib.hid hy
 have Hbx := Lib.hid hbx
 clear hT hx hy hbx hby
 go_enter Tryz.func179, Tryz.ntmps179
 refine en3 ?_
 intro u hG b4 b3 b2 hB hF
 refine wp_seq ?_
 obtain ⟨u0, hu0⟩ : ∃ x, x = u := ⟨_, rfl⟩
 have hB0 : Bx u0 _ := hu0 ▸ hB
 have hG0 : Grow w u0 := hu0 ▸ hG
 have hgu0 : Grow u0 u := hu0 ▸ Grow.refl u
 clear hu0
 refine rdC allocs [] [(0, 0), (0, 2), (1, 1), (1, 3), (0, 4)] hB hG fun K L hN hL => ?_
 refine gs ?_
 refine gxd (X := WL) (fun x => wlV x) (WLT u0.heap.size x) (fun _ _ _ hg h => h.grow hg) (fun x11 => ?_) (C := by (rintro v ⟨hgu, hB, hG, -⟩; exact Hw1.out _ _ (hgu0.trans hgu).sz))
 refine gxd (X := WL) (fun x => wlV x) (WLT (x11.1 + 1) y) (fun _ _ _ hg h => h.grow hg) (fun x13 => ?_) (C := by (rintro v ⟨⟨hgu, hB, hG, -⟩, hx11⟩; exact Hw2.out _ _ hx11.sz))
 refine gs ?_
 refine geC hL ?_
 clear hB hG hL L
 rintro u ⟨⟨⟨hgu, hB, hG, -⟩, hx11⟩, hx13⟩
 have hgr := hgu0.trans hgu
 clear hgu0
 clear hgu
 refine gtT ?_
 clear hN K
 obtain ⟨b11, z1⟩ := x11
 obtain ⟨b13, z2⟩ := x13
 have hS : BinS u0 u b11 z1 b13 z2 x y := by
  obtain ⟨p1, p2, p3, p4, p5⟩ := hx11
  obtain ⟨q1, q2, q3, q4, q5⟩ := hx13
  simp only at p1 p2 p3 p4 p5 q1 q2 q3 q4 q5
  exact ⟨p2.wds, q2.wds, by omega, p1, by omega, p3, q3, p4, q4, p5, q5, hgr⟩
 have HS := Lib.hid hS
 have HB0 := Lib.hid hB0
 have HG0 := Lib.hid hG0
 have hz1 := whole_zeros b11 0 z1 z1.length hS.d1 (by rw [hS.v1]; exact Hx.out) (by have := hS.s1; omega) u hS.w1 (HT.out.grow hG)
 have hz2 := whole_zeros b13 0 z2 z2.length hS.d2 (by rw [hS.v2]; exact Hy.out) (by have := hS.s2; omega) u hS.w2 (HT.out.grow hG)
 rw [hS.v1] at hz1
 rw [hS.v2] at hz2
 have Hz1 := Lib.hid hz1
 have Hz2 := Lib.hid hz2
 clear hS hB0 hG0 hz1 hz2 hx11 hx13 hgr
 simp only [wlV]
 refine wp_seq ?_
 refine wp_r0 ?_
 intro K hN
 go_wp2_with (first
  | (go_at_call_of 199 b11; ((with_reducible refine (Hz1.out).mono ?_); rintro e wz ⟨a, rfl, ha, -, hwz⟩; have hwz := hwz.symm; subst hwz; have Ha := Lib.hid ha; clear ha))
  | (go_at_call_of 199 b13; ((with_reducible refine (Hz2.out).mono ?_); rintro e wz ⟨b, rfl, hb, -, hwz⟩; have hwz := hwz.symm; subst hwz; have Hb := Lib.hid hb; clear hb; obtain ⟨t, ht⟩ : ∃ t : Nat, t = min a b := ⟨_, rfl⟩; have hmin : min (a : Int) (b : Int) = (t : Int) := (by omega); have Ht := Lib.hid ht; clear ht)))
 refine NoK.norm (hN _ _ ?_)
 clear hN K hmin
 have Hd1 := Lib.hid (HS.out.down1 (HT.out.grow HG0.out) Hx.out)
 have Hd2 := Lib.hid (HS.out.down2 (HT.out.grow HG0.out) Hy.out Ha.out Hb.out)
 clear Hz1 Hz2 HS
 refine then_norm ?_
 refine wp_seq ?_
 refine wp_r0 ?_
 intro K hN
 go_wp2_with (first
  | (go_at_call_of 200 b11; ((with_reducible refine (Hd1.out).mono ?_); rintro e wd ⟨o1, c1, l1, rfl, hd⟩; have Hdd := Lib.hid hd; clear hd))
  | (go_at_call_of 200 b13; ((with_reducible refine (Hd2.out o1 c1 l1 wd Hdd.out).mono ?_); rintro e we ⟨o2, c2, l2, g, rfl, hI, hgc⟩; have HI := Lib.hid hI; have Hgc := Lib.hid hgc; clear hI hgc)))
 refine NoK.norm (hN _ _ ?_)
 clear hN K Hd1 Hd2 Hdd hB hG
 rw [← Ht.out] at Hgc
 refine then_norm ?_
 refine wp_seq ?_
 refine wp_block ?_
 go_loopg [5, 6] (val W64 l1 + val W64 l2) (fun k s5 s6 wr => ∃ (bv ov cv : Nat) (lv : List Nat) (bw ow cw : Nat) (lw : List Nat), s5 = .slice (some ⟨bv, ov, none⟩) lv.length cv ∧ s6 = .slice (some ⟨bw, ow, none⟩) lw.length cw ∧ BinI u0 wr bv ov cv lv bw ow cw lw g ∧ k = val W64 lv + val W64 lw)
 case atStart => exact ⟨b11, o1, c1, l1, b13, o2, c2, l2, rfl, rfl, HI.out, rfl⟩
 case round =>
  clear HI
  obtain ⟨bv, ov, cv, lv, bw, ow, cw, lw, rfl, rfl, hI, hgk⟩ := hrel
  obtain ⟨u, rfl⟩ : ∃ x, x = wr := ⟨_, rfl⟩
  have hB := HB0.out.grow hI.gr
  have hG := HG0.out.trans hI.gr
  have HI := Lib.hid hI
  have Hgk := Lib.hid hgk
  clear hI hgk
  rcases Nat.lt_trichotomy (val W64 lv) (val W64 lw) with hlt | heq | hgt
  ·have hcm := HI.out.cmp
   rw [cmpN_lt hlt] at hcm
   have Hcm := Lib.hid hcm
   have Hsub := Lib.hid (fun W hg => (HI.out.swap.grow (W := W) hg).sub hlt)
   have Hdn := Lib.hid (HI.out.swap.down hlt (HT.out.grow HG0.out))
   clear hcm
   refine wp_block ?_
   refine wp_seq (rsE allocs [0, 0, 1, 0] hB hG fun L hL => ?_)
   refine gs ?_
   refine gmd (C := fun v ⟨hgu, hB, hG, _⟩ => Hcm.out _ hgu) ?_
   refine gs ?_
   refine geT hL ?_
   clear hB hG hL L
   rintro u ⟨hgu, hB, hG, -⟩
   have hgc := hgu
   clear hgu
   refine wp_seq ?_
   refine r0T ?_
   refine wp_cond_false (rfl) ?_
   refine wp_skip ?_
   refine then_norm ?_
   refine wp_seq ?_
   refine r0T ?_
   refine wp_cond_true (rfl) ?_
   refine r0N ?_
   refine wp_r0 ?_
   intro K hN
   go_wp2_with (first
    | (go_at_call 202; ((with_reducible refine (Hsub.out _ hgc).mono ?_); rintro e ws ⟨zs, rfl, hs⟩; have Hs := Lib.hid hs; clear hs))
    | (go_at_call 200; ((with_reducible refine (Hdn.out ws zs Hs.out).mono ?_); rintro e wt ⟨o3, c3, z3, rfl, hI2, hlt2⟩; have HI2 := Lib.hid hI2; clear hI2)))
   refine NoK.norm (hN _ _ ?_)
   clear hN K
   refine blk_norm ?_
   refine then_norm ?_
   go_step
   go_roundg (val W64 z3 + val W64 lv)
   case measure => rw [Hgk.out]; omega
   case rel => exact ⟨bw, o3, c3, z3, bv, ov, cv, lv, rfl, rfl, HI2.out, rfl⟩
  ·have hcm := HI.out.cmp
   rw [cmpN_eq heq] at hcm
   have Hcm := Lib.hid hcm
   have hgv : g = val W64 lv := by rw [← HI.out.gc, ← heq, Nat.gcd_self]
   have hnum : ∀ W, Grow u W → Calls Tryz.prog 203 #[.slice (some ⟨bv, ov, none⟩) lv.length cv] W fun e w' => e = .returned (natV g) ∧ Grow W w' := fun W hg => by
    rw [hgv]
    exact whole_number bv ov lv cv HI.out.dv (by have := HI.out.sv; have := HI.out.mv; omega) W (HI.out.wv.grow hg)
   have Hnum := Lib.hid hnum
   clear hcm hgv hnum heq
   refine wp_block ?_
   refine wp_seq (rsE allocs [0, 0, 1, 0] hB hG fun L hL => ?_)
   refine gs ?_
   refine gmd (C := fun v ⟨hgu, hB, hG, _⟩ => Hcm.out _ hgu) ?_
   refine gs ?_
   refine geT hL ?_
   clear hB hG hL L
   rintro u ⟨hgu, hB, hG, -⟩
   have hgc := hgu
   clear hgu
   refine wp_seq ?_
   refine r0T ?_
   refine wp_cond_true (rfl) ?_
   refine wp_exit ?_
   refine then_exit ?_
   refine blk_pass (by decide) ?_
   refine then_exit ?_
   refine blk_exit ?_
   refine then_norm ?_
   refine wp_seq (rsC allocs [0, 1, 2] hB hG fun K L hN hL => ?_)
   refine gs ?_
   refine gmd (C := fun v ⟨hgu, hB, hG, _⟩ => Hnum.out _ (hgc.trans hgu)) ?_
   refine gaa (newObj_Nat _ _ _ _ _) fun b9 hb9 hn9 => ?_
   replace hF := hF.n1 [] hB hG hb9 hn9
   refine geC hL ?_
   clear hB hG hL L
   rintro u ⟨⟨hgu, hB, hG, -⟩, h9⟩
   replace hB := hB.cons' h9
   clear h9
   clear hgc Hcm
   clear hb9 hn9
   clear hgu
   refine gtT ?_
   clear hN K
   refine st hB hF hG 0 0 [_, _] ?_
   clear hB hG
   intro u hB hG
   refine wp_seq ?_
   refine wp_block ?_
   have htl := pow_lt_bl Hgc.out Hx.out
   have htm : t ≤ 1099511627520 := Nat.le_trans (Nat.le_of_lt htl) Hbx.out
   clear htl
   go_loopw [7] (fun s wr => ∃ (d : Nat) (q : Int), s = .int .i64 q ∧ ((d : Int) + max q 0 = t ∧ -65536 ≤ q) ∧ Bx wr [(b9, 45, #[.int .u64 (natLo (g * 2 ^ d)), .string (natMo (g * 2 ^ d))]), (b2, 45, #[.int .u64 (natLo x), .string (natMo x)]), (b3, 45, #[.int .u64 (natLo y), .string (natMo y)]), (b4, 45, #[.int .u64 0, .string ⟨#[]⟩])] ∧ Grow w wr) (fun s _ => (intOf s).toNat)
   case atStart => exact ⟨0, t, rfl, ⟨by omega, by omega⟩, by rw [Nat.pow_zero, Nat.mul_one]; exact hB, hG⟩
   case round =>
    clear hB hG
    obtain ⟨d, q, rfl, ⟨hq1, hq2⟩, hB, hG⟩ := hrel
    obtain ⟨u, rfl⟩ : ∃ x, x = wr := ⟨_, rfl⟩
    by_cases hq : 0 < q
    ·obtain ⟨sh, hsh⟩ : ∃ sh : Nat, (sh : Int) = min q 65536 := ⟨(min q 65536).toNat, by omega⟩
     have f1 : min q 65536 = (sh : Int) := hsh.symm
     have hsl := two_pow_le_of_gcd Hgc.out Hx.out d (by omega)
     obtain ⟨V0, hV0⟩ : ∃ V, V = g * 2 ^ d := ⟨_, rfl⟩
     obtain ⟨V1, hV1⟩ : ∃ V, V = g * 2 ^ (d + sh) := ⟨_, rfl⟩
     have hshift : ∀ W, Calls Tryz.prog 204 #[natV V0, .int .i64 sh] W fun e w' => e = .returned (natV V1) ∧ Grow W w' := fun W => by
      have := nat_Shift_up (g * 2 ^ d) sh (by have := Hbx.out; omega) (by omega) W
      rw [Nat.mul_assoc, ← Nat.pow_add, ← hV0, ← hV1] at this
      exact this
     rw [← hV0] at hB
     have Hshift := Lib.hid hshift
     have HV1 := Lib.hid hV1
     have Hsh := Lib.hid hsh
     clear hshift hV0 hV1 hsl hsh
     have c1 : decide (0 < q) = true := by simpa using hq
     refine wp_seq ?_
     refine r0T ?_
     refine wp_cond_true (rfl) ?_
     refine wp_skip ?_
     refine then_norm ?_
     refine wp_seq ?_
     refine wp_block ?_
     refine rsC allocs [0, 0, 0, 1] hB hG fun K L hN hL => ?_
     refine gs ?_
     refine gmw (C := fun v => Hshift.out _) ?_
     refine geC hL ?_
     clear hB hG hL L
     rintro u ⟨-, hB, hG, -⟩
     refine gt ?_
     clear hN K
     refine st hB hF hG 0 0 [_, _] ?_
     clear hB hG
     intro u hB hG
     refine blk_norm ?_
     refine then_norm ?_
     refine r0E ?_
     refine then_norm ?_
     go_roundw
     case rel => exact ⟨d + sh, q - 65536, by go_num, ⟨by have := Hsh.out; omega, by omega⟩, by rw [← HV1.out]; exact hB, hG⟩
     case measure => simp [intOf]; omega
    ·have c1 : decide (0 < q) = false := by simpa using hq
     replace hq := Int.not_lt.1 hq
     obtain rfl : t = d := by omega
     refine wp_seq ?_
     refine r0T ?_
     refine wp_cond_false (rfl) ?_
     refine wp_exit ?_
     refine then_exit ?_
     refine then_exit ?_
     refine blk_exit ?_
     refine then_norm ?_
     refine r0T ?_
     refine st hB hF hG 3 0 [_, _] ?_
     clear hB hG
     intro u hB hG
     refine rt Tryz.results179 ?_
     refine And.intro ?_ hG
     rw [Hgc.out, Nat.mul_comm]
  ·have hcm := HI.out.cmp
   rw [cmpN_gt hgt] at hcm
   have Hcm := Lib.hid hcm
   have Hsub := Lib.hid (fun W hg => (HI.out.grow (W := W) hg).sub hgt)
   have Hdn := Lib.hid (HI.out.down hgt (HT.out.grow HG0.out))
   clear hcm
   refine wp_block ?_
   refine wp_seq (rsE allocs [0, 0, 1, 0] hB hG fun L hL => ?_)
   refine gs ?_
   refine gmd (C := fun v ⟨hgu, hB, hG, _⟩ => Hcm.out _ hgu) ?_
   refine gs ?_
   refine geT hL ?_
   clear hB hG hL L
   rintro u ⟨hgu, hB, hG, -⟩
   have hgc := hgu
   clear hgu
   refine wp_seq ?_
   refine r0T ?_
   refine wp_cond_false (rfl) ?_
   refine wp_skip ?_
   refine then_norm ?_
   refine wp_seq ?_
   refine r0T ?_
   refine wp_cond_false (rfl) ?_
   refine wp_skip ?_
   refine then_norm ?_
   refine wp_r0 ?_
   intro K hN
   go_wp2_with (first
    | (go_at_call 202; ((with_reducible refine (Hsub.out _ hgc).mono ?_); rintro e ws ⟨zs, rfl, hs⟩; have Hs := Lib.hid hs; clear hs))
    | (go_at_call 200; ((with_reducible refine (Hdn.out ws zs Hs.out).mono ?_); rintro e wt ⟨o3, c3, z3, rfl, hI2, hlt2⟩; have HI2 := Lib.hid hI2; clear hI2)))
   refine NoK.norm (hN _ _ ?_)
   clear hN K
   refine blk_norm ?_
   refine then_norm ?_
   go_step
   go_roundg (val W64 z3 + val W64 lw)
   case measure => rw [Hgk.out]; omega
   case rel => exact ⟨bv, o3, c3, z3, bw, ow, cw, lw, rfl, rfl, HI2.out, rfl⟩
end Go.Proofs.YtjmopgepnndckaaGreatDoor
