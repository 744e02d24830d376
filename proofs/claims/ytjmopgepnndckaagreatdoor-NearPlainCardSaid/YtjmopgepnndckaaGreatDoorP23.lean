/-
  Contracts and laws: WordD WordE.
-/
import Derived.Test.YtjmopgepnndckaaGreatDoorP20
import Derived.Test.YtjmopgepnndckaaGreatDoorP21
set_option linter.unusedSimpArgs false
set_option linter.unusedVariables false
namespace Go.Proofs.YtjmopgepnndckaaGreatDoor
open Go.RowKit
theorem dg_val {W : Nat} (hW : 0 < W) {l : List Nat} (hd : Dig W l) (k : Nat) : dg l k = val W l / W ^ k % W := by
 rcases Nat.lt_or_ge k l.length with hk | hk
 ·have h1 := val_cut hW hd k
  rw [List.drop_eq_getElem_cons hk, ← dg_eq hk, val_cons] at h1
  rw [← h1, Nat.add_mul_mod_self_left, Nat.mod_eq_of_lt (dg_lt hW hd k)]
 ·rw [dg_over hk, Nat.div_eq_of_lt (Nat.lt_of_lt_of_le (val_lt hd) (Nat.pow_le_pow_right hW hk)), Nat.zero_mod]
/-- the byte number i off the words -/
theorem word_byte' {l : List Nat} (hd : Dig W64 l) (i : Nat) : dg l (i / 8) / 2 ^ (8 * (i % 8)) % 256 = val W64 l / 256 ^ i % 256 := by
 rw [dg_val W64_pos hd, pow256 i, ← Nat.div_div_eq_div_mul]
 generalize val W64 l / W64 ^ (i / 8) = x
 have hr : i % 8 < 8 := Nat.mod_lt _ (by omega)
 generalize i % 8 = r at hr
 have e2 : W64 = 2 ^ (8 * r) * (256 * 2 ^ (56 - 8 * r)) := by
  rw [W64_pow, show (256 : Nat) = 2 ^ 8 from rfl, ← Nat.pow_add, ← Nat.pow_add]
  congr 1
  omega
 rw [e2, Nat.mod_mul_right_div_self, Nat.mod_mul_right_mod]
/-- the lowest n digits of V -/
def lowD (B V n : Nat) : List Nat := (List.range n).map fun i => V / B ^ i % B
theorem lowD_len (B V n : Nat) : (lowD B V n).length = n := by unfold lowD; simp
theorem lowD_val (B V n : Nat) : val B (lowD B V n) = V % B ^ n := by
 induction n with
 | zero => simp [lowD, val, Nat.mod_one]
 | succ n ih =>
  have e : lowD B V (n + 1) = lowD B V n ++ [V / B ^ n % B] := by unfold lowD; rw [List.range_succ, List.map_append]; rfl
  rw [e, val_snoc, lowD_len, ih, Nat.mod_pow_succ]
theorem lowD_dg (B V n : Nat) {i : Nat} (h : i < n) : dg (lowD B V n) i = V / B ^ i % B := by
 rw [dg_eq (by rw [lowD_len]; exact h)]; unfold lowD; simp
theorem lowD_dig {B : Nat} (hB : 0 < B) (V n : Nat) : Dig B (lowD B V n) := fun x hx => by
 unfold lowD at hx
 obtain ⟨i, _, rfl⟩ := List.mem_map.1 hx
 exact Nat.mod_lt _ hB
set_option maxHeartbeats 1000000 in
set_option maxRecDepth 100000 in
theorem whole_number (b off : Nat) (l : List Nat) (c : Nat) (hd : Dig W64 l) (hm : l.length ≤ 17179869180) (w : World) (h : Wds w b off l) :
  Calls Tryz.prog 203 #[.slice (some ⟨b, off, none⟩) l.length c] w fun e w' => e = .returned (natV (val W64 l)) ∧ Grow w w' := by
 obtain ⟨m, hmm⟩ : ∃ m, m = l.length := ⟨_, rfl⟩
 obtain ⟨n, hn⟩ : ∃ n, n = 8 * m := ⟨_, rfl⟩
 obtain ⟨V, hV⟩ : ∃ V, V = val W64 l := ⟨_, rfl⟩
 have hVn : V < 256 ^ n := by
  have := val_lt hd
  rw [hV, hn, Nat.pow_mul, hmm]
  exact this
 obtain ⟨bs, hbs⟩ : ∃ bs, bs = lowD 256 V n := ⟨_, rfl⟩
 have hbl : bs.length = n := by rw [hbs, lowD_len]
 have hbv : val 256 bs = V := by rw [hbs, lowD_val, Nat.mod_eq_of_lt hVn]
 have hbd : Dig 256 bs := by rw [hbs]; exact lowD_dig (by omega) V n
 have hbg : ∀ i, i < n → dg l (i / 8) / 2 ^ (8 * (i % 8)) % 256 = dg bs i := fun i hi => by rw [word_byte' hd, hbs, lowD_dg _ _ _ hi, hV]
 have hb0 : List.replicate n 0 = bytTo bs 0 := by unfold bytTo; rw [hbl]; simp
 rw [← hV, ← hmm]
 rw [← hmm] at hm
 have hnm : 8 * (m : Int) = (n : Int) := by omega
 have hmk := make_u8 n (by omega) (n : Int) rfl
 have hnb : n ≤ 137438953440 := by omega
 have hnm2 : n ≤ 8 * m := by omega
 have H := Lib.hid h
 have Hd := Lib.hid hd
 have Hmm := Lib.hid hmm
 have Hbl := Lib.hid hbl
 have Hbv := Lib.hid hbv
 have Hbd := Lib.hid hbd
 have Hbg := Lib.hid hbg
 have Hb0 := Lib.hid hb0
 have fw0 : IntKind.i64.wrap (8 * (m : Int)) = (n : Int) := by rw [hnm]; exact IntWalk.i64_in _ (by omega)
 clear h hd hmm hn hV hVn hbs hbl hbv hbd hbg hb0
 go_enter Tryz.func203, Tryz.ntmps203
 refine en1 ?_
 intro u hG b2 hB hF
 refine r0T ?_
 have hbo := Blk.new u 5 (cells8 (List.replicate n 0))
 have hF3 := Fr.new (tk := []) hF hB hG (Nat.le_refl u.heap.size) (by simp)
 have hB3 := Bx.cons hbo (hB.grow (Grow.alloc u (.cells (cells8 (List.replicate n 0)) 5)))
 have hG3 := hG.trans (Grow.alloc u (.cells (cells8 (List.replicate n 0)) 5))
 simp only [List.cons_append, List.nil_append, List.map_cons, List.map_nil] at hF3
 clear hB hF hG hbo
 generalize World.alloc u _ = v at  hB3 hG3 ⊢
 generalize u.heap.size = b3 at hB3 hF3 ⊢
 have hB := hB3
 have hF := hF3
 have hG := hG3
 clear hB3 hF3 hG3
 obtain ⟨u, rfl⟩ : ∃ x, x = v := ⟨_, rfl⟩
 rw [Hb0.out] at hB
 refine wp_seq ?_
 refine r0T ?_
 refine wp_block ?_
 go_loopw [11] (fun s0 wr => ∃ (i : Nat) , i ≤ n ∧ s0 = .int .i64 i ∧ Bx wr [(b3, 5, cells8 (bytTo bs i)), (b2, 45, #[.int .u64 0, .string ⟨#[]⟩])] ∧ Grow w wr) (fun s0 _ => n - (intOf s0).toNat)
 case atStart => exact ⟨0, Nat.zero_le _, rfl, hB, hG⟩
 case round =>
  clear hB hG
  obtain ⟨i, hi, rfl, hB, hG⟩ := hrel
  obtain ⟨u, rfl⟩ : ∃ x, x = wr := ⟨_, rfl⟩
  rcases Nat.lt_or_ge i n with hlt0 | hge0
  ·have hdec : decide ((i : Int) < (n : Int)) = true := by simp; omega
   have hil : i < bs.length := by rw [Hbl.out]; exact hlt0
   have hst := bytTo_set bs hil
   rw [Hbl.out] at hst
   obtain ⟨k, hk⟩ : ∃ k, k = n - 1 - i := ⟨_, rfl⟩
   rw [← hk] at hst
   have hki : (n : Int) - 1 - (i : Int) = (k : Int) := by omega
   have hkn : k < n := by omega
   have hq0 : i / 8 < l.length := by rw [← Hmm.out]; omega
   have hby := Hbg.out i hlt0
   have hyl := dg_lt (by omega) Hbd.out i
   have hxl : dg l (i / 8) < 18446744073709551616 := dg_lt W64_pos Hd.out _
   obtain ⟨q, hq⟩ : ∃ q, q = i / 8 := ⟨_, rfl⟩
   obtain ⟨p, hp⟩ : ∃ r, r = i % 8 := ⟨_, rfl⟩
   rw [← hq, ← hp] at hby
   rw [← hq] at hq0 hxl
   have hcl : ∀ W, Grow w W → W.cell? ⟨b, off + q, none⟩ = some (.int .u64 (dg l q : Nat)) := fun W hg => by rw [dg_eq hq0]; exact (H.out.grow hg).cell hq0
   obtain ⟨x, hx⟩ : ∃ x, x = dg l q := ⟨_, rfl⟩
   obtain ⟨y, hy⟩ : ∃ y, y = dg bs i := ⟨_, rfl⟩
   rw [← hx] at hby hxl
   simp only [← hx] at hcl
   rw [← hy] at hby hyl hst
   have hp8 : p < 8 := by omega
   have hqm : q < m := by omega
   have f1 : (i : Int).tdiv 8 = (q : Int) := by rw [Int.tdiv_eq_ediv_of_nonneg (by omega)]; omega
   have f2 : (i : Int).tmod 8 = (p : Int) := by rw [Int.tmod_eq_emod_of_nonneg (by omega)]; omega
   have f3 : (i : Int) / 8 = (q : Int) := by omega
   have f4 : (i : Int) % 8 = (p : Int) := by omega
   have f7 : (8 * (p : Int)).toNat = 8 * p := by omega
   have f8 : min (8 * p) 64 = 8 * p := by omega
   have f5 : ((x : Int) / 2 ^ (8 * p) % 256) = (y : Int) := by rw [← hby]; simp
   have g1 : ∃ old, (cells8 (bytTo bs i))[k]? = some old := by
    rw [cells8_get, List.getElem?_eq_getElem (by rw [bytTo_len bs (by omega), Hbl.out]; exact hkn)]
    exact ⟨_, rfl⟩
   obtain ⟨old, g1⟩ := g1
   have G2 := Lib.hid (show (cells8 (bytTo bs i)).setIfInBounds k (.int .u8 (y : Nat)) = cells8 (bytTo bs (i + 1)) by rw [cells8_set, hst])
   have Hcl := Lib.hid hcl
   clear hil hst hk hq0 hby hq hp hcl hx hy
   refine r0T ?_
   refine wp_seq ?_
   refine wp_cond_true (rfl) ?_
   refine wp_skip ?_
   refine then_norm ?_
   refine wp_seq ?_
   refine wp_block ?_
   refine r0T ?_
   have hcb := Hcl.out u hG
   refine r0E ?_
   generalize hu0 : World.setCell u _ _ = u0
   have hBG := hB.over hF hG 0 rfl k [_] hu0
   clear hB hG
   simp only [List.modify_succ_cons, List.modify_zero_cons, wrAll, G2.out] at hBG
   obtain ⟨hB, hG⟩ := hBG
   clear hu0
   obtain ⟨u, rfl⟩ : ∃ x, x = u0 := ⟨_, rfl⟩
   refine blk_norm ?_
   refine then_norm ?_
   refine r0E ?_
   refine then_norm ?_
   go_roundw
   case rel => exact ⟨i + 1, by omega, by go_num, hB, hG⟩
   case measure => simp [intOf]; try omega
  ·obtain rfl : n = i := by omega
   have hdec : decide ((n : Int) < (n : Int)) = false := by simp
   have hfb : ∀ W, Blk W b3 5 (cells8 (bytTo bs n)) → Calls Tryz.prog 120 #[.slice (some ⟨b3, 0, none⟩) n n] W fun e w' => e = .returned (natV V) ∧ Grow W w' := fun W hw => by
    have e : bytTo bs n = bs.reverse := by rw [← Hbl.out]; exact bytTo_all bs
    rw [e] at hw
    have := nat_FromBytes (some ⟨b3, 0, none⟩) bs.reverse n (fun x hx => Hbd.out x (List.mem_reverse.1 hx)) (by rw [List.length_reverse, Hbl.out]; omega) W (By.of hw)
    rw [List.length_reverse, Hbl.out, List.reverse_reverse, Hbv.out] at this
    exact this
   have Hfb := Lib.hid hfb
   clear hfb
   refine r0T ?_
   refine wp_seq ?_
   refine wp_cond_false (rfl) ?_
   refine wp_exit ?_
   refine then_exit ?_
   refine then_exit ?_
   refine blk_exit ?_
   refine then_norm ?_
   refine wp_seq (rsC allocs [0, 1] hB hG fun K L hN hL => ?_)
   refine gs ?_
   refine gmd (C := fun v ⟨hgu, hB, hG, _⟩ => Hfb.out _ hB.head) ?_
   refine geC hL ?_
   clear hB hG hL L
   rintro u ⟨-, hB, hG, -⟩
   refine gtT ?_
   clear hN K
   refine st hB hF hG 1 0 [_, _] ?_
   clear hB hG
   intro u hB hG
   refine rt Tryz.results203 ?_
   exact ⟨rfl, hG⟩
end Go.Proofs.YtjmopgepnndckaaGreatDoor
namespace Go.Proofs.YtjmopgepnndckaaGreatDoor
open Go.RowKit
theorem shiftUp_Y (A : Option Addr) (l : List Nat) (c n V : Nat) (hd : Dig W64 l) (hm : l.length ≤ 17179869184) (hn : n ≤ 65536) (hV : V = val W64 l * 2 ^ n) (w : World) (hr : Rd w A l) :
  Calls Tryz.prog 213 #[.slice A l.length c, .int .i64 n] w (RetY (fun x : Nat × List Nat => .slice (some ⟨x.1, 0, none⟩) x.2.length x.2.length) (fun x W => Wrow W x.1 x.2 ∧ x.2.length ≤ 17179970000 ∧ Dig W64 x.2 ∧ val W64 x.2 = V) w) :=
 (nat_shiftUp A l c n hd (by omega) (by omega) w hr).mono fun e w' ⟨zs, he, h1, h2, h3, h4, h5⟩ => ⟨(_, zs), he, ⟨h1, by show zs.length ≤ _; omega, h3, h4.trans hV.symm⟩, h5⟩
set_option maxHeartbeats 1000000 in
set_option maxRecDepth 100000 in
theorem nat_Shift_up (a n : Nat) (ha : bl a ≤ 1099511627776) (hn : n ≤ 65536) (w : World) : Calls Tryz.prog 204 #[natV a, .int .i64 n] w fun e w' => e = .returned (natV (a * 2 ^ n)) ∧ Grow w w' := by
 obtain ⟨m, hm⟩ : ∃ m, m = (digs W64 a).length := ⟨_, rfl⟩
 have hml : m ≤ 17179869184 := by rw [hm]; exact digs_len (a := a) (k := 17179869184) (by omega)
 obtain ⟨V, hV⟩ : ∃ V, V = a * 2 ^ n := ⟨_, rfl⟩
 have hsh : ∀ (W : World) (A : Option Addr), Rd W A (digs W64 a) → Calls Tryz.prog 213 #[.slice A m m, .int .i64 n] W (RetY (fun x : Nat × List Nat => .slice (some ⟨x.1, 0, none⟩) x.2.length x.2.length) (fun x W => Wrow W x.1 x.2 ∧ x.2.length ≤ 17179970000 ∧ Dig W64 x.2 ∧ val W64 x.2 = V) W) := fun W A h => by
  have := shiftUp_Y A (digs W64 a) m n V (dig_digs W64_ge a) (by omega) hn (by rw [val_digs W64_ge]; exact hV) W h
  rw [← hm] at this
  exact this
 have hfw : ∀ (W : World) (x : Nat × List Nat), (Wrow W x.1 x.2 ∧ x.2.length ≤ 17179970000 ∧ Dig W64 x.2 ∧ val W64 x.2 = V) → Calls Tryz.prog 156 #[.slice (some ⟨x.1, 0, none⟩) x.2.length x.2.length] W fun e w' => e = .returned (natV V) ∧ Grow W w' := fun W x ⟨h1, h2, h3, h4⟩ => by
  have := nat_fromWords (some ⟨x.1, 0, none⟩) x.2 x.2.length W (fun _ => ⟨x.1, 0, rfl, h1.wds⟩) h3 (Nat.le_refl _) (by omega) (by omega)
  rw [h4] at this
  exact this
 rw [← hV]
 have Hw := Lib.hid (words_Y a ha m hm)
 have Hsh := Lib.hid hsh
 have Hfw := Lib.hid hfw
 have f1 : min (n : Int) 65536 = (n : Int) := by omega
 have f2 : max (-65536) (n : Int) = (n : Int) := by omega
 have f3 : decide ((n : Int) < 0) = false := by simp
 clear hsh hfw ha hm hV
 go_enter Tryz.func204, Tryz.ntmps204
 refine en2 ?_
 intro u hG b4 b2 hB hF
 refine r0T ?_
 refine wp_seq ?_
 refine r0T ?_
 refine wp_cond_false (rfl) ?_
 refine wp_skip ?_
 refine then_norm ?_
 refine wp_seq (rsC allocs [0, 1, 0, 1, 1] hB hG fun K L hN hL => ?_)
 refine gs ?_
 refine gxd (X := Option Addr) (fun A => .slice A m m) (fun A W => Rd W A (digs W64 a)) (fun _ _ _ hg h => h.grow hg) (fun x17 => ?_) (C := fun v _ => Hw.out _)
 refine gs ?_
 refine gxd (X := Nat × List Nat) (fun x => .slice (some ⟨x.1, 0, none⟩) x.2.length x.2.length) (fun x W => Wrow W x.1 x.2 ∧ x.2.length ≤ 17179970000 ∧ Dig W64 x.2 ∧ val W64 x.2 = V) (fun _ _ _ hg h => ⟨h.1.grow hg, h.2⟩) (fun x19 => ?_) (C := by (rintro v ⟨⟨hgu, hB, hG, -⟩, hx17⟩; exact Hsh.out _ _ hx17))
 refine gmd (C := fun v ⟨⟨⟨hgu, hB, hG, _⟩, hx17⟩, hx19⟩ => Hfw.out _ x19 hx19) ?_
 refine geC hL ?_
 clear hB hG hL L
 rintro u ⟨⟨⟨hgu, hB, hG, -⟩, hx17⟩, hx19⟩
 clear hx17 hx19
 clear hgu
 refine gtT ?_
 clear hN K
 refine st hB hF hG 1 0 [_, _] ?_
 clear hB hG
 intro u hB hG
 refine rt Tryz.results204 ?_
 exact ⟨rfl, hG⟩
/-- the two numbers of whole.binary, in words -/
structure BinI (u wr : World) (bv ov cv : Nat) (lv : List Nat) (bw ow cw : Nat) (lw : List Nat) (g : Nat) : Prop where
 wv : Wds wr bv ov lv
 ww : Wds wr bw ow lw
 ne : bv ≠ bw
 uv : u.heap.size ≤ bv
 uw : u.heap.size ≤ bw
 dv : Dig W64 lv
 dw : Dig W64 lw
 tv : Tight lv
 tw : Tight lw
 av : val W64 lv % 2 = 1
 aw : val W64 lw % 2 = 1
 gc : Nat.gcd (val W64 lv) (val W64 lw) = g
 sv : lv.length ≤ cv
 sw : lw.length ≤ cw
 mv : cv ≤ 17179869180
 mw : cw ≤ 17179869180
 gr : Grow u wr
theorem BinI.swap {u wr : World} {bv ov cv : Nat} {lv : List Nat} {bw ow cw : Nat} {lw : List Nat} {g : Nat} (h : BinI u wr bv ov cv lv bw ow cw lw g) : BinI u wr bw ow cw lw bv ov cv lv g :=
 ⟨h.ww, h.wv, h.ne.symm, h.uw, h.uv, h.dw, h.dv, h.tw, h.tv, h.aw, h.av, by rw [Nat.gcd_comm]; exact h.gc, h.sw, h.sv, h.mw, h.mv, h.gr⟩
theorem BinI.cmp {u wr : World} {bv ov cv : Nat} {lv : List Nat} {bw ow cw : Nat} {lw : List Nat} {g : Nat} (h : BinI u wr bv ov cv lv bw ow cw lw g) (W : World) (hg : Grow wr W) :
  Calls Tryz.prog 201 #[.slice (some ⟨bv, ov, none⟩) lv.length cv, .slice (some ⟨bw, ow, none⟩) lw.length cw] W fun e w' => e = .returned (.int .i64 (cmpN (val W64 lv) (val W64 lw))) ∧ Grow W w' :=
 whole_compare bv ov bw ow lv lw cv cw W (h.wv.grow hg) (h.ww.grow hg) h.dv h.dw h.tv h.tw (by have := h.sv; have := h.mv; omega)
theorem trim_wds {w : World} {b o : Nat} {zs : List Nat} (h : Wds w b o zs) : Wds w b o (trimL zs) := by rw [trimL_eq_take]; exact h.take _
/-- down, trimmed -/
theorem down_trim (b off : Nat) (l : List Nat) (c : Nat) (w0 w : World) (h : Wds w b off l) (hd : Dig W64 l) (hv : val W64 l ≠ 0) (hc : l.length ≤ c) (hcm : c ≤ 17179869180) (hT : Tab w0) (hg0 : Grow w0 w) (hb0 : w0.heap.size ≤ b) :
  Calls Tryz.prog 200 #[.slice (some ⟨b, off, none⟩) l.length c] w fun e w' => ∃ (o' c' : Nat) (zs : List Nat), e = .returned (.slice (some ⟨b, o', none⟩) zs.length c') ∧ (Wds w' b o' zs ∧ Dig W64 zs ∧ Tight zs ∧ zs.length ≤ c' ∧ c' ≤ 17179869180 ∧ (∃ z, Tz (val W64 l) z ∧ val W64 l = 2 ^ z * val W64 zs) ∧ val W64 zs % 2 = 1 ∧ Oth b w w') ∧ Grow w0 w' :=
 (whole_down b off l c w0 w h hd hv (by omega) hc (by omega) hT hg0 hb0).mono fun e w' ⟨o', c', zs, he, ⟨k1, k2, k3, k4, k5, k6, k7, k8⟩, k9⟩ =>
  ⟨o', c', trimL zs, he, ⟨trim_wds k1, dig_trimL k2, tight_trimL zs, Nat.le_trans (trimL_le zs) k4, by omega, by rw [val_trimL]; exact k6, by rw [val_trimL]; exact k7, k8⟩, k9⟩
/-- behind subtract -/
def SubR (u : World) (bv ov cv : Nat) (lv : List Nat) (bw ow : Nat) (lw : List Nat) (w' : World) (zs : List Nat) : Prop :=
 Wds w' bv ov zs ∧ Dig W64 zs ∧ zs.length ≤ cv ∧ val W64 zs = val W64 lv - val W64 lw ∧ Wds w' bw ow lw ∧ Grow u w'
theorem BinI.sub {u wr : World} {bv ov cv : Nat} {lv : List Nat} {bw ow cw : Nat} {lw : List Nat} {g : Nat} (h : BinI u wr bv ov cv lv bw ow cw lw g) (hlt : val W64 lw < val W64 lv) :
  Calls Tryz.prog 202 #[.slice (some ⟨bv, ov, none⟩) lv.length cv, .slice (some ⟨bw, ow, none⟩) lw.length cw] wr fun e w' => ∃ zs : List Nat, e = .returned (.slice (some ⟨bv, ov, none⟩) zs.length cv) ∧ SubR u bv ov cv lv bw ow lw w' zs := by
 have hl : lw.length ≤ lv.length := by
  rcases Nat.lt_or_ge lv.length lw.length with h1 | h1
  ·have := val_lt_len W64_ge h.dv h.tw h.dw h1; omega
  ·exact h1
 have h1 := h.sv
 have h2 := h.mv
 exact (whole_subtract bv ov bw ow lv lw cv cw u wr h.wv h.ww h.ne h.dv h.dw hl (Nat.le_of_lt hlt) (by omega) h.sv (by omega) h.gr h.uv).mono fun e w' ⟨zs, he, ⟨k1, k2, k3, k4, k5⟩, k6⟩ =>
  ⟨trimL zs, he, trim_wds k1, dig_trimL k3, Nat.le_trans (trimL_le zs) (by omega), by rw [val_trimL]; exact k4, k5, k6⟩
theorem BinI.down {u wr : World} {bv ov cv : Nat} {lv : List Nat} {bw ow cw : Nat} {lw : List Nat} {g : Nat} (h : BinI u wr bv ov cv lv bw ow cw lw g) (hlt : val W64 lw < val W64 lv) (hT : Tab u) (w' : World) (zs : List Nat) (hs : SubR u bv ov cv lv bw ow lw w' zs) :
  Calls Tryz.prog 200 #[.slice (some ⟨bv, ov, none⟩) zs.length cv] w' fun e w'' => ∃ (o' c' : Nat) (z2 : List Nat), e = .returned (.slice (some ⟨bv, o', none⟩) z2.length c') ∧ BinI u w'' bv o' c' z2 bw ow cw lw g ∧ val W64 z2 < val W64 lv := by
 obtain ⟨k1, k2, k3, k4, k5, k6⟩ := hs
 have hv0 : val W64 zs ≠ 0 := by omega
 refine (down_trim bv ov zs cv u w' k1 k2 hv0 k3 h.mv hT k6 h.uv).mono fun e w'' ⟨o', c', z2, he, ⟨d1, d2, d3, d4, d5, ⟨z, d6, d7⟩, d8, d9⟩, d10⟩ => ⟨o', c', z2, he, ⟨d1, d9 _ _ _ h.ne.symm k5, h.ne, h.uv, h.uw, d2, h.dw, d3, h.tw, d8, h.aw, ?_, d4, h.sw, d5, h.mw, d10⟩, ?_⟩
 ·exact gcd_half h.aw hlt (by rw [← k4]; exact d7) h.gc
 ·have hp := Nat.two_pow_pos z
  have h1 : val W64 z2 ≤ val W64 zs := by rw [d7]; exact Nat.le_mul_of_pos_left _ hp
  have h2 : 0 < val W64 lw := by have := h.aw; omega
  omega
end Go.Proofs.YtjmopgepnndckaaGreatDoor
