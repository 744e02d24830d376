/-
  Contracts and laws: NearTw.
-/
import Derived.Test.YtjmopgepnndckaaGreatDoorO38
import Derived.Test.YtjmopgepnndckaaGreatDoorO41
set_option linter.unusedSimpArgs false
set_option linter.unusedVariables false
namespace Go.Proofs.YtjmopgepnndckaaGreatDoor
open Go Go.RowKit
abbrev zeroH : List Value := [.int .i64 0, .bool false, .int .u64 0, .string ⟨#[]⟩, .int .u64 0, .string ⟨#[]⟩]
theorem zeroH_eq : zeroH = htL (0, 0) := by kernel_rfl
theorem takeH_no {mf : List Ht → Option Rat} {keep : Nat} {h : Ht} {hs : List Ht} {m : Rat} (h1 : mf hs = some m) (h2 : m < h.2) : takeH mf keep h hs = hs := by
 unfold takeH; rw [h1]; simp only; rw [if_pos h2]
theorem takeH_yes {mf : List Ht → Option Rat} {keep : Nat} {h : Ht} {hs : List Ht} (h1 : ∀ m, mf hs = some m → ¬ m < h.2) : takeH mf keep h hs = (insS h hs).take keep := by
 unfold takeH
 cases hm : mf hs with
 | none => rfl
 | some m => simp only; rw [if_neg (h1 m hm)]
theorem takeH_sorted {mf : List Ht → Option Rat} {keep : Nat} {h : Ht} {hs : List Ht} (hs1 : hs.Pairwise leH) : (takeH mf keep h hs).Pairwise leH := by
 have h1 : ((insS h hs).take keep).Pairwise leH := (insS_sorted h hs hs1).take
 unfold takeH
 cases mf hs with
 | none => exact h1
 | some m => simp only; split; exact hs1; exact h1
theorem takeH_mem {mf : List Ht → Option Rat} {keep : Nat} {h x : Ht} {hs : List Ht} (hx : x ∈ takeH mf keep h hs) : x = h ∨ x ∈ hs := by
 have h1 : x ∈ (insS h hs).take keep → x = h ∨ x ∈ hs := fun h2 => List.mem_cons.1 ((insS_perm h hs).mem_iff.1 (List.mem_of_mem_take h2))
 unfold takeH at hx
 cases hm : mf hs with
 | none => rw [hm] at hx; exact h1 hx
 | some m =>
  rw [hm] at hx
  simp only at hx
  split at hx
  ·exact .inr hx
  ·exact h1 hx
set_option maxHeartbeats 16000000 in
set_option maxRecDepth 100000 in
theorem near_take (b99 keep s : Nat) (c0 c1 c2 : Value) (MF : FuncId) (MC : Array Value) (mf : List Ht → Option Rat) (I : World → Prop) (w0 : World) (hb : w0.heap.size ≤ b99) (hk : keep ≤ 100000) (hBz : 2 * s + 1 ≤ BIG) (HM : MostOK b99 w0.heap.size c0 c1 c2 (.int .i64 (keep : Nat)) MF MC mf I w0) (hms : ∀ hs m, (∀ x ∈ hs, qs x.2 ≤ s) → mf hs = some m → qs m ≤ s)
  (J : Nat) (Y : Rat) (hY : qs Y ≤ s) (HA : Option Addr) (HC lk : Nat) (hs : List Ht) (hsz : ∀ x ∈ hs, qs x.2 ≤ s) (hso : hs.Pairwise leH) (hl : hs.length ≤ 90000) (w : World) (hG0 : Grow w0 w) (hI : I w) (hS : SrW b99 w0.heap.size c0 c1 c2 (.int .i64 (keep : Nat)) (.func (.func MF) #[] MC) HA HC hs lk w) :
  Calls Tryz.prog 111 #[.pointer (some ⟨b99, 0, none⟩), htV J Y] w fun e w' => e = .returned (.tuple #[]) ∧ ∃ (HA' : Option Addr) (HC' : Nat), SrW b99 w0.heap.size c0 c1 c2 (.int .i64 (keep : Nat)) (.func (.func MF) #[] MC) HA' HC' (takeH mf keep (J, Y) hs) lk w' ∧ KepT w w' ∧ Grow w0 w' := by
 have hcf := HM.run
 have hmo : ∀ W, Grow w W → Calls Tryz.prog MF MC W fun e W' => e = .returned (mostV (mf hs)) ∧ Grow W W' := fun W hg => HM.call HA HC hs lk W (hG0.trans hg) (HM.keep _ _ (KepT.ofGrow hg) hI) (by omega) (hS.grow hg)
 obtain ⟨m0, hm0⟩ : ∃ m, m = (mf hs).getD 0 := ⟨_, rfl⟩
 obtain ⟨ok, hok⟩ : ∃ b, b = (mf hs).isSome := ⟨_, rfl⟩
 have hmoV : mostV (mf hs) = .tuple #[qV m0, .bool ok] := by rw [hm0, hok]
 rw [hmoV] at hmo
 have hsome : ok = true → mf hs = some m0 := fun h => by
  rw [hok] at h
  obtain ⟨x, hx⟩ := Option.isSome_iff_exists.1 h
  rw [hm0, hx]
  rfl
 have hcm := fun (h : ok = true) W => frac_Cmp Y m0 W (by have := hms hs m0 hsz (hsome h); omega)
 obtain ⟨P, hP⟩ : ∃ P, P = cmpQ Y m0 := ⟨_, rfl⟩
 simp only [← hP] at hcm
 have hpos : 0 < P ↔ m0 < Y := by rw [hP]; exact cmpQ_posH
 have hbs := fun W (hg : Grow w W) => slices_BinarySearchH HA hs hs.length HC (J, Y) rfl (by omega) hso s hsz hY hBz W ((hS.grow hg).lh.1)
 have hin : ∀ p, PosH hs (J, Y) p → insAt hs p (J, Y) = insS (J, Y) hs := fun p hp => posH_ins hso hp
 have hbl := hS.blk
 have hown := hS.own
 obtain ⟨n, hn⟩ : ∃ n, n = hs.length := ⟨_, rfl⟩
 rw [← hn] at hbs hbl hown hl
 have hcells : ∀ W, Grow w W → W.cell? ⟨b99, 4, none⟩ = some (.func (.func MF) #[] MC) ∧ W.cell? ⟨b99, 5, none⟩ = some (.slice HA n HC) := fun W hg => ⟨(hbl.grow hg).cell 4, (hbl.grow hg).cell 5⟩
 have Hcells := Lib.hid hcells
 have Hmo := Lib.hid hmo
 have Hbs := Lib.hid hbs
 have Hn := Lib.hid hn
 have HG0 := Lib.hid hG0
 have Hbl := Lib.hid hbl
 have Hown := Lib.hid hown
 have HSS := Lib.hid hS
 have Hin := Lib.hid hin
 have Hb := Lib.hid hb
 by_cases hA : ok = true ∧ 0 < P
 ·obtain ⟨h1, h2⟩ := hA
  have hres := takeH_no (keep := keep) (h := (J, Y)) (hsome h1) (hpos.1 h2)
  subst h1
  rw [hres]
  have fP : decide (0 < P) = true := decide_eq_true h2
  have Hcm := Lib.hid (hcm rfl)
  clear hres h2 hcm hpos hsome hcells hmo hbs hn hG0 hbl hown hS hin hP hm0 hok hmoV hms hsz hso hI HM hY hb
  go_enter Tryz.func111, Tryz.ntmps111
  refine en1 ?_
  intro u hG b3 hB hF
  refine wp_seq ?_
  refine wp_seq (rsC allocsN [0, 0, 0, 0, 1, 0, 0, 0, 2] hB hG fun K L hN hL => ?_)
  repeat first | refine gya ?_ | refine gyr ?_ | refine gna ?_ | refine gyb (by (rintro v ⟨hgu, hB, hG, -⟩ N hN; have r := hB.r; simp only [BxR] at r; obtain ⟨g4, g5⟩ := Hcells.out v hG; go_simp; exact hN)) ?_
  refine gmd (C := fun v ⟨hgu, hB, hG, _⟩ => Hmo.out _ hG) ?_
  refine gs ?_
  refine gaa (newObj_Q _ _ _ _ _) fun b4 hb4 hn4 => ?_
  replace hF := hF.n1 [] hB hG hb4 hn4
  refine geC hL ?_
  clear hB hG hL L
  rintro u ⟨⟨-, hB, hG, -⟩, h4⟩
  replace hB := hB.cons' h4
  clear h4
  clear hb4 hn4
  refine gtT ?_
  clear hN K
  refine st hB hF hG 0 0 [_, _, _, _, _] ?_
  clear hB hG
  intro u hB hG
  refine wp_seq (rsE allocsN [0, 0, 0, 0, 0, 1, 0, 0] hB hG fun L hL => ?_)
  repeat first | refine gya ?_ | refine gyr ?_ | refine gna ?_ | refine gyb (by (rintro v ⟨hgu, hB, hG, -⟩ N hN; have r := hB.r; simp only [BxR] at r; obtain ⟨g4, g5⟩ := Hcells.out v hG; go_simp; exact hN)) ?_
  first | refine gmw (C := fun v => Hcm.out _) ?_ | refine gmna ?_
  refine gs ?_
  refine geT hL ?_
  clear hB hG hL L
  rintro u ⟨-, hB, hG, -⟩
  refine wp_cond_true (rfl) ?_
  refine rt Tryz.results111 ?_
  exact ⟨rfl, HA, HC, HSS.out.grow hG, KepT.ofGrow hG, HG0.out.trans hG⟩
 ·have hres : takeH mf keep (J, Y) hs = (insS (J, Y) hs).take keep := takeH_yes fun m hm hlt => hA ⟨by rw [hok, hm]; rfl, hpos.2 (by rw [hm0, hm]; exact hlt)⟩
  rw [hres]
  have hp0 : ok = true → decide (0 < P) = false := fun h => decide_eq_false fun h2 => hA ⟨h, h2⟩
  have Hcm := Lib.hid hcm
  have Hp0 := Lib.hid hp0
  clear hres hA hp0 hcm hpos hsome hcells hmo hbs hn hG0 hbl hown hS hin hP hm0 hok hmoV hms hsz hso hI HM hY hb
  go_enter Tryz.func111, Tryz.ntmps111
  refine en1 ?_
  intro u hG b3 hB hF
  refine wp_seq ?_
  refine wp_seq (rsC allocsN [0, 0, 0, 0, 1, 0, 0, 0, 2] hB hG fun K L hN hL => ?_)
  repeat first | refine gya ?_ | refine gyr ?_ | refine gna ?_ | refine gyb (by (rintro v ⟨hgu, hB, hG, -⟩ N hN; have r := hB.r; simp only [BxR] at r; obtain ⟨g4, g5⟩ := Hcells.out v hG; go_simp; exact hN)) ?_
  refine gmd (C := fun v ⟨hgu, hB, hG, _⟩ => Hmo.out _ hG) ?_
  refine gs ?_
  refine gaa (newObj_Q _ _ _ _ _) fun b4 hb4 hn4 => ?_
  replace hF := hF.n1 [] hB hG hb4 hn4
  refine geC hL ?_
  clear hB hG hL L
  rintro u ⟨⟨-, hB, hG, -⟩, h4⟩
  replace hB := hB.cons' h4
  clear h4
  clear hb4 hn4
  refine gtT ?_
  clear hN K
  refine st hB hF hG 0 0 [_, _, _, _, _] ?_
  clear hB hG
  intro u hB hG
  refine wp_seqK fun Kj hKj => ?_
  go_cut [23] from 16 to 22 (fun s23 wx => s23 = .bool false ∧ Bx wx [(b4, 49, #[.bool (intNeg m0.num), .int .u64 (natLo m0.num.natAbs), .string (natMo m0.num.natAbs), .int .u64 (natLo (keptDen m0.den)), .string (natMo (keptDen m0.den))]), (b3, 51, #[.int .i64 (J : Nat), .bool (intNeg Y.num), .int .u64 (natLo Y.num.natAbs), .string (natMo Y.num.natAbs), .int .u64 (natLo (keptDen Y.den)), .string (natMo (keptDen Y.den))])] ∧ Grow w wx)
  case first =>
   rename_i Jj Kk hJj hMj
   cases ok with
   | false =>
    refine rsE allocsN [0, 0, 0, 0, 0, 1, 0, 0] hB hG fun L hL => ?_
    repeat first | refine gya ?_ | refine gyr ?_ | refine gna ?_ | refine gyb (by (rintro v ⟨hgu, hB, hG, -⟩ N hN; have r := hB.r; simp only [BxR] at r; obtain ⟨g4, g5⟩ := Hcells.out v hG; go_simp; exact hN)) ?_
    first | refine gmw (C := fun v => Hcm2.out _) ?_ | refine gmna ?_
    refine gs ?_
    refine geT hL ?_
    clear hB hG hL L
    rintro u ⟨-, hB, hG, -⟩
    refine hMj _ _ (Met.intro (hJj _ _ ?_))
    repeat apply Exists.intro
    refine ⟨?rel, rfl⟩
    case rel =>
     exact ⟨rfl, hB, hG⟩
   | true =>
    have fP := Hp0.out rfl
    have Hcm2 := Lib.hid (Hcm.out rfl)
    refine rsE allocsN [0, 0, 0, 0, 0, 1, 0, 0] hB hG fun L hL => ?_
    repeat first | refine gya ?_ | refine gyr ?_ | refine gna ?_ | refine gyb (by (rintro v ⟨hgu, hB, hG, -⟩ N hN; have r := hB.r; simp only [BxR] at r; obtain ⟨g4, g5⟩ := Hcells.out v hG; go_simp; exact hN)) ?_
    first | refine gmw (C := fun v => Hcm2.out _) ?_ | refine gmna ?_
    refine gs ?_
    refine geT hL ?_
    clear hB hG hL L
    rintro u ⟨-, hB, hG, -⟩
    refine hMj _ _ (Met.intro (hJj _ _ ?_))
    repeat apply Exists.intro
    refine ⟨?rel, rfl⟩
    case rel =>
     exact ⟨rfl, hB, hG⟩
  case rest =>
   clear hB hG
   obtain ⟨rfl, hB, hG⟩ := hcut
   obtain ⟨u, rfl⟩ : ∃ x, x = wc := ⟨_, rfl⟩
   clear Hcm Hp0 Hmo
   refine hKj _ _ ?_
   clear hKj Kj
   refine wp_cond_false (rfl) ?_
   refine wp_skip ?_
   refine then_norm ?_
   refine wp_seq (rdC allocsN [] [(0, 0), (0, 1), (0, 2), (0, 3), (0, 4), (1, 5), (0, 6), (0, 7), (0, 8), (0, 9)] hB hG fun K L hN hL => ?_)
   repeat first | refine gya ?_ | refine gyr ?_ | refine gna ?_ | refine gyb (by (rintro v ⟨hgu, hB, hG, -⟩ N hN; have r := hB.r; simp only [BxR] at r; obtain ⟨g4, g5⟩ := Hcells.out v hG; go_simp; exact hN)) ?_
   refine gxd (X := (Nat × Bool)) (fun x : Nat × Bool => .tuple #[.int .i64 (x.1 : Nat), .bool x.2]) (fun x W => PosH hs (J, Y) x.1) (fun x u u' hg h => h) (fun x30 => ?_) (C := by (rintro v ⟨hgu, hB, hG, -⟩; exact Hbs.out _ hG))
   refine gs ?_
   refine geC hL ?_
   clear hB hG hL L
   rintro u ⟨⟨hgu, hB, hG, -⟩, hx30⟩
   obtain ⟨p, fb⟩ := x30
   simp only at hx30
   have hp := hx30.1
   rw [← Hn.out] at hp
   have HIn := Lib.hid (Hin.out p hx30)
   clear hx30 Hin Hbs
   clear hgu
   refine gtT ?_
   clear hN K
   refine wp_seq ?_
   have h3w := hF.1 b3 (by simp)
   have hown := own_grow' Hown.out hG
   have hlt9 : ∀ k, (Value.slice HA n HC).ownBlock = some k → k ≠ b99 ∧ k ≠ b3 := fun k hk => ⟨fun e => own_blk_other Hown.out Hbl.out (by decide) (e ▸ hk), fun e => by have := (Hown.out.lt k hk).2; omega⟩
   have KK := KepT.ofGrow hG
   have h993 : b99 ≠ b3 := fun e => by have := Hbl.out.lt; omega
   have hb99 := Hbl.out.grow hG
   have hG2 := HG0.out.trans hG
   have hb3 := hB.tail.head
   have h03 : w0.heap.size ≤ b3 := Nat.le_trans HG0.out.size h3w
   clear hB hG hF h3w Hown Hcells HG0 Hbl
   obtain ⟨w1, rfl⟩ : ∃ x, x = w := ⟨_, rfl⟩
   obtain ⟨w, rfl⟩ : ∃ x, x = w0 := ⟨_, rfl⟩
   have hG := hG2
   have hB : Bx u [(b3, 51, #[.int .i64 (J : Nat), .bool (intNeg Y.num), .int .u64 (natLo Y.num.natAbs), .string (natMo Y.num.natAbs), .int .u64 (natLo (keptDen Y.den)), .string (natMo (keptDen Y.den))]), (b99, 136, #[c0, c1, c2, .int .i64 (keep : Nat), .func (.func MF) #[] MC, .slice HA n HC, .int .i64 (lk : Nat)])] := Bx.cons hb3 (Bx.cons hb99 (Bx.nil u))
   have hF : Fr w [b3, b99] := ⟨fun b hb => by
    simp only [List.mem_cons, List.not_mem_nil, or_false] at hb
    rcases hb with rfl | rfl
    ·exact h03
    ·exact Hb.out, by simp; exact fun e => h993 e.symm⟩
   clear hG2 hb3 hb99
   obtain ⟨i0, hi0, hz0, hz1, hz2⟩ := info_parts info_Hit
   have ne9 : (Value.slice HA n HC).ownBlock ≠ some b99 := fun e => (hlt9 _ e).1 rfl
   have ne3 : (Value.slice HA n HC).ownBlock ≠ some b3 := fun e => (hlt9 _ e).2 rfl
   have l9 := hB.tail.head.lt
   have l3 := hB.head.lt
   have hwb : w.heap.size ≤ u.heap.size := hG.size
   refine wp_r0 ?_
   intro K hN
   have r := hB.r
   simp only [BxR] at r
   go_wp2_with (at_builtin; refine wpList_append_lies _ rfl (.tmp 37) (.tmp 39) 29 rfl w.heap.size 51 i0 _ 6 64 Tryz.underlying29 hi0 hz0 hz1 hz2 rfl (by omega) (.slice HA n HC) n (hs.flatMap htL) rfl (hown.alloc _) ⟨u.heap.size, 0, none⟩ 1 1 zeroH rfl rfl (World.news_of_block (cs := #[.int .i64 0, .bool false, .int .u64 0, .string ⟨#[]⟩, .int .u64 0, .string ⟨#[]⟩]) (t := 51) (fr := (0, 0)) (heap_alloc_new u _)) (by simp [Value.oneCell']) (by omega) (by unfold maxLen; omega) (by omega) (by simp; omega) (u.heap.size + 1) (by simp) ?_; intro g cap w4 hown1 hgrow hat hlt; have c9 : w4.cell? ⟨b99, 5, none⟩ = some (.slice HA n HC) := (hgrow.cell_far ⟨b99, 5, none⟩ (by simp; omega) (Ne.symm ne9)).trans ((hB.tail.head.grow (Grow.alloc u _)).cell 5); have z9 : w4.frozen? ⟨b99, 5, none⟩ = false := (hgrow.frozen_far ⟨b99, 5, none⟩ (by simp; omega) (Ne.symm ne9)).trans ((hB.tail.head.grow (Grow.alloc u _)).frozen 5))
   clear r c9 z9
   have hk4 := KepT.app hown hgrow
   have hG4 : Grow w w4 := own_growth hown hG hgrow
   have hB4 : Bx w4 [(b3, 51, #[.int .i64 (J : Nat), .bool (intNeg Y.num), .int .u64 (natLo Y.num.natAbs), .string (natMo Y.num.natAbs), .int .u64 (natLo (keptDen Y.den)), .string (natMo (keptDen Y.den))]), (b99, 136, #[c0, c1, c2, .int .i64 (keep : Nat), .func (.func MF) #[] MC, .slice HA n HC, .int .i64 (lk : Nat)])] := (hB.grow (Grow.alloc u _)).grown_ hgrow (fun e he hxe => by
    simp only [List.mem_cons, List.not_mem_nil, or_false] at he
    rcases he with rfl | rfl
    ·exact ne3 hxe.symm
    ·exact ne9 hxe.symm)
   have hg9 : g ≠ b99 ∧ g ≠ b3 := by
    rcases hat with h | h
    ·exact hlt9 g h
    ·exact ⟨by omega, by omega⟩
   have KK4 := KK.trans hk4
   rw [zeroH_eq] at hown1
   have hown2 : w4.ownsRow w.heap.size 51 6 (.slice (some ⟨g, 0, none⟩) (n + 1) cap) (n + 1) ((hs ++ [((0, 0) : Ht)]).flatMap htL) := by
    rw [List.flatMap_append]
    simpa using hown1
   clear hown hown1 hgrow hat hlt hlt9 ne9 ne3 hk4 hi0 hz0 hz1 hz2 i0 hB hG KK l9 l3 hwb
   generalize hu0 : World.setCell w4 _ _ = u0
   have KK := KK4.trans (KepT.put (i := 5) (vs := [.slice (some ⟨g, 0, none⟩) (n + 1) cap]) hB4.tail.head hu0)
   have hown := own_over (i := 5) (vs := [.slice (some ⟨g, 0, none⟩) (n + 1) cap]) hown2 (fun e => hg9.1 (Option.some.inj e)) hu0
   have hBG := hB4.over hF hG4 1 rfl 5 [.slice (some ⟨g, 0, none⟩) (n + 1) cap] hu0
   clear hB4 hG4 hown2 KK4 hu0
   simp only [List.modify_succ_cons, List.modify_zero_cons, wrAll, List.setIfInBounds_toArray, List.set_cons_zero, List.set_cons_succ, Nat.zero_add, Nat.reduceAdd] at hBG
   obtain ⟨hB, hG⟩ := hBG
   clear w4
   obtain ⟨u, rfl⟩ : ∃ x, x = u0 := ⟨_, rfl⟩
   refine NoK.norm (hN _ _ ?_)
   clear hN K
   have hcap : n + 1 ≤ cap := by
    obtain ⟨_, h | ⟨g', cap', cur, e, _, _, hn', _⟩⟩ := hown
    ·cases h.1
    ·cases e
     exact hn'
   have HO := Lib.hid hown
   have Hg9 := Lib.hid hg9
   have HK := Lib.hid KK
   have hs1 := fun W => slice_fromH g (n + 1) cap (p + 1) (by omega) hcap W
   have hs2 := fun W => slice_fromH g (n + 1) cap p (by omega) hcap W
   have hcy := fun (u : World) h => copy_hits (u := u) (B := w.heap.size) (g := g) (l := hs) (z := (0, 0)) h Hn.out.symm hp hcap
   clear hown hg9 KK
   obtain ⟨n1, hn1⟩ : ∃ x, x = n + 1 := ⟨_, rfl⟩
   obtain ⟨p1, hp1⟩ : ∃ x, x = p + 1 := ⟨_, rfl⟩
   rw [← hn1] at hB HO hcap
   simp only [← hn1, ← hp1] at hs1 hs2 hcy
   obtain ⟨D1, hD1⟩ : ∃ x, x = fromA g cap p1 := ⟨_, rfl⟩
   obtain ⟨D2, hD2⟩ : ∃ x, x = fromA g cap p := ⟨_, rfl⟩
   obtain ⟨e1, he1⟩ : ∃ x, x = n1 - p1 := ⟨_, rfl⟩
   obtain ⟨e2, he2⟩ : ∃ x, x = n1 - p := ⟨_, rfl⟩
   obtain ⟨e3, he3⟩ : ∃ x, x = cap - p1 := ⟨_, rfl⟩
   obtain ⟨e4, he4⟩ : ∃ x, x = cap - p := ⟨_, rfl⟩
   simp only [← hD1, ← hD2, ← he1, ← he2, ← he3, ← he4] at hs1 hs2 hcy
   have Hcy := Lib.hid hcy
   have hpi : (p : Int) < (n1 : Int) := by omega
   have hpn : p < n1 := by omega
   have Hp := Lib.hid hp
   have fp1 : IntKind.i64.wrap ((p : Int) + 1) = (p1 : Int) := by rw [IntWalk.i64_in _ (by omega)]; omega
   have hn9 : n1 ≤ 90001 := by omega
   have Hn1 := Lib.hid hn1
   clear hcy hD1 hD2 he1 he2 he3 he4 hp1 hn1 hp hl
   refine then_norm ?_
   refine wp_seq ?_
   refine wp_rd (w := w) allocsN 13 [] [(0, 0), (0, 1), (0, 2), (0, 3), (0, 4), (0, 5), (0, 6), (0, 7), (0, 8), (0, 9), (0, 10), (0, 11), (0, 12)] (by kernel_rfl) (by kernel_rfl) (by simp only [List.drop_succ_cons, List.drop_zero]; exact rfl) (fun _ => True) noG hB hG trivial ?_
   intro K L hN hL
   simp only [pickOps, List.getElem?_toArray, List.getElem?_cons_zero, List.getElem?_cons_succ]
   repeat first | refine gya ?_ | refine gyr ?_ | refine gna ?_ | refine gyb (by (rintro v ⟨hgu, hB, hG, -⟩ N hN; have r := hB.r; simp only [BxR] at r; obtain ⟨g4, g5⟩ := Hcells.out v hG; go_simp; exact hN)) ?_
   refine gend ?_
   rintro v ⟨hgu, hB1, hG1, -⟩
   obtain ⟨w5, x5, hcp, ho5, hg5⟩ := Hcy.out v (own_grow' HO.out hgu)
   have hgu2 := hgu
   clear hB hG
   have hB := hB1
   have hG := hG1
   clear hB1 hG1
   refine hL _ _ ?_
   clear hL L hgu
   obtain ⟨u, rfl⟩ : ∃ x, x = v := ⟨_, rfl⟩
   have r := hB.r
   simp only [BxR] at r
   go_wp2_with (at_builtin; refine wpList_cpy rfl (.tmp 49) (.tmp 55) 29 rfl rfl rfl hcp ?_)
   clear r
   refine NoK.norm (hN _ _ ?_)
   clear hN K
   have hB5 := hB.grown_ hg5 (fun e he hxe => by
    have hg9 := Hg9.out
    have e1 := Option.some.inj hxe
    simp only [List.mem_cons, List.not_mem_nil, or_false] at he
    rcases he with rfl | rfl
    ·exact hg9.2 e1.symm
    ·exact hg9.1 e1.symm)
   have hG5 := hG.grown hg5 (fun k hk => by
    cases hk
    exact (HO.out.lt g rfl).1)
   have KK := (HK.out.trans (KepT.ofGrow hgu2)).trans (KepT.hit (own_grow' HO.out hgu2) hg5)
   clear hB hG hcp hg5 HO HK hgu2 Hcy hs1 hs2 fp1
   have HO := Lib.hid ho5
   have HK := Lib.hid KK
   have hB := hB5
   have hG := hG5
   clear ho5 KK hB5 hG5
   obtain ⟨u, rfl⟩ : ∃ x, x = w5 := ⟨_, rfl⟩
   refine then_norm ?_
   refine wp_seq (rdC allocsN [] [(0, 0), (0, 1), (0, 2), (0, 3), (0, 4), (0, 5), (0, 6)] hB hG fun K L hN hL => ?_)
   repeat first | refine gya ?_ | refine gyr ?_ | refine gna ?_ | refine gyb (by (rintro v ⟨hgu, hB, hG, -⟩ N hN; have r := hB.r; simp only [BxR] at r; obtain ⟨g4, g5⟩ := Hcells.out v hG; go_simp; exact hN)) ?_
   refine geC hL ?_
   clear hB hG hL L
   rintro u ⟨hgu, hB, hG, -⟩
   have HO2 := Lib.hid (own_grow' HO.out hgu)
   have HK2 := Lib.hid (HK.out.trans (KepT.ofGrow hgu))
   clear HO HK
   have HO := HO2
   have HK := HK2
   clear HO2 HK2
   have hil : (insAt hs p x5).length = n1 := by rw [insAt_len _ _ _ (by have := Hp.out; have := Hn.out; omega), Hn1.out, Hn.out]
   obtain ⟨y0, y1, y2, y3, y4, y5, o0, o1, o2, o3, o4, o5, hfz⟩ := own_spot6 (fun _ => rfl) HO.out hil.symm p (by rw [hil]; exact hpn)
   clear hgu
   refine gtT ?_
   clear hN K
   clear o0 o1 o2 o3 o4 o5 hfz
   generalize hu0 : World.setCell (World.setCell (World.setCell (World.setCell (World.setCell (World.setCell u _ _) _ _) _ _) _ _) _ _) _ _ = u0
   have hu1 : putAll u g (p * 6) (htL (J, Y)) = u0 := hu0
   have hP := own_put (enc := htL) (size := 6) (ps := insAt hs p x5) (fun _ => rfl) HO.out p (J, Y) (by rw [hil]; exact hpn)
   rw [insAt_set _ _ _ _ (by have := Hp.out; have := Hn.out; omega), hu1, HIn.out] at hP
   have KK := HK.out.trans (KepT.hit HO.out hP.2)
   have hB5 := hB.grown_ hP.2 (fun e he hxe => by
    have hg9 := Hg9.out
    have e1 := Option.some.inj hxe
    simp only [List.mem_cons, List.not_mem_nil, or_false] at he
    rcases he with rfl | rfl
    ·exact hg9.2 e1.symm
    ·exact hg9.1 e1.symm)
   have hG5 := hG.grown hP.2 (fun k hk => by
    cases hk
    exact (HO.out.lt g rfl).1)
   clear hB hG HO HK hu0 hu1 hil
   have HO := Lib.hid hP.1
   have HK := Lib.hid KK
   have hB := hB5
   have hG := hG5
   clear hP KK hB5 hG5
   obtain ⟨u, rfl⟩ : ∃ x, x = u0 := ⟨_, rfl⟩
   obtain ⟨hi, hhi⟩ : ∃ x, x = min n1 keep := ⟨_, rfl⟩
   have fmin : min (n1 : Int) (keep : Int) = (hi : Int) := by omega
   have hsl := fun W => slice_runH g cap n1 hi (by omega) W
   have Hhi := Lib.hid hhi
   clear hhi
   refine rdC allocsN [] [(0, 0), (0, 1), (0, 2), (0, 3), (0, 4), (0, 5), (0, 6), (0, 7), (0, 8), (0, 9), (0, 10), (0, 11), (0, 12), (0, 13), (0, 14), (0, 15), (0, 16), (0, 17)] hB hG fun K L hN hL => ?_
   repeat first | refine gya ?_ | refine gyr ?_ | refine gna ?_ | refine gyb (by (rintro v ⟨hgu, hB, hG, -⟩ N hN; have r := hB.r; simp only [BxR] at r; obtain ⟨g4, g5⟩ := Hcells.out v hG; go_simp; exact hN)) ?_
   refine geC hL ?_
   clear hB hG hL L
   rintro u ⟨hgu, hB, hG, -⟩
   have HO2 := Lib.hid (own_grow' HO.out hgu)
   have HK2 := Lib.hid (HK.out.trans (KepT.ofGrow hgu))
   clear HO HK
   have HO := HO2
   have HK := HK2
   clear HO2 HK2
   clear hgu
   refine gt ?_
   clear hN K
   generalize hu0 : World.setCell u _ _ = u0
   have KK := HK.out.trans (KepT.put (i := 5) (vs := [.slice (some ⟨g, 0, none⟩) hi cap]) hB.tail.head hu0)
   have hown := own_over (i := 5) (vs := [.slice (some ⟨g, 0, none⟩) hi cap]) HO.out (fun e => Hg9.out.1 (Option.some.inj e)) hu0
   have hBG := over_n hB hF hG 1 rfl 5 [.slice (some ⟨g, 0, none⟩) hi cap] hu0
   clear hB hG hu0 HO HK
   obtain ⟨hB, hG⟩ := hBG
   obtain ⟨u, rfl⟩ : ∃ x, x = u0 := ⟨_, rfl⟩
   have hlen : (insS (J, Y) hs).length = n1 := by rw [insS_len, Hn1.out, Hn.out]
   have hfin : ((insS (J, Y) hs).take keep).length = hi := by rw [List.length_take, hlen, Hhi.out]; omega
   have htk := own_take (enc := htL) (k := 6) (fun _ => rfl) hown (m := hi) (by have := Hhi.out; omega) hlen
   have htk2 : (insS (J, Y) hs).take hi = (insS (J, Y) hs).take keep := by
    rw [Hhi.out, ← hlen]
    exact List.take_eq_take_iff.2 (by omega)
   refine end_b rfl (results_none rfl _ _ _) ⟨rfl, some ⟨g, 0, none⟩, cap, ⟨by rw [hfin]; exact hB.tail.head, by rw [hfin, ← htk2]; exact htk⟩, KK, hG⟩
end Go.Proofs.YtjmopgepnndckaaGreatDoor
