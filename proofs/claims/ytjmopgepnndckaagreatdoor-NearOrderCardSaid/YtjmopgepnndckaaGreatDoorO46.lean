/-
  Contracts and laws: NearCW.
-/
import Derived.Test.YtjmopgepnndckaaGreatDoorO44
set_option linter.unusedSimpArgs false
set_option linter.unusedVariables false
namespace Go.Proofs.YtjmopgepnndckaaGreatDoor
open Go Go.RowKit Go.Shelf
theorem info_bool : (Tryz.prog.info? 4).map (fun i => (i.zero, i.size, i.bytes)) = some (some (.bool false), 1, 1) := by kernel_rfl
theorem cells_madeB (n : Nat) : madeCells (Value.bool false).cells (n * 1) = (List.replicate n (Value.bool false)).toArray := by
 unfold madeCells
 refine Array.ext (by simp) fun i h1 h2 => ?_
 simp [Value.cells, Nat.mod_one]
theorem make_bool (n : Nat) (hn : n ≤ 1048576) (x : Int) (hx : x = n) (W : World) : (Instr.makeSlice 127 (.int .i64 x) (.int .i64 x)).run Tryz.prog W =
  .ok (.slice (some ⟨W.heap.size, 0, none⟩) n n) (W.alloc (.cells (List.replicate n (Value.bool false)).toArray 4)) := by
 obtain ⟨i0, hi0, hz0, hz1, hz2⟩ := info_parts info_bool
 have hr := run_make (P := Tryz.prog) W 127 4 i0 (.bool false) Tryz.underlying127 hi0 hz0 .i64 .i64 n n (by omega) (by omega) (by rw [hz2]; omega) (by omega)
 rw [hx]
 rw [hr, hz1]
 simp only [Int.toNat_natCast]
 rw [cells_madeB]
theorem own_made_B {u v : World} {B n : Nat} (hB : B ≤ u.heap.size) (hn : n ≤ 1048576) (hv : u.alloc (.cells (List.replicate n (Value.bool false)).toArray 4) = v) : v.ownsRow B 4 1 (.slice (some ⟨u.heap.size, 0, none⟩) n n) n (List.replicate n (Value.bool false)) := by
 subst hv
 have h := World.ownsRow_lit (base := B) (e := 4) (size := 1) u (List.replicate n (Value.bool false)).toArray n hB (by unfold maxLen; omega) (by simp)
 simpa using h
theorem goodN {L n k : Nat} {ns : List NdT} {x : NdT} (hb : badN L n ns k = false) (hx : ns[k]? = some x) : ∃ c r : Nat, x.c = c ∧ c < L ∧ x.r = r ∧ r < n := by
 rcases badN_cases (L := L) (n := n) hx with ⟨_, h⟩ | ⟨_, _, _, h⟩ | ⟨_, _, _, _, h⟩ | ⟨_, _, _, _, _, _, h⟩ | ⟨_, _, _, _, _, _, _, h⟩ | ⟨c, r, h1, h2, h3, h4, _⟩
 ·rw [hb] at h; cases h
 ·rw [hb] at h; cases h
 ·rw [hb] at h; cases h
 ·rw [hb] at h; cases h
 ·rw [hb] at h; cases h
 ·exact ⟨c, r, h1, h2, h3, h4⟩
theorem noN {X : List (List Rat)} {ns : List NdT} {i j E : Nat} (h : ∀ k, i < k → k < j → k < E → wrongN X ns i k = false) (hj : wrongN X ns i j = false) : ∀ k, i < k → k < j + 1 → k < E → wrongN X ns i k = false := fun k h1 h2 h3 => by
 rcases Nat.lt_or_ge k j with h4 | h4
 ·exact h k h1 h4 h3
 ·obtain rfl : k = j := by omega
  exact hj
set_option maxHeartbeats 16000000 in
set_option maxRecDepth 100000 in
theorem near_Check (R N : Ax) (rs : List Rq) (n Lw m : Nat) (ns : List NdT) (hn : rs.length = n) (hn1 : 1 ≤ n) (hn2 : n ≤ 300) (hL1 : 1 ≤ Lw) (hL2 : Lw ≤ 20) (hrl : ∀ r ∈ rs, r.2.2.length = Lw) (hm : ns.length = m) (hm2 : m ≤ 300) (s : Nat) (hs : ∀ r ∈ rs, ∀ x ∈ r.2.2, qs x ≤ s) (hBz : 2 * s + 1 ≤ BIG) (w : World) (h : Lrq w R.1 rs) (hN : Le ndL 4 w N.1 ns) :
  Calls Tryz.prog 32 #[treeV R n N m] w fun e w' => e = .returned (.int .i64 (checkN (rs.map (·.2.2)) Lw ns : Nat)) ∧ Grow w w' := by
 obtain ⟨RA, RC⟩ := R
 obtain ⟨NA, NC⟩ := N
 simp only at h hN
 have hval := fun W (hg : Grow w W) => near_valid_ok RA rs n Lw RC hn hn1 hn2 hL1 hL2 hrl W (h.grow hg)
 obtain ⟨X, hX⟩ : ∃ X, X = rs.map (·.2.2) := ⟨_, rfl⟩
 have hXl : X.length = n := by rw [hX, List.length_map, hn]
 rw [← hX]
 by_cases hmn : m = n
 ·subst hmn
  have hcl := fun (i : Nat) (hi : i < m) W (hg : Grow w W) => near_end (RA, RC) (NA, NC) m m ns hm (by omega) w hN (ns.length + 1) i W hg (by omega) (by omega)
  have hle : ∀ i, endE (partN ns i) ≤ m ∧ endD (partN ns i) ≤ m := fun i => by
   cases hp : partN ns i with
   | none => exact ⟨Nat.zero_le _, Nat.zero_le _⟩
   | some p =>
    have := endF_le (e := p.1) (d := p.2) hp
    rw [hm] at this
    exact this
  have hcl2 : ∀ (i : Nat) (hi : i < m) W (hg : Grow w W), Calls Tryz.prog 64 #[treeV (RA, RC) m (NA, NC) m, .int .i64 (i : Nat)] W fun e w' => e = .returned (.tuple #[.int .i64 (endE (partN ns i) : Nat), .int .i64 (endD (partN ns i) : Nat), .bool (partN ns i).isSome]) ∧ Grow W w' := hcl
  by_cases hp : (partN ns 0).isSome = false ∨ endE (partN ns 0) ≠ ns.length
  ·rw [checkN_form (by omega) hp]
   rw [hm] at hp
   have hc0 : ∀ W, Grow w W → Calls Tryz.prog 64 #[treeV (RA, RC) m (NA, NC) m, .int .i64 0] W fun e w' => e = .returned (.tuple #[.int .i64 (endE (partN ns 0) : Nat), .int .i64 (endD (partN ns 0) : Nat), .bool (partN ns 0).isSome]) ∧ Grow W w' := hcl2 0 (by omega)
   obtain ⟨E, hE⟩ : ∃ E, E = endE (partN ns 0) := ⟨_, rfl⟩
   obtain ⟨D, hD⟩ : ∃ D, D = endD (partN ns 0) := ⟨_, rfl⟩
   obtain ⟨O, hO⟩ : ∃ D, D = (partN ns 0).isSome := ⟨_, rfl⟩
   simp only [← hE, ← hD, ← hO] at hc0 hp
   have Hc0 := Lib.hid hc0
   have Hval := Lib.hid hval
   clear hE hD hO hcl hcl2 hle hc0 hval h hN hs hrl hBz hn hX hXl hm
   cases O with
   | false =>
    clear hp
    go_enter Tryz.func32, Tryz.ntmps32
    refine en1 ?_
    intro u hG b1 hB hF
    refine wp_seq ?_
    refine wp_seq (rsE allocsT [0, 0, 1, 0, 0, 0, 0, 0, 0, 0, 0, 0, 0] hB hG fun L hL => ?_)
    refine gs ?_
    refine gmd (C := fun v ⟨hgu, hB, hG, _⟩ => Hval.out _ hG) ?_
    refine gs ?_
    refine geT hL ?_
    clear hB hG hL L
    rintro u ⟨-, hB, hG, -⟩
    refine wp_cond_false (rfl) ?_
    refine wp_skip ?_
    refine then_norm ?_
    refine wp_seq ?_
    refine wp_seq (rsE allocsT [0, 1, 0, 0, 0, 0, 0, 0, 0] hB hG fun L hL => ?_)
    refine gs ?_
    refine gmd (C := fun v ⟨hgu, hB, hG, _⟩ => Hc0.out _ hG) ?_
    refine gs ?_
    refine geT hL ?_
    clear hB hG hL L
    rintro u ⟨-, hB, hG, -⟩
    refine r0T ?_
    refine wp_cond_true (rfl) ?_
    refine r0T ?_
    refine rt Tryz.results32 ?_
    exact ⟨rfl, hG⟩
   | true =>
    have hEm : E ≠ m := by simpa using hp
    have hne : ((E : Int) != (m : Int)) = true := by simp; omega
    clear hp
    go_enter Tryz.func32, Tryz.ntmps32
    refine en1 ?_
    intro u hG b1 hB hF
    refine wp_seq ?_
    refine wp_seq (rsE allocsT [0, 0, 1, 0, 0, 0, 0, 0, 0, 0, 0, 0, 0] hB hG fun L hL => ?_)
    refine gs ?_
    refine gmd (C := fun v ⟨hgu, hB, hG, _⟩ => Hval.out _ hG) ?_
    refine gs ?_
    refine geT hL ?_
    clear hB hG hL L
    rintro u ⟨-, hB, hG, -⟩
    refine wp_cond_false (rfl) ?_
    refine wp_skip ?_
    refine then_norm ?_
    refine wp_seq ?_
    refine wp_seq (rsE allocsT [0, 1, 0, 0, 0, 0, 0, 0, 0] hB hG fun L hL => ?_)
    refine gs ?_
    refine gmd (C := fun v ⟨hgu, hB, hG, _⟩ => Hc0.out _ hG) ?_
    refine gs ?_
    refine geT hL ?_
    clear hB hG hL L
    rintro u ⟨-, hB, hG, -⟩
    refine r0T ?_
    refine wp_cond_true (rfl) ?_
    refine r0T ?_
    refine rt Tryz.results32 ?_
    exact ⟨rfl, hG⟩
  ·obtain ⟨bN, oN, hNe, hnd⟩ : ∃ bN oN, NA = some ⟨bN, oN, none⟩ ∧ ∀ (i : Nat) (x : NdT), ns[i]? = some x → ∀ W, Grow w W → W.cell? ⟨bN, oN + i * 4, none⟩ = some (.int .i64 x.r) ∧ W.cell? ⟨bN, oN + i * 4 + 1, none⟩ = some (.int .i64 x.c) ∧ W.cell? ⟨bN, oN + i * 4 + 2, none⟩ = some (.int .i64 x.l) ∧ W.cell? ⟨bN, oN + i * 4 + 3, none⟩ = some (.int .i64 x.t) := by
    obtain ⟨bN, oN, e, hb, hc⟩ := hN (fun e => by rw [e] at hm; simp at hm; omega)
    refine ⟨bN, oN, e, fun i x hi W hg => ?_⟩
    have hk : ∀ j v, (ndL x)[j]? = some v → W.cell? ⟨bN, oN + i * 4 + j, none⟩ = some v := fun j v hj => (hg.cell (p := ⟨bN, oN + i * 4 + j, none⟩) hb).trans (hc i x hi j v hj)
    exact ⟨hk 0 _ rfl, hk 1 _ rfl, hk 2 _ rfl, hk 3 _ rfl⟩
   subst hNe
   obtain ⟨bb, ob, hRe⟩ := h.addr (by omega)
   subst hRe
   have hrow : ∀ i, i < m → ∀ c, c < Lw → ∃ (ba oa : Nat) (cr : Nat), qs (ent X i c) ≤ s ∧ ∀ W, Grow w W → W.cell? ⟨bb, ob + i, none⟩ = some (.slice (some ⟨ba, oa, none⟩) Lw cr) ∧ Cq W ba (oa + c * 5) (ent X i c) := fun i hi c hc => by
    have hil : i < rs.length := by omega
    have hL := hrl _ (List.getElem_mem hil)
    obtain ⟨h1, h2⟩ := h.read (List.getElem?_eq_getElem hil)
    obtain ⟨ba, oa, e⟩ := h2.addr (by omega)
    have er : ent X i c = gq rs[i].2.2 c := by
     rw [ent_gq, hX]
     unfold rowR
     rw [List.getElem?_map, List.getElem?_eq_getElem hil]
     rfl
    rw [er]
    refine ⟨ba, oa, rs[i].2.1, hs _ (List.getElem_mem hil) _ (gq_mem (by omega)), fun W hg => ?_⟩
    obtain ⟨h3, h4⟩ := (h.grow hg).read (List.getElem?_eq_getElem hil)
    rw [e] at h3 h4
    rw [hL] at h3
    exact ⟨h3, h4.read (by omega)⟩
   obtain ⟨ba0, oa0, cr0, -, hr0'⟩ := hrow 0 (by omega) 0 (by omega)
   have hr0 : ∀ W, Grow w W → W.cell? ⟨bb, ob, none⟩ = some (.slice (some ⟨ba0, oa0, none⟩) Lw cr0) := fun W hg => (hr0' W hg).1
   have hc0 : ∀ W, Grow w W → Calls Tryz.prog 64 #[treeV (some ⟨bb, ob, none⟩, RC) m (some ⟨bN, oN, none⟩, NC) m, .int .i64 0] W fun e w' => e = .returned (.tuple #[.int .i64 (m : Nat), .int .i64 (endD (partN ns 0) : Nat), .bool true]) ∧ Grow W w' := fun W hg => by
    have h1 := hcl2 0 (by omega) W hg
    have e1 : endE (partN ns 0) = m := by rw [← hm]; exact Decidable.byContradiction fun h => hp (.inr h)
    have e2 : (partN ns 0).isSome = true := by
     cases hq : (partN ns 0).isSome with
     | true => rfl
     | false => exact absurd (.inl hq) hp
    rw [e1, e2] at h1
    exact h1
   obtain ⟨D0, hD0⟩ : ∃ D, D = endD (partN ns 0) := ⟨_, rfl⟩
   rw [← hD0] at hc0
   have hck := fun v => @checkN_bad X Lw ns (by omega) hp v
   have hck2 := @checkN_wrong X Lw ns (by omega) hp
   have hck3 := @checkN_ok X Lw ns (by omega) hp
   rw [hXl, hm] at hck hck2 hck3
   obtain ⟨CK, hCK⟩ : ∃ C, C = checkN X Lw ns := ⟨_, rfl⟩
   rw [← hCK] at hck hck2 hck3 ⊢
   have hget : ∀ i, i < m → ∃ x, ns[i]? = some x := fun i hi => ⟨_, List.getElem?_eq_getElem (by omega)⟩
   have hmk := make_bool m (by omega) (m : Int) rfl
   have hmi : (0 : Int) < (m : Int) := by omega
   have hmp : 0 < m := by omega
   have hmz : decide (m = 0) = false := by simp; omega
   have hsz : ∀ q r : Rat, qs q ≤ s → qs r ≤ s → ∀ W, Calls Tryz.prog 45 #[qV q, qV r] W fun e w' => e = .returned (.int .i64 (cmpQ q r)) ∧ Grow W w' := fun q r h1 h2 W => frac_Cmp q r W (by omega)
   have Hval := Lib.hid hval
   have Hc0 := Lib.hid hc0
   have Hcl := Lib.hid hcl2
   have Hle := Lib.hid hle
   have Hrow := Lib.hid hrow
   have Hr0 := Lib.hid hr0
   have Hnd := Lib.hid hnd
   have Hck := Lib.hid hck
   have Hck2 := Lib.hid hck2
   have Hck3 := Lib.hid hck3
   have Hget := Lib.hid hget
   have Hmk := Lib.hid hmk
   have Hsz := Lib.hid hsz
   have HXl := Lib.hid hXl
   clear hval hc0 hcl hcl2 hle hrow hr0 hr0' hnd hck hck2 hck3 hget hmk hsz hXl hCK hD0 hp hX h hN hs hrl hBz hn hm
   go_enter Tryz.func32, Tryz.ntmps32
   refine en1 ?_
   intro u hG b1 hB hF
   refine wp_seq ?_
   refine wp_seq (rsE allocsT [0, 0, 1, 0, 0, 0, 0, 0, 0, 0, 0, 0, 0] hB hG fun L hL => ?_)
   refine gs ?_
   refine gmd (C := fun v ⟨hgu, hB, hG, _⟩ => Hval.out _ hG) ?_
   refine gs ?_
   refine geT hL ?_
   clear hB hG hL L
   rintro u ⟨-, hB, hG, -⟩
   refine wp_cond_false (rfl) ?_
   refine wp_skip ?_
   refine then_norm ?_
   refine wp_seq ?_
   refine wp_seq (rsE allocsT [0, 1, 0, 0, 0, 0, 0, 0, 0] hB hG fun L hL => ?_)
   refine gs ?_
   refine gmd (C := fun v ⟨hgu, hB, hG, _⟩ => Hc0.out _ hG) ?_
   refine gs ?_
   refine geT hL ?_
   clear hB hG hL L
   rintro u ⟨-, hB, hG, -⟩
   refine r0T ?_
   refine wp_cond_false (rfl) ?_
   refine wp_skip ?_
   refine then_norm ?_
   refine wp_seq ?_
   have hmk := Hmk.out
   have hl1 := hB.head.lt
   have r := hB.r
   simp only [BxR] at r
   refine wp_r0 ?_
   intro K hN
   go_wp2_with fail
   clear r
   generalize hv : World.alloc u _ = v
   have hrow := own_made_B (B := w.heap.size) hG.sz (by omega) hv
   have hgv : Grow u v := hv ▸ Grow.alloc u _
   have hG2 := hG.trans hgv
   have hB2 := hB.grow hgv
   clear hv hG hB hmk hgv
   rw [← seenL_start m ns] at hrow
   generalize u.heap.size = g6 at hrow hl1 ⊢
   have HI := Lib.hid hrow
   have Hl1 := Lib.hid hl1
   have hG := hG2
   have hB := hB2
   clear hrow hG2 hB2 hl1
   obtain ⟨u, rfl⟩ : ∃ x, x = v := ⟨_, rfl⟩
   refine NoK.norm (hN _ _ ?_)
   clear hN K
   refine then_norm ?_
   refine wp_seq ?_
   refine r0T ?_
   refine wp_block ?_
   go_loopw [52] (fun s0 wr => ∃ k : Nat, k ≤ m ∧ s0 = .int .i64 k ∧ (∀ j, j < k → badN Lw m ns j = false) ∧ wr.ownsRow w.heap.size 4 1 (.slice (some ⟨g6, 0, none⟩) m m) m (seenL m ns k) ∧ Bx wr [(b1, 79, #[.slice (some ⟨bb, ob, none⟩) m RC, .slice (some ⟨bN, oN, none⟩) m NC])] ∧ Grow w wr) (fun s0 _ => m - (intOf s0).toNat)
   case atStart => exact ⟨0, Nat.zero_le _, rfl, fun j hj => absurd hj (Nat.not_lt_zero _), HI.out, hB, hG⟩
   case round =>
    clear hB hG HI
    obtain ⟨k, hk, rfl, hgood, ho, hB, hG⟩ := hrel
    obtain ⟨u, rfl⟩ : ∃ x, x = wr := ⟨_, rfl⟩
    have HI := Lib.hid ho
    have Hgood := Lib.hid hgood
    clear ho hgood
    rcases Nat.lt_or_ge k m with hlt | hge
    ·have hdec : decide ((k : Int) < (m : Int)) = true := by simp; omega
     have hkm : (k : Int) < (m : Int) := by omega
     obtain ⟨x, hx⟩ := Hget.out k hlt
     have hndx := fun W hg => Hnd.out k x hx W hg
     have hbc := badN_cases (L := Lw) (n := m) hx
     have Hx := Lib.hid hx
     have Hndx := Lib.hid hndx
     have Hbc := Lib.hid hbc
     clear hx hndx hbc
     refine r0T ?_
     refine wp_seq ?_
     refine wp_cond_true (rfl) ?_
     refine wp_skip ?_
     refine then_norm ?_
     refine wp_seq ?_
     refine wp_block ?_
     refine wp_seq (rsC allocsT [0, 0, 2] hB hG fun K L hN hL => ?_)
     repeat first | refine gya ?_ | refine gyr ?_ | refine gna ?_ | refine gyb (by (rintro v ⟨hgu, hB, hG, -⟩ N hN; have r := hB.r; simp only [BxR] at r; obtain ⟨d0, d1, d2, d3⟩ := Hndx.out v hG; go_simp; exact hN)) ?_
     refine gaa (newObj_Node _ _ _ _ _) fun b8 hb8 hn8 => ?_
     replace hF := hF.n1 [] hB hG hb8 hn8
     refine geC hL ?_
     clear hB hG hL L
     rintro u ⟨⟨hgu, hB, hG, -⟩, h8⟩
     replace hB := hB.cons' h8
     clear h8
     have hnb : g6 < b8 := Nat.lt_of_lt_of_le (HI.out.lt g6 rfl).2 hb8
     have HI2 := Lib.hid (own_grow' HI.out hgu)
     clear HI
     have HI := HI2
     clear HI2
     clear hb8 hn8
     clear hgu
     refine gtT ?_
     clear hN K
     refine sv hB hF hG 0 0 [_, _, _, _] ?_
     intro u hu hBG
     have HI2 := Lib.hid (own_over HI.out (fun e => by have h9 : g6 = b8 := Option.some.inj e; omega) hu)
     clear HI hB hG hu
     have HI := HI2
     clear HI2
     obtain ⟨hB, hG⟩ := hBG
     refine wp_seq ?_
     have hb := Hbc.out
     clear Hbc Hndx
     obtain ⟨xr, xc, xl, xt⟩ := x
     simp only at hb
     rcases hb with ⟨hb, hbd⟩ | ⟨c, rfl, hcL, hbd⟩ | ⟨c, rfl, hcL, hb, hbd⟩ | ⟨c, r0, rfl, hcL, rfl, hb, hbd⟩ | ⟨c, r0, rfl, hcL, rfl, hrm, hsn, hbd⟩ | ⟨c, r0, rfl, hcL, rfl, hrm, hsn, hbd⟩
     ·have f1 : decide (xc < 0) = true := decide_eq_true hb
      have hck := Lib.hid (Hck.out k hlt hbd)
      clear hb hbd HI
      refine wp_seq (rdC allocsT [] [(0, 0), (0, 1), (0, 2), (0, 3), (0, 4), (0, 5), (0, 6), (0, 7), (0, 8), (0, 9), (0, 10), (0, 11), (0, 12), (0, 13), (0, 14), (0, 15), (0, 16), (0, 17), (0, 18), (0, 19), (0, 20), (0, 21), (0, 22), (0, 23), (0, 24), (0, 25), (0, 26), (0, 27), (0, 28), (0, 29), (0, 30), (0, 31)] hB hG (hs := growF_of [0, 1, 3, 7, 15, 31, 15, 79, 207, 463, 975, 2047, 4095, 8191, 16383, 32767, 65535, 131071, 262143, 524287, 1048575, 524287, 2621439, 6815743, 16777215, 33554431, 67108863, 134217727, 134217727, 402653183, 1073741823, 2147483647, 4294967295] (by kernel_rfl)) fun K L hN hL => ?_)
      repeat first | refine gya ?_ | refine gyr ?_ | refine gna ?_ | refine gyb (by (rintro v ⟨hgu, hB, hG, -⟩ N hN; have r := hB.r; simp only [BxR] at r; skip; go_simp; exact hN)) ?_
      refine geC hL ?_
      clear hB hG hL L
      rintro u ⟨-, hB, hG, -⟩
      refine gtT ?_
      clear hN K
      refine wp_cond_true (rfl) ?_
      refine r0T ?_
      refine rt Tryz.results32 ?_
      exact ⟨by rw [hck.out]; rfl, hG⟩
     ·have f1 : decide ((Lw : Int) ≤ (c : Int)) = true := by simp; omega
      have f1n : decide (Lw ≤ c) = true := by simp; omega
      have hck := Lib.hid (Hck.out k hlt hbd)
      clear hcL hbd HI
      refine wp_seq (rdC allocsT [] [(0, 0), (0, 1), (0, 2), (0, 3), (0, 4), (0, 5), (0, 6), (0, 7), (0, 8), (0, 9), (0, 10), (0, 11), (0, 12), (0, 13), (0, 14), (0, 15), (0, 16), (0, 17), (0, 18), (0, 19), (0, 20), (0, 21), (0, 22), (0, 23), (0, 24), (0, 25), (0, 26), (0, 27), (0, 28), (0, 29), (0, 30), (0, 31)] hB hG (hs := growF_of [0, 1, 3, 7, 15, 31, 15, 79, 207, 463, 975, 2047, 4095, 8191, 16383, 32767, 65535, 131071, 262143, 524287, 1048575, 524287, 2621439, 6815743, 16777215, 33554431, 67108863, 134217727, 134217727, 402653183, 1073741823, 2147483647, 4294967295] (by kernel_rfl)) fun K L hN hL => ?_)
      repeat first | refine gya ?_ | refine gyr ?_ | refine gna ?_ | refine gyb (by (rintro v ⟨hgu, hB, hG, -⟩ N hN; have r := hB.r; simp only [BxR] at r; have q0 := Hr0.out v hG; go_simp; exact hN)) ?_
      refine geC hL ?_
      clear hB hG hL L
      rintro u ⟨-, hB, hG, -⟩
      refine gtT ?_
      clear hN K
      refine wp_cond_true (rfl) ?_
      refine r0T ?_
      refine rt Tryz.results32 ?_
      exact ⟨by rw [hck.out]; rfl, hG⟩
     ·have f1 : decide ((Lw : Int) ≤ (c : Int)) = false := by simp; omega
      have f1n : decide (Lw ≤ c) = false := by simp; omega
      have f2 : decide (xr < 0) = true := decide_eq_true hb
      have hck := Lib.hid (Hck.out k hlt hbd)
      clear hb hcL hbd HI
      refine wp_seq (rdC allocsT [] [(0, 0), (0, 1), (0, 2), (0, 3), (0, 4), (0, 5), (0, 6), (0, 7), (0, 8), (0, 9), (0, 10), (0, 11), (0, 12), (0, 13), (0, 14), (0, 15), (0, 16), (0, 17), (0, 18), (0, 19), (0, 20), (0, 21), (0, 22), (0, 23), (0, 24), (0, 25), (0, 26), (0, 27), (0, 28), (0, 29), (0, 30), (0, 31)] hB hG (hs := growF_of [0, 1, 3, 7, 15, 31, 15, 79, 207, 463, 975, 2047, 4095, 8191, 16383, 32767, 65535, 131071, 262143, 524287, 1048575, 524287, 2621439, 6815743, 16777215, 33554431, 67108863, 134217727, 134217727, 402653183, 1073741823, 2147483647, 4294967295] (by kernel_rfl)) fun K L hN hL => ?_)
      repeat first | refine gya ?_ | refine gyr ?_ | refine gna ?_ | refine gyb (by (rintro v ⟨hgu, hB, hG, -⟩ N hN; have r := hB.r; simp only [BxR] at r; have q0 := Hr0.out v hG; go_simp; exact hN)) ?_
      refine geC hL ?_
      clear hB hG hL L
      rintro u ⟨-, hB, hG, -⟩
      refine gtT ?_
      clear hN K
      refine wp_cond_true (rfl) ?_
      refine r0T ?_
      refine rt Tryz.results32 ?_
      exact ⟨by rw [hck.out]; rfl, hG⟩
     ·have f1 : decide ((Lw : Int) ≤ (c : Int)) = false := by simp; omega
      have f1n : decide (Lw ≤ c) = false := by simp; omega
      have f3 : decide ((m : Int) ≤ (r0 : Int)) = true := by simp; omega
      have f3n : decide (m ≤ r0) = true := by simp; omega
      have hck := Lib.hid (Hck.out k hlt hbd)
      clear hb hcL hbd HI
      refine wp_seq (rdC allocsT [] [(0, 0), (0, 1), (0, 2), (0, 3), (0, 4), (0, 5), (0, 6), (0, 7), (0, 8), (0, 9), (0, 10), (0, 11), (0, 12), (0, 13), (0, 14), (0, 15), (0, 16), (0, 17), (0, 18), (0, 19), (0, 20), (0, 21), (0, 22), (0, 23), (0, 24), (0, 25), (0, 26), (0, 27), (0, 28), (0, 29), (0, 30), (0, 31)] hB hG (hs := growF_of [0, 1, 3, 7, 15, 31, 15, 79, 207, 463, 975, 2047, 4095, 8191, 16383, 32767, 65535, 131071, 262143, 524287, 1048575, 524287, 2621439, 6815743, 16777215, 33554431, 67108863, 134217727, 134217727, 402653183, 1073741823, 2147483647, 4294967295] (by kernel_rfl)) fun K L hN hL => ?_)
      repeat first | refine gya ?_ | refine gyr ?_ | refine gna ?_ | refine gyb (by (rintro v ⟨hgu, hB, hG, -⟩ N hN; have r := hB.r; simp only [BxR] at r; have q0 := Hr0.out v hG; go_simp; exact hN)) ?_
      refine geC hL ?_
      clear hB hG hL L
      rintro u ⟨-, hB, hG, -⟩
      refine gtT ?_
      clear hN K
      refine wp_cond_true (rfl) ?_
      refine r0T ?_
      refine rt Tryz.results32 ?_
      exact ⟨by rw [hck.out]; rfl, hG⟩
     ·have f1 : decide ((Lw : Int) ≤ (c : Int)) = false := by simp; omega
      have f1n : decide (Lw ≤ c) = false := by simp; omega
      have f3 : decide ((m : Int) ≤ (r0 : Int)) = false := by simp; omega
      have f3n : decide (m ≤ r0) = false := by simp; omega
      have hri : (r0 : Int) < (m : Int) := by omega
      have hsc : u.cell? ⟨g6, r0, none⟩ = some (.bool true) := by rw [HI.out.cellAt r0 (by omega), seenL_at hrm, hsn]
      have hlg := (HI.out.lt g6 rfl).2
      have Hsc := Lib.hid (fun W (hg : Grow u W) => (hg.cell (p := ⟨g6, r0, none⟩) hlg).trans hsc)
      have hck := Lib.hid (Hck.out k hlt hbd)
      clear hcL hbd hsn hsc hlg HI
      refine wp_seq (rdC allocsT [] [(0, 0), (0, 1), (0, 2), (0, 3), (0, 4), (0, 5), (0, 6), (0, 7), (0, 8), (0, 9), (0, 10), (0, 11), (0, 12), (0, 13), (0, 14), (0, 15), (0, 16), (0, 17), (0, 18), (0, 19), (0, 20), (0, 21), (0, 22), (0, 23), (0, 24), (0, 25), (0, 26), (0, 27), (0, 28), (0, 29), (0, 30), (0, 31)] hB hG (hs := growF_of [0, 1, 3, 7, 15, 31, 15, 79, 207, 463, 975, 2047, 4095, 8191, 16383, 32767, 65535, 131071, 262143, 524287, 1048575, 524287, 2621439, 6815743, 16777215, 33554431, 67108863, 134217727, 134217727, 402653183, 1073741823, 2147483647, 4294967295] (by kernel_rfl)) fun K L hN hL => ?_)
      repeat first | refine gya ?_ | refine gyr ?_ | refine gna ?_ | refine gyb (by (rintro v ⟨hgu, hB, hG, -⟩ N hN; have r := hB.r; simp only [BxR] at r; have q0 := Hr0.out v hG; have q1 := Hsc.out v hgu; go_simp; exact hN)) ?_
      refine geC hL ?_
      clear hB hG hL L
      rintro u ⟨-, hB, hG, -⟩
      refine gtT ?_
      clear hN K
      refine wp_cond_true (rfl) ?_
      refine r0T ?_
      refine rt Tryz.results32 ?_
      exact ⟨by rw [hck.out]; rfl, hG⟩
     ·have f1 : decide ((Lw : Int) ≤ (c : Int)) = false := by simp; omega
      have f1n : decide (Lw ≤ c) = false := by simp; omega
      have f3 : decide ((m : Int) ≤ (r0 : Int)) = false := by simp; omega
      have f3n : decide (m ≤ r0) = false := by simp; omega
      have hri : (r0 : Int) < (m : Int) := by omega
      have hsc : u.cell? ⟨g6, r0, none⟩ = some (.bool false) := by rw [HI.out.cellAt r0 (by omega), seenL_at hrm, hsn]
      have hlg := (HI.out.lt g6 rfl).2
      have Hsc := Lib.hid (fun W (hg : Grow u W) => (hg.cell (p := ⟨g6, r0, none⟩) hlg).trans hsc)
      have Hg2 := Lib.hid (show ∀ j, j < k + 1 → badN Lw m ns j = false from fun j hj => by
       rcases Nat.lt_or_ge j k with h | h
       ·exact Hgood.out j h
       ·obtain rfl : j = k := by omega
        exact hbd)
      have Hset := Lib.hid (seenL_set (n := m) Hx.out rfl hrm)
      clear hcL hbd hsn hsc hlg
      refine wp_seq (rdC allocsT [] [(0, 0), (0, 1), (0, 2), (0, 3), (0, 4), (0, 5), (0, 6), (0, 7), (0, 8), (0, 9), (0, 10), (0, 11), (0, 12), (0, 13), (0, 14), (0, 15), (0, 16), (0, 17), (0, 18), (0, 19), (0, 20), (0, 21), (0, 22), (0, 23), (0, 24), (0, 25), (0, 26), (0, 27), (0, 28), (0, 29), (0, 30), (0, 31)] hB hG (hs := growF_of [0, 1, 3, 7, 15, 31, 15, 79, 207, 463, 975, 2047, 4095, 8191, 16383, 32767, 65535, 131071, 262143, 524287, 1048575, 524287, 2621439, 6815743, 16777215, 33554431, 67108863, 134217727, 134217727, 402653183, 1073741823, 2147483647, 4294967295] (by kernel_rfl)) fun K L hN hL => ?_)
      repeat first | refine gya ?_ | refine gyr ?_ | refine gna ?_ | refine gyb (by (rintro v ⟨hgu, hB, hG, -⟩ N hN; have r := hB.r; simp only [BxR] at r; have q0 := Hr0.out v hG; have q1 := Hsc.out v hgu; go_simp; exact hN)) ?_
      refine geC hL ?_
      clear hB hG hL L
      rintro u ⟨hgu, hB, hG, -⟩
      have HI2 := Lib.hid (own_grow' HI.out hgu)
      clear HI Hsc
      have HI := HI2
      clear HI2
      clear hgu
      refine gtT ?_
      clear hN K
      refine wp_cond_false (rfl) ?_
      refine wp_skip ?_
      refine then_norm ?_
      have c9 := HI.out.cellAt r0 (by omega)
      rw [seenL_at hrm] at c9
      have f9 := fun j => HI.out.frozenAt j
      skip
      refine r0E ?_
      clear c9 f9
      generalize hu0 : World.setCell u ⟨g6, r0, none⟩ _ = u0
      obtain ⟨p1, p2⟩ := HI.out.stored r0 (.bool true)
      rw [hu0, Hset.out] at p1
      rw [hu0] at p2
      have hl1 := Hl1.out
      have hB2 := Bx.grown_ hB.tail p2 (fun e he hxe => by
       have e1 := Option.some.inj hxe
       simp only [List.mem_cons, List.not_mem_nil, or_false] at he
       subst he
       simp only at e1
       omega)
      have hG2 : Grow w u0 := hG.grown p2 (fun j e => (HI.out.lt j e).1)
      clear hB hG HI p2 hu0 hl1
      have hB := hB2
      have hG := hG2
      have HI := Lib.hid p1
      clear hB2 hG2 p1
      obtain ⟨u, rfl⟩ : ∃ x, x = u0 := ⟨_, rfl⟩
      refine blk_norm ?_
      refine then_norm ?_
      refine r0E ?_
      refine then_norm ?_
      go_roundw
      case rel => exact ⟨k + 1, by omega, by go_num, Hg2.out, HI.out, hB, hG⟩
      case measure => simp [intOf]; omega
    ·obtain rfl : m = k := by omega
     have hdec : decide ((m : Int) < (m : Int)) = false := by simp
     clear HI
     refine r0T ?_
     refine wp_seq ?_
     refine wp_cond_false (rfl) ?_
     refine wp_exit ?_
     refine then_exit ?_
     refine then_exit ?_
     refine blk_exit ?_
     refine then_norm ?_
     refine wp_seq ?_
     refine r0T ?_
     refine wp_block ?_
     go_loopw [97] (fun s0 wr => ∃ i : Nat, i ≤ m ∧ s0 = .int .i64 i ∧ (∀ j, j < i → wrongI X ns j = false) ∧ Bx wr [(b1, 79, #[.slice (some ⟨bb, ob, none⟩) m RC, .slice (some ⟨bN, oN, none⟩) m NC])] ∧ Grow w wr) (fun s0 _ => m - (intOf s0).toNat)
     case atStart => exact ⟨0, Nat.zero_le _, rfl, fun j hj => absurd hj (Nat.not_lt_zero _), hB, hG⟩
     case round =>
      clear hB hG
      obtain ⟨i, hi, rfl, hok, hB, hG⟩ := hrel
      obtain ⟨u, rfl⟩ : ∃ x, x = wr := ⟨_, rfl⟩
      have Hok := Lib.hid hok
      clear hok
      rcases Nat.lt_or_ge i m with hlt | hge
      ·have hdec : decide ((i : Int) < (m : Int)) = true := by simp; omega
       have him : (i : Int) < (m : Int) := by omega
       obtain ⟨x, hx⟩ := Hget.out i hlt
       have hndx := fun W hg => Hnd.out i x hx W hg
       obtain ⟨c, r0, hxc, hcL, hxr, hrm⟩ := goodN (Hgood.out i hlt) hx
       obtain ⟨xr, xc, xl, xt⟩ := x
       simp only at hxc hxr
       subst hxc hxr
       have hend := fun W hg => Hcl.out i hlt W hg
       obtain ⟨E, hE⟩ : ∃ E, E = endE (partN ns i) := ⟨_, rfl⟩
       have hEm : E ≤ m := by rw [hE]; exact (Hle.out i).1
       obtain ⟨D, hD⟩ : ∃ D, D = endD (partN ns i) := ⟨_, rfl⟩
       obtain ⟨O, hO⟩ : ∃ D, D = (partN ns i).isSome := ⟨_, rfl⟩
       simp only [← hE, ← hD, ← hO] at hend
       have hrg := rightN_at hx
       rw [← hE] at hrg
       simp only at hrg
       obtain ⟨G, hGe⟩ : ∃ G, G = rightN ns i := ⟨_, rfl⟩
       rw [← hGe] at hrg
       have hwr : ∀ (j : Nat) (y : NdT), ns[j]? = some y → wrongN X ns i j = wrongB G (cmpQ (ent X y.r.toNat c) (ent X r0 c)) j := fun j y hy => by
        have h1 := wrongN_at (X := X) hx hy
        rw [← hGe] at h1
        exact h1
       have hwi : ∀ j, i < j → j < E → wrongN X ns i j = true → wrongI X ns i = true := fun j h1 h2 h3 => wrong_in h1 (by rw [← hE]; exact h2) h3
       have hwn : (∀ j, i < j → j < E → wrongN X ns i j = false) → wrongI X ns i = false := fun h => wrong_no (by rw [← hE]; exact h)
       obtain ⟨ba, oa, ca, za, ra⟩ := Hrow.out r0 hrm c hcL
       obtain ⟨Y0, hY0⟩ : ∃ y, y = ent X r0 c := ⟨_, rfl⟩
       rw [← hY0] at za
       simp only [← hY0] at ra hwr
       have hci : (c : Int) < (Lw : Int) := by omega
       have hri : (r0 : Int) < (m : Int) := by omega
       obtain ⟨i1, hi1⟩ : ∃ y, y = i + 1 := ⟨_, rfl⟩
       have fi1 : IntKind.i64.wrap ((i : Int) + 1) = (i1 : Int) := by rw [IntWalk.i64_in _ (by omega)]; omega
       have Hii := Lib.hid hi1
       have Hnd1 := Lib.hid hndx
       have Hend := Lib.hid hend
       have Hrg := Lib.hid hrg
       have Hwr := Lib.hid hwr
       have Hwi := Lib.hid hwi
       have Hwn := Lib.hid hwn
       have Hra := Lib.hid ra
       have Hza := Lib.hid za
       have HEm := Lib.hid hEm
       clear hx hndx hend hE hD hO hrg hGe hwr hwi hwn ra za hi1 hEm hY0
       refine r0T ?_
       refine wp_seq ?_
       refine wp_cond_true (rfl) ?_
       refine wp_skip ?_
       refine then_norm ?_
       refine wp_seq ?_
       refine wp_block ?_
       refine wp_seq ?_
       obtain ⟨d0, d1, d2, d3⟩ := Hnd1.out u hG
       refine rsC allocsT [0, 0, 0, 2, 0] hB hG fun K L hN hL => ?_
       repeat first | refine gya ?_ | refine gyr ?_ | refine gna ?_ | refine gyb (by (rintro v ⟨hgu, hB, hG, -⟩ N hN; have r := hB.r; simp only [BxR] at r; obtain ⟨d0, d1, d2, d3⟩ := Hnd1.out v hG; go_simp; exact hN)) ?_
       refine gaa (newObj_Node _ _ _ _ _) fun b10 hb10 hn10 => ?_
       refine gs ?_
       replace hF := hF.n1 [] hB hG hb10 hn10
       refine geC hL ?_
       clear hB hG hL L
       rintro u ⟨⟨-, hB, hG, -⟩, h10⟩
       replace hB := hB.cons' h10
       clear h10
       clear hb10 hn10
       refine gtT ?_
       clear hN K
       refine st hB hF hG 0 0 [_, _, _, _] ?_
       clear hB hG
       intro u hB hG
       clear d0 d1 d2 d3
       refine wp_seq (rsE allocsT [0, 0, 1, 0, 0, 0, 0, 0, 0, 0] hB hG fun L hL => ?_)
       repeat first | refine gya ?_ | refine gyr ?_ | refine gna ?_ | refine gyb (by (rintro v ⟨hgu, hB, hG, -⟩ N hN; have r := hB.r; simp only [BxR] at r; obtain ⟨d0, d1, d2, d3⟩ := Hnd1.out v hG; go_simp; exact hN)) ?_
       refine gmd (C := fun v ⟨hgu, hB, hG, _⟩ => Hend.out _ hG) ?_
       refine gs ?_
       refine geT hL ?_
       clear hB hG hL L
       rintro u ⟨-, hB, hG, -⟩
       refine r0T ?_
       refine wp_seqK fun Kj hKj => ?_
       go_cut [14] from 110 to 114 (fun s14 wx => s14 = .int .i64 G ∧ Bx wx [(b10, 88, #[.int .i64 (r0 : Nat), .int .i64 (c : Nat), .int .i64 xl, .int .i64 xt]), (b1, 79, #[.slice (some ⟨bb, ob, none⟩) m RC, .slice (some ⟨bN, oN, none⟩) m NC])] ∧ Grow w wx)
       case first =>
        rename_i Jj Kk hJj hMj
        by_cases ht0 : xt = 0
        ·have f0 : (xt != 0) = false := by simp [ht0]
         replace ht0 := Lib.hid ht0
         refine r0T ?_
         refine wp_cond_false (rfl) ?_
         refine wp_skip ?_
         refine then_norm ?_
         refine hMj _ _ (Met.intro (hJj _ _ ?_))
         repeat apply Exists.intro
         refine ⟨?rel, rfl⟩
         case rel =>
          exact ⟨by rw [Hrg.out, if_pos ht0.out], hB, hG⟩
        ·have f0 : (xt != 0) = true := by simp [ht0]
         replace ht0 := Lib.hid ht0
         refine wp_seq ?_
         skip
         refine r0N ?_
         refine wp_cond_true (rfl) ?_
         skip
         refine r0N ?_
         refine hMj _ _ (Met.intro (hJj _ _ ?_))
         repeat apply Exists.intro
         refine ⟨?rel, rfl⟩
         case rel =>
          exact ⟨by rw [Hrg.out, if_neg ht0.out], hB, hG⟩
       case rest =>
        clear hB hG
        obtain ⟨rfl, hB, hG⟩ := hcut
        obtain ⟨u, rfl⟩ : ∃ x, x = wc := ⟨_, rfl⟩
        refine hKj _ _ ?_
        clear hKj Kj
        refine r0T ?_
        refine wp_block ?_
        go_loopw [15] (fun s0 wr => ∃ j : Nat, i < j ∧ j ≤ m + 1 ∧ s0 = .int .i64 j ∧ (∀ k, i < k → k < j → k < E → wrongN X ns i k = false) ∧ Bx wr [(b10, 88, #[.int .i64 (r0 : Nat), .int .i64 (c : Nat), .int .i64 xl, .int .i64 xt]), (b1, 79, #[.slice (some ⟨bb, ob, none⟩) m RC, .slice (some ⟨bN, oN, none⟩) m NC])] ∧ Grow w wr) (fun s0 _ => m + 1 - (intOf s0).toNat)
        case atStart => exact ⟨i1, by have := Hii.out; omega, by have := Hii.out; omega, rfl, fun k h1 h2 => by have := Hii.out; omega, hB, hG⟩
        case round =>
         clear hB hG
         obtain ⟨j, hij, hj1, rfl, hno, hB, hG⟩ := hrel
         obtain ⟨u, rfl⟩ : ∃ x, x = wr := ⟨_, rfl⟩
         have hEm := HEm.out
         rcases Nat.lt_or_ge j E with hjE | hjE
         ·have hdec : decide ((j : Int) < (E : Int)) = true := by simp; omega
          have hjm : j < m := by omega
          have hjmi : (j : Int) < (m : Int) := by omega
          obtain ⟨y, hy⟩ := Hget.out j hjm
          have hndy := fun W hg => Hnd.out j y hy W hg
          obtain ⟨-, r2, -, -, hyr, hr2⟩ := goodN (Hgood.out j hjm) hy
          have hw := Hwr.out j y hy
          obtain ⟨yr, yc, yl, yt⟩ := y
          simp only at hyr
          subst hyr
          simp only [Int.toNat_natCast] at hw
          obtain ⟨bz, oz, cz, zz, rz⟩ := Hrow.out r2 hr2 c hcL
          have hcm := Hsz.out (ent X r2 c) Y0 zz Hza.out
          obtain ⟨Y2, hY2⟩ : ∃ y, y = ent X r2 c := ⟨_, rfl⟩
          rw [← hY2] at hw hcm
          simp only [← hY2] at rz
          obtain ⟨P, hP⟩ : ∃ y, y = cmpQ Y2 Y0 := ⟨_, rfl⟩
          rw [← hP] at hw
          simp only [← hP] at hcm
          have hr2i : (r2 : Int) < (m : Int) := by omega
          have Hcm := Lib.hid hcm
          have Hndy := Lib.hid hndy
          have Hrz := Lib.hid rz
          clear hy hndy zz rz hcm hY2 hP
          by_cases hjG : (j : Int) < G
          ·have fj : decide ((j : Int) < G) = true := decide_eq_true hjG
           have fj2 : decide (G ≤ (j : Int)) = false := decide_eq_false (by omega)
           by_cases hP0 : 0 < P
           ·have fP : decide (0 < P) = true := decide_eq_true hP0
            have hck := Lib.hid (Hck2.out Hgood.out hlt (Hwi.out j hij hjE (by rw [hw]; unfold wrongB; rw [fj, fP]; rfl)))
            clear hw hno hP0 hjG
            refine wp_seq ?_
            refine r0T ?_
            refine wp_cond_true (rfl) ?_
            refine wp_skip ?_
            refine then_norm ?_
            refine wp_seq ?_
            refine wp_block ?_
            refine wp_seq (rdC allocsT [] [(0, 0), (0, 1), (0, 2), (0, 3), (0, 4), (0, 5), (0, 6), (0, 7), (0, 8), (0, 9), (0, 10), (0, 11), (0, 12), (0, 13), (0, 14), (0, 15), (0, 16), (0, 17), (0, 18), (0, 19), (0, 20), (0, 21), (0, 22), (0, 23), (1, 24)] hB hG (hs := growF_of [0, 1, 0, 4, 0, 28, 60, 124, 255, 511, 0, 1024, 4095, 8191, 0, 16384, 0, 65536, 245760, 507904, 0, 1048576, 4177920, 8372224, 16777215, 33554431] (by kernel_rfl)) fun K L hN hL => ?_)
            repeat first | refine gya ?_ | refine gyr ?_ | refine gna ?_ | refine gyb (by (rintro v ⟨hgu, hB, hG, -⟩ N hN; have r := hB.r; simp only [BxR] at r; obtain ⟨d0, d1, d2, d3⟩ := Hndy.out v hG; obtain ⟨g1, q1, q2, q3, q4, q5⟩ := Hra.out v hG; obtain ⟨g2, y1, y2, y3, y4, y5⟩ := Hrz.out v hG; go_simp; exact hN)) ?_
            refine gmw (C := fun v => Hcm.out _) ?_
            refine geC hL ?_
            clear hB hG hL L
            rintro u ⟨-, hB, hG, -⟩
            refine gtT ?_
            clear hN K
            refine r0T ?_
            refine wp_cond_true (rfl) ?_
            refine r0T ?_
            refine rt Tryz.results32 ?_
            exact ⟨by rw [hck.out]; rfl, hG⟩
           ·have fP : decide (0 < P) = false := decide_eq_false hP0
            have hno2 := noN hno (show wrongN X ns i j = false by rw [hw]; unfold wrongB; rw [fj, fP, fj2]; rfl)
            have Hno2 := Lib.hid hno2
            clear hw hno hno2 hP0 hjG
            refine wp_seq ?_
            refine r0T ?_
            refine wp_cond_true (rfl) ?_
            refine wp_skip ?_
            refine then_norm ?_
            refine wp_seq ?_
            refine wp_block ?_
            refine wp_seq (rdC allocsT [] [(0, 0), (0, 1), (0, 2), (0, 3), (0, 4), (0, 5), (0, 6), (0, 7), (0, 8), (0, 9), (0, 10), (0, 11), (0, 12), (0, 13), (0, 14), (0, 15), (0, 16), (0, 17), (0, 18), (0, 19), (0, 20), (0, 21), (0, 22), (0, 23), (1, 24)] hB hG (hs := growF_of [0, 1, 0, 4, 0, 28, 60, 124, 255, 511, 0, 1024, 4095, 8191, 0, 16384, 0, 65536, 245760, 507904, 0, 1048576, 4177920, 8372224, 16777215, 33554431] (by kernel_rfl)) fun K L hN hL => ?_)
            repeat first | refine gya ?_ | refine gyr ?_ | refine gna ?_ | refine gyb (by (rintro v ⟨hgu, hB, hG, -⟩ N hN; have r := hB.r; simp only [BxR] at r; obtain ⟨d0, d1, d2, d3⟩ := Hndy.out v hG; obtain ⟨g1, q1, q2, q3, q4, q5⟩ := Hra.out v hG; obtain ⟨g2, y1, y2, y3, y4, y5⟩ := Hrz.out v hG; go_simp; exact hN)) ?_
            refine gmw (C := fun v => Hcm.out _) ?_
            refine geC hL ?_
            clear hB hG hL L
            rintro u ⟨-, hB, hG, -⟩
            refine gtT ?_
            clear hN K
            refine r0T ?_
            refine wp_cond_false (rfl) ?_
            refine wp_skip ?_
            refine blk_norm ?_
            refine then_norm ?_
            refine r0E ?_
            refine then_norm ?_
            go_roundw
            case rel => exact ⟨j + 1, by omega, by omega, by go_num, Hno2.out, hB, hG⟩
            case measure => simp [intOf]; omega
          ·have fj : decide ((j : Int) < G) = false := decide_eq_false hjG
           have fj2 : decide (G ≤ (j : Int)) = true := decide_eq_true (by omega)
           by_cases hP0 : P < 0
           ·have fP : decide (P < 0) = true := decide_eq_true hP0
            have hck := Lib.hid (Hck2.out Hgood.out hlt (Hwi.out j hij hjE (by rw [hw]; unfold wrongB; rw [fj, fj2, fP]; rfl)))
            clear hw hno hP0 hjG
            refine wp_seq ?_
            refine r0T ?_
            refine wp_cond_true (rfl) ?_
            refine wp_skip ?_
            refine then_norm ?_
            refine wp_seq ?_
            refine wp_block ?_
            refine wp_seq (rdC allocsT [] [(0, 0), (0, 1), (0, 2), (0, 3), (0, 4), (0, 5), (0, 6), (0, 7), (0, 8), (0, 9), (0, 10), (0, 11), (0, 12), (0, 13), (0, 14), (0, 15), (0, 16), (0, 17), (0, 18), (0, 19), (0, 20), (0, 21), (0, 22), (0, 23), (1, 24)] hB hG (hs := growF_of [0, 1, 0, 4, 0, 28, 60, 124, 255, 511, 0, 1024, 4095, 8191, 0, 16384, 0, 65536, 245760, 507904, 0, 1048576, 4177920, 8372224, 16777215, 33554431] (by kernel_rfl)) fun K L hN hL => ?_)
            repeat first | refine gya ?_ | refine gyr ?_ | refine gna ?_ | refine gyb (by (rintro v ⟨hgu, hB, hG, -⟩ N hN; have r := hB.r; simp only [BxR] at r; obtain ⟨d0, d1, d2, d3⟩ := Hndy.out v hG; obtain ⟨g1, q1, q2, q3, q4, q5⟩ := Hra.out v hG; obtain ⟨g2, y1, y2, y3, y4, y5⟩ := Hrz.out v hG; go_simp; exact hN)) ?_
            refine gmw (C := fun v => Hcm.out _) ?_
            refine geC hL ?_
            clear hB hG hL L
            rintro u ⟨-, hB, hG, -⟩
            refine gtT ?_
            clear hN K
            refine r0T ?_
            refine wp_cond_true (rfl) ?_
            refine r0T ?_
            refine rt Tryz.results32 ?_
            exact ⟨by rw [hck.out]; rfl, hG⟩
           ·have fP : decide (P < 0) = false := decide_eq_false hP0
            have hno2 := noN hno (show wrongN X ns i j = false by rw [hw]; unfold wrongB; rw [fj, fj2, fP]; rfl)
            have Hno2 := Lib.hid hno2
            clear hw hno hno2 hP0 hjG
            refine wp_seq ?_
            refine r0T ?_
            refine wp_cond_true (rfl) ?_
            refine wp_skip ?_
            refine then_norm ?_
            refine wp_seq ?_
            refine wp_block ?_
            refine wp_seq (rdC allocsT [] [(0, 0), (0, 1), (0, 2), (0, 3), (0, 4), (0, 5), (0, 6), (0, 7), (0, 8), (0, 9), (0, 10), (0, 11), (0, 12), (0, 13), (0, 14), (0, 15), (0, 16), (0, 17), (0, 18), (0, 19), (0, 20), (0, 21), (0, 22), (0, 23), (1, 24)] hB hG (hs := growF_of [0, 1, 0, 4, 0, 28, 60, 124, 255, 511, 0, 1024, 4095, 8191, 0, 16384, 0, 65536, 245760, 507904, 0, 1048576, 4177920, 8372224, 16777215, 33554431] (by kernel_rfl)) fun K L hN hL => ?_)
            repeat first | refine gya ?_ | refine gyr ?_ | refine gna ?_ | refine gyb (by (rintro v ⟨hgu, hB, hG, -⟩ N hN; have r := hB.r; simp only [BxR] at r; obtain ⟨d0, d1, d2, d3⟩ := Hndy.out v hG; obtain ⟨g1, q1, q2, q3, q4, q5⟩ := Hra.out v hG; obtain ⟨g2, y1, y2, y3, y4, y5⟩ := Hrz.out v hG; go_simp; exact hN)) ?_
            refine gmw (C := fun v => Hcm.out _) ?_
            refine geC hL ?_
            clear hB hG hL L
            rintro u ⟨-, hB, hG, -⟩
            refine gtT ?_
            clear hN K
            refine r0T ?_
            refine wp_cond_false (rfl) ?_
            refine wp_skip ?_
            refine blk_norm ?_
            refine then_norm ?_
            refine r0E ?_
            refine then_norm ?_
            go_roundw
            case rel => exact ⟨j + 1, by omega, by omega, by go_num, Hno2.out, hB, hG⟩
            case measure => simp [intOf]; omega
         ·have hdec : decide ((j : Int) < (E : Int)) = false := by simp; omega
          have hdecn : decide (j < E) = false := by simp; omega
          have Hwi0 := Lib.hid (Hwn.out fun k h1 h2 => hno k h1 (by omega) h2)
          clear hno
          refine wp_seq ?_
          refine r0T ?_
          refine wp_cond_false (rfl) ?_
          refine wp_exit ?_
          refine then_exit ?_
          refine then_exit ?_
          refine blk_exit ?_
          refine blk_norm ?_
          refine then_norm ?_
          refine r0E ?_
          refine then_norm ?_
          go_roundw
          case rel => exact ⟨i1, by have := Hii.out; omega, rfl, fun k hk => by
           have hii := Hii.out
           rcases Nat.lt_or_ge k i with h | h
           ·exact Hok.out k h
           ·obtain rfl : k = i := by omega
            exact Hwi0.out, hB.tail, hG⟩
          case measure => have := Hii.out; simp [intOf]; omega
      ·obtain rfl : m = i := by omega
       have hdec : decide ((m : Int) < (m : Int)) = false := by simp
       have hck := Lib.hid (Hck3.out Hgood.out Hok.out)
       refine r0T ?_
       refine wp_seq ?_
       refine wp_cond_false (rfl) ?_
       refine wp_exit ?_
       refine then_exit ?_
       refine then_exit ?_
       refine blk_exit ?_
       refine then_norm ?_
       refine r0T ?_
       refine rt Tryz.results32 ?_
       exact ⟨by rw [hck.out]; rfl, hG⟩
 ·rw [checkN_len (by omega)]
  have hne : ((m : Int) != (n : Int)) = true := by simp; omega
  have Hval := Lib.hid hval
  clear hval h hN hs hrl hBz hn hX hXl hm hmn
  go_enter Tryz.func32, Tryz.ntmps32
  refine en1 ?_
  intro u hG b1 hB hF
  refine wp_seq ?_
  refine wp_seq (rsE allocsT [0, 0, 1, 0, 0, 0, 0, 0, 0, 0, 0, 0, 0] hB hG fun L hL => ?_)
  refine gs ?_
  refine gmd (C := fun v ⟨hgu, hB, hG, _⟩ => Hval.out _ hG) ?_
  refine gs ?_
  refine geT hL ?_
  clear hB hG hL L
  rintro u ⟨-, hB, hG, -⟩
  refine wp_cond_true (rfl) ?_
  refine r0T ?_
  refine rt Tryz.results32 ?_
  exact ⟨rfl, hG⟩
end Go.Proofs.YtjmopgepnndckaaGreatDoor
