/- Contracts and laws. -/
import Derived.Test.YtjmopgepnndckaaGreatDoorC44
set_option linter.unusedSimpArgs false
set_option linter.unusedVariables false
set_option maxHeartbeats 16000000
set_option maxRecDepth 100000
namespace Go.Proofs.YtjmopgepnndckaaGreatDoor
open Go Go.RowKit
theorem B3U {o : Option (Nat × Nat)} {m : Nat} : P9 o = (m : Int) ↔ ∃ d, o = some (m, d) := by
  cases o with
  | none => constructor
            · intro h; exact absurd h (by simp only [P9]; omega)
            · rintro ⟨d, h⟩; cases h
  | some p => constructor
              · intro h
                simp only [P9] at h
                exact ⟨p.2, by rw [show m = p.1 by omega]⟩
              · rintro ⟨d, h⟩
                cases h
                rfl
theorem B0T (ns : List NdT) (k : Nat) (x : Int) : (((ns.take k).map (·.r)).any fun y => decide (y = x)) = O0 ns k x := by
 unfold O0
 rw [List.any_map]
 rfl
theorem B0z (R N : Ax) (rs : List Rq) (n Lw m : Nat) (ns : List NdT) (hn : rs.length = n) (hn1 : 1 ≤ n) (hn2 : n ≤ 300) (hL1 : 1 ≤ Lw) (hL2 : Lw ≤ 20) (hrl : ∀ r ∈ rs, r.2.2.length = Lw) (hm : ns.length = m) (hm2 : m ≤ 300) (s : Nat) (hs : ∀ r ∈ rs, ∀ x ∈ r.2.2, qs x ≤ s) (hBz : 2 * s + 1 ≤ BIG) (w : World) (h : Lrz w R.1 rs) (hN : Le ndL 4 w N.1 ns) :
  Calls Tryz.prog 29 #[E6 R n N m] w fun e w' => e = .returned (.int .i64 (G6 (rs.map (·.2.2)) Lw ns : Nat)) ∧ A3 w w' := by
 obtain ⟨RA, RC⟩ := R
 obtain ⟨NA, NC⟩ := N
 simp only at h hN
 have hval := fun W (hg : A3 w W) => A5z RA rs n Lw RC hn hn1 hn2 hL1 hL2 hrl W (h.grow hg)
 obtain ⟨X, hX⟩ : ∃ X, X = rs.map (·.2.2) := ⟨_, rfl⟩
 have hXl : X.length = n := by rw [hX, List.length_map, hn]
 rw [← hX]
 have Hval := Lib.hid hval
 by_cases hmn : m = n
 ·subst hmn
  have hpt := fun (bw ge : Nat) (h1 : w.heap.size ≤ bw) (h2 : w.heap.size ≤ ge) (h3 : bw ≠ ge) => A6m bw ge m m m (RA, RC) (NA, NC) ns hm hm2 w h1 h2 h3 hN (ns.length + 1)
  have hle : ∀ i, E8 (B8 ns i) ≤ m := fun i => by
   cases hp : B8 ns i with
   | none => exact Nat.zero_le _
   | some p =>
    have := A2X (e := p.1) (d := p.2) hp
    rw [hm] at this
    exact this.1
  obtain ⟨bN, oN, hNe, hnd⟩ : ∃ bN oN, NA = some ⟨bN, oN, none⟩ ∧ ∀ (i : Nat) (x : NdT), ns[i]? = some x → ∀ W, A3 w W → W.cell? ⟨bN, oN + i * 4, none⟩ = some (.int .i64 x.r) ∧ W.cell? ⟨bN, oN + i * 4 + 1, none⟩ = some (.int .i64 x.c) ∧ W.cell? ⟨bN, oN + i * 4 + 2, none⟩ = some (.int .i64 x.l) ∧ W.cell? ⟨bN, oN + i * 4 + 3, none⟩ = some (.int .i64 x.t) := by
   obtain ⟨bN, oN, e, hb, hc⟩ := hN (fun e => by rw [e] at hm; simp at hm; omega)
   refine ⟨bN, oN, e, fun i x hi W hg => ?_⟩
   have hk : ∀ j v, (ndL x)[j]? = some v → W.cell? ⟨bN, oN + i * 4 + j, none⟩ = some v := fun j v hj => (hg.cell (p := ⟨bN, oN + i * 4 + j, none⟩) hb).trans (hc i x hi j v hj)
   exact ⟨hk 0 _ rfl, hk 1 _ rfl, hk 2 _ rfl, hk 3 _ rfl⟩
  subst hNe
  obtain ⟨bb, ob, hRe⟩ := h.addr (by omega)
  subst hRe
  have hrow : ∀ i, i < m → ∀ c, c < Lw → ∃ (ba oa : Nat) (cr : Nat) (p : Az), qs (ent X i c) ≤ s ∧ ∀ W, A3 w W → W.cell? ⟨bb, ob + i, none⟩ = some (.slice (some ⟨ba, oa, none⟩) Lw cr) ∧ Rz W p (ent X i c) ∧ Cz W ba (oa + c * 3) p (ent X i c) := fun i hi c hc => by
   have hil : i < rs.length := by omega
   have hL := hrl _ (List.getElem_mem hil)
   obtain ⟨h1, h2⟩ := h.read (List.getElem?_eq_getElem hil)
   obtain ⟨ba, oa, e⟩ := h2.addr (by omega)
   have er : ent X i c = gq rs[i].2.2 c := by
    rw [A3S, hX]
    unfold R8
    rw [List.getElem?_map, List.getElem?_eq_getElem hil]
    rfl
   rw [er]
   rw [e] at h2
   obtain ⟨p, hp⟩ := h2.read (i := c) (by omega)
   refine ⟨ba, oa, rs[i].2.1, p, hs _ (List.getElem_mem hil) _ (Z0 (by omega)), fun W hg => ?_⟩
   obtain ⟨h3, -⟩ := (h.grow hg).read (List.getElem?_eq_getElem hil)
   rw [e, hL] at h3
   exact ⟨h3, hp W hg⟩
  obtain ⟨ba0, oa0, cr0, p0, -, hr0'⟩ := hrow 0 (by omega) 0 (by omega)
  have hr0 : ∀ W, A3 w W → W.cell? ⟨bb, ob, none⟩ = some (.slice (some ⟨ba0, oa0, none⟩) Lw cr0) := fun W hg => (hr0' W hg).1
  have hget : ∀ i, i < m → ∃ x, ns[i]? = some x := fun i hi => ⟨_, List.getElem?_eq_getElem (by omega)⟩
  have hmk := A4x m (by omega) (m : Int) rfl
  have hmi : (0 : Int) < (m : Int) := by omega
  have hmp : 0 < m := by omega
  have hmz : decide (m = 0) = false := by simp; omega
  have hsz : ∀ q r : Rat, qs q ≤ s → qs r ≤ s → ∀ (p p' : Az) W, Rz W p q → Rz W p' r → Calls Tryz.prog 63 #[rqV p.1 p.2 q, rqV p'.1 p'.2 r] W fun e w' => e = .returned (.int .i64 (E9 q r)) ∧ A3 W w' := fun q r h1 h2 p p' W g1 g2 => A7G p.1 p.2 p'.1 p'.2 q r W g1.a g1.b g2.a g2.b (by omega)
  have hck0 := @A4S X Lw ns (by omega)
  have hck := fun hp v => @A5V X Lw ns (by omega) hp v
  have hck2 := @A6y X Lw ns (by omega)
  have hck3 := @A5J X Lw ns (by omega)
  rw [hXl, hm] at hck hck2 hck3
  rw [hm] at hck0
  obtain ⟨CK, hCK⟩ : ∃ C, C = G6 X Lw ns := ⟨_, rfl⟩
  rw [← hCK] at hck0 hck hck2 hck3 ⊢
  have Hpt := Lib.hid hpt
  have Hle := Lib.hid hle
  have Hrow := Lib.hid hrow
  have Hr0 := Lib.hid hr0
  have Hnd := Lib.hid hnd
  have Hck0 := Lib.hid hck0
  have Hck := Lib.hid hck
  have Hck2 := Lib.hid hck2
  have Hck3 := Lib.hid hck3
  have Hget := Lib.hid hget
  have Hmk := Lib.hid hmk
  have Hsz := Lib.hid hsz
  have Hm := Lib.hid hm
  clear hval hpt hle hrow hr0 hr0' hnd hck0 hck hck2 hck3 hget hmk hsz hXl hCK hX h hN hs hrl hBz hn hm
  go_enter Tryz.func29, Tryz.ntmps29
  refine en1 ?_
  intro u hG b1 hB hF
  refine wp_seq ?_
  refine wp_seq (rsE C5 [0, 0, 1, 0, 0, 0, 0, 0, 0, 0, 0, 0, 0] hB hG fun L hL => ?_)
  refine gs ?_
  refine gmd (C := fun v ⟨hgu, hB, hG, _⟩ => Hval.out _ hG) ?_
  refine gs ?_
  refine geT hL ?_
  clear hB hG hL L
  rintro u ⟨-, hB, hG, -⟩
  refine wp_cond_false (rfl) ?_
  refine wp_skip ?_
  refine A4 ?_
  refine wp_seq ?_
  refine Code.wp_mono NoP.up ?_
  have hl1 := hB.head.lt
  have f1 := hB.head.cell 0
  have f2 := hB.head.cell 1
  simp only [List.getElem?_toArray, List.getElem?_cons_zero, List.getElem?_cons_succ] at f1 f2
  refine wp_region_held_drew (S := fun w' => w'.cell? ⟨b1, 0, none⟩ = some (.slice (some ⟨bb, ob, none⟩) m RC) ∧ w'.cell? ⟨b1, 1, none⟩ = some (.slice (some ⟨bN, oN, none⟩) m NC)) (by kernel_rfl) ⟨f1, f2⟩ (fun hHeld => ?_)
  refine wpAnyH_take (i := 0) (v := ?_) rfl (by kernel_rfl) (by kernel_rfl) (by kernel_rfl) (fun _ _ _ h => h) (Or.inl ⟨by rfl, ?_⟩) (by assumption) ?_
  rotate_left
  ·(intro w hSw; go_simp; (try with_reducible rfl))
  (try simp only [Act.put, List.setIfInBounds_toArray, List.set_cons_zero, List.set_cons_succ])
  refine wpAnyH_take (i := 1) (v := ?_) rfl (by kernel_rfl) (by kernel_rfl) (by kernel_rfl) (fun _ _ _ h => h) (Or.inl ⟨by rfl, ?_⟩) (by assumption) ?_
  rotate_left
  ·(intro w hSw; go_simp; (try with_reducible rfl))
  (try simp only [Act.put, List.setIfInBounds_toArray, List.set_cons_zero, List.set_cons_succ])
  refine wpAnyH_take (i := 2) (v := ?_) rfl (by kernel_rfl) (by kernel_rfl) (by kernel_rfl) (fun _ _ _ h => h) (Or.inl ⟨by rfl, ?_⟩) (by assumption) ?_
  rotate_left
  ·(intro w hSw; go_simp; (try with_reducible rfl))
  (try simp only [Act.put, List.setIfInBounds_toArray, List.set_cons_zero, List.set_cons_succ])
  refine wpAnyH_take (i := 3) (v := ?_) rfl (by kernel_rfl) (by kernel_rfl) (by kernel_rfl) (fun _ _ _ h => h) (Or.inl ⟨by rfl, ?_⟩) (by assumption) ?_
  rotate_left
  ·(intro w hSw; go_simp; (try with_reducible rfl))
  (try simp only [Act.put, List.setIfInBounds_toArray, List.set_cons_zero, List.set_cons_succ])
  refine wpAnyH_ready (rs := [4]) (by kernel_rfl) (by simp) (AllReadyH.cons rfl (fun K hK => ?_) AllReadyH.nil)
  have hmk := Hmk.out
  go_simp
  refine hK.out _ _ ?_ (fun hHeld => ?_)
  ·go_keep
  clear hK K hmk
  (try simp only [Act.put, List.setIfInBounds_toArray, List.set_cons_zero, List.set_cons_succ])
  refine wpAnyH_take (i := 5) (v := ?_) rfl (by kernel_rfl) (by kernel_rfl) (by kernel_rfl) (fun _ _ _ h => h) (Or.inl ⟨by rfl, ?_⟩) (by assumption) ?_
  rotate_left
  ·(intro w hSw; go_simp; (try with_reducible rfl))
  (try simp only [Act.put, List.setIfInBounds_toArray, List.set_cons_zero, List.set_cons_succ])
  refine wpAnyH_ready (rs := [6]) (by kernel_rfl) (by simp) (AllReadyH.cons rfl (fun K hK => ?_) AllReadyH.nil)
  go_simp
  refine hK.out _ _ ?_ (fun hHeld => ?_)
  ·go_keep
  clear hK K
  (try simp only [Act.put, List.setIfInBounds_toArray, List.set_cons_zero, List.set_cons_succ])
  refine wpAnyH_take (i := 7) (v := ?_) rfl (by kernel_rfl) (by kernel_rfl) (by kernel_rfl) (fun _ _ _ h => h) (Or.inl ⟨by rfl, ?_⟩) (by assumption) ?_
  rotate_left
  ·(intro w hSw; go_simp; (try with_reducible rfl))
  (try simp only [Act.put, List.setIfInBounds_toArray, List.set_cons_zero, List.set_cons_succ])
  refine wpAnyH_done (by kernel_rfl) ?_ _
  refine NoP.norm ?_
  simp only [List.getElem_toArray, List.getElem_cons_succ, List.getElem_cons_zero, List.set_cons_succ, List.set_cons_zero]
  clear f1 f2
  clear hHeld
  generalize hv0 : World.alloc u _ = v0
  have hrow := A5Q (B := w.heap.size) hG.sz (by omega) hv0
  have hs0 : v0.heap.size = u.heap.size + 1 := by rw [← hv0, F0]
  generalize hv1 : World.alloc v0 _ = v1
  have hbk : Blk v1 v0.heap.size 122 #[.slice (some ⟨bb, ob, none⟩) m RC, .slice (some ⟨bN, oN, none⟩) m NC, .slice (some ⟨u.heap.size, 0, none⟩) m m, .int .i64 0] := hv1 ▸ Blk.new v0 122 _
  have hg0 : A3 u v0 := hv0 ▸ A3.alloc u _
  have hg1 : A3 v0 v1 := hv1 ▸ A3.alloc v0 _
  have hG1 : A3 w v1 := (hG.trans hg0).trans hg1
  have PW : PartW v0.heap.size u.heap.size m m m (some ⟨bb, ob, none⟩, RC) (some ⟨bN, oN, none⟩, NC) w.heap.size 0 (List.replicate m 0) v1.drew := PartW.grow ⟨hbk, D4 hrow hg1⟩ (A3.drew v1)
  have Lb := Lib.hid (show w.heap.size ≤ v0.heap.size ∧ w.heap.size ≤ u.heap.size ∧ v0.heap.size ≠ u.heap.size from ⟨by have := hG.size; omega, hG.size, by omega⟩)
  have hPW := Lib.hid PW
  have hB2 := ((hB.grow hg0).grow hg1).grow (A3.drew v1)
  have hG2 := hG1.trans (A3.drew v1)
  have L1 := Lib.hid (show b1 ≠ v0.heap.size ∧ b1 ≠ u.heap.size by constructor <;> omega)
  rw [hs0] at Lb hPW L1
  generalize u.heap.size + 1 = bw at Lb hPW L1 ⊢
  generalize u.heap.size = ge at Lb hPW L1 ⊢
  clear hB hG hrow hs0 hbk hg0 hg1 hG1 PW hv0 hv1 hl1
  have hB := hB2
  have hG := hG2
  clear hB2 hG2
  generalize v1.drew = v2 at hPW hB hG ⊢
  obtain ⟨u, rfl⟩ : ∃ x, x = v2 := ⟨_, rfl⟩
  refine A4 ?_
  refine wp_seq ?_
  have hcc : Calls Tryz.prog 61 #[.pointer (some ⟨bw, 0, none⟩), .int .i64 0, .int .i64 0] u.drew _ := (Hpt.out bw ge Lb.out.1 Lb.out.2.1 Lb.out.2.2 0 0 0 (List.replicate m 0) u.drew (hG.trans (A3.drew u)) (by omega) (by omega) (by have := Hm.out; omega) List.length_replicate (hPW.out.grow (A3.drew u)))
  have Hc := Lib.hid hcc
  clear hcc hPW
  by_cases hp : (B8 ns 0).isSome = false ∨ E8 (B8 ns 0) ≠ m
  ·have hc := Hc.out
   have hpi : P9 (D8 ns (ns.length + 1) 0) ≠ (m : Int) := fun e => by
    obtain ⟨d, hd⟩ := B3U.1 e
    have hd : B8 ns 0 = some (m, d) := hd
    rw [hd] at hp
    rcases hp with h | h
    ·cases h
    ·exact h rfl
   have hck := Hck0.out hp
   obtain ⟨PI, hPI⟩ : ∃ x, x = P9 (D8 ns (ns.length + 1) 0) := ⟨_, rfl⟩
   rw [← hPI] at hc hpi
   have fne : (PI != (m : Int)) = true := by simp [hpi]
   have Hc := Lib.hid hc
   have Hck := Lib.hid hck
   clear hc hPI hpi hp hck
   refine wp_seq ?_
   refine Code.wp_mono NoP.up ?_
   have f2 := hB.head.cell 1
   simp only [List.getElem?_toArray, List.getElem?_cons_zero, List.getElem?_cons_succ] at f2
   refine wp_region_held_drew (S := fun w' => w'.cell? ⟨b1, 1, none⟩ = some (.slice (some ⟨bN, oN, none⟩) m NC)) (by kernel_rfl) f2 (fun hHeld => ?_)
   refine wpAnyH_take (i := 0) (v := ?_) rfl (by kernel_rfl) (by kernel_rfl) (by kernel_rfl) (fun _ _ _ h => h) (Or.inl ⟨by rfl, ?_⟩) (by assumption) ?_
   rotate_left
   ·(intro w hSw; go_simp; (try with_reducible rfl))
   (try simp only [Act.put, List.setIfInBounds_toArray, List.set_cons_zero, List.set_cons_succ])
   refine wpAnyH_take (i := 2) (v := ?_) rfl (by kernel_rfl) (by kernel_rfl) (by kernel_rfl) (fun _ _ _ h => h) (Or.inl ⟨by rfl, ?_⟩) (by assumption) ?_
   rotate_left
   ·(intro w hSw; go_simp; (try with_reducible rfl))
   (try simp only [Act.put, List.setIfInBounds_toArray, List.set_cons_zero, List.set_cons_succ])
   refine wpAnyH_take (i := 3) (v := ?_) rfl (by kernel_rfl) (by kernel_rfl) (by kernel_rfl) (fun _ _ _ h => h) (Or.inl ⟨by rfl, ?_⟩) (by assumption) ?_
   rotate_left
   ·(intro w hSw; go_simp; (try with_reducible rfl))
   (try simp only [Act.put, List.setIfInBounds_toArray, List.set_cons_zero, List.set_cons_succ])
   refine wpAnyH_take (i := 4) (v := ?_) rfl (by kernel_rfl) (by kernel_rfl) (by kernel_rfl) (fun _ _ _ h => h) (Or.inl ⟨by rfl, ?_⟩) (by assumption) ?_
   rotate_left
   ·(intro w hSw; go_simp; (try with_reducible rfl))
   (try simp only [Act.put, List.setIfInBounds_toArray, List.set_cons_zero, List.set_cons_succ])
   refine wpAnyH_ready (rs := [1]) (by kernel_rfl) (by simp) (AllReadyH.cons rfl (fun K hK => ?_) AllReadyH.nil)
   go_simp
   refine Hc.out.mono ?_
   rintro e w5 ⟨rfl, far1, es1, q0, q1, q2, q3, q4⟩
   (try simp only [])
   have hl1 := hB.head.lt
   have q5 := q2.blk (hB.head.grow (A3.drew u)) (fun e => by have := L1.out; rcases e with e | e <;> omega)
   refine hK.out _ _ ?_ (fun hHeld => ?_)
   ·exact q5.cell 1
   clear hK K
   (try simp only [Act.put, List.setIfInBounds_toArray, List.set_cons_zero, List.set_cons_succ])
   refine wpAnyH_take (i := 5) (v := ?_) rfl (by kernel_rfl) (by kernel_rfl) (by kernel_rfl) (fun _ _ _ h => h) (Or.inl ⟨by rfl, ?_⟩) (by assumption) ?_
   rotate_left
   ·(intro w hSw; go_simp; (try with_reducible rfl))
   (try simp only [Act.put, List.setIfInBounds_toArray, List.set_cons_zero, List.set_cons_succ])
   refine wpAnyH_done (by kernel_rfl) ?_ _
   refine NoP.norm ?_
   simp only [List.getElem_toArray, List.getElem_cons_succ, List.getElem_cons_zero, List.set_cons_succ, List.set_cons_zero]
   clear f2
   have hB2 : Bx w5 [(b1, 72, #[.slice (some ⟨bb, ob, none⟩) m RC, .slice (some ⟨bN, oN, none⟩) m NC])] := Bx.cons q5 (Bx.nil _)
   have hG2 := q3
   have q6 := q1
   have Q4 := Lib.hid q4
   clear hB hG Hc q1 q2 q3 q4 q5 hl1
   have hB := hB2
   have hG := hG2
   clear hB2 hG2
   obtain ⟨u, rfl⟩ : ∃ x, x = w5 := ⟨_, rfl⟩
   have PW := Lib.hid q6
   clear q6
   refine A4 ?_
   refine wp_cond_true (rfl) ?_
   refine r0T ?_
   refine rt Tryz.results29 ?_
   exact ⟨by rw [Hck.out]; rfl, hG⟩
  ·have hc := Hc.out
   obtain ⟨d0, hd0⟩ : ∃ d, B8 ns 0 = some (m, d) := by
    cases hq : B8 ns 0 with
    | none => rw [hq] at hp; exact absurd (.inl rfl) hp
    | some p =>
     rw [hq] at hp
     exact ⟨p.2, by rw [show m = p.1 from (Decidable.byContradiction fun h => hp (.inr h) : E8 (some p) = m).symm]⟩
   have hd1 : D8 ns (ns.length + 1) 0 = some (m, d0) := hd0
   rw [hd1] at hc
   simp only [P9] at hc
   have fne : ((m : Int) != (m : Int)) = false := by simp
   have Hc := Lib.hid hc
   have Hp := Lib.hid hp
   clear hc hd0 hd1 hp
   refine wp_seq ?_
   refine Code.wp_mono NoP.up ?_
   have f2 := hB.head.cell 1
   simp only [List.getElem?_toArray, List.getElem?_cons_zero, List.getElem?_cons_succ] at f2
   refine wp_region_held_drew (S := fun w' => w'.cell? ⟨b1, 1, none⟩ = some (.slice (some ⟨bN, oN, none⟩) m NC)) (by kernel_rfl) f2 (fun hHeld => ?_)
   refine wpAnyH_take (i := 0) (v := ?_) rfl (by kernel_rfl) (by kernel_rfl) (by kernel_rfl) (fun _ _ _ h => h) (Or.inl ⟨by rfl, ?_⟩) (by assumption) ?_
   rotate_left
   ·(intro w hSw; go_simp; (try with_reducible rfl))
   (try simp only [Act.put, List.setIfInBounds_toArray, List.set_cons_zero, List.set_cons_succ])
   refine wpAnyH_take (i := 2) (v := ?_) rfl (by kernel_rfl) (by kernel_rfl) (by kernel_rfl) (fun _ _ _ h => h) (Or.inl ⟨by rfl, ?_⟩) (by assumption) ?_
   rotate_left
   ·(intro w hSw; go_simp; (try with_reducible rfl))
   (try simp only [Act.put, List.setIfInBounds_toArray, List.set_cons_zero, List.set_cons_succ])
   refine wpAnyH_take (i := 3) (v := ?_) rfl (by kernel_rfl) (by kernel_rfl) (by kernel_rfl) (fun _ _ _ h => h) (Or.inl ⟨by rfl, ?_⟩) (by assumption) ?_
   rotate_left
   ·(intro w hSw; go_simp; (try with_reducible rfl))
   (try simp only [Act.put, List.setIfInBounds_toArray, List.set_cons_zero, List.set_cons_succ])
   refine wpAnyH_take (i := 4) (v := ?_) rfl (by kernel_rfl) (by kernel_rfl) (by kernel_rfl) (fun _ _ _ h => h) (Or.inl ⟨by rfl, ?_⟩) (by assumption) ?_
   rotate_left
   ·(intro w hSw; go_simp; (try with_reducible rfl))
   (try simp only [Act.put, List.setIfInBounds_toArray, List.set_cons_zero, List.set_cons_succ])
   refine wpAnyH_ready (rs := [1]) (by kernel_rfl) (by simp) (AllReadyH.cons rfl (fun K hK => ?_) AllReadyH.nil)
   go_simp
   refine Hc.out.mono ?_
   rintro e w5 ⟨rfl, far1, es1, q0, q1, q2, q3, q4⟩
   (try simp only [])
   have hl1 := hB.head.lt
   have q5 := q2.blk (hB.head.grow (A3.drew u)) (fun e => by have := L1.out; rcases e with e | e <;> omega)
   refine hK.out _ _ ?_ (fun hHeld => ?_)
   ·exact q5.cell 1
   clear hK K
   (try simp only [Act.put, List.setIfInBounds_toArray, List.set_cons_zero, List.set_cons_succ])
   refine wpAnyH_take (i := 5) (v := ?_) rfl (by kernel_rfl) (by kernel_rfl) (by kernel_rfl) (fun _ _ _ h => h) (Or.inl ⟨by rfl, ?_⟩) (by assumption) ?_
   rotate_left
   ·(intro w hSw; go_simp; (try with_reducible rfl))
   (try simp only [Act.put, List.setIfInBounds_toArray, List.set_cons_zero, List.set_cons_succ])
   refine wpAnyH_done (by kernel_rfl) ?_ _
   refine NoP.norm ?_
   simp only [List.getElem_toArray, List.getElem_cons_succ, List.getElem_cons_zero, List.set_cons_succ, List.set_cons_zero]
   clear f2
   have hB2 : Bx w5 [(b1, 72, #[.slice (some ⟨bb, ob, none⟩) m RC, .slice (some ⟨bN, oN, none⟩) m NC])] := Bx.cons q5 (Bx.nil _)
   have hG2 := q3
   have q6 := q1
   have Q4 := Lib.hid q4
   clear hB hG Hc q1 q2 q3 q4 q5 hl1
   have hB := hB2
   have hG := hG2
   clear hB2 hG2
   obtain ⟨u, rfl⟩ : ∃ x, x = w5 := ⟨_, rfl⟩
   have PW := Lib.hid q6
   clear q6
   have hen : ∀ j, j < m → gi es1 j = (E8 (B8 ns j) : Int) := fun j hj => by
    rw [(Q4.out m d0 rfl).2, A0K (by rw [List.length_replicate]; exact hj), if_pos (by omega)]
   have Hen := Lib.hid (fun j (hj : j < m) W (hg : A3 u W) => (by
    have h1 := A9W (PW.out.own) q0 hj
    rw [hen j hj] at h1
    exact (hg.cell (p := ⟨ge, j, none⟩) (PW.out.own.lt ge rfl).2).trans h1 : W.cell? ⟨ge, j, none⟩ = some (.int .i64 (E8 (B8 ns j) : Nat))))
   have Hb1 := Lib.hid (fun W (hg : A3 u W) => And.intro ((hB.head.grow hg).cell 0) (And.intro ((hB.head.grow hg).cell 1) ((PW.out.blk.grow hg).cell 2)))
   have HG0 := Lib.hid hG
   have Hnd2 := Lib.hid (fun i x hx W (hg : A3 u W) => Hnd.out i x hx W (hG.trans hg))
   have Hrow2 := Lib.hid (fun i hi c hc => (by
    obtain ⟨ba, oa, cr, p, z, hr⟩ := Hrow.out i hi c hc
    exact ⟨ba, oa, cr, p, z, fun W hg => hr W (hG.trans hg)⟩ : ∃ (ba oa : Nat) (cr : Nat) (p : Az), qs (ent X i c) ≤ s ∧ ∀ W, A3 u W → W.cell? ⟨bb, ob + i, none⟩ = some (.slice (some ⟨ba, oa, none⟩) Lw cr) ∧ Rz W p (ent X i c) ∧ Cz W ba (oa + c * 3) p (ent X i c)))
   have Hr02 := Lib.hid (fun W (hg : A3 u W) => Hr0.out W (hG.trans hg))
   clear hB hF hG hen PW Q4 q0 Hnd Hrow Hr0 Hpt Hval Hc
   obtain ⟨w0, rfl⟩ : ∃ x, x = w := ⟨_, rfl⟩
   obtain ⟨w, hwu⟩ : ∃ x, x = u := ⟨_, rfl⟩
   rw [← hwu] at HG0 Hen Hb1 Hnd2 Hrow2 Hr02
   have hB := Bx.nil u
   have hF := Fr.nil w
   have hG : A3 w u := hwu ▸ A3.refl u
   have Hnd := Hnd2
   have Hrow := Hrow2
   have Hr0 := Hr02
   clear hwu Hnd2 Hrow2 Hr02
   refine A4 ?_
   refine wp_cond_false (rfl) ?_
   refine wp_skip ?_
   refine A4 ?_
   refine r0T ?_
   refine wp_seq ?_
   refine r0T ?_
   refine wp_block ?_
   go_loopw [5, 4] (fun s0 s1 wr => ∃ k : Nat, k ≤ m ∧ s0 = .int .i64 k ∧ (∀ j, j < k → I8 Lw m ns j = false) ∧ wr.ownsRow w.heap.size 3 1 s1 k (A1f ((ns.take k).map (·.r))) ∧ A3 w wr) (fun s0 _ _ => m - (intOf s0).toNat)
   case atStart => exact ⟨0, Nat.zero_le _, rfl, fun j hj => absurd hj (Nat.not_lt_zero _), World.ownsRow_nil _ _ _ _, hG⟩
   case round =>
    clear hB hG
    obtain ⟨k, hk, rfl, hgood, ho, hG⟩ := hrel
    obtain ⟨u, rfl⟩ : ∃ x, x = wr := ⟨_, rfl⟩
    have hB := Bx.nil u
    obtain ⟨A', cc, rfl⟩ := A1z ho
    have Ho := Lib.hid ho
    have Hgood := Lib.hid hgood
    clear ho hgood
    rcases Nat.lt_or_ge k m with hlt | hge
    ·have hdec : decide ((k : Int) < (m : Int)) = true := by simp; omega
     have hkm : (k : Int) < (m : Int) := by omega
     obtain ⟨x, hx⟩ := Hget.out k hlt
     have hndx := fun W hg => Hnd.out k x hx W hg
     have hbc := A4G (L := Lw) (n := m) hx
     have Hx := Lib.hid hx
     have Hndx := Lib.hid hndx
     have Hbc := Lib.hid hbc
     clear hx hndx hbc
     refine wp_seq ?_
     refine wp_seq ?_
     obtain ⟨t0, t1, t2⟩ := Hb1.out u hG
     refine r0N ?_
     refine wp_cond_true (rfl) ?_
     refine wp_skip ?_
     refine A4 ?_
     refine wp_seq ?_
     refine wp_block ?_
     refine wp_seq (rsC C5 [0, 0, 0, 0, 0, 2] hB hG fun K L hN hL => ?_)
     repeat first | refine gya ?_ | refine gyr ?_ | refine gna ?_ | refine gyb (by (rintro v ⟨hgu, hB, hG, -⟩ N hN; have r := hB.r; simp only [BxR] at r; obtain ⟨t0, t1, t2⟩ := Hb1.out v hG; obtain ⟨d0, d1, d2, d3⟩ := Hndx.out v hG; go_simp; exact hN)) ?_
     refine gaa (A07 _ _ _ _ _) fun b6 hb6 hn6 => ?_
     replace hF := hF.n1 [] hB hG hb6 hn6
     refine geC hL ?_
     clear hB hG hL L
     rintro u ⟨⟨hgu, hB, hG, -⟩, h6⟩
     replace hB := hB.cons' h6
     clear h6
     have hnb : ∀ g, (Value.slice A' k cc).ownBlock = some g → g < b6 := fun g hg => Nat.lt_of_lt_of_le (Ho.out.lt g hg).2 hb6
     have Ho2 := Lib.hid (D4 Ho.out hgu)
     clear Ho
     have Ho := Ho2
     clear Ho2
     clear hb6 hn6
     clear hgu
     refine gtT ?_
     clear hN K
     refine sv hB hF hG 0 0 [_, _, _, _] ?_
     intro u hu hBG
     have Ho2 := Lib.hid (I6 Ho.out (fun e => Nat.lt_irrefl _ (hnb b6 e)) hu)
     clear Ho hB hG hu hnb
     have Ho := Ho2
     clear Ho2
     obtain ⟨hB, hG⟩ := hBG
     refine wp_seq ?_
     have hb := Hbc.out
     clear Hbc Hndx
     have hLi : Li u A' ((ns.take k).map (·.r)) := by
      obtain ⟨A2, c2, e9, -, hL⟩ := A5i Ho.out (by rw [List.length_map, List.length_take]; have := Hm.out; omega)
      cases e9
      exact hL
     have hhas := fun (r0 : Nat) W (hg : A3 u W) => A8u A' ((ns.take k).map (·.r)) k cc (r0 : Nat) (by rw [List.length_map, List.length_take]; have := Hm.out; omega) (by omega) W (hLi.grow hg)
     simp only [B0T] at hhas
     clear hLi
     obtain ⟨xr, xc, xl, xt⟩ := x
     simp only at hb
     rcases hb with ⟨hb, hbd⟩ | ⟨c, rfl, hcL, hbd⟩ | ⟨c, rfl, hcL, hb, hbd⟩ | ⟨c, r0, rfl, hcL, rfl, hb, hbd⟩ | ⟨c, r0, rfl, hcL, rfl, hrm, hsn, hbd⟩ | ⟨c, r0, rfl, hcL, rfl, hrm, hsn, hbd⟩
     ·have f1 : decide (xc < 0) = true := decide_eq_true hb
      have hck := Lib.hid (Hck.out Hp.out k hlt hbd)
      clear hb hbd Ho hhas
      refine wp_seq (rdC C5 [] [(0, 0), (0, 1), (0, 2), (0, 3), (0, 4), (0, 5), (0, 6), (0, 7), (0, 8), (0, 9), (0, 10), (0, 11), (0, 12), (0, 13), (0, 14), (0, 15), (0, 16), (0, 17), (0, 18), (0, 19), (0, 20), (0, 21), (0, 22), (0, 23), (0, 24), (0, 25), (0, 26), (0, 27), (0, 28), (0, 29), (1, 30)] hB hG (hs := G7 [0, 1, 3, 7, 15, 31, 15, 79, 207, 463, 975, 2047, 4095, 8191, 16383, 32767, 65535, 131071, 262143, 524287, 1048575, 524287, 2621439, 6815743, 16777215, 33554431, 67108863, 134217727, 134217727, 402653183, 1073741823, 2147483647] (by kernel_rfl)) fun K L hN hL => ?_)
      repeat first | refine gya ?_ | refine gyr ?_ | refine gna ?_ | refine gyb (by (rintro v ⟨hgu, hB, hG, -⟩ N hN; have r := hB.r; simp only [BxR] at r; skip; go_simp; exact hN)) ?_
      refine gmn (by exact rfl) ?_
      refine okf (by simp only [Act.put, List.setIfInBounds_toArray, List.set_cons_succ, List.set_cons_zero]; exact rfl) ?_
      refine geC hL ?_
      clear hB hG hL L
      rintro u ⟨-, hB, hG, -⟩
      refine gtT ?_
      clear hN K
      refine wp_cond_true (rfl) ?_
      refine r0T ?_
      refine rt Tryz.results29 ?_
      exact ⟨by rw [hck.out]; rfl, HG0.out.trans hG⟩
     ·have f1 : decide ((Lw : Int) ≤ (c : Int)) = true := by simp; omega
      have f1n : decide (Lw ≤ c) = true := by simp; omega
      have hck := Lib.hid (Hck.out Hp.out k hlt hbd)
      clear hcL hbd Ho hhas
      refine wp_seq (rdC C5 [] [(0, 0), (0, 1), (0, 2), (0, 3), (0, 4), (0, 5), (0, 6), (0, 7), (0, 8), (0, 9), (0, 10), (0, 11), (0, 12), (0, 13), (0, 14), (0, 15), (0, 16), (0, 17), (0, 18), (0, 19), (0, 20), (0, 21), (0, 22), (0, 23), (0, 24), (0, 25), (0, 26), (0, 27), (0, 28), (0, 29), (1, 30)] hB hG (hs := G7 [0, 1, 3, 7, 15, 31, 15, 79, 207, 463, 975, 2047, 4095, 8191, 16383, 32767, 65535, 131071, 262143, 524287, 1048575, 524287, 2621439, 6815743, 16777215, 33554431, 67108863, 134217727, 134217727, 402653183, 1073741823, 2147483647] (by kernel_rfl)) fun K L hN hL => ?_)
      repeat first | refine gya ?_ | refine gyr ?_ | refine gna ?_ | refine gyb (by (rintro v ⟨hgu, hB, hG, -⟩ N hN; have r := hB.r; simp only [BxR] at r; obtain ⟨t0, t1, t2⟩ := Hb1.out v hG; have q0 := Hr0.out v hG; go_simp; exact hN)) ?_
      refine gmn (by exact rfl) ?_
      refine okf (by simp only [Act.put, List.setIfInBounds_toArray, List.set_cons_succ, List.set_cons_zero]; exact rfl) ?_
      refine geC hL ?_
      clear hB hG hL L
      rintro u ⟨-, hB, hG, -⟩
      refine gtT ?_
      clear hN K
      refine wp_cond_true (rfl) ?_
      refine r0T ?_
      refine rt Tryz.results29 ?_
      exact ⟨by rw [hck.out]; rfl, HG0.out.trans hG⟩
     ·have f1 : decide ((Lw : Int) ≤ (c : Int)) = false := by simp; omega
      have f1n : decide (Lw ≤ c) = false := by simp; omega
      have f2 : decide (xr < 0) = true := decide_eq_true hb
      have hck := Lib.hid (Hck.out Hp.out k hlt hbd)
      clear hb hcL hbd Ho hhas
      refine wp_seq (rdC C5 [] [(0, 0), (0, 1), (0, 2), (0, 3), (0, 4), (0, 5), (0, 6), (0, 7), (0, 8), (0, 9), (0, 10), (0, 11), (0, 12), (0, 13), (0, 14), (0, 15), (0, 16), (0, 17), (0, 18), (0, 19), (0, 20), (0, 21), (0, 22), (0, 23), (0, 24), (0, 25), (0, 26), (0, 27), (0, 28), (0, 29), (1, 30)] hB hG (hs := G7 [0, 1, 3, 7, 15, 31, 15, 79, 207, 463, 975, 2047, 4095, 8191, 16383, 32767, 65535, 131071, 262143, 524287, 1048575, 524287, 2621439, 6815743, 16777215, 33554431, 67108863, 134217727, 134217727, 402653183, 1073741823, 2147483647] (by kernel_rfl)) fun K L hN hL => ?_)
      repeat first | refine gya ?_ | refine gyr ?_ | refine gna ?_ | refine gyb (by (rintro v ⟨hgu, hB, hG, -⟩ N hN; have r := hB.r; simp only [BxR] at r; obtain ⟨t0, t1, t2⟩ := Hb1.out v hG; have q0 := Hr0.out v hG; go_simp; exact hN)) ?_
      refine gmn (by exact rfl) ?_
      refine okf (by simp only [Act.put, List.setIfInBounds_toArray, List.set_cons_succ, List.set_cons_zero]; exact rfl) ?_
      refine geC hL ?_
      clear hB hG hL L
      rintro u ⟨-, hB, hG, -⟩
      refine gtT ?_
      clear hN K
      refine wp_cond_true (rfl) ?_
      refine r0T ?_
      refine rt Tryz.results29 ?_
      exact ⟨by rw [hck.out]; rfl, HG0.out.trans hG⟩
     ·have f1 : decide ((Lw : Int) ≤ (c : Int)) = false := by simp; omega
      have f1n : decide (Lw ≤ c) = false := by simp; omega
      have f3 : decide ((m : Int) ≤ (r0 : Int)) = true := by simp; omega
      have f3n : decide (m ≤ r0) = true := by simp; omega
      have hck := Lib.hid (Hck.out Hp.out k hlt hbd)
      clear hb hcL hbd Ho hhas
      refine wp_seq (rdC C5 [] [(0, 0), (0, 1), (0, 2), (0, 3), (0, 4), (0, 5), (0, 6), (0, 7), (0, 8), (0, 9), (0, 10), (0, 11), (0, 12), (0, 13), (0, 14), (0, 15), (0, 16), (0, 17), (0, 18), (0, 19), (0, 20), (0, 21), (0, 22), (0, 23), (0, 24), (0, 25), (0, 26), (0, 27), (0, 28), (0, 29), (1, 30)] hB hG (hs := G7 [0, 1, 3, 7, 15, 31, 15, 79, 207, 463, 975, 2047, 4095, 8191, 16383, 32767, 65535, 131071, 262143, 524287, 1048575, 524287, 2621439, 6815743, 16777215, 33554431, 67108863, 134217727, 134217727, 402653183, 1073741823, 2147483647] (by kernel_rfl)) fun K L hN hL => ?_)
      repeat first | refine gya ?_ | refine gyr ?_ | refine gna ?_ | refine gyb (by (rintro v ⟨hgu, hB, hG, -⟩ N hN; have r := hB.r; simp only [BxR] at r; obtain ⟨t0, t1, t2⟩ := Hb1.out v hG; have q0 := Hr0.out v hG; go_simp; exact hN)) ?_
      refine gmn (by exact rfl) ?_
      refine okf (by simp only [Act.put, List.setIfInBounds_toArray, List.set_cons_succ, List.set_cons_zero]; exact rfl) ?_
      refine geC hL ?_
      clear hB hG hL L
      rintro u ⟨-, hB, hG, -⟩
      refine gtT ?_
      clear hN K
      refine wp_cond_true (rfl) ?_
      refine r0T ?_
      refine rt Tryz.results29 ?_
      exact ⟨by rw [hck.out]; rfl, HG0.out.trans hG⟩
     ·have f1 : decide ((Lw : Int) ≤ (c : Int)) = false := by simp; omega
      have f1n : decide (Lw ≤ c) = false := by simp; omega
      have f3 : decide ((m : Int) ≤ (r0 : Int)) = false := by simp; omega
      have f3n : decide (m ≤ r0) = false := by simp; omega
      have hh := fun W hg => hhas r0 W hg
      rw [hsn] at hh
      have Hh := Lib.hid hh
      have hck := Lib.hid (Hck.out Hp.out k hlt hbd)
      clear hcL hbd hsn Ho hhas hh
      refine wp_seq (rdC C5 [] [(0, 0), (0, 1), (0, 2), (0, 3), (0, 4), (0, 5), (0, 6), (0, 7), (0, 8), (0, 9), (0, 10), (0, 11), (0, 12), (0, 13), (0, 14), (0, 15), (0, 16), (0, 17), (0, 18), (0, 19), (0, 20), (0, 21), (0, 22), (0, 23), (0, 24), (0, 25), (0, 26), (0, 27), (0, 28), (0, 29), (1, 30)] hB hG (hs := G7 [0, 1, 3, 7, 15, 31, 15, 79, 207, 463, 975, 2047, 4095, 8191, 16383, 32767, 65535, 131071, 262143, 524287, 1048575, 524287, 2621439, 6815743, 16777215, 33554431, 67108863, 134217727, 134217727, 402653183, 1073741823, 2147483647] (by kernel_rfl)) fun K L hN hL => ?_)
      repeat first | refine gya ?_ | refine gyr ?_ | refine gna ?_ | refine gyb (by (rintro v ⟨hgu, hB, hG, -⟩ N hN; have r := hB.r; simp only [BxR] at r; obtain ⟨t0, t1, t2⟩ := Hb1.out v hG; have q0 := Hr0.out v hG; go_simp; exact hN)) ?_
      first | refine gmd (C := fun v ⟨hgu, hB, hG, _⟩ => Hh.out _ hgu) ?_ | refine F2 ?_
      refine geC hL ?_
      clear hB hG hL L
      rintro u ⟨-, hB, hG, -⟩
      refine gtT ?_
      clear hN K
      refine wp_cond_true (rfl) ?_
      refine r0T ?_
      refine rt Tryz.results29 ?_
      exact ⟨by rw [hck.out]; rfl, HG0.out.trans hG⟩
     ·have f1 : decide ((Lw : Int) ≤ (c : Int)) = false := by simp; omega
      have f1n : decide (Lw ≤ c) = false := by simp; omega
      have f3 : decide ((m : Int) ≤ (r0 : Int)) = false := by simp; omega
      have f3n : decide (m ≤ r0) = false := by simp; omega
      have hh := fun W hg => hhas r0 W hg
      rw [hsn] at hh
      have Hh := Lib.hid hh
      have Hg2 := Lib.hid (show ∀ j, j < k + 1 → I8 Lw m ns j = false from fun j hj => by
       rcases Nat.lt_or_ge j k with h | h
       ·exact Hgood.out j h
       ·obtain rfl : j = k := by omega
        exact hbd)
      have Htk := Lib.hid (show (ns.take (k + 1)).map (·.r) = (ns.take k).map (·.r) ++ [(r0 : Int)] by rw [List.take_add_one, Hx.out, List.map_append]; rfl)
      clear hcL hbd hsn hhas hh
      refine wp_seq (rdC C5 [] [(0, 0), (0, 1), (0, 2), (0, 3), (0, 4), (0, 5), (0, 6), (0, 7), (0, 8), (0, 9), (0, 10), (0, 11), (0, 12), (0, 13), (0, 14), (0, 15), (0, 16), (0, 17), (0, 18), (0, 19), (0, 20), (0, 21), (0, 22), (0, 23), (0, 24), (0, 25), (0, 26), (0, 27), (0, 28), (0, 29), (1, 30)] hB hG (hs := G7 [0, 1, 3, 7, 15, 31, 15, 79, 207, 463, 975, 2047, 4095, 8191, 16383, 32767, 65535, 131071, 262143, 524287, 1048575, 524287, 2621439, 6815743, 16777215, 33554431, 67108863, 134217727, 134217727, 402653183, 1073741823, 2147483647] (by kernel_rfl)) fun K L hN hL => ?_)
      repeat first | refine gya ?_ | refine gyr ?_ | refine gna ?_ | refine gyb (by (rintro v ⟨hgu, hB, hG, -⟩ N hN; have r := hB.r; simp only [BxR] at r; obtain ⟨t0, t1, t2⟩ := Hb1.out v hG; have q0 := Hr0.out v hG; go_simp; exact hN)) ?_
      first | refine gmd (C := fun v ⟨hgu, hB, hG, _⟩ => Hh.out _ hgu) ?_ | refine F2 ?_
      refine geC hL ?_
      clear hB hG hL L
      rintro u ⟨hgu, hB, hG, -⟩
      have Ho2 := Lib.hid (D4 Ho.out hgu)
      clear Ho Hh
      have Ho := Ho2
      clear Ho2
      clear hgu
      refine gtT ?_
      clear hN K
      refine wp_cond_false (rfl) ?_
      refine wp_skip ?_
      refine A4 ?_
      refine N6 (w := w) C5 3 [0, 0, 0] (by kernel_rfl) (by simp only [List.drop_succ_cons, List.drop_zero]; exact rfl) (fun _ => True) noG hB hG trivial ?_
      intro K L hN hL
      simp only [List.zip_cons_cons, List.zip_nil_left]
      repeat first | refine gya ?_ | refine gyr ?_ | refine gna ?_ | refine gyb (by (rintro v ⟨hgu, hB, hG, -⟩ N hN; have r := hB.r; simp only [BxR] at r; obtain ⟨t0, t1, t2⟩ := Hb1.out v hG; have q0 := Hr0.out v hG; go_simp; exact hN)) ?_
      refine F7 ?_
      rintro v ⟨hgu, hB1, hG1, -⟩
      have ROWn := Lib.hid (D4 Ho.out hgu)
      clear Ho
      have Ho := ROWn
      clear ROWn
      clear hB hG
      have hB := hB1
      have hG := hG1
      clear hB1 hG1
      refine hL _ _ ?_
      clear hL L hgu
      obtain ⟨u, rfl⟩ : ∃ x, x = v := ⟨_, rfl⟩
      refine T4 A4K w.heap.size _ _ _ _ [Value.int .i64 (r0 : Nat)] rfl rfl (A3s (r0 : Nat) u) rfl (fun _ => rfl) (fun _ => rfl) (fun _ _ => rfl) Ho.out (by omega) (by omega) hG.sz fun p v' w' g1 g2 g3 => ?_
      have hBn := A6D Ho.out hB (by simp) g2
      have hGn := T7 Ho.out hG g2
      clear Ho hB hG
      have Ho := Lib.hid g1
      have hB := hBn
      have hG := hGn
      clear g1 g2 g3 hBn hGn
      obtain ⟨u, rfl⟩ : ∃ x, x = w' := ⟨_, rfl⟩
      simp only [Act.put, List.setIfInBounds_toArray, List.set_cons_succ, List.set_cons_zero]
      refine NoK.norm (hN _ _ ?_)
      clear hN K
      refine D2 ?_
      refine A4 ?_
      refine r0E ?_
      refine A4 ?_
      go_roundw
      case rel => exact ⟨k + 1, by omega, by go_num, Hg2.out, by have := Ho.out; rw [Htk.out]; simpa [A1f] using this, hG⟩
      case measure => simp [intOf]; omega
    ·obtain rfl : m = k := by omega
     have hdec : decide ((m : Int) < (m : Int)) = false := by simp
     clear Ho
     refine wp_seq ?_
     refine wp_seq ?_
     obtain ⟨t0, t1, t2⟩ := Hb1.out u hG
     refine r0N ?_
     refine wp_cond_false (rfl) ?_
     refine wp_exit ?_
     refine B4 ?_
     refine B4 ?_
     refine E1 ?_
     refine A4 ?_
     refine wp_seq ?_
     refine r0T ?_
     refine wp_block ?_
     go_loopw [7] (fun s0 wr => ∃ i : Nat, i ≤ m ∧ s0 = .int .i64 i ∧ (∀ j, j < i → P2 X ns j = false) ∧ A3 w wr) (fun s0 _ => m - (intOf s0).toNat)
     case atStart => exact ⟨0, Nat.zero_le _, rfl, fun j hj => absurd hj (Nat.not_lt_zero _), hG⟩
     case round =>
      clear hB hG
      obtain ⟨i, hi, rfl, hok, hG⟩ := hrel
      obtain ⟨u, rfl⟩ : ∃ x, x = wr := ⟨_, rfl⟩
      have hB := Bx.nil u
      have Hok := Lib.hid hok
      clear hok
      rcases Nat.lt_or_ge i m with hlt | hge
      ·have hdec : decide ((i : Int) < (m : Int)) = true := by simp; omega
       have him : (i : Int) < (m : Int) := by omega
       obtain ⟨x, hx⟩ := Hget.out i hlt
       have hndx := fun W hg => Hnd.out i x hx W hg
       obtain ⟨c, r0, hxc, hcL, hxr, hrm⟩ := A2S (Hgood.out i hlt) hx
       obtain ⟨xr, xc, xl, xt⟩ := x
       simp only at hxc hxr
       subst hxc hxr
       have hend := fun W hg => Hen.out i hlt W hg
       obtain ⟨E, hE⟩ : ∃ E, E = E8 (B8 ns i) := ⟨_, rfl⟩
       have hEm : E ≤ m := by rw [hE]; exact Hle.out i
       simp only [← hE] at hend
       have hrg := A5Y hx
       rw [← hE] at hrg
       simp only at hrg
       obtain ⟨G, hGe⟩ : ∃ G, G = Y4 ns i := ⟨_, rfl⟩
       rw [← hGe] at hrg
       have hwr : ∀ (j : Nat) (y : NdT), ns[j]? = some y → H3 X ns i j = P3 G (E9 (ent X y.r.toNat c) (ent X r0 c)) j := fun j y hy => by
        have h1 := A5m (X := X) hx hy
        rw [← hGe] at h1
        exact h1
       have hwi : ∀ j, i < j → j < E → H3 X ns i j = true → P2 X ns i = true := fun j h1 h2 h3 => A4b h1 (by rw [← hE]; exact h2) h3
       have hwn : (∀ j, i < j → j < E → H3 X ns i j = false) → P2 X ns i = false := fun h => A5I (by rw [← hE]; exact h)
       obtain ⟨ba, oa, ca, pa, za, ra⟩ := Hrow.out r0 hrm c hcL
       obtain ⟨Y0, hY0⟩ : ∃ y, y = ent X r0 c := ⟨_, rfl⟩
       rw [← hY0] at za
       simp only [← hY0] at ra hwr
       have hci : (c : Int) < (Lw : Int) := by omega
       have hri : (r0 : Int) < (m : Int) := by omega
       obtain ⟨i1, hi1⟩ : ∃ y, y = i + 1 := ⟨_, rfl⟩
       have fi1 : IntKind.i64.wrap ((i : Int) + 1) = (i1 : Int) := by rw [IntWalk.i64_in _ (by omega)]; omega
       have Hii := Lib.hid hi1
       have Hndx := Lib.hid hndx
       have Hend := Lib.hid hend
       have Hrg := Lib.hid hrg
       have Hwr := Lib.hid hwr
       have Hwi := Lib.hid hwi
       have Hwn := Lib.hid hwn
       have Hra := Lib.hid ra
       have Hza := Lib.hid za
       have HEm := Lib.hid hEm
       clear hx hndx hend hE hrg hGe hwr hwi hwn ra za hi1 hEm hY0
       refine wp_seq ?_
       refine wp_seq ?_
       obtain ⟨t0, t1, t2⟩ := Hb1.out u hG
       refine r0N ?_
       refine wp_cond_true (rfl) ?_
       refine wp_skip ?_
       refine A4 ?_
       refine wp_seq ?_
       refine wp_block ?_
       refine wp_seq (rsC C5 [0, 0, 0, 0, 0, 2] hB hG fun K L hN hL => ?_)
       repeat first | refine gya ?_ | refine gyr ?_ | refine gna ?_ | refine gyb (by (rintro v ⟨hgu, hB, hG, -⟩ N hN; have r := hB.r; simp only [BxR] at r; obtain ⟨t0, t1, t2⟩ := Hb1.out v hG; obtain ⟨d0, d1, d2, d3⟩ := Hndx.out v hG; go_simp; exact hN)) ?_
       refine gaa (A07 _ _ _ _ _) fun b8 hb8 hn8 => ?_
       replace hF := hF.n1 [] hB hG hb8 hn8
       refine geC hL ?_
       clear hB hG hL L
       rintro u ⟨⟨-, hB, hG, -⟩, h8⟩
       replace hB := hB.cons' h8
       clear h8
       clear hb8 hn8
       refine gtT ?_
       clear hN K
       refine st hB hF hG 0 0 [_, _, _, _] ?_
       clear hB hG
       intro u hB hG
       refine r0T ?_
       refine wp_block ?_
       go_loopw [9] (fun s0 wr => ∃ j : Nat, i < j ∧ j ≤ m + 1 ∧ s0 = .int .i64 j ∧ (∀ k, i < k → k < j → k < E → H3 X ns i k = false) ∧ Bx wr [(b8, 118, #[.int .i64 (r0 : Nat), .int .i64 (c : Nat), .int .i64 xl, .int .i64 xt])] ∧ A3 w wr) (fun s0 _ => m + 1 - (intOf s0).toNat)
       case atStart => exact ⟨i1, by have := Hii.out; omega, by have := Hii.out; omega, rfl, fun k h1 h2 => by have := Hii.out; omega, hB, hG⟩
       case round =>
        clear hB hG
        obtain ⟨j, hij, hj1, rfl, hno, hB, hG⟩ := hrel
        obtain ⟨u, rfl⟩ : ∃ x, x = wr := ⟨_, rfl⟩
        have hEm := HEm.out
        rcases Nat.lt_or_ge j E with hjE | hjE
        ·have hdec : decide ((j : Int) < (E : Int)) = true := by simp; omega
         have hjm : j < m := by omega
         have hjmi : (j : Int) < (m : Int) := by omega
         obtain ⟨y, hy⟩ := Hget.out j hjm
         have hndy := fun W hg => Hnd.out j y hy W hg
         obtain ⟨-, r2, -, -, hyr, hr2⟩ := A2S (Hgood.out j hjm) hy
         have hw := Hwr.out j y hy
         obtain ⟨yr, yc, yl, yt⟩ := y
         simp only at hyr
         subst hyr
         simp only [Int.toNat_natCast] at hw
         obtain ⟨bz, oz, cz, pz, zz, rz⟩ := Hrow.out r2 hr2 c hcL
         have hcm := Hsz.out (ent X r2 c) Y0 zz Hza.out pz pa
         obtain ⟨Y2, hY2⟩ : ∃ y, y = ent X r2 c := ⟨_, rfl⟩
         rw [← hY2] at hw hcm
         simp only [← hY2] at rz
         obtain ⟨P, hP⟩ : ∃ y, y = E9 Y2 Y0 := ⟨_, rfl⟩
         rw [← hP] at hw
         simp only [← hP] at hcm
         have hr2i : (r2 : Int) < (m : Int) := by omega
         have hcm2 := fun W (hg : A3 w W) => hcm W (rz W hg).2.1 (Hra.out W hg).2.1
         have Hcm := Lib.hid hcm2
         have Hndy := Lib.hid hndy
         have Hrz := Lib.hid rz
         clear hy hndy zz rz hcm hcm2 hY2 hP
         have hrg := Hrg.out
         by_cases ht0 : xt = 0
         ·have f0 : (xt != 0) = false := by simp [ht0]
          rw [if_pos ht0] at hrg
          have fj : decide ((j : Int) < G) = true := decide_eq_true (by omega)
          have fj2 : decide (G ≤ (j : Int)) = false := decide_eq_false (by omega)
          by_cases hP0 : 0 < P
          ·have fP : decide (0 < P) = true := decide_eq_true hP0
           have hck := Lib.hid (Hck2.out Hp.out Hgood.out hlt (Hwi.out j hij hjE (by rw [hw]; unfold P3; rw [fj, fP]; rfl)))
           clear hw hno hP0 hrg ht0
           refine wp_seq ?_
           refine wp_seq ?_
           obtain ⟨t0, t1, t2⟩ := Hb1.out u hG; have e0 := Hend.out u hG
           refine r0N ?_
           refine wp_cond_true (rfl) ?_
           refine wp_skip ?_
           refine A4 ?_
           refine wp_seq ?_
           refine wp_block ?_
           refine wp_seq (rdC C5 [] [(0, 0), (0, 1), (0, 2), (0, 3), (0, 4), (0, 5), (0, 6), (0, 7), (0, 8), (0, 9), (0, 10), (0, 11), (0, 12), (0, 13), (0, 14), (0, 15), (0, 16), (0, 17), (0, 18), (0, 19), (0, 20), (0, 21), (0, 22), (0, 23), (1, 24)] hB hG (hs := G7 [0, 1, 0, 4, 0, 28, 60, 124, 255, 511, 0, 1024, 4095, 8191, 0, 16384, 0, 65536, 245760, 507904, 0, 1048576, 4177920, 8372224, 16777215, 33554431] (by kernel_rfl)) fun K L hN hL => ?_)
           repeat first | refine gya ?_ | refine gyr ?_ | refine gna ?_ | refine gyb (by (rintro v ⟨hgu, hB, hG, -⟩ N hN; have r := hB.r; simp only [BxR] at r; obtain ⟨t0, t1, t2⟩ := Hb1.out v hG; obtain ⟨d0, d1, d2, d3⟩ := Hndy.out v hG; obtain ⟨g1, -, q1, q2, q3⟩ := Hra.out v hG; obtain ⟨g2, -, y1, y2, y3⟩ := Hrz.out v hG; go_simp; exact hN)) ?_
           refine gmd (C := fun v ⟨hgu, hB, hG, _⟩ => Hcm.out _ hG) ?_
           refine geC hL ?_
           clear hB hG hL L
           rintro u ⟨-, hB, hG, -⟩
           refine gtT ?_
           clear hN K
           refine wp_seq ?_
           obtain ⟨t0, t1, t2⟩ := Hb1.out u hG; have e0 := Hend.out u hG
           refine r0N ?_
           refine r0T ?_
           refine wp_cond_true (rfl) ?_
           refine r0T ?_
           refine rt Tryz.results29 ?_
           exact ⟨by rw [hck.out]; rfl, HG0.out.trans hG⟩
          ·have fP : decide (0 < P) = false := decide_eq_false hP0
           have hno2 := noN hno (show H3 X ns i j = false by rw [hw]; unfold P3; rw [fj, fP, fj2]; rfl)
           have Hno2 := Lib.hid hno2
           clear hw hno hno2 hP0 hrg ht0
           refine wp_seq ?_
           refine wp_seq ?_
           obtain ⟨t0, t1, t2⟩ := Hb1.out u hG; have e0 := Hend.out u hG
           refine r0N ?_
           refine wp_cond_true (rfl) ?_
           refine wp_skip ?_
           refine A4 ?_
           refine wp_seq ?_
           refine wp_block ?_
           refine wp_seq (rdC C5 [] [(0, 0), (0, 1), (0, 2), (0, 3), (0, 4), (0, 5), (0, 6), (0, 7), (0, 8), (0, 9), (0, 10), (0, 11), (0, 12), (0, 13), (0, 14), (0, 15), (0, 16), (0, 17), (0, 18), (0, 19), (0, 20), (0, 21), (0, 22), (0, 23), (1, 24)] hB hG (hs := G7 [0, 1, 0, 4, 0, 28, 60, 124, 255, 511, 0, 1024, 4095, 8191, 0, 16384, 0, 65536, 245760, 507904, 0, 1048576, 4177920, 8372224, 16777215, 33554431] (by kernel_rfl)) fun K L hN hL => ?_)
           repeat first | refine gya ?_ | refine gyr ?_ | refine gna ?_ | refine gyb (by (rintro v ⟨hgu, hB, hG, -⟩ N hN; have r := hB.r; simp only [BxR] at r; obtain ⟨t0, t1, t2⟩ := Hb1.out v hG; obtain ⟨d0, d1, d2, d3⟩ := Hndy.out v hG; obtain ⟨g1, -, q1, q2, q3⟩ := Hra.out v hG; obtain ⟨g2, -, y1, y2, y3⟩ := Hrz.out v hG; go_simp; exact hN)) ?_
           refine gmd (C := fun v ⟨hgu, hB, hG, _⟩ => Hcm.out _ hG) ?_
           refine geC hL ?_
           clear hB hG hL L
           rintro u ⟨-, hB, hG, -⟩
           refine gtT ?_
           clear hN K
           refine wp_seq ?_
           obtain ⟨t0, t1, t2⟩ := Hb1.out u hG; have e0 := Hend.out u hG
           refine r0N ?_
           refine r0T ?_
           refine wp_cond_false (rfl) ?_
           refine wp_skip ?_
           refine D2 ?_
           refine A4 ?_
           refine r0E ?_
           refine A4 ?_
           go_roundw
           case rel => exact ⟨j + 1, by omega, by omega, by go_num, Hno2.out, hB, hG⟩
           case measure => simp [intOf]; omega
         ·have f0 : (xt != 0) = true := by simp [ht0]
          rw [if_neg ht0] at hrg
          subst hrg
          by_cases hjG : (j : Int) < G
          ·have fj : decide ((j : Int) < G) = true := decide_eq_true hjG
           have fj2 : decide (G ≤ (j : Int)) = false := decide_eq_false (by omega)
           by_cases hP0 : 0 < P
           ·have fP : decide (0 < P) = true := decide_eq_true hP0
            have hck := Lib.hid (Hck2.out Hp.out Hgood.out hlt (Hwi.out j hij hjE (by rw [hw]; unfold P3; rw [fj, fP]; rfl)))
            clear hw hno hP0 hjG ht0
            refine wp_seq ?_
            refine wp_seq ?_
            obtain ⟨t0, t1, t2⟩ := Hb1.out u hG; have e0 := Hend.out u hG
            refine r0N ?_
            refine wp_cond_true (rfl) ?_
            refine wp_skip ?_
            refine A4 ?_
            refine wp_seq ?_
            refine wp_block ?_
            refine wp_seq (rdC C5 [] [(0, 0), (0, 1), (0, 2), (0, 3), (0, 4), (0, 5), (0, 6), (0, 7), (0, 8), (0, 9), (0, 10), (0, 11), (0, 12), (0, 13), (0, 14), (0, 15), (0, 16), (0, 17), (0, 18), (0, 19), (0, 20), (0, 21), (0, 22), (0, 23), (1, 24)] hB hG (hs := G7 [0, 1, 0, 4, 0, 28, 60, 124, 255, 511, 0, 1024, 4095, 8191, 0, 16384, 0, 65536, 245760, 507904, 0, 1048576, 4177920, 8372224, 16777215, 33554431] (by kernel_rfl)) fun K L hN hL => ?_)
            repeat first | refine gya ?_ | refine gyr ?_ | refine gna ?_ | refine gyb (by (rintro v ⟨hgu, hB, hG, -⟩ N hN; have r := hB.r; simp only [BxR] at r; obtain ⟨t0, t1, t2⟩ := Hb1.out v hG; obtain ⟨d0, d1, d2, d3⟩ := Hndy.out v hG; obtain ⟨g1, -, q1, q2, q3⟩ := Hra.out v hG; obtain ⟨g2, -, y1, y2, y3⟩ := Hrz.out v hG; go_simp; exact hN)) ?_
            refine gmd (C := fun v ⟨hgu, hB, hG, _⟩ => Hcm.out _ hG) ?_
            refine geC hL ?_
            clear hB hG hL L
            rintro u ⟨-, hB, hG, -⟩
            refine gtT ?_
            clear hN K
            refine wp_seq ?_
            obtain ⟨t0, t1, t2⟩ := Hb1.out u hG; have e0 := Hend.out u hG
            refine r0N ?_
            refine r0T ?_
            refine wp_cond_true (rfl) ?_
            refine r0T ?_
            refine rt Tryz.results29 ?_
            exact ⟨by rw [hck.out]; rfl, HG0.out.trans hG⟩
           ·have fP : decide (0 < P) = false := decide_eq_false hP0
            have hno2 := noN hno (show H3 X ns i j = false by rw [hw]; unfold P3; rw [fj, fP, fj2]; rfl)
            have Hno2 := Lib.hid hno2
            clear hw hno hno2 hP0 hjG ht0
            refine wp_seq ?_
            refine wp_seq ?_
            obtain ⟨t0, t1, t2⟩ := Hb1.out u hG; have e0 := Hend.out u hG
            refine r0N ?_
            refine wp_cond_true (rfl) ?_
            refine wp_skip ?_
            refine A4 ?_
            refine wp_seq ?_
            refine wp_block ?_
            refine wp_seq (rdC C5 [] [(0, 0), (0, 1), (0, 2), (0, 3), (0, 4), (0, 5), (0, 6), (0, 7), (0, 8), (0, 9), (0, 10), (0, 11), (0, 12), (0, 13), (0, 14), (0, 15), (0, 16), (0, 17), (0, 18), (0, 19), (0, 20), (0, 21), (0, 22), (0, 23), (1, 24)] hB hG (hs := G7 [0, 1, 0, 4, 0, 28, 60, 124, 255, 511, 0, 1024, 4095, 8191, 0, 16384, 0, 65536, 245760, 507904, 0, 1048576, 4177920, 8372224, 16777215, 33554431] (by kernel_rfl)) fun K L hN hL => ?_)
            repeat first | refine gya ?_ | refine gyr ?_ | refine gna ?_ | refine gyb (by (rintro v ⟨hgu, hB, hG, -⟩ N hN; have r := hB.r; simp only [BxR] at r; obtain ⟨t0, t1, t2⟩ := Hb1.out v hG; obtain ⟨d0, d1, d2, d3⟩ := Hndy.out v hG; obtain ⟨g1, -, q1, q2, q3⟩ := Hra.out v hG; obtain ⟨g2, -, y1, y2, y3⟩ := Hrz.out v hG; go_simp; exact hN)) ?_
            refine gmd (C := fun v ⟨hgu, hB, hG, _⟩ => Hcm.out _ hG) ?_
            refine geC hL ?_
            clear hB hG hL L
            rintro u ⟨-, hB, hG, -⟩
            refine gtT ?_
            clear hN K
            refine wp_seq ?_
            obtain ⟨t0, t1, t2⟩ := Hb1.out u hG; have e0 := Hend.out u hG
            refine r0N ?_
            refine r0T ?_
            refine wp_cond_false (rfl) ?_
            refine wp_skip ?_
            refine D2 ?_
            refine A4 ?_
            refine r0E ?_
            refine A4 ?_
            go_roundw
            case rel => exact ⟨j + 1, by omega, by omega, by go_num, Hno2.out, hB, hG⟩
            case measure => simp [intOf]; omega
          ·have fj : decide ((j : Int) < G) = false := decide_eq_false hjG
           have fj2 : decide (G ≤ (j : Int)) = true := decide_eq_true (by omega)
           by_cases hP0 : P < 0
           ·have fP : decide (P < 0) = true := decide_eq_true hP0
            have hck := Lib.hid (Hck2.out Hp.out Hgood.out hlt (Hwi.out j hij hjE (by rw [hw]; unfold P3; rw [fj, fj2, fP]; rfl)))
            clear hw hno hP0 hjG ht0
            refine wp_seq ?_
            refine wp_seq ?_
            obtain ⟨t0, t1, t2⟩ := Hb1.out u hG; have e0 := Hend.out u hG
            refine r0N ?_
            refine wp_cond_true (rfl) ?_
            refine wp_skip ?_
            refine A4 ?_
            refine wp_seq ?_
            refine wp_block ?_
            refine wp_seq (rdC C5 [] [(0, 0), (0, 1), (0, 2), (0, 3), (0, 4), (0, 5), (0, 6), (0, 7), (0, 8), (0, 9), (0, 10), (0, 11), (0, 12), (0, 13), (0, 14), (0, 15), (0, 16), (0, 17), (0, 18), (0, 19), (0, 20), (0, 21), (0, 22), (0, 23), (1, 24)] hB hG (hs := G7 [0, 1, 0, 4, 0, 28, 60, 124, 255, 511, 0, 1024, 4095, 8191, 0, 16384, 0, 65536, 245760, 507904, 0, 1048576, 4177920, 8372224, 16777215, 33554431] (by kernel_rfl)) fun K L hN hL => ?_)
            repeat first | refine gya ?_ | refine gyr ?_ | refine gna ?_ | refine gyb (by (rintro v ⟨hgu, hB, hG, -⟩ N hN; have r := hB.r; simp only [BxR] at r; obtain ⟨t0, t1, t2⟩ := Hb1.out v hG; obtain ⟨d0, d1, d2, d3⟩ := Hndy.out v hG; obtain ⟨g1, -, q1, q2, q3⟩ := Hra.out v hG; obtain ⟨g2, -, y1, y2, y3⟩ := Hrz.out v hG; go_simp; exact hN)) ?_
            refine gmd (C := fun v ⟨hgu, hB, hG, _⟩ => Hcm.out _ hG) ?_
            refine geC hL ?_
            clear hB hG hL L
            rintro u ⟨-, hB, hG, -⟩
            refine gtT ?_
            clear hN K
            refine wp_seq ?_
            obtain ⟨t0, t1, t2⟩ := Hb1.out u hG; have e0 := Hend.out u hG
            refine r0N ?_
            refine r0T ?_
            refine wp_cond_true (rfl) ?_
            refine r0T ?_
            refine rt Tryz.results29 ?_
            exact ⟨by rw [hck.out]; rfl, HG0.out.trans hG⟩
           ·have fP : decide (P < 0) = false := decide_eq_false hP0
            have hno2 := noN hno (show H3 X ns i j = false by rw [hw]; unfold P3; rw [fj, fj2, fP]; rfl)
            have Hno2 := Lib.hid hno2
            clear hw hno hno2 hP0 hjG ht0
            refine wp_seq ?_
            refine wp_seq ?_
            obtain ⟨t0, t1, t2⟩ := Hb1.out u hG; have e0 := Hend.out u hG
            refine r0N ?_
            refine wp_cond_true (rfl) ?_
            refine wp_skip ?_
            refine A4 ?_
            refine wp_seq ?_
            refine wp_block ?_
            refine wp_seq (rdC C5 [] [(0, 0), (0, 1), (0, 2), (0, 3), (0, 4), (0, 5), (0, 6), (0, 7), (0, 8), (0, 9), (0, 10), (0, 11), (0, 12), (0, 13), (0, 14), (0, 15), (0, 16), (0, 17), (0, 18), (0, 19), (0, 20), (0, 21), (0, 22), (0, 23), (1, 24)] hB hG (hs := G7 [0, 1, 0, 4, 0, 28, 60, 124, 255, 511, 0, 1024, 4095, 8191, 0, 16384, 0, 65536, 245760, 507904, 0, 1048576, 4177920, 8372224, 16777215, 33554431] (by kernel_rfl)) fun K L hN hL => ?_)
            repeat first | refine gya ?_ | refine gyr ?_ | refine gna ?_ | refine gyb (by (rintro v ⟨hgu, hB, hG, -⟩ N hN; have r := hB.r; simp only [BxR] at r; obtain ⟨t0, t1, t2⟩ := Hb1.out v hG; obtain ⟨d0, d1, d2, d3⟩ := Hndy.out v hG; obtain ⟨g1, -, q1, q2, q3⟩ := Hra.out v hG; obtain ⟨g2, -, y1, y2, y3⟩ := Hrz.out v hG; go_simp; exact hN)) ?_
            refine gmd (C := fun v ⟨hgu, hB, hG, _⟩ => Hcm.out _ hG) ?_
            refine geC hL ?_
            clear hB hG hL L
            rintro u ⟨-, hB, hG, -⟩
            refine gtT ?_
            clear hN K
            refine wp_seq ?_
            obtain ⟨t0, t1, t2⟩ := Hb1.out u hG; have e0 := Hend.out u hG
            refine r0N ?_
            refine r0T ?_
            refine wp_cond_false (rfl) ?_
            refine wp_skip ?_
            refine D2 ?_
            refine A4 ?_
            refine r0E ?_
            refine A4 ?_
            go_roundw
            case rel => exact ⟨j + 1, by omega, by omega, by go_num, Hno2.out, hB, hG⟩
            case measure => simp [intOf]; omega
        ·have hdec : decide ((j : Int) < (E : Int)) = false := by simp; omega
         have hdecn : decide (j < E) = false := by simp; omega
         have Hwi0 := Lib.hid (Hwn.out fun k h1 h2 => hno k h1 (by omega) h2)
         clear hno
         refine wp_seq ?_
         refine wp_seq ?_
         obtain ⟨t0, t1, t2⟩ := Hb1.out u hG; have e0 := Hend.out u hG
         refine r0N ?_
         refine wp_cond_false (rfl) ?_
         refine wp_exit ?_
         refine B4 ?_
         refine B4 ?_
         refine E1 ?_
         refine D2 ?_
         refine A4 ?_
         refine r0E ?_
         refine A4 ?_
         go_roundw
         case rel => exact ⟨i1, by have := Hii.out; omega, rfl, fun k hk => by
          have hii := Hii.out
          rcases Nat.lt_or_ge k i with h | h
          ·exact Hok.out k h
          ·obtain rfl : k = i := by omega
           exact Hwi0.out, hG⟩
         case measure => have := Hii.out; simp [intOf]; omega
      ·obtain rfl : m = i := by omega
       have hdec : decide ((m : Int) < (m : Int)) = false := by simp
       have hck := Lib.hid (Hck3.out Hp.out Hgood.out Hok.out)
       refine wp_seq ?_
       refine wp_seq ?_
       obtain ⟨t0, t1, t2⟩ := Hb1.out u hG
       refine r0N ?_
       refine wp_cond_false (rfl) ?_
       refine wp_exit ?_
       refine B4 ?_
       refine B4 ?_
       refine E1 ?_
       refine A4 ?_
       refine r0T ?_
       refine rt Tryz.results29 ?_
       exact ⟨by rw [hck.out]; rfl, HG0.out.trans hG⟩
 ·rw [A5C (by omega)]
  have hne : ((m : Int) != (n : Int)) = true := by simp; omega
  clear hval h hN hs hrl hBz hn hX hXl hm hmn
  go_enter Tryz.func29, Tryz.ntmps29
  refine en1 ?_
  intro u hG b1 hB hF
  refine wp_seq ?_
  refine wp_seq (rsE C5 [0, 0, 1, 0, 0, 0, 0, 0, 0, 0, 0, 0, 0] hB hG fun L hL => ?_)
  refine gs ?_
  refine gmd (C := fun v ⟨hgu, hB, hG, _⟩ => Hval.out _ hG) ?_
  refine gs ?_
  refine geT hL ?_
  clear hB hG hL L
  rintro u ⟨-, hB, hG, -⟩
  refine wp_cond_true (rfl) ?_
  refine r0T ?_
  refine rt Tryz.results29 ?_
  exact ⟨rfl, hG⟩
end Go.Proofs.YtjmopgepnndckaaGreatDoor
