/- Contracts and laws. -/
import Derived.Test.YtjmopgepnndckaaGreatDoorC46
set_option linter.unusedSimpArgs false
set_option linter.unusedVariables false
set_option maxHeartbeats 8000000
set_option maxRecDepth 100000
namespace Go.Proofs.YtjmopgepnndckaaGreatDoor
open Go Go.RowKit
theorem B2Y : (Tryz.prog.info? 118).map (fun i => (i.zero, i.size, i.bytes)) = some (some (.agg #[.int .i64 0, .int .i64 0, .int .i64 0, .int .i64 0]), 4, 32) := by kernel_rfl
theorem A4U : ∀ (l : List NdT) (k j : Nat) (v : Int) (hk : k < l.length) (hj : j < 4), ∃ l' : List NdT, l'.length = l.length ∧ (l.flatMap ndL).set (k * 4 + j) (.int .i64 v) = l'.flatMap ndL
 | x :: l, 0, j, v, _, hj => by
  rcases (show j = 0 ∨ j = 1 ∨ j = 2 ∨ j = 3 by omega) with rfl | rfl | rfl | rfl
  ·exact ⟨⟨v, x.c, x.l, x.t⟩ :: l, rfl, rfl⟩
  ·exact ⟨⟨x.r, v, x.l, x.t⟩ :: l, rfl, rfl⟩
  ·exact ⟨⟨x.r, x.c, v, x.t⟩ :: l, rfl, rfl⟩
  ·exact ⟨⟨x.r, x.c, x.l, v⟩ :: l, rfl, rfl⟩
 | x :: l, k + 1, j, v, hk, hj => by
  obtain ⟨l', h1, h2⟩ := A4U l k j v (by simpa using hk) hj
  refine ⟨x :: l', by simp [h1], ?_⟩
  rw [show (k + 1) * 4 + j = k * 4 + j + 4 by omega]
  show _ :: _ :: _ :: _ :: (l.flatMap ndL).set (k * 4 + j) _ = _
  rw [h2]
  rfl
theorem T0 {u : World} {B g N cap : Nat} {ns : List NdT} (h : u.ownsRow B 118 4 (.slice (some ⟨g, 0, none⟩) N cap) N (ns.flatMap ndL)) (hm : ns.length = N) {k j : Nat} (hk : k < N) (hj : j < 4) (v : Int) :
  ∃ ns' : List NdT, ns'.length = N ∧ (u.setCell ⟨g, k * 4 + j, none⟩ (.int .i64 v)).ownsRow B 118 4 (.slice (some ⟨g, 0, none⟩) N cap) N (ns'.flatMap ndL) ∧ u.grownBy (u.setCell ⟨g, k * 4 + j, none⟩ (.int .i64 v)) (some g) := by
 obtain ⟨p1, p2⟩ := h.stored (k * 4 + j) (.int .i64 v)
 obtain ⟨l', h1, h2⟩ := A4U ns k j v (by omega) hj
 rw [h2] at p1
 exact ⟨l', by rw [h1, hm], p1, p2⟩
theorem Q8 {u : World} {B n c : Nat} {A : Option Addr} {ns : List NdT} (h : u.ownsRow B 118 4 (.slice A n c) n (ns.flatMap ndL)) : Le ndL 4 u A ns := A4m (N := (A, c)) h
theorem A8r (g N cap : Nat) (h1 : 1 ≤ N) (hc : N ≤ cap) : ∃ A' : Option Addr, (∀ W, (Instr.slice 70 (.slice (some ⟨g, 0, none⟩) N cap) (some (.int .i64 1)) none none).run Tryz.prog W = .ok (.slice A' (N - 1) (cap - 1)) W) ∧ ∀ (W : World) (ns : List NdT), ns.length = N → Le ndL 4 W (some ⟨g, 0, none⟩) ns → Le ndL 4 W A' (ns.drop 1) := by
 refine ⟨if cap = 1 then some ⟨g, 0, none⟩ else (some (⟨g, 0, none⟩ : Addr)).map (·.add 4), fun W => ?_, fun W ns hl h hne => ?_⟩
 ·have h3 : (1 : Int) ≤ (N : Int) := by omega
  go_simp
 ·have h2 : 2 ≤ N := by
   rcases Nat.lt_or_ge 1 N with h | h
   ·exact h
   ·exact absurd (List.drop_eq_nil_of_le (by omega)) hne
  rw [if_neg (by omega)]
  obtain ⟨b, off, e, hb, hc⟩ := h (fun e => by rw [e] at hl; simp at hl; omega)
  cases e
  refine ⟨g, 4, by simp [Addr.add], hb, fun i x hi j v hj => ?_⟩
  rw [List.getElem?_drop] at hi
  have := hc (1 + i) x hi j v hj
  rw [show 4 + i * 4 + j = 0 + (1 + i) * 4 + j by omega]
  exact this
theorem A0h {u : World} {B b : Nat} (hB : B ≤ b) (h : Blk u b 118 #[]) : u.ownsRow B 118 4 (.slice (some ⟨b, 0, none⟩) 0 0) 0 [] := ⟨rfl, .inr ⟨b, 0, #[], rfl, hB, h, Nat.le_refl _, Nat.zero_le _, rfl, rfl⟩⟩
def P5 (B : Nat) (A : Option Addr) (ns : List NdT) (W : World) : Prop := ∃ (g N cap : Nat) (l : List NdT), W.ownsRow B 118 4 (.slice (some ⟨g, 0, none⟩) N cap) N (l.flatMap ndL) ∧ ∀ W' : World, W'.ownsRow B 118 4 (.slice (some ⟨g, 0, none⟩) N cap) N (l.flatMap ndL) → Le ndL 4 W' A ns
theorem P5.le {B : Nat} {A : Option Addr} {ns : List NdT} {W : World} (h : P5 B A ns W) : Le ndL 4 W A ns := by
 obtain ⟨g, N, cap, l, h1, h2⟩ := h
 exact h2 W h1
theorem P5.grow {B : Nat} {A : Option Addr} {ns : List NdT} {W W' : World} (h : P5 B A ns W) (hg : A3 W W') : P5 B A ns W' := by
 obtain ⟨g, N, cap, l, h1, h2⟩ := h
 exact ⟨g, N, cap, l, D4 h1 hg, h2⟩
theorem P5.put {B b i : Nat} {A : Option Addr} {ns : List NdT} {W W' : World} {t : TypeId} {cs : Array Value} {vs : List Value} (h : P5 B A ns W) (hb : Blk W b t cs) (ht : 118 ≠ t) (hu : E2 W b i vs = W') : P5 B A ns W' := by
 obtain ⟨g, N, cap, l, h1, h2⟩ := h
 exact ⟨g, N, cap, l, W5 h1 hb ht hu, h2⟩
theorem B0r (RA NA : Option Addr) (RC NC N n : Nat) (ns : List NdT) (hm : ns.length = N) (h1 : 1 ≤ N) (hN : N ≤ 300) (way at0 by0 : Int) (w : World) (g : Le ndL 4 w NA ns) :
  Calls Tryz.prog 27 #[E6 (RA, RC) n (NA, NC) N, .int .i64 way, .int .i64 at0, .int .i64 by0] w (I1 (fun x : (Ax × Nat) × List NdT => E6 (RA, RC) n x.1.1 x.1.2) (fun x W => P5 w.heap.size x.1.1.1 x.2 W ∧ x.2.length = x.1.2 ∧ x.1.2 ≤ N) w) := by
 obtain ⟨bN, oN, hNe, hb, hc⟩ := g (fun e => by rw [e] at hm; simp at hm; omega)
 subst hNe
 have hnews : ∀ W, A3 w W → ∀ j v, (ns.flatMap ndL)[j]? = some v → W.cell? ((⟨bN, oN, none⟩ : Addr).add j) = some v := fun W hg j v hj => by
  have hjl := (List.getElem?_eq_some_iff.1 hj).1
  rw [A0N (enc := ndL) (size := 4) (fun _ => rfl)] at hjl
  have e1 := A2d (enc := ndL) (size := 4) (fun _ => rfl) ns (j / 4) (j % 4) (by omega) (by omega)
  rw [show j / 4 * 4 + j % 4 = j by omega, hj] at e1
  have h3 := hc (j / 4) _ (List.getElem?_eq_getElem (by omega)) (j % 4) v e1.symm
  rw [Go.WideShapes.add_plain]
  rw [show oN + j = oN + j / 4 * 4 + j % 4 by omega]
  exact (hg.cell (p := ⟨bN, oN + j / 4 * 4 + j % 4, none⟩) hb).trans h3
 have hone : ∀ y ∈ ns.flatMap ndL, y.oneCell' = true := fun y hy => by
  obtain ⟨q, -, hq⟩ := List.mem_flatMap.1 hy
  simp [ndL] at hq
  rcases hq with rfl | rfl | rfl | rfl <;> rfl
 have hp1 := fun W => U9 at0 N (by omega) (by omega) W
 have r1 := S2 at0 (m := N) (by omega)
 obtain ⟨k, hk⟩ : ∃ k : Nat, E5 at0 N = (k : Int) := ⟨(E5 at0 N).toNat, by omega⟩
 rw [hk] at hp1 r1
 have hkN : k < N := by omega
 have hp2 := fun W => U9 by0 (N + 2) (by omega) (by omega) W
 have r2 := S2 by0 (m := N + 2) (by omega)
 obtain ⟨P, hP⟩ : ∃ P, P = E5 by0 (N + 2) := ⟨_, rfl⟩
 rw [← hP] at r2
 simp only [← hP] at hp2
 have fN2 : IntKind.i64.wrap ((N : Int) + 2) = (N : Int) + 2 := IntWalk.i64_in _ (by omega)
 obtain ⟨J, hJ⟩ : ∃ J, J = P - 1 := ⟨_, rfl⟩
 have fJ : IntKind.i64.wrap (P - 1) = J := by rw [IntWalk.i64_in _ (by omega)]; exact hJ.symm
 have hp3 := fun W => U9 way 7 (by omega) (by omega) W
 have r3 := S2 way (m := 7) (by omega)
 obtain ⟨y, hy⟩ : ∃ y, y = E5 way 7 := ⟨_, rfl⟩
 rw [← hy] at r3
 simp only [← hy] at hp3
 have hp4 := fun W => U9 J N (by omega) (by omega) W
 have r4 := S2 J (m := N) (by omega)
 obtain ⟨k2, hk2⟩ : ∃ k : Nat, E5 J N = (k : Int) := ⟨(E5 J N).toNat, by omega⟩
 rw [hk2] at hp4 r4
 have hk2N : k2 < N := by omega
 have fNz : ((N : Int) == 0) = false := by simp; omega
 have fNzn : decide (N = 0) = false := by simp; omega
 have hki : (k : Int) < (N : Int) := by omega
 have hk2i : (k2 : Int) < (N : Int) := by omega
 have Hnews := Lib.hid hnews
 have Hone := Lib.hid hone
 have Hp1 := Lib.hid hp1
 have Hp2 := Lib.hid hp2
 have Hp3 := Lib.hid hp3
 have Hp4 := Lib.hid hp4
 have Hm := Lib.hid hm
 have Hy7 := Lib.hid r3
 have Hkk := Lib.hid (And.intro hkN hk2N)
 have Hfl := Lib.hid (A0N (enc := ndL) (size := 4) (fun _ => rfl) ns)
 clear hnews hone hp1 hp2 hp3 hp4 hk hy hP hJ r1 r2 r3 r4 hk2 g hc hm hb hkN hk2N
 go_enter Tryz.func27, Tryz.ntmps27
 refine en2 ?_
 intro u hG b8 b4 hB hF
 refine wp_seq ?_
 refine N6 (w := w) C5 3 [1, 0, 0] (by kernel_rfl) (by simp only [List.drop_succ_cons, List.drop_zero]; exact rfl) (fun _ => True) noG hB hG trivial ?_
 intro K L hN hL
 simp only [List.zip_cons_cons, List.zip_nil_left]
 refine gx Nat (fun b => .slice (some ⟨b, 0, none⟩) 0 0) (fun b W => w.heap.size ≤ b ∧ Blk W b 118 #[]) (fun b u u' hg h => ⟨h.1, h.2.grow hg⟩) rfl ?_ (fun x11 => ?_)
 ·(rintro v ⟨hgu, hB, hG, -⟩ N hN; go_simp; exact hN v.heap.size _ (⟨hG.size, Blk.new v 118 #[]⟩) (A3.alloc _ _))
 refine okf (by simp only [Act.put, List.setIfInBounds_toArray, List.set_cons_succ, List.set_cons_zero]; exact rfl) ?_
 refine gs ?_
 refine F7 ?_
 rintro v ⟨⟨hgu, hB1, hG1, -⟩, hx11⟩
 clear hB hG
 have hB := hB1
 have hG := hG1
 clear hB1 hG1
 refine hL _ _ ?_
 clear hL L hgu
 obtain ⟨u, rfl⟩ : ∃ x, x = v := ⟨_, rfl⟩
 have r := hB.r
 simp only [BxR] at r
 obtain ⟨i0, hi0, hz0, hz1, hz2⟩ := info_parts B2Y
 have l4 := hB.head.lt
 refine wpList_append_own_at u rfl (.tmp 11) (.tmp 13) 70 rfl w.heap.size 118 i0 _ 4 32 Tryz.underlying70 hi0 hz0 hz1 hz2 rfl (by omega) (.slice (some ⟨x11, 0, none⟩) 0 0) 0 [] rfl (A0h hx11.1 hx11.2) ⟨bN, oN, none⟩ N NC (ns.flatMap ndL) rfl (by rw [Hfl.out, Hm.out]) (Hnews.out u hG) Hone.out (by unfold maxLen; omega) (by omega) hG.size fun v' w' g1 g2 _ g3 => ?_
 rw [Nat.zero_add, List.nil_append] at g1
 obtain ⟨gg, cap, e9, hgw, hcap⟩ := Z4 g1 (by omega)
 subst e9
 have hne4 : gg ≠ b4 ∧ gg ≠ b8 := by
  have q1 := X0 (A0h hx11.1 hx11.2) hB.head (by decide)
  have q2 := X0 (A0h hx11.1 hx11.2) hB.tail.head (by decide)
  have l8 := hB.tail.head.lt
  constructor
  ·intro e
   rcases g3 with h | h
   ·exact q1 (by rw [← h, e]; rfl)
   ·have h9 : gg = u.heap.size := Option.some.inj h
    omega
  ·intro e
   rcases g3 with h | h
   ·exact q2 (by rw [← h, e]; rfl)
   ·have h9 : gg = u.heap.size := Option.some.inj h
    omega
 have hB2 := Bx.grown_ hB g2 (fun e he hxe => by
  have q1 := X0 (A0h hx11.1 hx11.2) hB.head (by decide)
  have q2 := X0 (A0h hx11.1 hx11.2) hB.tail.head (by decide)
  simp only [List.mem_cons, List.not_mem_nil, or_false] at he
  rcases he with rfl | rfl
  ·exact q1 hxe.symm
  ·exact q2 hxe.symm)
 have hG2 : A3 w w' := hG.grown g2 (fun j e => ((A0h hx11.1 hx11.2).lt j e).1)
 have Ho := Lib.hid g1
 have Hne := Lib.hid hne4
 have Hm2 := Hm
 clear hB hG g1 g2 g3 hx11 l4 hne4
 have hB := hB2
 have hG := hG2
 clear hB2 hG2
 have r := hB.r
 simp only [BxR] at r
 simp only [Act.put, List.setIfInBounds_toArray, List.set_cons_succ, List.set_cons_zero]
 go_wp2_with fail
 clear r
 generalize hu0 : World.setCell w' ⟨b4, 1, none⟩ _ = u0
 have hBG := M3 hB hF hG 0 rfl 1 [_] hu0
 have Ho2 := Lib.hid (I6 (i := 1) (vs := [_]) Ho.out (fun e => Hne.out.1 (Option.some.inj e)) hu0)
 clear hB hG Ho hu0
 obtain ⟨hB, hG⟩ := hBG
 have Ho := Ho2
 clear Ho2 w'
 obtain ⟨u, rfl⟩ : ∃ x, x = u0 := ⟨_, rfl⟩
 clear r
 skip
 refine NoK.norm (hN _ _ ?_)
 clear hN K
 refine A4 ?_
 refine wp_seq ?_
 refine r0T ?_
 refine wp_cond_false (rfl) ?_
 refine wp_skip ?_
 refine A4 ?_
 refine wp_seq (rdC C5 [] [(0, 0), (0, 1), (0, 2), (0, 3), (0, 4), (0, 5), (1, 6), (0, 7)] hB hG fun K L hN hL => ?_)
 refine gs ?_
 refine gmw (C := fun v => Hp1.out _) ?_
 refine gs ?_
 refine geC hL ?_
 clear hB hG hL L
 rintro u ⟨hgu, hB, hG, -⟩
 have Ho2 := Lib.hid (D4 Ho.out hgu)
 clear Ho
 have Ho := Ho2
 clear Ho2
 clear hgu
 refine gtT ?_
 clear hN K
 refine wp_seq (rsE C5 [0, 0, 0, 0, 0, 1, 0, 0] hB hG fun L hL => ?_)
 refine gs ?_
 refine gmw (C := fun v => Hp2.out _) ?_
 refine gs ?_
 refine geT hL ?_
 clear hB hG hL L
 rintro u ⟨hgu, hB, hG, -⟩
 have Ho2 := Lib.hid (D4 Ho.out hgu)
 clear Ho
 have Ho := Ho2
 clear Ho2
 clear hgu
 refine wp_seq ?_
 refine wp_seq (rsE C5 [0, 1] hB hG fun L hL => ?_)
 refine gs ?_
 refine gmw (C := fun v => Hp3.out _) ?_
 refine geT hL ?_
 clear hB hG hL L
 rintro u ⟨hgu, hB, hG, -⟩
 have Ho2 := Lib.hid (D4 Ho.out hgu)
 clear Ho
 have Ho := Ho2
 clear Ho2
 clear hgu
 refine wp_block ?_
 rcases (show y = 0 ∨ y = 1 ∨ y = 2 ∨ y = 3 ∨ y = 4 ∨ y = 5 ∨ y = 6 by have := Hy7.out; omega) with rfl | rfl | rfl | rfl | rfl | rfl | rfl
 ·skip
  refine r0T ?_
  refine wp_cond_true (rfl) ?_
  obtain ⟨z0, z1, z2, z3, o0, o1, o2, o3, hfz⟩ := S5 (enc := ndL) (fun _ => rfl) Ho.out Hm.out.symm k (by rw [Hm.out]; exact Hkk.out.1)
  refine r0E ?_
  clear o0 o1 o2 o3 hfz
  obtain ⟨ns2, m2, p1, p2⟩ := T0 Ho.out Hm.out Hkk.out.1 (show 0 < 4 by omega) J
  rw [Nat.add_zero] at p1 p2
  generalize World.setCell u ⟨gg, k * 4, none⟩ _ = u0 at p1 p2 ⊢
  have hB2 := Bx.grown_ hB p2 (fun e he hxe => by
   have e1 := Option.some.inj hxe
   simp only [List.mem_cons, List.not_mem_nil, or_false] at he
   rcases he with rfl | rfl
   ·exact Hne.out.1 e1.symm
   ·exact Hne.out.2 e1.symm)
  have hG2 : A3 w u0 := hG.grown p2 (fun j e => (Ho.out.lt j e).1)
  clear hB hG Ho Hm p2
  have hB := hB2
  have hG := hG2
  have Ho := Lib.hid p1
  have Hm := Lib.hid m2
  clear hB2 hG2 p1 m2
  obtain ⟨u, rfl⟩ : ∃ x, x = u0 := ⟨_, rfl⟩
  refine D2 ?_
  refine A4 ?_
  refine r0T ?_
  refine sv hB hF hG 1 0 [_, _] ?_
  intro u hu hBG
  have Ho2 := Lib.hid (I6 Ho.out (fun e => Hne.out.2 (Option.some.inj e)) hu)
  clear Ho hB hG hu
  have Ho := Ho2
  clear Ho2
  obtain ⟨hB, hG⟩ := hBG
  refine rt Tryz.results27 ?_
  exact ⟨(((some ⟨gg, 0, none⟩, cap), N), _), rfl, ⟨⟨gg, N, cap, _, Ho.out, fun W' h => Q8 h⟩, Hm.out, Nat.le_refl _⟩, hG⟩
 ·skip
  refine r0T ?_
  refine wp_cond_false (rfl) ?_
  refine r0T ?_
  refine wp_cond_true (rfl) ?_
  obtain ⟨z0, z1, z2, z3, o0, o1, o2, o3, hfz⟩ := S5 (enc := ndL) (fun _ => rfl) Ho.out Hm.out.symm k (by rw [Hm.out]; exact Hkk.out.1)
  refine r0E ?_
  clear o0 o1 o2 o3 hfz
  obtain ⟨ns2, m2, p1, p2⟩ := T0 Ho.out Hm.out Hkk.out.1 (show 1 < 4 by omega) J
  generalize World.setCell u ⟨gg, k * 4 + 1, none⟩ _ = u0 at p1 p2 ⊢
  have hB2 := Bx.grown_ hB p2 (fun e he hxe => by
   have e1 := Option.some.inj hxe
   simp only [List.mem_cons, List.not_mem_nil, or_false] at he
   rcases he with rfl | rfl
   ·exact Hne.out.1 e1.symm
   ·exact Hne.out.2 e1.symm)
  have hG2 : A3 w u0 := hG.grown p2 (fun j e => (Ho.out.lt j e).1)
  clear hB hG Ho Hm p2
  have hB := hB2
  have hG := hG2
  have Ho := Lib.hid p1
  have Hm := Lib.hid m2
  clear hB2 hG2 p1 m2
  obtain ⟨u, rfl⟩ : ∃ x, x = u0 := ⟨_, rfl⟩
  refine D2 ?_
  refine A4 ?_
  refine r0T ?_
  refine sv hB hF hG 1 0 [_, _] ?_
  intro u hu hBG
  have Ho2 := Lib.hid (I6 Ho.out (fun e => Hne.out.2 (Option.some.inj e)) hu)
  clear Ho hB hG hu
  have Ho := Ho2
  clear Ho2
  obtain ⟨hB, hG⟩ := hBG
  refine rt Tryz.results27 ?_
  exact ⟨(((some ⟨gg, 0, none⟩, cap), N), _), rfl, ⟨⟨gg, N, cap, _, Ho.out, fun W' h => Q8 h⟩, Hm.out, Nat.le_refl _⟩, hG⟩
 ·skip
  refine r0T ?_
  refine wp_cond_false (rfl) ?_
  refine r0T ?_
  refine wp_cond_false (rfl) ?_
  refine r0T ?_
  refine wp_cond_true (rfl) ?_
  obtain ⟨z0, z1, z2, z3, o0, o1, o2, o3, hfz⟩ := S5 (enc := ndL) (fun _ => rfl) Ho.out Hm.out.symm k (by rw [Hm.out]; exact Hkk.out.1)
  refine r0E ?_
  clear o0 o1 o2 o3 hfz
  obtain ⟨ns2, m2, p1, p2⟩ := T0 Ho.out Hm.out Hkk.out.1 (show 2 < 4 by omega) J
  generalize World.setCell u ⟨gg, k * 4 + 2, none⟩ _ = u0 at p1 p2 ⊢
  have hB2 := Bx.grown_ hB p2 (fun e he hxe => by
   have e1 := Option.some.inj hxe
   simp only [List.mem_cons, List.not_mem_nil, or_false] at he
   rcases he with rfl | rfl
   ·exact Hne.out.1 e1.symm
   ·exact Hne.out.2 e1.symm)
  have hG2 : A3 w u0 := hG.grown p2 (fun j e => (Ho.out.lt j e).1)
  clear hB hG Ho Hm p2
  have hB := hB2
  have hG := hG2
  have Ho := Lib.hid p1
  have Hm := Lib.hid m2
  clear hB2 hG2 p1 m2
  obtain ⟨u, rfl⟩ : ∃ x, x = u0 := ⟨_, rfl⟩
  refine D2 ?_
  refine A4 ?_
  refine r0T ?_
  refine sv hB hF hG 1 0 [_, _] ?_
  intro u hu hBG
  have Ho2 := Lib.hid (I6 Ho.out (fun e => Hne.out.2 (Option.some.inj e)) hu)
  clear Ho hB hG hu
  have Ho := Ho2
  clear Ho2
  obtain ⟨hB, hG⟩ := hBG
  refine rt Tryz.results27 ?_
  exact ⟨(((some ⟨gg, 0, none⟩, cap), N), _), rfl, ⟨⟨gg, N, cap, _, Ho.out, fun W' h => Q8 h⟩, Hm.out, Nat.le_refl _⟩, hG⟩
 ·skip
  refine r0T ?_
  refine wp_cond_false (rfl) ?_
  refine r0T ?_
  refine wp_cond_false (rfl) ?_
  refine r0T ?_
  refine wp_cond_false (rfl) ?_
  refine r0T ?_
  refine wp_cond_true (rfl) ?_
  obtain ⟨z0, z1, z2, z3, o0, o1, o2, o3, hfz⟩ := S5 (enc := ndL) (fun _ => rfl) Ho.out Hm.out.symm k (by rw [Hm.out]; exact Hkk.out.1)
  refine r0E ?_
  clear o0 o1 o2 o3 hfz
  obtain ⟨ns2, m2, p1, p2⟩ := T0 Ho.out Hm.out Hkk.out.1 (show 3 < 4 by omega) J
  generalize World.setCell u ⟨gg, k * 4 + 3, none⟩ _ = u0 at p1 p2 ⊢
  have hB2 := Bx.grown_ hB p2 (fun e he hxe => by
   have e1 := Option.some.inj hxe
   simp only [List.mem_cons, List.not_mem_nil, or_false] at he
   rcases he with rfl | rfl
   ·exact Hne.out.1 e1.symm
   ·exact Hne.out.2 e1.symm)
  have hG2 : A3 w u0 := hG.grown p2 (fun j e => (Ho.out.lt j e).1)
  clear hB hG Ho Hm p2
  have hB := hB2
  have hG := hG2
  have Ho := Lib.hid p1
  have Hm := Lib.hid m2
  clear hB2 hG2 p1 m2
  obtain ⟨u, rfl⟩ : ∃ x, x = u0 := ⟨_, rfl⟩
  refine D2 ?_
  refine A4 ?_
  refine r0T ?_
  refine sv hB hF hG 1 0 [_, _] ?_
  intro u hu hBG
  have Ho2 := Lib.hid (I6 Ho.out (fun e => Hne.out.2 (Option.some.inj e)) hu)
  clear Ho hB hG hu
  have Ho := Ho2
  clear Ho2
  obtain ⟨hB, hG⟩ := hBG
  refine rt Tryz.results27 ?_
  exact ⟨(((some ⟨gg, 0, none⟩, cap), N), _), rfl, ⟨⟨gg, N, cap, _, Ho.out, fun W' h => Q8 h⟩, Hm.out, Nat.le_refl _⟩, hG⟩
 ·skip
  refine r0T ?_
  refine wp_cond_false (rfl) ?_
  refine r0T ?_
  refine wp_cond_false (rfl) ?_
  refine r0T ?_
  refine wp_cond_false (rfl) ?_
  refine r0T ?_
  refine wp_cond_false (rfl) ?_
  refine r0T ?_
  refine wp_cond_true (rfl) ?_
  obtain ⟨A5, hsl, hcut⟩ := A8r gg N cap h1 hcap
  obtain ⟨N1, hN1⟩ : ∃ x, x = N - 1 := ⟨_, rfl⟩
  obtain ⟨cap1, hcap1⟩ : ∃ x, x = cap - 1 := ⟨_, rfl⟩
  rw [← hN1, ← hcap1] at hsl
  have Hcut := Lib.hid hcut
  have HN1 := Lib.hid hN1
  clear hcut hN1 hcap1
  refine r0E ?_
  refine sv hB hF hG 0 1 [_] ?_
  intro u hu hBG
  have Ho2 := Lib.hid (I6 Ho.out (fun e => Hne.out.1 (Option.some.inj e)) hu)
  clear Ho hB hG hu hsl
  have Ho := Ho2
  clear Ho2
  obtain ⟨hB, hG⟩ := hBG
  refine D2 ?_
  refine A4 ?_
  refine r0T ?_
  refine sv hB hF hG 1 0 [_, _] ?_
  intro u hu hBG
  have Ho2 := Lib.hid (I6 Ho.out (fun e => Hne.out.2 (Option.some.inj e)) hu)
  clear Ho hB hG hu
  have Ho := Ho2
  clear Ho2
  obtain ⟨hB, hG⟩ := hBG
  refine rt Tryz.results27 ?_
  exact ⟨(((A5, cap1), N1), _), rfl, ⟨⟨gg, N, cap, _, Ho.out, fun W' h => Hcut.out W' _ Hm.out (Q8 h)⟩, by rw [List.length_drop, Hm.out]; exact HN1.out.symm, show N1 ≤ N by have := HN1.out; omega⟩, hG⟩
 ·skip
  refine r0T ?_
  refine wp_cond_false (rfl) ?_
  refine r0T ?_
  refine wp_cond_false (rfl) ?_
  refine r0T ?_
  refine wp_cond_false (rfl) ?_
  refine r0T ?_
  refine wp_cond_false (rfl) ?_
  refine r0T ?_
  refine wp_cond_false (rfl) ?_
  refine r0T ?_
  refine wp_cond_true (rfl) ?_
  obtain ⟨bg, og, e9, hnd⟩ := (Q8 Ho.out).at (i := k) (by rw [Hm.out]; exact Hkk.out.1)
  cases e9
  have hnd2 : ∃ x : NdT, ∀ W, A3 u W → W.cell? ⟨gg, k * 4 + 2, none⟩ = some (.int .i64 x.l) ∧ W.cell? ⟨gg, k * 4 + 3, none⟩ = some (.int .i64 x.t) := ⟨_, fun W hg => by
   have q2 := hnd W hg 2 _ rfl
   have q3 := hnd W hg 3 _ rfl
   rw [Nat.zero_add] at q2 q3
   exact ⟨q2, q3⟩⟩
  obtain ⟨x, hx⟩ := hnd2
  obtain ⟨xr, xc, xl, xt⟩ := x
  have Hx := Lib.hid hx
  clear hnd hx
  refine rdC C5 [1] [(0, 0), (0, 1), (0, 2), (0, 3), (0, 4), (0, 5), (0, 6), (0, 7), (0, 8), (0, 9), (0, 10), (0, 11)] hB hG fun K L hN hL => ?_
  repeat first | refine gya ?_ | refine gyr ?_ | refine gna ?_ | refine gyb (by (rintro v ⟨hgu, hB, hG, -⟩ N hN; have r := hB.r; simp only [BxR] at r; obtain ⟨q2, q3⟩ := Hx.out v hgu; go_simp; exact hN)) ?_
  refine geC hL ?_
  clear hB hG hL L
  rintro u ⟨hgu, hB, hG, -⟩
  have Ho2 := Lib.hid (D4 Ho.out hgu)
  clear Ho Hx
  have Ho := Ho2
  clear Ho2
  obtain ⟨z0, z1, z2, z3, o0, o1, o2, o3, hfz⟩ := S5 (enc := ndL) (fun _ => rfl) Ho.out Hm.out.symm k (by rw [Hm.out]; exact Hkk.out.1)
  clear hgu
  refine gt ?_
  clear hN K
  clear o0 o1 o2 o3 hfz
  obtain ⟨ns2, m2, p1, p2⟩ := T0 Ho.out Hm.out Hkk.out.1 (show 2 < 4 by omega) xt
  generalize World.setCell u ⟨gg, k * 4 + 2, none⟩ _ = u0 at p1 p2 ⊢
  have hB2 := Bx.grown_ hB p2 (fun e he hxe => by
   have e1 := Option.some.inj hxe
   simp only [List.mem_cons, List.not_mem_nil, or_false] at he
   rcases he with rfl | rfl
   ·exact Hne.out.1 e1.symm
   ·exact Hne.out.2 e1.symm)
  have hG2 : A3 w u0 := hG.grown p2 (fun j e => (Ho.out.lt j e).1)
  clear hB hG Ho Hm p2
  have hB := hB2
  have hG := hG2
  have Ho := Lib.hid p1
  have Hm := Lib.hid m2
  clear hB2 hG2 p1 m2
  obtain ⟨u, rfl⟩ : ∃ x, x = u0 := ⟨_, rfl⟩
  obtain ⟨ns3, m2, p1, p2⟩ := T0 Ho.out Hm.out Hkk.out.1 (show 3 < 4 by omega) xl
  generalize World.setCell u ⟨gg, k * 4 + 3, none⟩ _ = u1 at p1 p2 ⊢
  have hB2 := Bx.grown_ hB p2 (fun e he hxe => by
   have e1 := Option.some.inj hxe
   simp only [List.mem_cons, List.not_mem_nil, or_false] at he
   rcases he with rfl | rfl
   ·exact Hne.out.1 e1.symm
   ·exact Hne.out.2 e1.symm)
  have hG2 : A3 w u1 := hG.grown p2 (fun j e => (Ho.out.lt j e).1)
  clear hB hG Ho Hm p2
  have hB := hB2
  have hG := hG2
  have Ho := Lib.hid p1
  have Hm := Lib.hid m2
  clear hB2 hG2 p1 m2
  obtain ⟨u, rfl⟩ : ∃ x, x = u1 := ⟨_, rfl⟩
  refine D2 ?_
  refine A4 ?_
  refine r0T ?_
  refine sv hB hF hG 1 0 [_, _] ?_
  intro u hu hBG
  have Ho2 := Lib.hid (I6 Ho.out (fun e => Hne.out.2 (Option.some.inj e)) hu)
  clear Ho hB hG hu
  have Ho := Ho2
  clear Ho2
  obtain ⟨hB, hG⟩ := hBG
  refine rt Tryz.results27 ?_
  exact ⟨(((some ⟨gg, 0, none⟩, cap), N), _), rfl, ⟨⟨gg, N, cap, _, Ho.out, fun W' h => Q8 h⟩, Hm.out, Nat.le_refl _⟩, hG⟩
 ·skip
  refine r0T ?_
  refine wp_cond_false (rfl) ?_
  refine r0T ?_
  refine wp_cond_false (rfl) ?_
  refine r0T ?_
  refine wp_cond_false (rfl) ?_
  refine r0T ?_
  refine wp_cond_false (rfl) ?_
  refine r0T ?_
  refine wp_cond_false (rfl) ?_
  refine r0T ?_
  refine wp_cond_false (rfl) ?_
  by_cases hkk : k2 = k
  ·subst hkk
   refine wp_seq (rdC C5 [] [(0, 0), (0, 1), (0, 2), (0, 3), (0, 4), (0, 5), (1, 6), (0, 7)] hB hG fun K L hN hL => ?_)
   repeat first | refine gya ?_ | refine gyr ?_ | refine gna ?_ | refine gyb (by (rintro v ⟨hgu, hB, hG, -⟩ N hN; have r := hB.r; simp only [BxR] at r; obtain ⟨q2, q3⟩ := Hx.out v hgu; go_simp; exact hN)) ?_
   refine gmw (C := fun v => Hp4.out _) ?_
   refine gs ?_
   refine geC hL ?_
   clear hB hG hL L
   rintro u ⟨hgu, hB, hG, -⟩
   have Ho2 := Lib.hid (D4 Ho.out hgu)
   clear Ho
   have Ho := Ho2
   clear Ho2
   clear hgu
   refine gtT ?_
   clear hN K
   have hnd : ∀ k, k < N → ∃ x : NdT, ∀ W, A3 u W → W.cell? ⟨gg, k * 4, none⟩ = some (.int .i64 x.r) := fun k hk => by
    obtain ⟨bg, og, e9, hnd⟩ := (Q8 Ho.out).at (i := k) (by rw [Hm.out]; exact hk)
    cases e9
    refine ⟨ns[k]'(by rw [Hm.out]; exact hk), fun W hg => ?_⟩
    have q2 := hnd W hg 0 _ rfl
    rw [Nat.zero_add] at q2
    exact q2
   obtain ⟨x1, hx1⟩ := hnd k2 Hkk.out.2
   obtain ⟨x2, hx2⟩ := hnd k2 Hkk.out.2
   obtain ⟨R1, hR1⟩ : ∃ r, r = x1.r := ⟨_, rfl⟩
   obtain ⟨R2, hR2⟩ : ∃ r, r = x2.r := ⟨_, rfl⟩
   simp only [← hR1] at hx1
   simp only [← hR2] at hx2
   have Hx := Lib.hid (fun W hg => And.intro (hx1 W hg) (hx2 W hg))
   clear hnd hx1 hx2 hR1 hR2
   refine rdC C5 [1] [(0, 0), (0, 1), (0, 2), (0, 3), (0, 4), (0, 5), (0, 6), (0, 7), (0, 8), (0, 9), (0, 10), (0, 11)] hB hG fun K L hN hL => ?_
   repeat first | refine gya ?_ | refine gyr ?_ | refine gna ?_ | refine gyb (by (rintro v ⟨hgu, hB, hG, -⟩ N hN; have r := hB.r; simp only [BxR] at r; obtain ⟨q2, q3⟩ := Hx.out v hgu; go_simp; exact hN)) ?_
   refine geC hL ?_
   clear hB hG hL L
   rintro u ⟨hgu, hB, hG, -⟩
   have Ho2 := Lib.hid (D4 Ho.out hgu)
   clear Ho Hx
   have Ho := Ho2
   clear Ho2
   obtain ⟨z0, z1, z2, z3, o0, o1, o2, o3, hfz⟩ := S5 (enc := ndL) (fun _ => rfl) Ho.out Hm.out.symm k2 (by rw [Hm.out]; exact Hkk.out.1)
   clear hgu
   refine gt ?_
   clear hN K
   clear o0 o1 o2 o3 hfz
   obtain ⟨ns2, m2, p1, p2⟩ := T0 Ho.out Hm.out Hkk.out.2 (show 0 < 4 by omega) R1
   rw [Nat.add_zero] at p1 p2
   generalize World.setCell u ⟨gg, k2 * 4, none⟩ _ = u0 at p1 p2 ⊢
   have hB2 := Bx.grown_ hB p2 (fun e he hxe => by
    have e1 := Option.some.inj hxe
    simp only [List.mem_cons, List.not_mem_nil, or_false] at he
    rcases he with rfl | rfl
    ·exact Hne.out.1 e1.symm
    ·exact Hne.out.2 e1.symm)
   have hG2 : A3 w u0 := hG.grown p2 (fun j e => (Ho.out.lt j e).1)
   clear hB hG Ho Hm p2
   have hB := hB2
   have hG := hG2
   have Ho := Lib.hid p1
   have Hm := Lib.hid m2
   clear hB2 hG2 p1 m2
   obtain ⟨u, rfl⟩ : ∃ x, x = u0 := ⟨_, rfl⟩
   obtain ⟨ns3, m2, p1, p2⟩ := T0 Ho.out Hm.out Hkk.out.2 (show 0 < 4 by omega) R1
   rw [Nat.add_zero] at p1 p2
   generalize World.setCell u ⟨gg, k2 * 4, none⟩ _ = u1 at p1 p2 ⊢
   have hB2 := Bx.grown_ hB p2 (fun e he hxe => by
    have e1 := Option.some.inj hxe
    simp only [List.mem_cons, List.not_mem_nil, or_false] at he
    rcases he with rfl | rfl
    ·exact Hne.out.1 e1.symm
    ·exact Hne.out.2 e1.symm)
   have hG2 : A3 w u1 := hG.grown p2 (fun j e => (Ho.out.lt j e).1)
   clear hB hG Ho Hm p2
   have hB := hB2
   have hG := hG2
   have Ho := Lib.hid p1
   have Hm := Lib.hid m2
   clear hB2 hG2 p1 m2
   obtain ⟨u, rfl⟩ : ∃ x, x = u1 := ⟨_, rfl⟩
   refine D2 ?_
   refine A4 ?_
   refine r0T ?_
   refine sv hB hF hG 1 0 [_, _] ?_
   intro u hu hBG
   have Ho2 := Lib.hid (I6 Ho.out (fun e => Hne.out.2 (Option.some.inj e)) hu)
   clear Ho hB hG hu
   have Ho := Ho2
   clear Ho2
   obtain ⟨hB, hG⟩ := hBG
   refine rt Tryz.results27 ?_
   exact ⟨(((some ⟨gg, 0, none⟩, cap), N), _), rfl, ⟨⟨gg, N, cap, _, Ho.out, fun W' h => Q8 h⟩, Hm.out, Nat.le_refl _⟩, hG⟩
  ·have hk4 : k2 * 4 ≠ k * 4 := by omega
   have hk5 : k * 4 ≠ k2 * 4 := by omega
   have hkk2 : ¬ k = k2 := fun e => hkk e.symm
   refine wp_seq (rdC C5 [] [(0, 0), (0, 1), (0, 2), (0, 3), (0, 4), (0, 5), (1, 6), (0, 7)] hB hG fun K L hN hL => ?_)
   repeat first | refine gya ?_ | refine gyr ?_ | refine gna ?_ | refine gyb (by (rintro v ⟨hgu, hB, hG, -⟩ N hN; have r := hB.r; simp only [BxR] at r; obtain ⟨q2, q3⟩ := Hx.out v hgu; go_simp; exact hN)) ?_
   refine gmw (C := fun v => Hp4.out _) ?_
   refine gs ?_
   refine geC hL ?_
   clear hB hG hL L
   rintro u ⟨hgu, hB, hG, -⟩
   have Ho2 := Lib.hid (D4 Ho.out hgu)
   clear Ho
   have Ho := Ho2
   clear Ho2
   clear hgu
   refine gtT ?_
   clear hN K
   have hnd : ∀ k, k < N → ∃ x : NdT, ∀ W, A3 u W → W.cell? ⟨gg, k * 4, none⟩ = some (.int .i64 x.r) := fun k hk => by
    obtain ⟨bg, og, e9, hnd⟩ := (Q8 Ho.out).at (i := k) (by rw [Hm.out]; exact hk)
    cases e9
    refine ⟨ns[k]'(by rw [Hm.out]; exact hk), fun W hg => ?_⟩
    have q2 := hnd W hg 0 _ rfl
    rw [Nat.zero_add] at q2
    exact q2
   obtain ⟨x1, hx1⟩ := hnd k Hkk.out.1
   obtain ⟨x2, hx2⟩ := hnd k2 Hkk.out.2
   obtain ⟨R1, hR1⟩ : ∃ r, r = x1.r := ⟨_, rfl⟩
   obtain ⟨R2, hR2⟩ : ∃ r, r = x2.r := ⟨_, rfl⟩
   simp only [← hR1] at hx1
   simp only [← hR2] at hx2
   have Hx := Lib.hid (fun W hg => And.intro (hx1 W hg) (hx2 W hg))
   clear hnd hx1 hx2 hR1 hR2
   refine rdC C5 [1] [(0, 0), (0, 1), (0, 2), (0, 3), (0, 4), (0, 5), (0, 6), (0, 7), (0, 8), (0, 9), (0, 10), (0, 11)] hB hG fun K L hN hL => ?_
   repeat first | refine gya ?_ | refine gyr ?_ | refine gna ?_ | refine gyb (by (rintro v ⟨hgu, hB, hG, -⟩ N hN; have r := hB.r; simp only [BxR] at r; obtain ⟨q2, q3⟩ := Hx.out v hgu; go_simp; exact hN)) ?_
   refine geC hL ?_
   clear hB hG hL L
   rintro u ⟨hgu, hB, hG, -⟩
   have Ho2 := Lib.hid (D4 Ho.out hgu)
   clear Ho Hx
   have Ho := Ho2
   clear Ho2
   obtain ⟨z0, z1, z2, z3, o0, o1, o2, o3, hfz⟩ := S5 (enc := ndL) (fun _ => rfl) Ho.out Hm.out.symm k (by rw [Hm.out]; exact Hkk.out.1)
   obtain ⟨y0, y1, y2, y3, a0, a1, a2, a3, -⟩ := S5 (enc := ndL) (fun _ => rfl) Ho.out Hm.out.symm k2 (by rw [Hm.out]; exact Hkk.out.2)
   clear hgu
   refine gt ?_
   clear hN K
   clear o0 o1 o2 o3 hfz a0 a1 a2 a3 hk4 hk5 hkk hkk2
   obtain ⟨ns2, m2, p1, p2⟩ := T0 Ho.out Hm.out Hkk.out.1 (show 0 < 4 by omega) R2
   rw [Nat.add_zero] at p1 p2
   generalize World.setCell u ⟨gg, k * 4, none⟩ _ = u0 at p1 p2 ⊢
   have hB2 := Bx.grown_ hB p2 (fun e he hxe => by
    have e1 := Option.some.inj hxe
    simp only [List.mem_cons, List.not_mem_nil, or_false] at he
    rcases he with rfl | rfl
    ·exact Hne.out.1 e1.symm
    ·exact Hne.out.2 e1.symm)
   have hG2 : A3 w u0 := hG.grown p2 (fun j e => (Ho.out.lt j e).1)
   clear hB hG Ho Hm p2
   have hB := hB2
   have hG := hG2
   have Ho := Lib.hid p1
   have Hm := Lib.hid m2
   clear hB2 hG2 p1 m2
   obtain ⟨u, rfl⟩ : ∃ x, x = u0 := ⟨_, rfl⟩
   obtain ⟨ns3, m2, p1, p2⟩ := T0 Ho.out Hm.out Hkk.out.2 (show 0 < 4 by omega) R1
   rw [Nat.add_zero] at p1 p2
   generalize World.setCell u ⟨gg, k2 * 4, none⟩ _ = u1 at p1 p2 ⊢
   have hB2 := Bx.grown_ hB p2 (fun e he hxe => by
    have e1 := Option.some.inj hxe
    simp only [List.mem_cons, List.not_mem_nil, or_false] at he
    rcases he with rfl | rfl
    ·exact Hne.out.1 e1.symm
    ·exact Hne.out.2 e1.symm)
   have hG2 : A3 w u1 := hG.grown p2 (fun j e => (Ho.out.lt j e).1)
   clear hB hG Ho Hm p2
   have hB := hB2
   have hG := hG2
   have Ho := Lib.hid p1
   have Hm := Lib.hid m2
   clear hB2 hG2 p1 m2
   obtain ⟨u, rfl⟩ : ∃ x, x = u1 := ⟨_, rfl⟩
   refine D2 ?_
   refine A4 ?_
   refine r0T ?_
   refine sv hB hF hG 1 0 [_, _] ?_
   intro u hu hBG
   have Ho2 := Lib.hid (I6 Ho.out (fun e => Hne.out.2 (Option.some.inj e)) hu)
   clear Ho hB hG hu
   have Ho := Ho2
   clear Ho2
   obtain ⟨hB, hG⟩ := hBG
   refine rt Tryz.results27 ?_
   exact ⟨(((some ⟨gg, 0, none⟩, cap), N), _), rfl, ⟨⟨gg, N, cap, _, Ho.out, fun W' h => Q8 h⟩, Hm.out, Nat.le_refl _⟩, hG⟩
end Go.Proofs.YtjmopgepnndckaaGreatDoor
