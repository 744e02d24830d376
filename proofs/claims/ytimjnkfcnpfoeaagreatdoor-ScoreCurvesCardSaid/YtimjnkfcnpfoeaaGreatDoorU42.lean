/-
  Contracts and laws: ClassA.
-/
import Derived.Test.YtimjnkfcnpfoeaaGreatDoorU40
set_option linter.unusedSimpArgs false
set_option linter.unusedVariables false
namespace Go.Proofs.YtimjnkfcnpfoeaaGreatDoor
open Go.RowKit
theorem Li.at {u : World} {A : Option Addr} {l : List Int} {i : Nat} (h : Li u A l) (hi : i < l.length) : ∃ b off, A = some ⟨b, off, none⟩ ∧ ∀ W, Grow u W → W.cell? ⟨b, off + i, none⟩ = some (.int .i64 (gi l i)) := by
 obtain ⟨b, off, e, -⟩ := h.cell hi
 refine ⟨b, off, e, fun W hg => ?_⟩
 obtain ⟨b', o', e', hc⟩ := (h.grow hg).cell hi
 rw [e] at e'
 cases e'
 exact hc
abbrev intL (l : List Int) : List Value := l.map fun x => Value.int .i64 x
theorem bs_int (y : Int) (w : World) : (Instr.buildSlice 22 1 #[(0, .int .i64 y)]).run Tryz.prog w = .ok (.slice (some ⟨w.heap.size, 0, none⟩) 1 1) (w.alloc (.cells #[.int .i64 y] 3)) := by
 go_simp
theorem ei_int : EI 22 3 1 8 := ei_of (by kernel_rfl) (by kernel_rfl) (by omega)
theorem own_li {u : World} {B n : Nat} {v : Value} {l : List Int} (h : u.ownsRow B 3 1 v n (intL l)) (hn : n = l.length) : ∃ A c, v = .slice A n c ∧ n ≤ c ∧ Li u A l := by
 subst hn
 obtain ⟨_, h | ⟨g, cap, cur, rfl, hb, hh, hn, hc, hs, ht⟩⟩ := h
 ·obtain ⟨rfl, h0⟩ := h
  exact ⟨none, 0, by rw [h0], by omega, fun hne => absurd (List.eq_nil_of_length_eq_zero h0) hne⟩
 ·refine ⟨_, cap, rfl, hn, fun _ => ⟨g, 0, rfl, heap_lt hh, fun i x hi => ?_⟩⟩
  rw [Nat.zero_add, cell_of_row u g i cur 3 (0, 0) hh]
  have hil : i < l.length := (List.getElem?_eq_some_iff.1 hi).1
  have h1 : (cur.toList.take (l.length * 1))[i]? = some (.int .i64 x) := by rw [ht, List.getElem?_map, hi]; rfl
  rw [List.getElem?_take, if_pos (by omega)] at h1
  simpa using h1
/-- the raw number at place i, or the place's own -/
def rawAt (l : List Int) (i : Nat) : Int := if i < l.length then gi l i else i
def clsAt (l : List Int) (k : Int) (i : Nat) : Int := if (rawAt l i).tmod 41 = 40 then rawAt l i else pick (rawAt l i) k
/-- classes, some of them none -/
def clsL (l : List Int) (k : Int) (n : Nat) : List Int := (List.range n).map (clsAt l k)
theorem clsL_succ (l : List Int) (k : Int) (n : Nat) : clsL l k (n + 1) = clsL l k n ++ [clsAt l k n] := by
 unfold clsL; rw [List.range_succ, List.map_append]; rfl
theorem clsL_len (l : List Int) (k : Int) (n : Nat) : (clsL l k n).length = n := by unfold clsL; simp
theorem tmod41 (x : Int) : -40 ≤ x.tmod 41 ∧ x.tmod 41 ≤ 40 := by
 have h1 := Int.tmod_lt_of_pos x (show (0 : Int) < 41 by omega)
 have h2 : -(41 : Int) < x.tmod 41 := by
  have := Int.neg_tmod x 41
  have h3 := Int.tmod_lt_of_pos (-x) (show (0 : Int) < 41 by omega)
  rw [this] at h3
  omega
 omega
set_option maxHeartbeats 2000000 in
set_option maxRecDepth 100000 in
theorem law9_ints (A : Option Addr) (l : List Int) (c p n k : Nat) (hp : p = l.length) (hn : n ≤ 1048576) (hpm : p ≤ 9223372036854775807) (hk : 0 < k) (hk2 : k ≤ 1048576) (w : World) (h : Li w A l) :
  Calls Tryz.prog 11 #[.slice A p c, .int .i64 n, .int .i64 k] w (RetY (fun x : Ax => .slice x.1 n x.2) (fun x W => Li W x.1 (clsL l k n)) w) := by
 have H := Lib.hid h
 have Hp := Lib.hid hp
 clear h hp
 go_enter Tryz.func11, Tryz.ntmps11
 refine en0 ?_
 intro u hG hB hF
 refine r0T ?_
 refine wp_seq ?_
 refine r0T ?_
 refine wp_block ?_
 clear hB hF
 go_loopw [8, 7] (fun s0 s1 wr => ∃ i : Nat, i ≤ n ∧ s0 = .int .i64 i ∧ wr.ownsRow w.heap.size 3 1 s1 i (intL (clsL l k i)) ∧ Grow w wr) (fun s0 _ _ => n - (intOf s0).toNat)
 case atStart => exact ⟨0, Nat.zero_le _, rfl, World.ownsRow_nil _ _ _ _, hG⟩
 case round =>
  clear hG
  obtain ⟨i, hi, rfl, ho, hG⟩ := hrel
  obtain ⟨u, rfl⟩ : ∃ x, x = wr := ⟨_, rfl⟩
  have hB := Bx.nil u
  have hF := Fr.nil w
  have Ho := Lib.hid ho
  clear ho
  rcases Nat.lt_or_ge i n with hlt | hge
  ·have hdec : decide ((i : Int) < (n : Int)) = true := by simp; omega
   have hsu := clsL_succ l k i
   by_cases hip : i < p
   ·have hil : i < l.length := by rw [← Hp.out]; exact hip
    obtain ⟨ba, oa, rfl, hcl⟩ := H.out.at hil
    have hraw : rawAt l i = gi l i := if_pos hil
    have hun : clsAt l k i = if (gi l i).tmod 41 = 40 then gi l i else pick (gi l i) k := by unfold clsAt; rw [hraw]
    obtain ⟨X, hX⟩ : ∃ X, X = gi l i := ⟨_, rfl⟩
    simp only [← hX] at hcl hun
    have hdp : decide ((i : Int) < (p : Int)) = true := by simp; omega
    obtain ⟨z1, z2⟩ := tmod41 X
    obtain ⟨Z, hZ⟩ : ∃ Z, X.tmod 41 = Z := ⟨_, rfl⟩
    rw [hZ] at hun z1 z2
    have fz : IntKind.i64.wrap Z = Z := IntWalk.i64_in _ (by omega)
    have Hcl := Lib.hid hcl
    by_cases h40 : Z = 40
    ·rw [if_pos h40] at hun
     rw [hun] at hsu
     have Hsu := Lib.hid hsu
     have hc : (Z == 40) = true := by simp [h40]
     clear hcl hsu hun hil z1 z2 h40 hX hraw
     refine wp_seq ?_
     refine r0T ?_
     refine wp_cond_true (rfl) ?_
     refine wp_skip ?_
     refine then_norm ?_
     refine wp_seq ?_
     refine wp_block ?_
     refine r0T ?_
     refine wp_seq ?_
     refine r0T ?_
     refine wp_cond_true (rfl) ?_
     have hcb := Hcl.out u hG
     refine r0N ?_
     refine r0T ?_
     refine wp_cond_true (rfl) ?_
     refine wp_rs (w := w) allocs 2 [0, 0] (by kernel_rfl) (by simp only [List.drop_succ_cons, List.drop_zero]; exact rfl) (fun _ => True) noG hB hG trivial ?_
     intro K L hN hL
     simp only [List.zip_cons_cons, List.zip_nil_left]
     refine gs ?_
     refine gend ?_
     rintro v ⟨hgu, hB1, hG1, -⟩
     have ROWn := Lib.hid (own_grow' Ho.out hgu)
     clear Ho
     have Ho := ROWn
     clear ROWn
     clear hB hG
     have hB := hB1
     have hG := hG1
     clear hB1 hG1
     refine hL _ _ ?_
     clear hL L hgu
     obtain ⟨u, rfl⟩ : ∃ x, x = v := ⟨_, rfl⟩
     refine app_tailG ei_int w.heap.size _ _ _ _ [.int .i64 X] rfl rfl (bs_int X u) rfl (fun _ => rfl) (fun _ => rfl) (fun _ _ => rfl) Ho.out (by omega) (by omega) hG.sz fun p v' w' g1 g2 g3 => ?_
     have hBn := Bx.nil w'
     have hGn := own_growth Ho.out hG g2
     clear Ho hB hG
     have Ho := Lib.hid g1
     have hB := hBn
     have hG := hGn
     clear g1 g2 g3 hBn hGn
     obtain ⟨u, rfl⟩ : ∃ x, x = w' := ⟨_, rfl⟩
     simp only [Act.put, List.setIfInBounds_toArray, List.set_cons_succ, List.set_cons_zero]
     refine NoK.norm (hN _ _ ?_)
     clear hN K
     refine blk_norm ?_
     refine then_norm ?_
     refine r0E ?_
     refine then_norm ?_
     go_roundw
     case rel => exact ⟨i + 1, by omega, by go_num, by have := Ho.out; rw [Hsu.out]; simpa [intL] using this, hG⟩
     case measure => simp [intOf]; omega
    ·rw [if_neg h40] at hun
     rw [hun] at hsu
     have Hsu := Lib.hid hsu
     have hc : (Z == 40) = false := by simp [h40]
     clear hcl hsu hun hil z1 z2 h40 hX hraw
     refine wp_seq ?_
     refine r0T ?_
     refine wp_cond_true (rfl) ?_
     refine wp_skip ?_
     refine then_norm ?_
     refine wp_seq ?_
     refine wp_block ?_
     refine r0T ?_
     refine wp_seq ?_
     refine r0T ?_
     refine wp_cond_true (rfl) ?_
     have hcb := Hcl.out u hG
     refine r0N ?_
     refine r0T ?_
     refine wp_cond_false (rfl) ?_
     refine wp_rs (w := w) allocs 4 [0, 0, 0, 1] (by kernel_rfl) (by simp only [List.drop_succ_cons, List.drop_zero]; exact rfl) (fun _ => True) noG hB hG trivial ?_
     intro K L hN hL
     simp only [List.zip_cons_cons, List.zip_nil_left]
     refine gs ?_
     refine gmw (C := fun v => hand_PickG _ _ (by omega) (by omega) _) ?_
     refine gend ?_
     rintro v ⟨hgu, hB1, hG1, -⟩
     have ROWn := Lib.hid (own_grow' Ho.out hgu)
     clear Ho
     have Ho := ROWn
     clear ROWn
     clear hB hG
     have hB := hB1
     have hG := hG1
     clear hB1 hG1
     refine hL _ _ ?_
     clear hL L hgu
     obtain ⟨u, rfl⟩ : ∃ x, x = v := ⟨_, rfl⟩
     refine app_tailG ei_int w.heap.size _ _ _ _ [.int .i64 (pick X k)] rfl rfl (bs_int (pick X k) u) rfl (fun _ => rfl) (fun _ => rfl) (fun _ _ => rfl) Ho.out (by omega) (by omega) hG.sz fun p v' w' g1 g2 g3 => ?_
     have hBn := Bx.nil w'
     have hGn := own_growth Ho.out hG g2
     clear Ho hB hG
     have Ho := Lib.hid g1
     have hB := hBn
     have hG := hGn
     clear g1 g2 g3 hBn hGn
     obtain ⟨u, rfl⟩ : ∃ x, x = w' := ⟨_, rfl⟩
     simp only [Act.put, List.setIfInBounds_toArray, List.set_cons_succ, List.set_cons_zero]
     refine NoK.norm (hN _ _ ?_)
     clear hN K
     refine blk_norm ?_
     refine then_norm ?_
     refine r0E ?_
     refine then_norm ?_
     go_roundw
     case rel => exact ⟨i + 1, by omega, by go_num, by have := Ho.out; rw [Hsu.out]; simpa [intL] using this, hG⟩
     case measure => simp [intOf]; omega
   ·have hraw : rawAt l i = i := if_neg (by rw [← Hp.out]; exact hip)
    have hun : clsAt l k i = if (i : Int).tmod 41 = 40 then (i : Int) else pick (i : Int) k := by unfold clsAt; rw [hraw]
    have hdp : decide ((i : Int) < (p : Int)) = false := by simp; omega
    obtain ⟨z1, z2⟩ := tmod41 (i : Int)
    have e2 : (i : Int) % 41 = (i : Int).tmod 41 := (Int.tmod_eq_emod_of_nonneg (by omega)).symm
    obtain ⟨Z, hZ⟩ : ∃ Z, (i : Int).tmod 41 = Z := ⟨_, rfl⟩
    rw [hZ] at hun z1 z2 e2
    have fz : IntKind.i64.wrap Z = Z := IntWalk.i64_in _ (by omega)
    by_cases h40 : Z = 40
    ·rw [if_pos h40] at hun
     rw [hun] at hsu
     have Hsu := Lib.hid hsu
     have hc : (Z == 40) = true := by simp [h40]
     clear hsu hun z1 z2 h40 hraw
     refine wp_seq ?_
     refine r0T ?_
     refine wp_cond_true (rfl) ?_
     refine wp_skip ?_
     refine then_norm ?_
     refine wp_seq ?_
     refine wp_block ?_
     refine r0T ?_
     refine wp_seq ?_
     refine r0T ?_
     refine wp_cond_false (rfl) ?_
     refine wp_skip ?_
     refine then_norm ?_
     refine r0T ?_
     refine wp_cond_true (rfl) ?_
     refine wp_rs (w := w) allocs 2 [0, 0] (by kernel_rfl) (by simp only [List.drop_succ_cons, List.drop_zero]; exact rfl) (fun _ => True) noG hB hG trivial ?_
     intro K L hN hL
     simp only [List.zip_cons_cons, List.zip_nil_left]
     refine gs ?_
     refine gend ?_
     rintro v ⟨hgu, hB1, hG1, -⟩
     have ROWn := Lib.hid (own_grow' Ho.out hgu)
     clear Ho
     have Ho := ROWn
     clear ROWn
     clear hB hG
     have hB := hB1
     have hG := hG1
     clear hB1 hG1
     refine hL _ _ ?_
     clear hL L hgu
     obtain ⟨u, rfl⟩ : ∃ x, x = v := ⟨_, rfl⟩
     refine app_tailG ei_int w.heap.size _ _ _ _ [.int .i64 (i : Int)] rfl rfl (bs_int (i : Int) u) rfl (fun _ => rfl) (fun _ => rfl) (fun _ _ => rfl) Ho.out (by omega) (by omega) hG.sz fun p v' w' g1 g2 g3 => ?_
     have hBn := Bx.nil w'
     have hGn := own_growth Ho.out hG g2
     clear Ho hB hG
     have Ho := Lib.hid g1
     have hB := hBn
     have hG := hGn
     clear g1 g2 g3 hBn hGn
     obtain ⟨u, rfl⟩ : ∃ x, x = w' := ⟨_, rfl⟩
     simp only [Act.put, List.setIfInBounds_toArray, List.set_cons_succ, List.set_cons_zero]
     refine NoK.norm (hN _ _ ?_)
     clear hN K
     refine blk_norm ?_
     refine then_norm ?_
     refine r0E ?_
     refine then_norm ?_
     go_roundw
     case rel => exact ⟨i + 1, by omega, by go_num, by have := Ho.out; rw [Hsu.out]; simpa [intL] using this, hG⟩
     case measure => simp [intOf]; omega
    ·rw [if_neg h40] at hun
     rw [hun] at hsu
     have Hsu := Lib.hid hsu
     have hc : (Z == 40) = false := by simp [h40]
     clear hsu hun z1 z2 h40 hraw
     refine wp_seq ?_
     refine r0T ?_
     refine wp_cond_true (rfl) ?_
     refine wp_skip ?_
     refine then_norm ?_
     refine wp_seq ?_
     refine wp_block ?_
     refine r0T ?_
     refine wp_seq ?_
     refine r0T ?_
     refine wp_cond_false (rfl) ?_
     refine wp_skip ?_
     refine then_norm ?_
     refine r0T ?_
     refine wp_cond_false (rfl) ?_
     refine wp_rs (w := w) allocs 4 [0, 0, 0, 1] (by kernel_rfl) (by simp only [List.drop_succ_cons, List.drop_zero]; exact rfl) (fun _ => True) noG hB hG trivial ?_
     intro K L hN hL
     simp only [List.zip_cons_cons, List.zip_nil_left]
     refine gs ?_
     refine gmw (C := fun v => hand_PickG _ _ (by omega) (by omega) _) ?_
     refine gend ?_
     rintro v ⟨hgu, hB1, hG1, -⟩
     have ROWn := Lib.hid (own_grow' Ho.out hgu)
     clear Ho
     have Ho := ROWn
     clear ROWn
     clear hB hG
     have hB := hB1
     have hG := hG1
     clear hB1 hG1
     refine hL _ _ ?_
     clear hL L hgu
     obtain ⟨u, rfl⟩ : ∃ x, x = v := ⟨_, rfl⟩
     refine app_tailG ei_int w.heap.size _ _ _ _ [.int .i64 (pick (i : Int) k)] rfl rfl (bs_int (pick (i : Int) k) u) rfl (fun _ => rfl) (fun _ => rfl) (fun _ _ => rfl) Ho.out (by omega) (by omega) hG.sz fun p v' w' g1 g2 g3 => ?_
     have hBn := Bx.nil w'
     have hGn := own_growth Ho.out hG g2
     clear Ho hB hG
     have Ho := Lib.hid g1
     have hB := hBn
     have hG := hGn
     clear g1 g2 g3 hBn hGn
     obtain ⟨u, rfl⟩ : ∃ x, x = w' := ⟨_, rfl⟩
     simp only [Act.put, List.setIfInBounds_toArray, List.set_cons_succ, List.set_cons_zero]
     refine NoK.norm (hN _ _ ?_)
     clear hN K
     refine blk_norm ?_
     refine then_norm ?_
     refine r0E ?_
     refine then_norm ?_
     go_roundw
     case rel => exact ⟨i + 1, by omega, by go_num, by have := Ho.out; rw [Hsu.out]; simpa [intL] using this, hG⟩
     case measure => simp [intOf]; omega
  ·obtain rfl : n = i := by omega
   have hdec : decide ((n : Int) < (n : Int)) = false := by simp
   obtain ⟨A', cc, rfl, -, hL⟩ := own_li Ho.out (clsL_len _ _ _).symm
   have HL := Lib.hid hL
   clear hL
   refine wp_seq ?_
   refine r0T ?_
   refine wp_cond_false (rfl) ?_
   refine wp_exit ?_
   refine then_exit ?_
   refine then_exit ?_
   refine blk_exit ?_
   refine then_norm ?_
   refine r0T ?_
   refine rt Tryz.results11 ?_
   exact ⟨(A', cc), rfl, HL.out, hG⟩
theorem qover_zero (n : Int) : qover n 0 = qint 0 := by
 unfold qover qint; rw [Rat.divInt_zero]; rfl
set_option maxHeartbeats 1000000 in
set_option maxRecDepth 100000 in
theorem ref6_by (n d : Int) (h0 : -9223372036854775808 ≤ n) (h1 : n ≤ 9223372036854775807) (h2 : -9223372036854775808 ≤ d) (h3 : d ≤ 9223372036854775807) (w : World) : Calls Tryz.prog 61 #[.int .i64 n, .int .i64 d] w (Ret (ratR (qover n d)) w) := by
 by_cases hd : d = 0
 ·rw [hd, qover_zero]
  clear hd h2 h3
  go_enter Tryz.func61, Tryz.ntmps61
  refine en1 ?_
  intro u hG b4 hB hF
  refine wp_seq ?_
  refine r0T ?_
  refine wp_cond_true (rfl) ?_
  refine wp_seq (rsC allocs [1] hB hG fun K L hN hL => ?_)
  refine grd (ratR (qint 0)) (fun (x7 : Ax × Ax) => ?_) (C := fun v _ => ref1_Of 0 (by omega) (by omega) _)
  refine geC hL ?_
  clear hB hG hL L
  rintro u ⟨⟨-, hB, hG, -⟩, hx7⟩
  obtain ⟨hx7a, hx7b⟩ : Rn u x7.1 _ ∧ Rn u x7.2 _ := hx7
  refine gtT ?_
  clear hN K
  refine sv hB hF hG 0 0 [_, _, _] ?_
  intro u hu hBG
  replace hx7a := hx7a.put hB 0 rfl (by first | decide | simp) _ _ hu
  replace hx7b := hx7b.put hB 0 rfl (by first | decide | simp) _ _ hu
  clear hB hG hu
  obtain ⟨hB, hG⟩ := hBG
  refine rt Tryz.results61 ?_
  exact ⟨x7, rfl, ⟨hx7a, hx7b⟩, hG⟩
 ·have hd0 : (d == 0) = false := by simp [hd]
  generalize hQ : qover n d = Q
  have hov := fun W => ref1_Over n d h0 h1 h2 h3 hd W
  rw [hQ] at hov
  clear hQ hd
  go_enter Tryz.func61, Tryz.ntmps61
  refine en1 ?_
  intro u hG b4 hB hF
  refine wp_seq ?_
  refine r0T ?_
  refine wp_cond_false (rfl) ?_
  refine wp_skip ?_
  refine then_norm ?_
  refine wp_seq (rsC allocs [0, 0, 1] hB hG fun K L hN hL => ?_)
  refine gs ?_
  refine grd (ratR Q) (fun (x10 : Ax × Ax) => ?_) (C := fun v _ => hov _)
  refine geC hL ?_
  clear hB hG hL L
  rintro u ⟨⟨-, hB, hG, -⟩, hx10⟩
  obtain ⟨hx10a, hx10b⟩ : Rn u x10.1 _ ∧ Rn u x10.2 _ := hx10
  refine gtT ?_
  clear hN K
  refine sv hB hF hG 0 0 [_, _, _] ?_
  intro u hu hBG
  replace hx10a := hx10a.put hB 0 rfl (by first | decide | simp) _ _ hu
  replace hx10b := hx10b.put hB 0 rfl (by first | decide | simp) _ _ hu
  clear hB hG hu
  obtain ⟨hB, hG⟩ := hBG
  refine rt Tryz.results61 ?_
  exact ⟨x10, rfl, ⟨hx10a, hx10b⟩, hG⟩
theorem pair_cases {m n : Nat} (h : pairedB m n = false) : ((m : Int) != (n : Int)) = true ∨ ((m : Int) != (n : Int)) = false ∧ ((m : Int) == 0) = true := by
 unfold pairedB at h
 by_cases e : m = n
 ·right; subst e; refine ⟨by simp, ?_⟩; simp at h; simp; omega
 ·left; simp; omega
end Go.Proofs.YtimjnkfcnpfoeaaGreatDoor
