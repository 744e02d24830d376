/-
  Contracts and laws: Curve.
-/
import Derived.Test.YtimjnkfcnpfoeaaGreatDoorU38
set_option linter.unusedSimpArgs false
set_option linter.unusedVariables false
namespace Go.Proofs.YtimjnkfcnpfoeaaGreatDoor
open Go Go.RowKit
theorem ei_Point : EI 84 88 10 112 := ei_of (by kernel_rfl) (by kernel_rfl) (by omega)
/-- the points' numbers, one behind the other -/
def flatP (a b : Nat) (pts : List (Nat × Nat)) : List Rat := pts.flatMap fun p => [qover (p.1 : Nat) a, qover (p.2 : Nat) b]
theorem flatP_snoc (a b : Nat) (pts : List (Nat × Nat)) (p : Nat × Nat) : flatP a b (pts ++ [p]) = flatP a b pts ++ [qover (p.1 : Nat) a, qover (p.2 : Nat) b] := by
 unfold flatP; simp
theorem flatP_len (a b : Nat) : ∀ pts : List (Nat × Nat), (flatP a b pts).length = 2 * pts.length
 | [] => rfl
 | p :: l => by
  have := flatP_len a b l
  unfold flatP at *
  rw [List.flatMap_cons, List.length_append, this]
  simp
  omega
/-- a row of elements that are made of fractions -/
theorem own_lqP {u : World} {B n : Nat} {v : Value} {l : List Rat} (h : u.ownsRow B 88 10 v n (l.flatMap qL)) : ∃ A c, v = .slice A n c ∧ n ≤ c ∧ c ≤ maxLen ∧ Lq u A l ∧ 2 * n = l.length := by
 obtain ⟨hl, ⟨rfl, hn⟩ | ⟨g, cap, cur, rfl, hb, hg, hnc, hcm, hcs, ht⟩⟩ := h
 ·rw [flatq_len] at hl
  have h0 : l = [] := List.length_eq_zero_iff.1 (by omega)
  have : n = 0 := by rw [h0] at hl; simp at hl; omega
  subst this
  exact ⟨none, 0, rfl, Nat.le_refl _, by simp, h0 ▸ Lq.nil _ _, by rw [h0]; rfl⟩
 ·rw [flatq_len] at hl
  refine ⟨_, cap, rfl, hnc, hcm, fun _ => ⟨g, 0, rfl, heap_lt hg, fun i q hi j y hj => ?_⟩, by omega⟩
  have hil := (List.getElem?_eq_some_iff.1 hi).1
  have hj5 : j < 5 := (List.getElem?_eq_some_iff.1 hj).1
  rw [cell_of_row u g _ cur 88 (0, 0) hg, Nat.zero_add]
  have h1 : (cur.toList.take (n * 10))[i * 5 + j]? = some y := by rw [ht, flatq_at l hi hj5, hj]
  rw [List.getElem?_take, if_pos (by omega)] at h1
  simpa using h1
theorem bs_Point (p q : Rat) (w : World) : (Instr.buildSlice 84 1 #[(0, .agg #[.bool (intNeg p.num), .int .u64 (natLo p.num.natAbs), .string (natMo p.num.natAbs), .int .u64 (natLo (keptDen p.den)), .string (natMo (keptDen p.den)), .bool (intNeg q.num), .int .u64 (natLo q.num.natAbs), .string (natMo q.num.natAbs), .int .u64 (natLo (keptDen q.den)), .string (natMo (keptDen q.den))])]).run Tryz.prog w = .ok (.slice (some ⟨w.heap.size, 0, none⟩) 1 1) (w.alloc (.cells (qL p ++ qL q).toArray 88)) := by
 go_simp
 rfl
/-- the places filled with their numbers -/
def fillI (m i : Nat) : List Int := (List.range m).map fun j => if j < i then (j : Int) else 0
theorem fillI_start (m : Nat) : fillI m 0 = List.replicate m 0 := by
 unfold fillI
 apply List.ext_getElem
 ·simp
 ·intro i h1 h2; simp
theorem fillI_end (m : Nat) : fillI m m = (List.range m).map fun (j : Nat) => (j : Int) := by
 unfold fillI
 refine List.map_congr_left fun j hj => ?_
 rw [if_pos (List.mem_range.1 hj)]
theorem fillI_get {m i : Nat} (h : i < m) : (fillI m i)[i]? = some 0 := by
 unfold fillI
 rw [List.getElem?_map, List.getElem?_range h]
 simp
theorem fillI_set {m i : Nat} (h : i < m) : (fillI m i).set i (i : Int) = fillI m (i + 1) := by
 unfold fillI
 apply List.ext_getElem
 ·simp
 ·intro j h1 h2
  simp only [List.getElem_set, List.getElem_map, List.getElem_range]
  by_cases e : i = j
  ·subst e; simp
  ·rw [if_neg e]
   by_cases e2 : j < i
   ·rw [if_pos e2, if_pos (by omega)]
   ·rw [if_neg e2, if_neg (by omega)]
/-- what one round of the points' loop does -/
theorem pts_step (t : Nat → Bool) (v : Nat → Rat) (m k : Nat) (h : k + 1 = m ∨ v (k + 1) ≠ v k) : ptsN t v m (k + 1) = ptsN t v m k ++ [(k + 1 - cnt t (k + 1), cnt t (k + 1))] := by
 show ptsN t v m k ++ _ = _
 rw [if_pos h]
theorem pts_skip (t : Nat → Bool) (v : Nat → Rat) (m k : Nat) (h : ¬ (k + 1 = m ∨ v (k + 1) ≠ v k)) : ptsN t v m (k + 1) = ptsN t v m k := by
 show ptsN t v m k ++ _ = _
 rw [if_neg h, List.append_nil]
theorem pts_le (t : Nat → Bool) (v : Nat → Rat) (m : Nat) : ∀ k, (ptsN t v m k).length ≤ k + 1
 | 0 => by simp [ptsN]
 | k + 1 => by
  have := pts_le t v m k
  unfold ptsN
  rw [List.length_append]
  split <;> simp <;> omega
theorem cmpQ_nz {a b : Rat} : (cmpQ a b = 0) ↔ a = b := by
 unfold cmpQ
 by_cases h1 : a < b
 ·simp [h1]; grind
 ·by_cases h2 : b < a
  ·simp [h1, h2]; grind
  ·simp [h1, h2]; grind
theorem row_snoc {W : World} {B : Nat} {v : Value} {a b x y : Nat} {pts : List (Nat × Nat)} (h : W.ownsRow B 88 10 v (pts.length + 1) ((flatP a b pts).flatMap qL ++ (qL (qover (x : Nat) a) ++ qL (qover (y : Nat) b)))) : W.ownsRow B 88 10 v (pts ++ [(x, y)]).length ((flatP a b (pts ++ [(x, y)])).flatMap qL) := by
 rw [flatP_snoc, List.flatMap_append, List.length_append]
 simpa using h
theorem zero_row : qL 0 ++ (qL 0 ++ []) = [.bool false, .int .u64 0, .string ⟨#[]⟩, .int .u64 0, .string ⟨#[]⟩, .bool false, .int .u64 0, .string ⟨#[]⟩, .int .u64 0, .string ⟨#[]⟩] := by kernel_rfl
theorem row_first (u : World) {B a b : Nat} (hB : B ≤ u.heap.size) (t : Nat → Bool) (v : Nat → Rat) (m : Nat) : (u.alloc (.cells #[.bool false, .int .u64 0, .string ⟨#[]⟩, .int .u64 0, .string ⟨#[]⟩, .bool false, .int .u64 0, .string ⟨#[]⟩, .int .u64 0, .string ⟨#[]⟩] 88)).ownsRow B 88 10 (.slice (some ⟨u.heap.size, 0, none⟩) 1 1) (ptsN t v m 0).length ((flatP a b (ptsN t v m 0)).flatMap qL) := by
 have h := World.ownsRow_lit (base := B) (e := 88) (size := 10) u #[.bool false, .int .u64 0, .string ⟨#[]⟩, .int .u64 0, .string ⟨#[]⟩, .bool false, .int .u64 0, .string ⟨#[]⟩, .int .u64 0, .string ⟨#[]⟩] 1 hB (by unfold maxLen; omega) rfl
 have e : (flatP a b (ptsN t v m 0)).flatMap qL = [.bool false, .int .u64 0, .string ⟨#[]⟩, .int .u64 0, .string ⟨#[]⟩, .bool false, .int .u64 0, .string ⟨#[]⟩, .int .u64 0, .string ⟨#[]⟩] := by
  show qL (qover ((0 : Nat) : Int) a) ++ (qL (qover ((0 : Nat) : Int) b) ++ []) = _
  have z : ∀ x : Nat, qover ((0 : Nat) : Int) x = 0 := fun x => by unfold qover; exact Rat.zero_divInt _
  rw [z, z]
  exact zero_row
 rw [e]
 exact h
theorem pts_pos (t : Nat → Bool) (v : Nat → Rat) (m : Nat) : ∀ k, 0 < (ptsN t v m k).length := fun k => List.length_pos_iff.2 (ptsN_ne t v m k)
theorem own_head {u : World} {B n c : Nat} {A : Option Addr} {e : TypeId} {size : Nat} {xs : List Value} (h : u.ownsRow B e size (.slice A n c) n xs) (hn : 0 < n) : ∃ g, A = some ⟨g, 0, none⟩ ∧ g < u.heap.size := by
 obtain ⟨hl, ⟨h1, h2⟩ | ⟨g, cap, cur, h1, hb, hg, hnc, hcm, hcs, ht⟩⟩ := h
 ·cases h1
  omega
 ·cases h1
  exact ⟨g, rfl, heap_lt hg⟩
theorem down_lt {l : List Rat} {m : Nat} {o : List Nat} (h : Down l m o) {i : Nat} (hi : i < m) : at0 o i < m := by
 have hl : o.length = m := by rw [h.1.length_eq, List.length_range]
 have : at0 o i ∈ o := by
  unfold at0
  rw [List.getElem?_eq_getElem (by omega)]
  exact List.getElem_mem _
 exact List.mem_range.1 (h.1.mem_iff.1 this)
set_option maxHeartbeats 8000000 in
set_option maxRecDepth 100000 in
theorem score_Curve_ok (A B : Option Addr) (m c d : Nat) (is : List Bool) (l : List Rat) (hl : is.length = m) (hl' : l.length = m) (hy : 0 < yesN is m) (hn : yesN is m < m) (hm : m ≤ 1048576) (s : Nat) (hs : ∀ x ∈ l, qs x ≤ s) (hB : 2 * s + 1000 ≤ BIG) (w : World) (h1 : Lb w A is) (h2 : Lq w B l) (HT : Tab w) :
  Calls Tryz.prog 46 #[.slice A m c, .slice B m d] w fun e w' => ∃ (o : List Nat) (A' : Option Addr) (c' : Nat), e = .returned (.tuple #[.slice A' (ptsO is l m o).length c', .int .i64 0]) ∧ Down l m o ∧ (∃ g, A' = some ⟨g, 0, none⟩ ∧ g < w'.heap.size ∧ Lq w' (some ⟨g, 0, none⟩) (flatP (m - yesN is m) (yesN is m) (ptsO is l m o))) ∧ Grow w w' := by
 obtain ⟨ba, oa, rfl⟩ := h1.addr (by omega)
 obtain ⟨bb, ob, rfl⟩ := h2.addr (by omega)
 have hsd : ∀ W, Grow w W → Calls Tryz.prog 104 #[.slice (some ⟨ba, oa, none⟩) m c, .slice (some ⟨bb, ob, none⟩) m d] W fun e w' => e = .returned (.tuple #[.int .i64 ((m - yesN is m : Nat) : Int), .int .i64 (yesN is m : Nat), .int .i64 0]) ∧ Grow W w' := fun W hg => by
  have := score_sides_ok (some ⟨ba, oa, none⟩) (some ⟨bb, ob, none⟩) m c d is hl (by omega) (by omega) W (h1.grow hg)
  unfold sidesV at this
  rw [if_neg (by omega)] at this
  exact this
 obtain ⟨yes, hyes⟩ : ∃ y, y = yesN is m := ⟨_, rfl⟩
 obtain ⟨no, hno⟩ : ∃ y, y = m - yes := ⟨_, rfl⟩
 rw [← hyes] at hsd hy hn ⊢
 rw [← hno] at hsd ⊢
 have hmk := make_int m (by omega) (m : Int) rfl
 have hso := fun b3 w0 w hP hG blk cap hb0 hH => slices_SortI b3 bb ob m d l hl' (by omega) s hs (by omega) w0 w hP hG blk cap hb0 (by omega) hH
 have hra := fun (x y : Nat) (hx : x ≤ m) (hy : y ≤ m) (W : World) (hT : Tab W) => score_ratio (x : Int) (y : Int) (by omega) (by omega) (by omega) (by omega) W hT
 have H1 := Lib.hid h1
 have H2 := Lib.hid h2
 have Hsd := Lib.hid hsd
 have Hso := Lib.hid hso
 have Hra := Lib.hid hra
 have Hs := Lib.hid hs
 have hm0 : 0 < m := by omega
 have hno1 : no ≤ m := by omega
 have hye1 : yes ≤ m := by omega
 have Hno := Lib.hid hno
 have Hyes := Lib.hid hyes
 have Hl := Lib.hid hl
 have Hl' := Lib.hid hl'
 clear h1 h2 hsd hso hra hs hy hn hno hyes hl hl'
 go_enter Tryz.func46, Tryz.ntmps46
 refine en1 ?_
 intro u hG b3 hB hF
 refine wp_seq (rsE allocs [0, 0, 1, 0, 0, 0, 0, 0, 0, 0] hB hG fun L hL => ?_)
 refine gs ?_
 refine gmd (C := fun v ⟨hgu, hB, hG, _⟩ => Hsd.out _ hG) ?_
 refine gs ?_
 refine geT hL ?_
 clear hB hG hL L
 rintro u ⟨-, hB, hG, -⟩
 refine wp_seq ?_
 refine wp_seq ?_
 have HP := Lib.hid (show ByL b3 (some ⟨bb, ob, none⟩) m d l u from ⟨hB.head, H2.out.grow hG⟩)
 have HA := Lib.hid (H1.out.grow hG)
 replace HT := HT.grow hG
 clear H1 H2
 refine r0N ?_
 have HG0 := Lib.hid hG
 clear hB hF hG
 obtain ⟨w0, rfl⟩ : ∃ x, x = w := ⟨_, rfl⟩
 obtain ⟨w, hwu⟩ : ∃ x, x = u := ⟨_, rfl⟩
 rw [← hwu] at HG0 HP HA HT
 have hB := Bx.nil u
 have hF := Fr.nil w
 have hG : Grow w u := hwu ▸ Grow.refl u
 clear hwu
 refine wp_cond_false (rfl) ?_
 refine wp_skip ?_
 refine then_norm ?_
 refine r0T ?_
 have hbo := Blk.new u 3 (cellsI (List.replicate m 0))
 have hF3 := Fr.new (tk := []) hF hB hG (Nat.le_refl u.heap.size) (by simp)
 have hB3 := Bx.cons hbo (hB.grow (Grow.alloc u (.cells (cellsI (List.replicate m 0)) 3)))
 have hG3 := hG.trans (Grow.alloc u (.cells (cellsI (List.replicate m 0)) 3))
 simp only [List.cons_append, List.nil_append, List.map_cons, List.map_nil] at hF3
 clear hB hF hG hbo
 generalize World.alloc u _ = v at  hB3 hG3 ⊢
 generalize u.heap.size = b28 at hB3 hF3 ⊢
 have hB := hB3
 have hF := hF3
 have hG := hG3
 clear hB3 hF3 hG3
 obtain ⟨u, rfl⟩ : ∃ x, x = v := ⟨_, rfl⟩
 refine wp_seq ?_
 refine r0T ?_
 refine wp_block ?_
 go_loopw [31] (fun t wr => ∃ i : Nat, i ≤ m ∧ t = .int .i64 i ∧ Bx wr [(b28, 3, cellsI (fillI m i))] ∧ Grow w wr) (fun t _ => m - (intOf t).toNat)
 case atStart => exact ⟨0, Nat.zero_le _, rfl, by rw [fillI_start]; exact hB, hG⟩
 case round =>
  clear hB hG
  obtain ⟨i, hi, rfl, hB, hG⟩ := hrel
  obtain ⟨u, rfl⟩ : ∃ x, x = wr := ⟨_, rfl⟩
  rcases Nat.lt_or_ge i m with hlt | hge
  ·have hdl : decide ((i : Int) < (m : Int)) = true := by simp; omega
   have g3 : (cellsI (fillI m i)).setIfInBounds i (.int .i64 i) = cellsI (fillI m (i + 1)) := by rw [cellsI_set, fillI_set hlt]
   have g1 : (cellsI (fillI m i))[i]? = some (.int .i64 0) := by rw [cellsI_get, fillI_get hlt]; rfl
   have G3 := Lib.hid g3
   clear g3
   refine r0T ?_
   refine wp_seq ?_
   refine wp_cond_true (rfl) ?_
   refine wp_skip ?_
   refine then_norm ?_
   refine wp_seq ?_
   refine wp_block ?_
   refine r0T ?_
   refine r0E ?_
   generalize hu0 : World.setCell u _ _ = u0
   have hBG := hB.over hF hG 0 rfl i [_] hu0
   clear hB hG
   simp only [List.modify_zero_cons, wrAll, G3.out] at hBG
   obtain ⟨hB, hG⟩ := hBG
   obtain ⟨u, rfl⟩ : ∃ x, x = u0 := ⟨_, rfl⟩
   refine blk_norm ?_
   refine then_norm ?_
   refine r0E ?_
   refine then_norm ?_
   go_roundw
   case rel => exact ⟨i + 1, by omega, by go_num, hB, hG⟩
   case measure => simp [intOf]; omega
  ·obtain rfl : m = i := by omega
   have hdl : decide ((m : Int) < (m : Int)) = false := by simp
   refine r0T ?_
   refine wp_seq ?_
   refine wp_cond_false (rfl) ?_
   refine wp_exit ?_
   refine then_exit ?_
   refine then_exit ?_
   refine blk_exit ?_
   refine then_norm ?_
   refine wp_seq ?_
   rw [fillI_end] at hB
   have hsrt := Hso.out b3 w u HP.out hG b28 m (hF.1 b28 (by simp)) hB.head
   refine wp_r0 ?_
   intro K hN
   go_wp2_with (go_at_call 108; refine hsrt.mono ?_; rintro e w2 ⟨rfl, o, hdn, hoc, hob, hg2⟩)
   refine NoK.norm (hN _ _ ?_)
   clear hN K hsrt Hso
   have ho : ∀ W, Grow w2 W → ∀ i, i < m → W.cell? ⟨b28, i, none⟩ = some (.int .i64 (at0 o i : Nat)) := fun W hg i hi => (hg.cell (p := ⟨b28, i, none⟩) hob).trans (hoc i hi)
   have HO := Lib.hid ho
   have HP' := Lib.hid (HP.out.grow hg2)
   have HA' := Lib.hid (HA.out.grow hg2)
   have HT' := HT.grow hg2
   have HG1 := Lib.hid (HG0.out.trans hg2)
   clear HP HA HT HG0 ho hoc hob hg2 hB hF hG
   have HP := HP'
   have HA := HA'
   have HT := HT'
   have Hdn := Lib.hid hdn
   clear HP' HA' HT' hdn
   try clear hmk
   obtain ⟨w1, rfl⟩ : ∃ x, x = w := ⟨_, rfl⟩
   obtain ⟨w, rfl⟩ : ∃ x, x = w2 := ⟨_, rfl⟩
   clear w1
   obtain ⟨u, hu⟩ : ∃ x, x = w := ⟨_, rfl⟩
   have hB := Bx.nil u
   have hG : Grow w u := hu ▸ Grow.refl u
   have hF := Fr.nil w
   rw [← hu]
   clear hu
   obtain ⟨T, hT⟩ : ∃ T, T = fun i => gb is (at0 o i) := ⟨_, rfl⟩
   obtain ⟨V, hV⟩ : ∃ V, V = fun i => gq l (at0 o i) := ⟨_, rfl⟩
   have HTe := Lib.hid hT
   have HVe := Lib.hid hV
   clear hT hV
   refine then_norm ?_
   refine wp_seq ?_
   refine wp_r0 ?_
   intro K hN
   go_wp2_with fail
   have hrow := row_first u (B := w.heap.size) (a := no) (b := yes) hG.sz T V m
   have hG2 := hG.trans (Grow.alloc u (.cells #[.bool false, .int .u64 0, .string ⟨#[]⟩, .int .u64 0, .string ⟨#[]⟩, .bool false, .int .u64 0, .string ⟨#[]⟩, .int .u64 0, .string ⟨#[]⟩] 88))
   generalize World.alloc u _ = v at hrow hG2 ⊢
   clear hG hB
   have Ho := Lib.hid hrow
   have hG := hG2
   have hB := Bx.nil v
   clear hrow hG2
   obtain ⟨u, rfl⟩ : ∃ x, x = v := ⟨_, rfl⟩
   refine NoK.norm (hN _ _ ?_)
   clear hN K
   refine then_norm ?_
   refine r0T ?_
   refine wp_seq ?_
   refine r0T ?_
   refine wp_block ?_
   go_loopw [11, 12, 13, 46] (fun r x y t wr => ∃ k : Nat, k ≤ m ∧ t = .int .i64 k ∧ x = .int .i64 (k - cnt T k : Nat) ∧ y = .int .i64 (cnt T k : Nat) ∧ wr.ownsRow w.heap.size 88 10 r (ptsN T V m k).length ((flatP no yes (ptsN T V m k)).flatMap qL) ∧ Grow w wr) (fun _ _ _ t _ => m - (intOf t).toNat)
   case atStart => exact ⟨0, Nat.zero_le _, rfl, rfl, rfl, Ho.out, hG⟩
   case round =>
    clear hB hG Ho
    obtain ⟨k, hk, rfl, rfl, rfl, ho, hG⟩ := hrel
    obtain ⟨u, rfl⟩ : ∃ x, x = wr := ⟨_, rfl⟩
    have hB := Bx.nil u
    have hpl := pts_le T V m k
    have hcl := cnt_lek T k
    rcases Nat.lt_or_ge k m with hlt | hge
    ·have hdl : decide ((k : Int) < (m : Int)) = true := by simp; omega
     have hr1 : ∀ W, Grow w W → W.cell? ⟨b28, k, none⟩ = some (.int .i64 (at0 o k : Nat)) ∧ W.cell? ⟨ba, oa + at0 o k, none⟩ = some (.bool (T k)) ∧ W.cell? ⟨b3, 0, none⟩ = some (.slice (some ⟨bb, ob, none⟩) m d) ∧ Cq W bb (ob + at0 o k * 5) (V k) := fun W hg => by
      have hj := down_lt Hdn.out hlt
      rw [HTe.out, HVe.out]
      exact ⟨HO.out W hg k hlt, (HA.out.grow hg).read (by rw [Hl.out]; exact hj), (HP.out.grow hg).1.cell 0, (HP.out.grow hg).2.read (by rw [Hl'.out]; exact hj)⟩
     have zk : qs (V k) ≤ s := by
      rw [HVe.out]
      exact Hs.out _ (gq_mem (by rw [Hl'.out]; exact down_lt Hdn.out hlt))
     have hj0 : ((at0 o k : Nat) : Int) < (m : Int) := by have := down_lt Hdn.out hlt; omega
     have hst : k + 1 < m → V (k + 1) ≤ V k := fun h => by rw [HVe.out]; exact Hdn.out.2 k (k + 1) (by omega) h
     have hr2 : k + 1 < m → (∀ W, Grow w W → W.cell? ⟨b28, k + 1, none⟩ = some (.int .i64 (at0 o (k + 1) : Nat)) ∧ Cq W bb (ob + at0 o (k + 1) * 5) (V (k + 1))) ∧ qs (V (k + 1)) ≤ s ∧ ((at0 o (k + 1) : Nat) : Int) < (m : Int) := fun h => by
      have hj := down_lt Hdn.out h
      refine ⟨fun W hg => ?_, ?_, by omega⟩
      ·rw [HVe.out]
       exact ⟨HO.out W hg (k + 1) h, (HP.out.grow hg).2.read (by rw [Hl'.out]; exact hj)⟩
      ·rw [HVe.out]
       exact Hs.out _ (gq_mem (by rw [Hl'.out]; exact hj))
     obtain ⟨j0, hj0e⟩ : ∃ j, j = at0 o k := ⟨_, rfl⟩
     rw [← hj0e] at hj0
     simp only [← hj0e] at hr1
     obtain ⟨X0, hX0⟩ : ∃ x, x = V k := ⟨_, rfl⟩
     rw [← hX0] at zk hst
     simp only [← hX0] at hr1
     obtain ⟨N, hN⟩ : ∃ x, x = k - cnt T k := ⟨_, rfl⟩
     obtain ⟨Y, hY⟩ : ∃ x, x = cnt T k := ⟨_, rfl⟩
     rw [← hN, ← hY]
     obtain ⟨k1, hk1⟩ : ∃ x, x = k + 1 := ⟨_, rfl⟩
     obtain ⟨m1, hm1⟩ : ∃ x, x = m - 1 := ⟨_, rfl⟩
     have fm1 : IntKind.i64.wrap ((m : Int) - 1) = (m1 : Int) := by rw [IntWalk.i64_in _ (by omega)]; omega
     have fk1 : IntKind.i64.wrap ((k : Int) + 1) = (k1 : Int) := by rw [IntWalk.i64_in _ (by omega)]; omega
     have fN1 : IntKind.i64.wrap ((N : Int) + 1) = ((N + 1 : Nat) : Int) := by rw [IntWalk.i64_in _ (by omega)]; omega
     have fY1 : IntKind.i64.wrap ((Y : Int) + 1) = ((Y + 1 : Nat) : Int) := by rw [IntWalk.i64_in _ (by omega)]; omega
     obtain ⟨N1, hN1⟩ : ∃ x, x = N + 1 := ⟨_, rfl⟩
     obtain ⟨Y1, hY1⟩ : ∃ x, x = Y + 1 := ⟨_, rfl⟩
     rw [← hN1] at fN1
     rw [← hY1] at fY1
     have hcnt : cnt T (k + 1) = cnt T k + if T k then 1 else 0 := rfl
     have hps := pts_step T V m k
     have hpk := pts_skip T V m k
     rw [← hk1] at hcnt hps hpk hr2 hst
     have hgoal : ∀ (N' Y' : Nat) (Q' : Prop), True := fun _ _ _ => trivial
     clear hgoal
     obtain ⟨bt, hbt⟩ : ∃ b, b = T k := ⟨_, rfl⟩
     rw [← hbt] at hcnt
     simp only [← hbt] at hr1
     have hNY : ∃ N' Y' : Nat, k1 - cnt T k1 = N' ∧ cnt T k1 = Y' ∧ (bt = true → N' = N ∧ Y' = Y1) ∧ (bt = false → N' = N1 ∧ Y' = Y) := by
      refine ⟨_, _, rfl, rfl, fun h => ?_, fun h => ?_⟩
      ·rw [hcnt, h]; simp; omega
      ·rw [hcnt, h]; simp; omega
     obtain ⟨N', Y', hN', hY', ht', hf'⟩ := hNY
     rw [hN', hY'] at hps
     have hNle : N' ≤ m ∧ Y' ≤ m := by have := cnt_lek T k1; omega
     have HR1 := Lib.hid hr1
     have hrN := fun W hT => Hra.out N' no hNle.1 hno1 W hT
     have hrY := fun W hT => Hra.out Y' yes hNle.2 hye1 W hT
     have HrN := Lib.hid hrN
     have HrY := Lib.hid hrY
     have Ho := Lib.hid ho
     have HN' := Lib.hid hN'
     have HY' := Lib.hid hY'
     have hk1m : k1 ≤ m := by omega
     have hkk : k < k1 := by omega
     clear hr1 hrN hrY ho hN' hY' hNle hcnt hcl hbt
     by_cases hE1 : k1 = m
     ·have hp := Lib.hid (hps (.inl hE1))
      have fe1 : ((k : Int) == (m1 : Int)) = true := by simp; omega
      have fe2 : (k == m1) = true := by simp; omega
      clear hps hpk hr2 hst hE1 hm1 hk1 hN hY hN1 hY1 hX0 hj0e
      rcases bt with _ | _
      ·obtain ⟨rfl, rfl⟩ := hf' rfl
       clear ht' hf'
       refine r0T ?_
       refine wp_seq ?_
       refine wp_cond_true (rfl) ?_
       refine wp_skip ?_
       refine then_norm ?_
       refine wp_seq ?_
       refine wp_block ?_
       refine wp_seq ?_
       obtain ⟨q1, q2, q3, q4⟩ := HR1.out u hG
       refine r0N ?_
       refine wp_seq ?_
       refine wp_seq ?_
       obtain ⟨q1, q2, q3, q4⟩ := HR1.out u hG
       refine r0N ?_
       refine wp_cond_false (rfl) ?_
       refine r0N ?_
       refine wp_seq (rdC allocs [] [(0, 0), (0, 1), (0, 2), (0, 3), (0, 4), (0, 5), (0, 6), (0, 7), (0, 8), (0, 9), (0, 10), (0, 11), (0, 12), (0, 13), (0, 14), (0, 15), (0, 16), (0, 17), (1, 18), (0, 19)] hB hG fun K L hN hL => ?_)
       repeat first | refine gya ?_ | refine gyr ?_ | refine gna ?_ | refine gyb (by (rintro v ⟨hgu, hB, hG, -⟩ N hN; have r := hB.r; simp only [BxR] at r; obtain ⟨q1, q2, q3, q4⟩ := HR1.out v hG; go_simp; exact hN)) ?_
       first | refine gmw (C := fun v => Hcm.out _) ?_ | refine gmna ?_
       refine gs ?_
       refine geC hL ?_
       clear hB hG hL L
       rintro u ⟨hgu, hB, hG, -⟩
       have Ho2 := Lib.hid (own_grow' Ho.out hgu)
       clear Ho
       have Ho := Ho2
       clear Ho2
       clear hgu
       refine gtT ?_
       clear hN K
       refine wp_cond_true (rfl) ?_
       refine wp_rs (w := w) allocs 8 [0, 0, 0, 1, 0, 0, 1, 0] (by kernel_rfl) (by simp only [List.drop_succ_cons, List.drop_zero]; exact rfl) (fun _ => True) noG hB hG trivial ?_
       intro K L hN hL
       simp only [List.zip_cons_cons, List.zip_nil_left]
       refine gs ?_
       refine gmd (C := fun v ⟨hgu, hB, hG, _⟩ => HrN.out _ (HT.grow hG)) ?_
       refine gs ?_
       refine gmd (C := fun v ⟨hgu, hB, hG, _⟩ => HrY.out _ (HT.grow hG)) ?_
       refine gs ?_
       refine gend ?_
       rintro v ⟨hgu, hB1, hG1, -⟩
       have ROWn := Lib.hid (own_grow' Ho.out hgu)
       clear Ho
       have Ho := ROWn
       clear ROWn
       clear hB hG
       have hB := hB1
       have hG := hG1
       clear hB1 hG1
       refine hL _ _ ?_
       clear hL L hgu
       obtain ⟨u, rfl⟩ : ∃ x, x = v := ⟨_, rfl⟩
       refine app_tailG ei_Point w.heap.size _ _ _ _ (qL (qover (N' : Nat) no) ++ qL (qover (Y' : Nat) yes)) rfl rfl (bs_Point _ _ u) rfl (fun _ => rfl) (fun _ => rfl) (fun _ _ => rfl) Ho.out (by omega) (by omega) hG.sz fun p v' w' g1 g2 g3 => ?_
       have hBn := Bx.nil w'
       have hGn := own_growth Ho.out hG g2
       clear Ho hB hG
       have Ho := Lib.hid g1
       have hB := hBn
       have hG := hGn
       clear g1 g2 g3 hBn hGn
       obtain ⟨u, rfl⟩ : ∃ x, x = w' := ⟨_, rfl⟩
       simp only [Act.put, List.setIfInBounds_toArray, List.set_cons_succ, List.set_cons_zero]
       refine NoK.norm (hN _ _ ?_)
       clear hN K
       refine blk_norm ?_
       refine then_norm ?_
       refine r0E ?_
       refine then_norm ?_
       go_roundw
       case rel => exact ⟨k1, hk1m, by go_num, by rw [HN'.out], by rw [HY'.out], by rw [hp.out]; exact row_snoc Ho.out, hG⟩
       case measure => simp [intOf]; omega
      ·obtain ⟨rfl, rfl⟩ := ht' rfl
       clear ht' hf'
       refine r0T ?_
       refine wp_seq ?_
       refine wp_cond_true (rfl) ?_
       refine wp_skip ?_
       refine then_norm ?_
       refine wp_seq ?_
       refine wp_block ?_
       refine wp_seq ?_
       obtain ⟨q1, q2, q3, q4⟩ := HR1.out u hG
       refine r0N ?_
       refine wp_seq ?_
       refine wp_seq ?_
       obtain ⟨q1, q2, q3, q4⟩ := HR1.out u hG
       refine r0N ?_
       refine wp_cond_true (rfl) ?_
       refine r0N ?_
       refine wp_seq (rdC allocs [] [(0, 0), (0, 1), (0, 2), (0, 3), (0, 4), (0, 5), (0, 6), (0, 7), (0, 8), (0, 9), (0, 10), (0, 11), (0, 12), (0, 13), (0, 14), (0, 15), (0, 16), (0, 17), (1, 18), (0, 19)] hB hG fun K L hN hL => ?_)
       repeat first | refine gya ?_ | refine gyr ?_ | refine gna ?_ | refine gyb (by (rintro v ⟨hgu, hB, hG, -⟩ N hN; have r := hB.r; simp only [BxR] at r; obtain ⟨q1, q2, q3, q4⟩ := HR1.out v hG; go_simp; exact hN)) ?_
       first | refine gmw (C := fun v => Hcm.out _) ?_ | refine gmna ?_
       refine gs ?_
       refine geC hL ?_
       clear hB hG hL L
       rintro u ⟨hgu, hB, hG, -⟩
       have Ho2 := Lib.hid (own_grow' Ho.out hgu)
       clear Ho
       have Ho := Ho2
       clear Ho2
       clear hgu
       refine gtT ?_
       clear hN K
       refine wp_cond_true (rfl) ?_
       refine wp_rs (w := w) allocs 8 [0, 0, 0, 1, 0, 0, 1, 0] (by kernel_rfl) (by simp only [List.drop_succ_cons, List.drop_zero]; exact rfl) (fun _ => True) noG hB hG trivial ?_
       intro K L hN hL
       simp only [List.zip_cons_cons, List.zip_nil_left]
       refine gs ?_
       refine gmd (C := fun v ⟨hgu, hB, hG, _⟩ => HrN.out _ (HT.grow hG)) ?_
       refine gs ?_
       refine gmd (C := fun v ⟨hgu, hB, hG, _⟩ => HrY.out _ (HT.grow hG)) ?_
       refine gs ?_
       refine gend ?_
       rintro v ⟨hgu, hB1, hG1, -⟩
       have ROWn := Lib.hid (own_grow' Ho.out hgu)
       clear Ho
       have Ho := ROWn
       clear ROWn
       clear hB hG
       have hB := hB1
       have hG := hG1
       clear hB1 hG1
       refine hL _ _ ?_
       clear hL L hgu
       obtain ⟨u, rfl⟩ : ∃ x, x = v := ⟨_, rfl⟩
       refine app_tailG ei_Point w.heap.size _ _ _ _ (qL (qover (N' : Nat) no) ++ qL (qover (Y' : Nat) yes)) rfl rfl (bs_Point _ _ u) rfl (fun _ => rfl) (fun _ => rfl) (fun _ _ => rfl) Ho.out (by omega) (by omega) hG.sz fun p v' w' g1 g2 g3 => ?_
       have hBn := Bx.nil w'
       have hGn := own_growth Ho.out hG g2
       clear Ho hB hG
       have Ho := Lib.hid g1
       have hB := hBn
       have hG := hGn
       clear g1 g2 g3 hBn hGn
       obtain ⟨u, rfl⟩ : ∃ x, x = w' := ⟨_, rfl⟩
       simp only [Act.put, List.setIfInBounds_toArray, List.set_cons_succ, List.set_cons_zero]
       refine NoK.norm (hN _ _ ?_)
       clear hN K
       refine blk_norm ?_
       refine then_norm ?_
       refine r0E ?_
       refine then_norm ?_
       go_roundw
       case rel => exact ⟨k1, hk1m, by go_num, by rw [HN'.out], by rw [HY'.out], by rw [hp.out]; exact row_snoc Ho.out, hG⟩
       case measure => simp [intOf]; omega
     ·have hk1l : k1 < m := by omega
      have hr3 := hr2 hk1l
      have hst3 := hst hk1l
      clear hr2 hst
      obtain ⟨hr2, z1, hj1⟩ := hr3
      have hst := hst3
      clear hst3
      obtain ⟨j1, hj1e⟩ : ∃ j, j = at0 o k1 := ⟨_, rfl⟩
      obtain ⟨X1, hX1⟩ : ∃ x, x = V k1 := ⟨_, rfl⟩
      rw [← hj1e] at hj1
      rw [← hX1] at z1 hst hps hpk
      simp only [← hj1e, ← hX1] at hr2
      rw [← hX0] at hps hpk
      have hj1n : (k1 : Int) < (m : Int) := by omega
      have HR2 := Lib.hid hr2
      have fe1 : ((k : Int) == (m1 : Int)) = false := by simp; omega
      have fe2 : (k == m1) = false := by simp; omega
      clear hr2
      by_cases hE2 : X1 ≠ X0
      ·have hp := Lib.hid (hps (.inr hE2))
       have hcm : ∀ W, Calls Tryz.prog 25 #[qV X1, qV X0] W fun e w' => e = .returned (.int .i64 (-1)) ∧ Grow W w' := fun W => by
        have := frac_Cmp X1 X0 W (by omega)
        rw [cmpQ_below (by grind)] at this
        exact this
       have Hcm := Lib.hid hcm
       clear hps hpk hst hE1 hE2 hm1 hk1 hN hY hN1 hY1 hcm hX0 hX1 hj0e hj1e
       rcases bt with _ | _
       ·obtain ⟨rfl, rfl⟩ := hf' rfl
        clear ht' hf'
        refine r0T ?_
        refine wp_seq ?_
        refine wp_cond_true (rfl) ?_
        refine wp_skip ?_
        refine then_norm ?_
        refine wp_seq ?_
        refine wp_block ?_
        refine wp_seq ?_
        obtain ⟨q1, q2, q3, q4⟩ := HR1.out u hG
        refine r0N ?_
        refine wp_seq ?_
        refine wp_seq ?_
        obtain ⟨q1, q2, q3, q4⟩ := HR1.out u hG
        refine r0N ?_
        refine wp_cond_false (rfl) ?_
        refine r0N ?_
        refine wp_seq (rdC allocs [] [(0, 0), (0, 1), (0, 2), (0, 3), (0, 4), (0, 5), (0, 6), (0, 7), (0, 8), (0, 9), (0, 10), (0, 11), (0, 12), (0, 13), (0, 14), (0, 15), (0, 16), (0, 17), (1, 18), (0, 19)] hB hG fun K L hN hL => ?_)
        repeat first | refine gya ?_ | refine gyr ?_ | refine gna ?_ | refine gyb (by (rintro v ⟨hgu, hB, hG, -⟩ N hN; have r := hB.r; simp only [BxR] at r; obtain ⟨q1, q2, q3, ⟨y1, y2, y3, y4, y5⟩⟩ := HR1.out v hG; obtain ⟨r1, ⟨r2, r3, r4, r5, r6⟩⟩ := HR2.out v hG; go_simp; exact hN)) ?_
        first | refine gmw (C := fun v => Hcm.out _) ?_ | refine gmna ?_
        refine gs ?_
        refine geC hL ?_
        clear hB hG hL L
        rintro u ⟨hgu, hB, hG, -⟩
        have Ho2 := Lib.hid (own_grow' Ho.out hgu)
        clear Ho
        have Ho := Ho2
        clear Ho2
        clear hgu
        refine gtT ?_
        clear hN K
        refine wp_cond_true (rfl) ?_
        refine wp_rs (w := w) allocs 8 [0, 0, 0, 1, 0, 0, 1, 0] (by kernel_rfl) (by simp only [List.drop_succ_cons, List.drop_zero]; exact rfl) (fun _ => True) noG hB hG trivial ?_
        intro K L hN hL
        simp only [List.zip_cons_cons, List.zip_nil_left]
        refine gs ?_
        refine gmd (C := fun v ⟨hgu, hB, hG, _⟩ => HrN.out _ (HT.grow hG)) ?_
        refine gs ?_
        refine gmd (C := fun v ⟨hgu, hB, hG, _⟩ => HrY.out _ (HT.grow hG)) ?_
        refine gs ?_
        refine gend ?_
        rintro v ⟨hgu, hB1, hG1, -⟩
        have ROWn := Lib.hid (own_grow' Ho.out hgu)
        clear Ho
        have Ho := ROWn
        clear ROWn
        clear hB hG
        have hB := hB1
        have hG := hG1
        clear hB1 hG1
        refine hL _ _ ?_
        clear hL L hgu
        obtain ⟨u, rfl⟩ : ∃ x, x = v := ⟨_, rfl⟩
        refine app_tailG ei_Point w.heap.size _ _ _ _ (qL (qover (N' : Nat) no) ++ qL (qover (Y' : Nat) yes)) rfl rfl (bs_Point _ _ u) rfl (fun _ => rfl) (fun _ => rfl) (fun _ _ => rfl) Ho.out (by omega) (by omega) hG.sz fun p v' w' g1 g2 g3 => ?_
        have hBn := Bx.nil w'
        have hGn := own_growth Ho.out hG g2
        clear Ho hB hG
        have Ho := Lib.hid g1
        have hB := hBn
        have hG := hGn
        clear g1 g2 g3 hBn hGn
        obtain ⟨u, rfl⟩ : ∃ x, x = w' := ⟨_, rfl⟩
        simp only [Act.put, List.setIfInBounds_toArray, List.set_cons_succ, List.set_cons_zero]
        refine NoK.norm (hN _ _ ?_)
        clear hN K
        refine blk_norm ?_
        refine then_norm ?_
        refine r0E ?_
        refine then_norm ?_
        go_roundw
        case rel => exact ⟨k1, hk1m, by go_num, by rw [HN'.out], by rw [HY'.out], by rw [hp.out]; exact row_snoc Ho.out, hG⟩
        case measure => simp [intOf]; omega
       ·obtain ⟨rfl, rfl⟩ := ht' rfl
        clear ht' hf'
        refine r0T ?_
        refine wp_seq ?_
        refine wp_cond_true (rfl) ?_
        refine wp_skip ?_
        refine then_norm ?_
        refine wp_seq ?_
        refine wp_block ?_
        refine wp_seq ?_
        obtain ⟨q1, q2, q3, q4⟩ := HR1.out u hG
        refine r0N ?_
        refine wp_seq ?_
        refine wp_seq ?_
        obtain ⟨q1, q2, q3, q4⟩ := HR1.out u hG
        refine r0N ?_
        refine wp_cond_true (rfl) ?_
        refine r0N ?_
        refine wp_seq (rdC allocs [] [(0, 0), (0, 1), (0, 2), (0, 3), (0, 4), (0, 5), (0, 6), (0, 7), (0, 8), (0, 9), (0, 10), (0, 11), (0, 12), (0, 13), (0, 14), (0, 15), (0, 16), (0, 17), (1, 18), (0, 19)] hB hG fun K L hN hL => ?_)
        repeat first | refine gya ?_ | refine gyr ?_ | refine gna ?_ | refine gyb (by (rintro v ⟨hgu, hB, hG, -⟩ N hN; have r := hB.r; simp only [BxR] at r; obtain ⟨q1, q2, q3, ⟨y1, y2, y3, y4, y5⟩⟩ := HR1.out v hG; obtain ⟨r1, ⟨r2, r3, r4, r5, r6⟩⟩ := HR2.out v hG; go_simp; exact hN)) ?_
        first | refine gmw (C := fun v => Hcm.out _) ?_ | refine gmna ?_
        refine gs ?_
        refine geC hL ?_
        clear hB hG hL L
        rintro u ⟨hgu, hB, hG, -⟩
        have Ho2 := Lib.hid (own_grow' Ho.out hgu)
        clear Ho
        have Ho := Ho2
        clear Ho2
        clear hgu
        refine gtT ?_
        clear hN K
        refine wp_cond_true (rfl) ?_
        refine wp_rs (w := w) allocs 8 [0, 0, 0, 1, 0, 0, 1, 0] (by kernel_rfl) (by simp only [List.drop_succ_cons, List.drop_zero]; exact rfl) (fun _ => True) noG hB hG trivial ?_
        intro K L hN hL
        simp only [List.zip_cons_cons, List.zip_nil_left]
        refine gs ?_
        refine gmd (C := fun v ⟨hgu, hB, hG, _⟩ => HrN.out _ (HT.grow hG)) ?_
        refine gs ?_
        refine gmd (C := fun v ⟨hgu, hB, hG, _⟩ => HrY.out _ (HT.grow hG)) ?_
        refine gs ?_
        refine gend ?_
        rintro v ⟨hgu, hB1, hG1, -⟩
        have ROWn := Lib.hid (own_grow' Ho.out hgu)
        clear Ho
        have Ho := ROWn
        clear ROWn
        clear hB hG
        have hB := hB1
        have hG := hG1
        clear hB1 hG1
        refine hL _ _ ?_
        clear hL L hgu
        obtain ⟨u, rfl⟩ : ∃ x, x = v := ⟨_, rfl⟩
        refine app_tailG ei_Point w.heap.size _ _ _ _ (qL (qover (N' : Nat) no) ++ qL (qover (Y' : Nat) yes)) rfl rfl (bs_Point _ _ u) rfl (fun _ => rfl) (fun _ => rfl) (fun _ _ => rfl) Ho.out (by omega) (by omega) hG.sz fun p v' w' g1 g2 g3 => ?_
        have hBn := Bx.nil w'
        have hGn := own_growth Ho.out hG g2
        clear Ho hB hG
        have Ho := Lib.hid g1
        have hB := hBn
        have hG := hGn
        clear g1 g2 g3 hBn hGn
        obtain ⟨u, rfl⟩ : ∃ x, x = w' := ⟨_, rfl⟩
        simp only [Act.put, List.setIfInBounds_toArray, List.set_cons_succ, List.set_cons_zero]
        refine NoK.norm (hN _ _ ?_)
        clear hN K
        refine blk_norm ?_
        refine then_norm ?_
        refine r0E ?_
        refine then_norm ?_
        go_roundw
        case rel => exact ⟨k1, hk1m, by go_num, by rw [HN'.out], by rw [HY'.out], by rw [hp.out]; exact row_snoc Ho.out, hG⟩
        case measure => simp [intOf]; omega
      ·have hp := Lib.hid (hpk (fun h => h.elim hE1 hE2))
       have hcm : ∀ W, Calls Tryz.prog 25 #[qV X1, qV X0] W fun e w' => e = .returned (.int .i64 0) ∧ Grow W w' := fun W => by
        have := frac_Cmp X1 X0 W (by omega)
        rw [show X1 = X0 from Decidable.byContradiction hE2] at this ⊢
        rw [cmpQ_self] at this
        exact this
       have Hcm := Lib.hid hcm
       clear hps hpk hst hE1 hE2 hm1 hk1 hN hY hN1 hY1 hcm hX0 hX1 hj0e hj1e
       rcases bt with _ | _
       ·obtain ⟨rfl, rfl⟩ := hf' rfl
        clear ht' hf'
        refine r0T ?_
        refine wp_seq ?_
        refine wp_cond_true (rfl) ?_
        refine wp_skip ?_
        refine then_norm ?_
        refine wp_seq ?_
        refine wp_block ?_
        refine wp_seq ?_
        obtain ⟨q1, q2, q3, q4⟩ := HR1.out u hG
        refine r0N ?_
        refine wp_seq ?_
        refine wp_seq ?_
        obtain ⟨q1, q2, q3, q4⟩ := HR1.out u hG
        refine r0N ?_
        refine wp_cond_false (rfl) ?_
        refine r0N ?_
        refine wp_seq (rdC allocs [] [(0, 0), (0, 1), (0, 2), (0, 3), (0, 4), (0, 5), (0, 6), (0, 7), (0, 8), (0, 9), (0, 10), (0, 11), (0, 12), (0, 13), (0, 14), (0, 15), (0, 16), (0, 17), (1, 18), (0, 19)] hB hG fun K L hN hL => ?_)
        repeat first | refine gya ?_ | refine gyr ?_ | refine gna ?_ | refine gyb (by (rintro v ⟨hgu, hB, hG, -⟩ N hN; have r := hB.r; simp only [BxR] at r; obtain ⟨q1, q2, q3, ⟨y1, y2, y3, y4, y5⟩⟩ := HR1.out v hG; obtain ⟨r1, ⟨r2, r3, r4, r5, r6⟩⟩ := HR2.out v hG; go_simp; exact hN)) ?_
        first | refine gmw (C := fun v => Hcm.out _) ?_ | refine gmna ?_
        refine gs ?_
        refine geC hL ?_
        clear hB hG hL L
        rintro u ⟨hgu, hB, hG, -⟩
        have Ho2 := Lib.hid (own_grow' Ho.out hgu)
        clear Ho
        have Ho := Ho2
        clear Ho2
        clear hgu
        refine gtT ?_
        clear hN K
        refine wp_cond_false (rfl) ?_
        refine wp_skip ?_
        refine blk_norm ?_
        refine then_norm ?_
        refine r0E ?_
        refine then_norm ?_
        go_roundw
        case rel => exact ⟨k1, hk1m, by go_num, by rw [HN'.out], by rw [HY'.out], by rw [hp.out]; exact Ho.out, hG⟩
        case measure => simp [intOf]; omega
       ·obtain ⟨rfl, rfl⟩ := ht' rfl
        clear ht' hf'
        refine r0T ?_
        refine wp_seq ?_
        refine wp_cond_true (rfl) ?_
        refine wp_skip ?_
        refine then_norm ?_
        refine wp_seq ?_
        refine wp_block ?_
        refine wp_seq ?_
        obtain ⟨q1, q2, q3, q4⟩ := HR1.out u hG
        refine r0N ?_
        refine wp_seq ?_
        refine wp_seq ?_
        obtain ⟨q1, q2, q3, q4⟩ := HR1.out u hG
        refine r0N ?_
        refine wp_cond_true (rfl) ?_
        refine r0N ?_
        refine wp_seq (rdC allocs [] [(0, 0), (0, 1), (0, 2), (0, 3), (0, 4), (0, 5), (0, 6), (0, 7), (0, 8), (0, 9), (0, 10), (0, 11), (0, 12), (0, 13), (0, 14), (0, 15), (0, 16), (0, 17), (1, 18), (0, 19)] hB hG fun K L hN hL => ?_)
        repeat first | refine gya ?_ | refine gyr ?_ | refine gna ?_ | refine gyb (by (rintro v ⟨hgu, hB, hG, -⟩ N hN; have r := hB.r; simp only [BxR] at r; obtain ⟨q1, q2, q3, ⟨y1, y2, y3, y4, y5⟩⟩ := HR1.out v hG; obtain ⟨r1, ⟨r2, r3, r4, r5, r6⟩⟩ := HR2.out v hG; go_simp; exact hN)) ?_
        first | refine gmw (C := fun v => Hcm.out _) ?_ | refine gmna ?_
        refine gs ?_
        refine geC hL ?_
        clear hB hG hL L
        rintro u ⟨hgu, hB, hG, -⟩
        have Ho2 := Lib.hid (own_grow' Ho.out hgu)
        clear Ho
        have Ho := Ho2
        clear Ho2
        clear hgu
        refine gtT ?_
        clear hN K
        refine wp_cond_false (rfl) ?_
        refine wp_skip ?_
        refine blk_norm ?_
        refine then_norm ?_
        refine r0E ?_
        refine then_norm ?_
        go_roundw
        case rel => exact ⟨k1, hk1m, by go_num, by rw [HN'.out], by rw [HY'.out], by rw [hp.out]; exact Ho.out, hG⟩
        case measure => simp [intOf]; omega
    ·obtain rfl : m = k := by omega
     have hdl : decide ((m : Int) < (m : Int)) = false := by simp
     obtain ⟨A', c', rfl, hc1, hc2, hL, hn2⟩ := own_lqP ho
     have hps := pts_pos T V m m
     obtain ⟨g, hg', hgs⟩ : ∃ g, A' = some ⟨g, 0, none⟩ ∧ g < u.heap.size := own_head ho hps
     subst hg'
     have HL := Lib.hid (And.intro hgs hL)
     clear hL ho hc1 hc2 hn2 hpl hcl hps hgs
     refine r0T ?_
     refine wp_seq ?_
     refine wp_cond_false (rfl) ?_
     refine wp_exit ?_
     refine then_exit ?_
     refine then_exit ?_
     refine blk_exit ?_
     refine then_norm ?_
     refine r0T ?_
     refine rt Tryz.results46 ?_
     exact ⟨o, some ⟨g, 0, none⟩, c', by rw [ptsO, ← HTe.out, ← HVe.out], Hdn.out, ⟨g, rfl, HL.out.1, by rw [ptsO, ← HTe.out, ← HVe.out]; exact HL.out.2⟩, HG1.out.trans hG⟩
end Go.Proofs.YtimjnkfcnpfoeaaGreatDoor
