/-
  Contracts and laws: CurveX AreaP Fast Apart AreaA.
-/
import Derived.Test.YtimjnkfcnpfoeaaGreatDoorA47
set_option linter.unusedSimpArgs false
set_option linter.unusedVariables false
namespace Go.Proofs.YtimjnkfcnpfoeaaGreatDoor
open Go Go.RowKit
theorem down_exists (l : List Rat) (n : Nat) : ∃ o, Down l n o := by
 refine ⟨(List.range n).mergeSort fun i j => decide (gq l j ≤ gq l i), List.mergeSort_perm _ _, fun i j hij hj => ?_⟩
 have h := List.pairwise_mergeSort (le := fun i j : Nat => decide (gq l j ≤ gq l i)) (fun a b c h1 h2 => decide_eq_true (Rat.le_trans (of_decide_eq_true h2) (of_decide_eq_true h1))) (fun a b => by
  by_cases h : gq l b ≤ gq l a
  ·simp [h]
  ·simp [Rat.le_of_lt (Rat.not_le.1 h)]) (List.range n)
 generalize he : (List.range n).mergeSort (fun i j => decide (gq l j ≤ gq l i)) = o at h
 have hl : o.length = n := by rw [← he, List.length_mergeSort, List.length_range]
 have := List.pairwise_iff_getElem.1 h i j (by omega) (by omega) hij
 have ei : at0 o i = o[i]'(by omega) := by unfold at0; rw [List.getElem?_eq_getElem (by omega)]; rfl
 have ej : at0 o j = o[j]'(by omega) := by unfold at0; rw [List.getElem?_eq_getElem (by omega)]; rfl
 rw [ei, ej]
 exact of_decide_eq_true this
theorem pts_ref {is : List Bool} {l : List Rat} {n : Nat} {o : List Nat} (hl : l.length = n) (h : Down l n o) : ptsO is l n o = refPts is l n n := (refPts_eq hl h n (Nat.le_refl n)).symm
theorem refPts_pos (is : List Bool) (l : List Rat) (n : Nat) : ∀ j, 0 < (refPts is l n j).length
 | 0 => by simp [refPts]
 | j + 1 => by
  have := refPts_pos is l n j
  unfold refPts
  rw [List.length_append]
  omega
/-- the points lie at a row's head -/
def Ptl (W : World) (g : Nat) (a b : Nat) (pts : List (Nat × Nat)) : Prop := g < W.heap.size ∧ ∀ i, i < pts.length → Cq W g (i * 10) (qover ((gp pts i).1 : Nat) a) ∧ Cq W g (i * 10 + 5) (qover ((gp pts i).2 : Nat) b)
theorem cq_grow {u u' : World} {b o : Nat} {q : Rat} (h : Cq u b o q) (hb : b < u.heap.size) (hg : Grow u u') : Cq u' b o q :=
 ⟨(hg.cell (p := ⟨b, o, none⟩) hb).trans h.1, (hg.cell (p := ⟨b, o + 1, none⟩) hb).trans h.2.1, (hg.cell (p := ⟨b, o + 2, none⟩) hb).trans h.2.2.1, (hg.cell (p := ⟨b, o + 3, none⟩) hb).trans h.2.2.2.1, (hg.cell (p := ⟨b, o + 4, none⟩) hb).trans h.2.2.2.2⟩
theorem Ptl.grow {u u' : World} {g a b : Nat} {pts : List (Nat × Nat)} (hg : Grow u u') (h : Ptl u g a b pts) : Ptl u' g a b pts := ⟨Nat.lt_of_lt_of_le h.1 hg.size, fun i hi => ⟨cq_grow (h.2 i hi).1 h.1 hg, cq_grow (h.2 i hi).2 h.1 hg⟩⟩
theorem flatP_get (a b : Nat) : ∀ (pts : List (Nat × Nat)) (i : Nat), i < pts.length → gq (flatP a b pts) (i * 2) = qover ((gp pts i).1 : Nat) a ∧ gq (flatP a b pts) (i * 2 + 1) = qover ((gp pts i).2 : Nat) b
 | p :: l, 0, _ => ⟨rfl, rfl⟩
 | p :: l, i + 1, h => by
  have ih := flatP_get a b l i (by simpa using h)
  have e : ∀ j, gq (flatP a b (p :: l)) (j + 2) = gq (flatP a b l) j := fun j => by
   unfold gq flatP
   rw [List.flatMap_cons, List.getElem?_append_right (by simp)]
   simp
  rw [show (i + 1) * 2 = i * 2 + 2 by omega, e, show i * 2 + 2 + 1 = i * 2 + 1 + 2 by omega, e]
  exact ih
theorem ptl_of {W : World} {g a b : Nat} {pts : List (Nat × Nat)} (hg : g < W.heap.size) (h : Lq W (some ⟨g, 0, none⟩) (flatP a b pts)) : Ptl W g a b pts := ⟨hg, fun i hi => by
 obtain ⟨e1, e2⟩ := flatP_get a b pts i hi
 have hl := flatP_len a b pts
 have h1 := h.read (i := i * 2) (by omega)
 have h2 := h.read (i := i * 2 + 1) (by omega)
 rw [e1, Nat.zero_add, show i * 2 * 5 = i * 10 by omega] at h1
 rw [e2, Nat.zero_add, show (i * 2 + 1) * 5 = i * 10 + 5 by omega] at h2
 exact ⟨h1, h2⟩⟩
theorem score_Curve_X (A B : Option Addr) (m c d : Nat) (is : List Bool) (l : List Rat) (hl : is.length = m) (hl' : l.length = m) (hy : 0 < yesN is m) (hn : yesN is m < m) (hm : m ≤ 1048576) (s : Nat) (hs : ∀ x ∈ l, qs x ≤ s) (hB : 2 * s + 1000 ≤ BIG) (w : World) (h1 : Lb w A is) (h2 : Lq w B l) (HT : Tab w) :
  Calls Tryz.prog 46 #[.slice A m c, .slice B m d] w (RetY (fun x : Nat × Nat => .tuple #[.slice (some ⟨x.1, 0, none⟩) (refPts is l m m).length x.2, .int .i64 0]) (fun x W => Ptl W x.1 (m - yesN is m) (yesN is m) (refPts is l m m)) w) :=
 (score_Curve_ok A B m c d is l hl hl' hy hn hm s hs hB w h1 h2 HT).mono fun e w' ⟨o, A', c', he, hd, hL, hg⟩ => by
  obtain ⟨g, rfl, hb⟩ := hL
  rw [pts_ref hl' hd] at he hb
  exact ⟨(g, c'), he, ptl_of hb.1 hb.2, hg⟩
theorem score_Curve_err (A B : Option Addr) (m n c d : Nat) (k : Int) (hk : (k != 0) = true) (w : World) (h : ∀ W, Grow w W → Calls Tryz.prog 104 #[.slice A m c, .slice B n d] W fun e w' => e = .returned (.tuple #[.int .i64 0, .int .i64 0, .int .i64 k]) ∧ Grow W w') :
  Calls Tryz.prog 46 #[.slice A m c, .slice B n d] w fun e w' => e = .returned (.tuple #[.slice none 0 0, .int .i64 k]) ∧ Grow w w' := by
 have H := Lib.hid h
 clear h
 go_enter Tryz.func46, Tryz.ntmps46
 refine en1 ?_
 intro u hG b3 hB hF
 refine wp_seq (rsE allocs [0, 0, 1, 0, 0, 0, 0, 0, 0, 0] hB hG fun L hL => ?_)
 refine gs ?_
 refine gmd (C := fun v ⟨hgu, hB, hG, _⟩ => H.out _ hG) ?_
 refine gs ?_
 refine geT hL ?_
 clear hB hG hL L
 rintro u ⟨-, hB, hG, -⟩
 refine wp_seq ?_
 refine r0T ?_
 refine wp_cond_true (rfl) ?_
 refine r0T ?_
 refine rt Tryz.results46 ?_
 exact ⟨rfl, hG⟩
end Go.Proofs.YtimjnkfcnpfoeaaGreatDoor
namespace Go.Proofs.YtimjnkfcnpfoeaaGreatDoor
open Go Go.RowKit
theorem sides_err (is : List Bool) (m : Nat) (hl : is.length = m) (hm : m ≤ 20) (h : ¬ (0 < yesN is m ∧ yesN is m < m)) : ∃ k : Int, (k != 0) = true ∧ (k = 5 ∨ k = 7) ∧ ∀ (A B : Option Addr) (c d : Nat) (W : World), Lb W A is → Calls Tryz.prog 104 #[.slice A m c, .slice B m d] W fun e w' => e = .returned (.tuple #[.int .i64 0, .int .i64 0, .int .i64 k]) ∧ Grow W w' := by
 rcases Nat.eq_zero_or_pos m with h0 | h0
 ·exact ⟨5, rfl, .inl rfl, fun A B c d W _ => score_sides_no A B m m c d (by rw [h0]; rfl) W⟩
 ·refine ⟨7, rfl, .inr rfl, fun A B c d W hW => ?_⟩
  have := score_sides_ok A B m c d is hl h0 (by omega) W hW
  unfold sidesV at this
  rw [if_pos (by have := yesN_le is m; omega)] at this
  exact this
theorem qs_qadd (a b : Rat) : qs (qadd a b) ≤ qs a + qs b + 1 := qs_add a b
theorem qs_qsub (a b : Rat) : qs (qsub a b) ≤ qs a + qs b + 1 := qs_sub a b
theorem qs_qmul (a b : Rat) : qs (qmul a b) ≤ qs a + qs b := qs_mul a b
theorem qs_qdiv (a b : Rat) : qs (qdiv a b) ≤ qs a + qs b := qs_div a b
theorem areaQ_sz (is : List Bool) (l : List Rat) (m : Nat) (hm : m ≤ 1048576) : qs (areaQ is l m) ≤ 300 := by
 have h := halves_range is l m m (Nat.le_refl _) hm
 have hy := yesN_le is m
 have z1 : qs (qint (halves is l m)) ≤ 64 := qint_i64 (by unfold halves; omega) (by unfold halves; omega)
 have z2 := qint_sz (m - yesN is m) (by omega)
 have z3 := qint_sz (yesN is m) (by omega)
 have z4 := qs_qmul (qint ((m - yesN is m : Nat) : Int)) (qint (yesN is m : Nat))
 have z5 := qs_qadd (qmul (qint ((m - yesN is m : Nat) : Int)) (qint (yesN is m : Nat))) (qmul (qint ((m - yesN is m : Nat) : Int)) (qint (yesN is m : Nat)))
 unfold areaQ
 refine Nat.le_trans (qs_qdiv _ _) ?_
 omega
theorem gq_map {l : List Rat} (f : Rat → Rat) {i : Nat} (h : i < l.length) : gq (l.map f) i = f (gq l i) := by
 unfold gq
 rw [List.getElem?_map, List.getElem?_eq_getElem h]
 rfl
theorem gp_last {pts : List (Nat × Nat)} (h : 0 < pts.length) : gp pts (pts.length - 1) = lastP pts := by
 unfold gp lastP
 rw [List.getLast?_eq_getElem?]
theorem gp_mem {pts : List (Nat × Nat)} {i : Nat} (h : i < pts.length) : gp pts i ∈ pts := by
 unfold gp
 rw [List.getElem?_eq_getElem h]
 exact List.getElem_mem _
theorem qover_self {n : Nat} (h : 0 < n) : qover (n : Nat) (n : Nat) = qint 1 := by
 rw [qover_mul h]
 exact Rat.mul_inv_cancel _ (qint_nn h)
theorem qover_le {n x y : Nat} (h : 0 < n) (hxy : x ≤ y) : qover (x : Nat) (n : Nat) ≤ qover (y : Nat) (n : Nat) := by
 rw [qover_mul h, qover_mul h]
 refine Rat.mul_le_mul_of_nonneg_right (Rat.intCast_le_intCast.2 (by omega)) (Rat.le_of_lt (Rat.inv_pos.2 ?_))
 unfold qint
 have : ((0 : Int) : Rat) < ((n : Int) : Rat) := Rat.intCast_lt_intCast.2 (by omega)
 exact this
/-- a point's size -/
theorem pt_sz {x a : Nat} (hx : x ≤ 20) (ha : a ≤ 20) : qs (qover (x : Nat) (a : Nat)) ≤ 5 := over_sub 0 0 x a 5 (by omega) (by omega) (by omega)
/-- all that the law's calls tell one another -/
theorem area_pack (is : List Bool) (P : List Rat) (m : Nat) (CC QZ : Rat) (hl : is.length = m) (hp : P.length = m) (hm : m ≤ 20) (hs : ∀ x ∈ P, qs x ≤ 50) (hc : 0 < CC) (sc : qs CC ≤ 50) (sz : qs QZ ≤ 50) :
  ∃ (K : Int) (VA VP VN : Rat) (L no yes : Nat) (pts : List (Nat × Nat)),
   (∀ (W : World) (A : Option Addr) (c : Nat) (X : Ax), Lb W A is → Lq W X.1 P → Tab W → Calls Tryz.prog 41 #[.slice A m c, .slice X.1 m X.2] W fun e w' => e = .returned (.tuple #[qV VA, .int .i64 K]) ∧ Grow W w') ∧
   (∀ (W : World) (A : Option Addr) (c : Nat) (X : Ax), Lb W A is → Lq W X.1 (P.map fun x => qadd (qmul x CC) QZ) → Tab W → Calls Tryz.prog 41 #[.slice A m c, .slice X.1 m X.2] W fun e w' => e = .returned (.tuple #[qV VP, .int .i64 K]) ∧ Grow W w') ∧
   (∀ (W : World) (A : Option Addr) (c : Nat) (X : Ax), Lb W A is → Lq W X.1 (P.map qneg) → Tab W → Calls Tryz.prog 41 #[.slice A m c, .slice X.1 m X.2] W fun e w' => e = .returned (.tuple #[qV VN, .int .i64 K]) ∧ Grow W w') ∧
   (∀ (W : World) (A : Option Addr) (c : Nat) (X : Ax), Lb W A is → Lq W X.1 P → Tab W → Calls Tryz.prog 46 #[.slice A m c, .slice X.1 m X.2] W (RetY (fun x : Ax => .tuple #[.slice x.1 L x.2, .int .i64 K]) (fun x W => K = 0 → ∃ g, x.1 = some ⟨g, 0, none⟩ ∧ Ptl W g no yes pts) W)) ∧
   ((((K != 0) = true) ∧ L = 0) ∨ (K = 0 ∧ L = pts.length ∧ 0 < L ∧ L ≤ 21 ∧ VP = VA ∧ qadd VN VA = qint 1 ∧ qs VA ≤ 300 ∧ qs VN ≤ 300 ∧ qsum (fun i => stepQ no yes (gp pts i) (gp pts (i + 1))) (L - 1) = VA ∧ gp pts (L - 1) = (no, yes) ∧
    (∀ i, i + 1 < L → (gp pts i).1 ≤ (gp pts (i + 1)).1 ∧ (gp pts i).2 ≤ (gp pts (i + 1)).2) ∧ (∀ i, i < L → (gp pts i).1 ≤ 20 ∧ (gp pts i).2 ≤ 20) ∧ 0 < no ∧ no ≤ 20 ∧ 0 < yes ∧ yes ≤ 20)) := by
 have hBB : 100000 ≤ BIG := by unfold BIG; omega
 have lm : (P.map fun x => qadd (qmul x CC) QZ).length = m := by rw [List.length_map, hp]
 have ln : (P.map qneg).length = m := by rw [List.length_map, hp]
 by_cases hok : 0 < yesN is m ∧ yesN is m < m
 ·obtain ⟨hy, hn⟩ := hok
  have sm : ∀ x ∈ (P.map fun x => qadd (qmul x CC) QZ), qs x ≤ 200 := fun x hx => by
   obtain ⟨y, hy, rfl⟩ := List.mem_map.1 hx
   have := hs y hy
   have z1 := qs_qmul y CC
   have z2 := qs_qadd (qmul y CC) QZ
   omega
  have sn : ∀ x ∈ (P.map qneg), qs x ≤ 200 := fun x hx => by
   obtain ⟨y, hy, rfl⟩ := List.mem_map.1 hx
   have := hs y hy
   rw [qs_qneg]
   omega
  have hs2 : ∀ x ∈ P, qs x ≤ 200 := fun x hx => Nat.le_trans (hs x hx) (by omega)
  obtain ⟨o, ho⟩ := down_exists P m
  have he := pts_ref (is := is) hp ho
  have hpos := refPts_pos is P m m
  have ha := area_trap hy hn ho
  have hend := pts_end (is := is) (by omega) ho
  have hso := pts_sorted (fun i => gb is (at0 o i)) (fun i => gq P (at0 o i)) m m
  have hle := pts_le (fun i => gb is (at0 o i)) (fun i => gq P (at0 o i)) m m
  have hyl := yesN_le is m
  rw [show ptsN (fun i => gb is (at0 o i)) (fun i => gq P (at0 o i)) m m = refPts is P m m from he] at hso hle
  rw [he] at ha hend
  refine ⟨0, areaQ is P m, areaQ is P m, areaQ is (P.map qneg) m, (refPts is P m m).length, m - yesN is m, yesN is m, refPts is P m m, fun W A c X g1 g2 g3 => score_Area_ok A X.1 m c X.2 is P hl hp hy hn (by omega) 200 hs2 (by omega) W g1 g2 g3,
   fun W A c X g1 g2 g3 => ?_, fun W A c X g1 g2 g3 => score_Area_ok A X.1 m c X.2 is _ hl ln hy hn (by omega) 200 sn (by omega) W g1 g2 g3, fun W A c X g1 g2 g3 => ?_, .inr ⟨rfl, rfl, hpos, by omega, rfl, ?_, areaQ_sz _ _ _ (by omega), areaQ_sz _ _ _ (by omega), ha, ?_, fun i hi => ?_, fun i hi => ?_, by omega, by omega, hy, by omega⟩⟩
  ·have e : areaQ is (P.map fun x => qadd (qmul x CC) QZ) m = areaQ is P m := area_same fun i j hi hj => by
    rw [gq_map _ (by omega), gq_map _ (by omega)]
    exact cmpQ_affine CC QZ hc _ _
   rw [← e]
   exact score_Area_ok A X.1 m c X.2 is _ hl lm hy hn (by omega) 200 sm (by omega) W g1 g2 g3
  ·refine (score_Curve_X A X.1 m c X.2 is P hl hp hy hn (by omega) 200 hs2 (by omega) W g1 g2 g3).mono ?_
   rintro e w' ⟨x, he, hx, hg⟩
   exact ⟨(some ⟨x.1, 0, none⟩, x.2), he, fun _ => ⟨x.1, rfl, hx⟩, hg⟩
  ·exact area_turn hy hn fun i j hi hj => by
    rw [gq_map _ (by omega), gq_map _ (by omega)]
    exact cmpQ_neg _ _
  ·rw [gp_last hpos, hend]
  ·have h1 := List.pairwise_iff_getElem.1 hso.1 i (i + 1) (by omega) hi (by omega)
   have e1 : gp (refPts is P m m) i = (refPts is P m m)[i]'(by omega) := by unfold gp; rw [List.getElem?_eq_getElem (by omega)]; rfl
   have e2 : gp (refPts is P m m) (i + 1) = (refPts is P m m)[i + 1]'hi := by unfold gp; rw [List.getElem?_eq_getElem hi]; rfl
   rw [e1, e2]
   exact h1
  ·have h1 := hso.2 _ (gp_mem hi)
   have := cnt_lek (fun i => gb is (at0 o i)) m
   omega
 ·obtain ⟨K, hK, hK5, hsd⟩ := sides_err is m hl hm hok
  refine ⟨K, 0, 0, 0, 0, 0, 0, [], fun W A c X g1 g2 g3 => ?_, fun W A c X g1 g2 g3 => ?_, fun W A c X g1 g2 g3 => ?_, fun W A c X g1 g2 g3 => ?_, .inl ⟨hK, rfl⟩⟩
  ·exact score_Area_err A X.1 m m c X.2 K hK W fun W' hg => hsd A X.1 c X.2 W' (g1.grow hg)
  ·exact score_Area_err A X.1 m m c X.2 K hK W fun W' hg => hsd A X.1 c X.2 W' (g1.grow hg)
  ·exact score_Area_err A X.1 m m c X.2 K hK W fun W' hg => hsd A X.1 c X.2 W' (g1.grow hg)
  ·refine (score_Curve_err A X.1 m m c X.2 K hK W fun W' hg => hsd A X.1 c X.2 W' (g1.grow hg)).mono ?_
   rintro e w' ⟨he, hg⟩
   exact ⟨(none, 0), he, by intro h; first | exact absurd h hK | omega, hg⟩
end Go.Proofs.YtimjnkfcnpfoeaaGreatDoor
namespace Go.Proofs.YtimjnkfcnpfoeaaGreatDoor
open Go Go.RowKit
def maskE (R : List Nat) (i : Nat) (e : Edge) : Nat := if Region.binds .any e = true then (2 ^ e.on ||| (if e.on < i then R.getD e.on 0 else 0)) else 0
def rowM (R : List Nat) (i : Nat) : List Edge → Nat
 | [] => 0
 | e :: r => maskE R i e ||| rowM R i r
def rowsOk (ops : Array Oper) (R : List Nat) : Bool := (List.range ops.size).all fun i => match ops[i]? with
 | some o => Nat.beq (R.getD i 0) (rowM R i o.after.toList)
 | none => false
theorem rowM_bit {R : List Nat} {i j : Nat} : ∀ l : List Edge, (rowM R i l).testBit j = true → ∃ e ∈ l, Region.binds .any e = true ∧ (e.on = j ∨ (e.on < i ∧ (R.getD e.on 0).testBit j = true))
 | [], h => by simp [rowM] at h
 | e :: r, h => by
  unfold rowM at h
  rw [Nat.testBit_or, Bool.or_eq_true] at h
  rcases h with h | h
  ·refine ⟨e, List.mem_cons_self, ?_⟩
   unfold maskE at h
   split at h
   ·rename_i hb
    refine ⟨hb, ?_⟩
    rw [Nat.testBit_or, Bool.or_eq_true] at h
    rcases h with h | h
    ·left
     rw [Nat.testBit_two_pow] at h
     simpa using h
    ·right
     split at h
     ·rename_i hlt; exact ⟨hlt, h⟩
     ·simp at h
   ·simp at h
  ·obtain ⟨e', he', h'⟩ := rowM_bit r h
   exact ⟨e', List.mem_cons_of_mem _ he', h'⟩
theorem rows_wait {ops : Array Oper} {R : List Nat} (h : rowsOk ops R = true) : ∀ (f i j : Nat), i < f → i < ops.size → (R.getD i 0).testBit j = true → waitB ops f i j = true
 | 0, _, _, h0, _, _ => absurd h0 (Nat.not_lt_zero _)
 | f + 1, i, j, hif, hi, hb => by
  have h1 := List.all_eq_true.1 h i (List.mem_range.2 hi)
  unfold waitB
  rw [Array.getElem?_eq_getElem hi] at h1 ⊢
  simp only at h1 ⊢
  rw [Nat.eq_of_beq_eq_true h1] at hb
  obtain ⟨e, he, hbd, hor⟩ := rowM_bit _ hb
  refine Array.any_eq_true'.2 ⟨e, Array.mem_toList_iff.1 he, ?_⟩
  rw [hbd, Bool.true_and, Bool.or_eq_true, beq_iff_eq]
  rcases hor with hor | ⟨hlt, hor⟩
  ·exact .inl hor
  ·exact .inr (rows_wait h f e.on j (by omega) (by omega) hor)
def pairM (ops : Array Oper) (R : List Nat) : List (Nat × Nat) → Bool
 | [] => true
 | (k, i) :: r => (r.all fun e => (decide (e.2 < ops.size) && (R.getD e.2 0).testBit i) || (match ops[i]?, ops[e.2]? with
   | some oi, some oe => swapB ops (k, oi) (e.1, oe)
   | _, _ => false)) && pairM ops R r
theorem pairM_of {ops : Array Oper} {R : List Nat} (h : rowsOk ops R = true) : ∀ s : List (Nat × Nat), pairM ops R s = true → pairB ops s = true
 | [], _ => rfl
 | (k, i) :: r, hs => by
  unfold pairM at hs
  unfold pairB
  rw [Bool.and_eq_true] at hs ⊢
  refine ⟨List.all_eq_true.2 fun e he => ?_, pairM_of h r hs.2⟩
  have h1 := List.all_eq_true.1 hs.1 e he
  rw [Bool.or_eq_true] at h1 ⊢
  rcases h1 with h1 | h1
  ·rw [Bool.and_eq_true, decide_eq_true_eq] at h1
   exact .inl (rows_wait h _ _ _ h1.1 h1.1 h1.2)
  ·exact .inr h1
def growFM (ts : List TypeId) (l : List Oper) (n : Nat) (fl : List Nat) (s : List (Nat × Nat)) (R : List Nat) : Bool :=
 Region.noSelect l.toArray && decide (n < l.toArray.size) && sinkF l.toArray n fl && Region.chainB .any l.toArray n && setB (s.map (·.2)) n && (rowsOk l.toArray R && pairM l.toArray R s) && backB l.toArray n (s.map (·.2)) &&
  Region.seqB .any l.toArray (l.toArray.size - n) n (headEnd n l.toArray.size) && allocB ts l.toArray s && floatB l.toArray n fl && (s.all fun e => !fl.contains e.2 || decide (e.1 = 0))
theorem growF_of {ts : List TypeId} {l : List Oper} {n : Nat} {fl : List Nat} {s : List (Nat × Nat)} (R : List Nat) (h : growFM ts l n fl s R = true) : growFB ts l n fl s = true := by
 unfold growFM at h
 unfold growFB
 simp only [Bool.and_eq_true] at h ⊢
 obtain ⟨⟨⟨⟨⟨⟨⟨⟨⟨⟨a1, a2⟩, a3⟩, a4⟩, a5⟩, a6⟩, a7⟩, a8⟩, a9⟩, a10⟩, a11⟩ := h
 exact ⟨⟨⟨⟨⟨⟨⟨⟨⟨⟨a1, a2⟩, a3⟩, a4⟩, a5⟩, pairM_of a6.1 _ a6.2⟩, a7⟩, a8⟩, a9⟩, a10⟩, a11⟩
end Go.Proofs.YtimjnkfcnpfoeaaGreatDoor
namespace Go.Proofs.YtimjnkfcnpfoeaaGreatDoor
open Go Go.RowKit
/-- two rows lie in two blocks -/
def Apart (v v2 : Value) : Prop := ∀ g, v.ownBlock = some g → v2.ownBlock = some g → False
theorem Apart.symm {v v2 : Value} (h : Apart v v2) : Apart v2 v := fun g h1 h2 => h g h2 h1
theorem own_kept {u u' : World} {B : Nat} {e2 : TypeId} {s2 : Nat} {v v2 v' : Value} {n2 : Nat} {xs2 : List Value} (h2 : u.ownsRow B e2 s2 v2 n2 xs2) (ha : Apart v v2) (hg : u.grownBy u' v.ownBlock)
  (h5 : v'.ownBlock = v.ownBlock ∨ v'.ownBlock = some u.heap.size) : u'.ownsRow B e2 s2 v2 n2 xs2 ∧ Apart v' v2 := by
 refine ⟨h2.kept hg ?_, fun g h1 h3 => ?_⟩
 ·cases hb : v2.ownBlock with
  | none => exact .inl rfl
  | some g => exact .inr fun e => ha g e.symm hb
 ·rcases h5 with h5 | h5
  ·exact ha g (h5 ▸ h1) h3
  ·rw [h5] at h1
   injection h1 with h1
   have := (h2.lt g h3).2
   omega
theorem app_two {w u w' : World} {o : Obj} {e2 : TypeId} {s2 n2 : Nat} {v v' v2 : Value} {xs2 : List Value} (h2 : u.ownsRow w.heap.size e2 s2 v2 n2 xs2) (ha : Apart v v2)
  (hg : (u.alloc o).grownBy w' v.ownBlock) (h3 : v'.ownBlock = v.ownBlock ∨ v'.ownBlock = some (u.heap.size + 1)) : w'.ownsRow w.heap.size e2 s2 v2 n2 xs2 ∧ Apart v' v2 :=
 own_kept (h2.alloc o) ha hg (by rw [alloc_size]; exact h3)
end Go.Proofs.YtimjnkfcnpfoeaaGreatDoor
namespace Go.Proofs.YtimjnkfcnpfoeaaGreatDoor
open Go Go.RowKit
theorem blk_q5 {W : World} {b : Nat} {q : Rat} (h : Blk W b 32 (qCells q)) : W.cell? ⟨b, 0, none⟩ = some (.bool (intNeg q.num)) ∧ W.cell? ⟨b, 1, none⟩ = some (.int .u64 (natLo q.num.natAbs)) ∧ W.cell? ⟨b, 2, none⟩ = some (.string (natMo q.num.natAbs)) ∧ W.cell? ⟨b, 3, none⟩ = some (.int .u64 (natLo (keptDen q.den))) ∧ W.cell? ⟨b, 4, none⟩ = some (.string (natMo (keptDen q.den))) :=
 ⟨h.cell 0, h.cell 1, h.cell 2, h.cell 3, h.cell 4⟩
theorem cq_five {W : World} {b o : Nat} {q : Rat} (h : Cq W b (o + 5) q) : W.cell? ⟨b, o + 5, none⟩ = some (.bool (intNeg q.num)) ∧ W.cell? ⟨b, o + 6, none⟩ = some (.int .u64 (natLo q.num.natAbs)) ∧ W.cell? ⟨b, o + 7, none⟩ = some (.string (natMo q.num.natAbs)) ∧ W.cell? ⟨b, o + 8, none⟩ = some (.int .u64 (natLo (keptDen q.den))) ∧ W.cell? ⟨b, o + 9, none⟩ = some (.string (natMo (keptDen q.den))) := h
theorem rowQ_szA (l : List Int) (n : Nat) : ∀ x ∈ rowQ l n, qs x ≤ 50 := fun x hx => by
 unfold rowQ at hx
 obtain ⟨i, -, rfl⟩ := List.mem_map.1 hx
 unfold rowAtL
 split
 ·exact Nat.le_trans (rawQ_sz _) (by omega)
 ·rw [show qint 0 = 0 from rfl, qs_zero]; omega
theorem take_snoc {l : List Rat} {i : Nat} (h : i < l.length) : (l.take i).flatMap qL ++ qL (gq l i) = (l.take (i + 1)).flatMap qL := by
 rw [List.take_succ_eq_append_getElem h, List.flatMap_append]
 unfold gq
 rw [List.getElem?_eq_getElem h]
 simp
theorem qcells_zero : qCells 0 = #[.bool false, .int .u64 0, .string ⟨#[]⟩, .int .u64 0, .string ⟨#[]⟩] := by kernel_rfl
/-- is[:m] -/
theorem cut_bools (A : Option Addr) (la : List Bool) (ca m : Nat) (hm : m = min la.length 20) (hc : la.length ≤ ca) (w : World) (h : Lb w A la) : ∃ A' : Option Addr, (∀ W, (Instr.slice 79 (.slice A la.length ca) none (some (.int .i64 (m : Nat))) none).run Tryz.prog W = .ok (.slice A' m ca) W) ∧ Lb w A' (la.take m) ∧ (la.take m).length = m := by
 rcases Nat.eq_zero_or_pos la.length with h0 | h0
 ·obtain rfl : m = 0 := by omega
  refine ⟨if ca = 0 then A else A.map (·.add 0), fun W => ?_, ?_, by simp⟩
  ·have h3 : (0 : Int) ≤ (ca : Int) := by omega
   clear hm h h0 hc
   go_simp
  ·rw [List.take_zero]
   exact Lb.nil _ _
 ·obtain ⟨b, off, rfl⟩ := h.addr h0
  refine ⟨some ⟨b, off, none⟩, fun W => ?_, fun hne => ?_, by simp; omega⟩
  ·have h3 : (m : Int) ≤ (ca : Int) := by omega
   have h4 : ¬ ca < m := by omega
   clear hm h h0 hc
   go_simp
  ·obtain ⟨b', off', e, hb, hx⟩ := h (fun e => by rw [e] at h0; cases h0)
   refine ⟨b', off', e, hb, fun i x hi => hx i x ?_⟩
   rw [List.getElem?_take] at hi
   split at hi
   ·exact hi
   ·cases hi
end Go.Proofs.YtimjnkfcnpfoeaaGreatDoor
