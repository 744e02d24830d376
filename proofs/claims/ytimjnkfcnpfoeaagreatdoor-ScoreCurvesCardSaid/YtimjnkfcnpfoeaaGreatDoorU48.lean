/-
  Contracts and laws: CurvesP.
-/
import Derived.Test.YtimjnkfcnpfoeaaGreatDoorU44
import Derived.Test.YtimjnkfcnpfoeaaGreatDoorU47
set_option linter.unusedSimpArgs false
set_option linter.unusedVariables false
namespace Go.Proofs.YtimjnkfcnpfoeaaGreatDoor
open Go Go.RowKit
theorem sidesR_err (is : List Bool) (m : Nat) (hl : is.length = m) (hm : m ≤ 20) (h : ¬ (0 < yesN is m ∧ yesN is m < m)) : ∃ k : Int, (k != 0) = true ∧
  (∀ (A B : Option Addr) (c d : Nat) (W : World), Lb W A is → Calls Tryz.prog 104 #[.slice A m c, .slice B m d] W fun e w' => e = .returned (.tuple #[.int .i64 0, .int .i64 0, .int .i64 k]) ∧ Grow W w') ∧
  (∀ (A B : Option Addr) (c d : Nat) (W : World), Lb W A is → Calls Tryz.prog 113 #[.slice A m c, .slice B m d] W fun e w' => e = .returned (.tuple #[.int .i64 0, .int .i64 0, .int .i64 k]) ∧ Grow W w') := by
 rcases Nat.eq_zero_or_pos m with h0 | h0
 ·exact ⟨5, rfl, fun A B c d W _ => score_sides_no A B m m c d (by rw [h0]; rfl) W, fun A B c d W _ => ref6_sides_no A B m m c d (by rw [h0]; rfl) W⟩
 ·refine ⟨7, rfl, fun A B c d W hW => ?_, fun A B c d W hW => ?_⟩
  ·have := score_sides_ok A B m c d is hl h0 (by omega) W hW
   unfold sidesV at this
   rw [if_pos (by have := yesN_le is m; omega)] at this
   exact this
  ·have := ref6_sides_ok A B m c d is hl h0 (by omega) W hW
   unfold sidesR at this
   rw [if_pos (by have := yesN_le is m; omega)] at this
   exact this
/-- the curve and the area -/
theorem pair_Curve (is : List Bool) (Q : List Rat) (m N : Nat) (hl : is.length = m) (hq : Q.length = N) (hm : m ≤ 20) (hs : ∀ x ∈ Q, qs x ≤ 50) :
  ∃ (K : Int) (VA : Rat) (L no yes : Nat) (pts : List (Nat × Nat)), qs VA ≤ 300 ∧ L = pts.length ∧ L ≤ 21 ∧ (∀ i, i < L → qs (qover ((gp pts i).1 : Nat) no) ≤ 5 ∧ qs (qover ((gp pts i).2 : Nat) yes) ≤ 5) ∧
   (∀ (W : World) (A : Option Addr) (c : Nat) (X : Ax), Lb W A is → Lq W X.1 Q → Tab W → Calls Tryz.prog 41 #[.slice A m c, .slice X.1 N X.2] W fun e w' => e = .returned (.tuple #[qV VA, .int .i64 K]) ∧ Grow W w') ∧
   (∀ (W : World) (A : Option Addr) (c : Nat) (X : Ax), Lb W A is → Lz W X.1 Q → Calls Tryz.prog 53 #[.slice A m c, .slice X.1 N X.2] W (RetE VA K W)) ∧
   (∀ (W : World) (A : Option Addr) (c : Nat) (X : Ax), Lb W A is → Lq W X.1 Q → Tab W → Calls Tryz.prog 46 #[.slice A m c, .slice X.1 N X.2] W (RetY (fun x : Ax => .tuple #[.slice x.1 L x.2, .int .i64 K]) (fun x W => 0 < L → ∃ g, x.1 = some ⟨g, 0, none⟩ ∧ Ptl W g no yes pts) W)) ∧
   (∀ (W : World) (A : Option Addr) (c : Nat) (X : Ax), Lb W A is → Lz W X.1 Q → Calls Tryz.prog 52 #[.slice A m c, .slice X.1 N X.2] W (RetY (fun x : Ax => .tuple #[.slice x.1 L x.2, .int .i64 K]) (fun x W => 0 < L → ∃ g, x.1 = some ⟨g, 0, none⟩ ∧ g < W.heap.size ∧ Lz W (some ⟨g, 0, none⟩) (flatP no yes pts)) W)) := by
 have hBB : 100000 ≤ BIG := by unfold BIG; omega
 refine Classical.byContradiction fun hG => ?_
 have fail : ∀ K : Int, (K != 0) = true → (∀ (A B : Option Addr) (c d : Nat) (W : World), Lb W A is → Calls Tryz.prog 104 #[.slice A m c, .slice B N d] W fun e w' => e = .returned (.tuple #[.int .i64 0, .int .i64 0, .int .i64 K]) ∧ Grow W w') →
   (∀ (A B : Option Addr) (c d : Nat) (W : World), Lb W A is → Calls Tryz.prog 113 #[.slice A m c, .slice B N d] W fun e w' => e = .returned (.tuple #[.int .i64 0, .int .i64 0, .int .i64 K]) ∧ Grow W w') → False := fun K hK h1 h2 =>
  hG ⟨K, 0, 0, 0, 0, [], by rw [qs_zero]; omega, rfl, by omega, fun i hi => by omega,
   fun W A c X g1 g2 g3 => score_Area_err A X.1 m N c X.2 K hK W fun W' hg => h1 A X.1 c X.2 W' (g1.grow hg),
   fun W A c X g1 g2 => ref6_Area_err A X.1 m N c X.2 K hK W fun W' hg => h2 A X.1 c X.2 W' (g1.grow hg),
   fun W A c X g1 g2 g3 => (score_Curve_err A X.1 m N c X.2 K hK W fun W' hg => h1 A X.1 c X.2 W' (g1.grow hg)).mono fun e w' ⟨he, hg⟩ => ⟨(none, 0), he, fun h => absurd h (by omega), hg⟩,
   fun W A c X g1 g2 => (ref6_Curve_err A X.1 m N c X.2 K hK W fun W' hg => h2 A X.1 c X.2 W' (g1.grow hg)).mono fun e w' ⟨he, hg⟩ => ⟨(none, 0), he, fun h => absurd h (by omega), hg⟩⟩
 by_cases hmN : m = N
 ·subst hmN
  by_cases hok : 0 < yesN is m ∧ yesN is m < m
  ·obtain ⟨hy, hn⟩ := hok
   have hs2 : ∀ x ∈ Q, qs x ≤ 200 := fun x hx => Nat.le_trans (hs x hx) (by omega)
   obtain ⟨o, ho⟩ := down_exists Q m
   have he := pts_ref (is := is) hq ho
   have hso := pts_sorted (fun i => gb is (at0 o i)) (fun i => gq Q (at0 o i)) m m
   have hle := pts_le (fun i => gb is (at0 o i)) (fun i => gq Q (at0 o i)) m m
   have hyl := yesN_le is m
   rw [show ptsN (fun i => gb is (at0 o i)) (fun i => gq Q (at0 o i)) m m = refPts is Q m m from he] at hso hle
   refine hG ⟨0, areaQ is Q m, (refPts is Q m m).length, m - yesN is m, yesN is m, refPts is Q m m, areaQ_sz _ _ _ (by omega), rfl, by omega, fun i hi => ?_, fun W A c X g1 g2 g3 => score_Area_ok A X.1 m c X.2 is Q hl hq hy hn (by omega) 200 hs2 (by omega) W g1 g2 g3,
    fun W A c X g1 g2 => ref6_Area_ok A X.1 m c X.2 is Q hl hq hy hn (by omega) 200 hs2 (by omega) W g1 g2, fun W A c X g1 g2 g3 => ?_, fun W A c X g1 g2 => ?_⟩
   ·have h1 := hso.2 _ (gp_mem hi)
    have := cnt_lek (fun i => gb is (at0 o i)) m
    exact ⟨pt_sz (by omega) (by omega), pt_sz (by omega) (by omega)⟩
   ·refine (score_Curve_X A X.1 m c X.2 is Q hl hq hy hn (by omega) 200 hs2 (by omega) W g1 g2 g3).mono ?_
    rintro e w' ⟨x, he, hx, hg⟩
    exact ⟨(some ⟨x.1, 0, none⟩, x.2), he, fun _ => ⟨x.1, rfl, hx⟩, hg⟩
   ·refine (ref6_Curve_ok A X.1 m c X.2 is Q hl hq hy hn (by omega) 200 hs2 (by omega) W g1 g2).mono ?_
    rintro e w' ⟨x, he, hx, hg⟩
    exact ⟨(some ⟨x.1, 0, none⟩, x.2), he, fun _ => ⟨x.1, rfl, hx⟩, hg⟩
  ·obtain ⟨K, hK, h1, h2⟩ := sidesR_err is m hl hm hok
   exact fail K hK h1 h2
 ·have hp : pairedB m N = false := by unfold pairedB; simp [hmN]
  exact fail 5 rfl (fun A B c d W _ => score_sides_no A B m N c d hp W) fun A B c d W _ => ref6_sides_no A B m N c d hp W
/-- a point of the document's curve -/
theorem lz_pt {W : World} {g no yes : Nat} {pts : List (Nat × Nat)} (h : Lz W (some ⟨g, 0, none⟩) (flatP no yes pts)) {i : Nat} (hi : i < pts.length) :
  ∃ p p' : Az, ∀ W', Grow W W' → (Rz W' p (qover ((gp pts i).1 : Nat) no) ∧ Cz W' g (i * 6) p (qover ((gp pts i).1 : Nat) no)) ∧ Rz W' p' (qover ((gp pts i).2 : Nat) yes) ∧ Cz W' g (i * 6 + 3) p' (qover ((gp pts i).2 : Nat) yes) := by
 obtain ⟨e1, e2⟩ := flatP_get no yes pts i hi
 have hl := flatP_len no yes pts
 obtain ⟨p, h1⟩ := h.read (i := i * 2) (by omega)
 obtain ⟨p', h2⟩ := h.read (i := i * 2 + 1) (by omega)
 rw [e1, Nat.zero_add, show i * 2 * 3 = i * 6 by omega] at h1
 rw [e2, Nat.zero_add, show (i * 2 + 1) * 3 = i * 6 + 3 by omega] at h2
 exact ⟨p, p', fun W' hg => ⟨h1 W' hg, h2 W' hg⟩⟩
/-- Brier's score -/
theorem pair_Brier (n k : Nat) (l : List Int) (RS : List (List Rat)) (hl : l.length = n) (hr : RS.length = n) (hn : n ≤ 8) (hk : k ≤ 5) (hs : ∀ q ∈ RS, ∀ x ∈ q, qs x ≤ 50) (hsh : (∀ q ∈ RS, q.length = k) ∨ (2 ≤ n ∧ ∀ i q, RS[i]? = some q → q.length = if i + 1 = n then k + 1 else k)) :
  ∃ (K : Int) (V : Rat), qs V ≤ 1000000 ∧
   (∀ (W : World) (X Y : Ax) (rs : List Rq), rs.map (·.2.2) = RS → Li W X.1 l → Lrq W Y.1 rs → Tab W → Calls Tryz.prog 42 #[.slice X.1 n X.2, .slice Y.1 n Y.2] W fun e w' => e = .returned (.tuple #[qV V, .int .i64 K]) ∧ Grow W w') ∧
   (∀ (W : World) (X Y : Ax) (rs : List Rq), rs.map (·.2.2) = RS → Li W X.1 l → Lrz W Y.1 rs → Calls Tryz.prog 56 #[.slice X.1 n X.2, .slice Y.1 n Y.2] W (RetE V K W)) := by
 have hBB : 100000000 ≤ BIG := by unfold BIG; omega
 have hBI := BIG_le
 have hbz : (n + 2) * (k * (2 * 50 + 85) + 4 * 50 + 400) ≤ BIG := Nat.le_trans (Nat.mul_le_mul (show n + 2 ≤ 10 by omega) (show k * (2 * 50 + 85) + 4 * 50 + 400 ≤ 2000 by omega)) (by omega)
 have len : ∀ rs : List Rq, rs.map (·.2.2) = RS → rs.length = n := fun rs h => by rw [← hr, ← h, List.length_map]
 rcases Nat.eq_zero_or_pos n with h0 | h0
 ·subst h0
  exact ⟨5, 0, by rw [qs_zero]; omega, fun W X Y rs _ _ _ _ => score_Brier_no X.1 Y.1 0 0 X.2 Y.2 rfl W, fun W X Y rs _ _ _ => ref6_Brier_no X.1 Y.1 0 0 X.2 Y.2 rfl W⟩
 rcases hsh with hsh | ⟨h2, hsh⟩
 ·have hrl : ∀ rs : List Rq, rs.map (·.2.2) = RS → ∀ r ∈ rs, r.2.2.length = k := fun rs h r hr => hsh _ (by rw [← h]; exact List.mem_map_of_mem hr)
  have hss : ∀ rs : List Rq, rs.map (·.2.2) = RS → ∀ r ∈ rs, ∀ x ∈ r.2.2, qs x ≤ 50 := fun rs h r hr => hs _ (by rw [← h]; exact List.mem_map_of_mem hr)
  rcases first_bad (fun i => 0 ≤ gi l i ∧ gi l i < k) n with hg | ⟨R, hR, hg, hb⟩
  ·refine ⟨0, brier l RS k n, ?_, fun W X Y rs e g1 g2 g3 => ?_, fun W X Y rs e g1 g2 => ?_⟩
   ·have hz : ∀ i, i < n → qs (brRow (gi l i) (rowAt RS i) k) ≤ k * (2 * 50 + 85) + 1 := fun i hi => by
     have hro : rowAt RS i = RS[i] := by unfold rowAt; rw [List.getElem?_eq_getElem (by omega)]; rfl
     rw [hro]
     exact brRow_sz (hs _ (List.getElem_mem _)) (hsh _ (List.getElem_mem _)) k (Nat.le_refl _)
    refine Nat.le_trans (qs_qdiv _ _) ?_
    have h1 := qsum_size (fun i => brRow (gi l i) (rowAt RS i) k) _ n hz n (Nat.le_refl _)
    have h2 := qint_sz n (by omega)
    have h3 : n * (k * (2 * 50 + 85) + 1 + 1) ≤ 8 * 1000 := Nat.mul_le_mul hn (by omega)
    omega
   ·have := score_Brier_ok X.1 Y.1 n X.2 Y.2 k l rs hl (len rs e) h0 (by omega) (hrl rs e) (by omega) hg 50 (hss rs e) hbz W g1 g2 g3
    rw [e] at this
    exact this
   ·have := ref6_Brier_run X.1 Y.1 n X.2 Y.2 k l rs hl (len rs e) h0 (by omega) (hrl rs e) (by omega) n (Nat.le_refl _) hg (fun h => by omega) 50 (hss rs e) hbz W g1 g2
    rw [if_neg (by omega), if_neg (by omega), e] at this
    exact this
  ·have hb' : gi l R < 0 ∨ (k : Int) ≤ gi l R := by omega
   refine ⟨1, 0, by rw [qs_zero]; omega, fun W X Y rs e g1 g2 g3 => ?_, fun W X Y rs e g1 g2 => ?_⟩
   ·exact score_Brier_arg X.1 Y.1 n X.2 Y.2 k l rs hl (len rs e) (by omega) (fun i r hi => hrl rs e r (List.mem_of_getElem? hi)) R hR hg hb' W g1 g2
   ·have := ref6_Brier_run X.1 Y.1 n X.2 Y.2 k l rs hl (len rs e) h0 (by omega) (hrl rs e) (by omega) R (by omega) hg (fun _ => hb') 50 (hss rs e) hbz W g1 g2
    rw [if_pos hR, if_pos hR] at this
    exact this
 ·have hat : ∀ rs : List Rq, rs.map (·.2.2) = RS → ∀ i r, rs[i]? = some r → r.2.2.length = if i + 1 = n then k + 1 else k := fun rs e i r hi => hsh i r.2.2 (by rw [← e, List.getElem?_map, hi]; rfl)
  have c1 : ∀ rs : List Rq, rs.map (·.2.2) = RS → ∀ i r, i < n - 1 → rs[i]? = some r → r.2.2.length = k := fun rs e i r hi h => by have := hat rs e i r h; rw [if_neg (by omega)] at this; exact this
  have c2 : ∀ rs : List Rq, rs.map (·.2.2) = RS → ∀ r, rs[n - 1]? = some r → r.2.2.length = k + 1 := fun rs e r h => by have := hat rs e _ r h; rw [if_pos (by omega)] at this; exact this
  exact ⟨5, 0, by rw [qs_zero]; omega, fun W X Y rs e g1 g2 g3 => score_Brier_shape X.1 Y.1 n X.2 Y.2 k rs (len rs e) (by omega) (n - 1) (by omega) (by omega) (c1 rs e) (k + 1) (c2 rs e) (by omega) W g2,
   fun W X Y rs e g1 g2 => ref6_Brier_shape X.1 Y.1 n X.2 Y.2 k rs (len rs e) (by omega) (n - 1) (by omega) (by omega) (c1 rs e) (k + 1) (c2 rs e) (by omega) W g2⟩
end Go.Proofs.YtimjnkfcnpfoeaaGreatDoor
