/-
  law9.ScoreTables: the plain sums.
-/
import Derived.Test.YtimjnkfcnpfoeaaGreatDoorTabA
set_option linter.unusedSimpArgs false
set_option linter.unusedVariables false
namespace Go.Proofs.YtimjnkfcnpfoeaaGreatDoor
open Go.RowKit
theorem qover_div (n d : Int) : qover n d = qdiv (qint n) (qint d) := by
  unfold qover qdiv qint
  exact Rat.divInt_eq_div n d
theorem qint_add (a b : Int) : qadd (qint a) (qint b) = qint (a + b) := by
  unfold qadd qint; exact (Rat.intCast_add a b).symm
theorem qint_zero : qint 0 = 0 := rfl
theorem recall_back (t r : Int) (h : r = 0 → t = 0) : qmul (qover t r) (qint r) = qint t := by
  by_cases hr : r = 0
  · rw [h hr, hr]; unfold qmul; rw [show qint 0 = 0 from rfl, Rat.mul_zero]
  · rw [qover_div]
    unfold qmul qdiv
    rw [Rat.div_def, Rat.mul_assoc, Rat.inv_mul_cancel _ (fun h0 => hr (by unfold qint at h0; exact Rat.intCast_eq_zero_iff.1 h0)), Rat.mul_one]
theorem qint_size {z : Int} {s : Nat} (h0 : 0 ≤ z) (h : z < 2 ^ s) (hs : 1 ≤ s) : qs (qint z) ≤ s := by
  refine qs_int z s ?_ hs
  have : ((2 ^ s : Nat) : Int) = 2 ^ s := by simp
  omega
/-- one place out of k -/
def ind (k : Nat) (x : Int) (i : Nat) : Int := if x = (i : Int) then 1 else 0
theorem sumTo_zero {f : Nat → Int} {n : Nat} (h : ∀ i, i < n → f i = 0) : sumTo f n = 0 := by
  induction n with
  | zero => rfl
  | succ n ih => simp only [sumTo]; rw [ih fun i hi => h i (by omega), h n (by omega)]; rfl
theorem sum_one (x : Nat) (c : Int) {k : Nat} (h : x < k) : sumTo (fun i => if x = i then c else 0) k = c := by
  induction k with
  | zero => omega
  | succ k ih =>
    simp only [sumTo]
    by_cases e : x = k
    · subst e
      rw [if_pos rfl, sumTo_zero fun i hi => if_neg (by omega)]; omega
    · rw [if_neg e, ih (by omega)]; omega
theorem all_sum (l l' : List Int) (k : Nat) {m : Nat} (hr : ∀ i, i < m → (0 ≤ gi l i ∧ gi l i < k) ∧ 0 ≤ gi l' i ∧ gi l' i < k) : sumTo (fun i => sumTo (fun j => tabAt l l' m i j) k) k = m := by
  induction m with
  | zero => exact sumTo_zero fun i hi => sumTo_zero fun j hj => rfl
  | succ m ih =>
    have h1 := ih fun i hi => hr i (by omega)
    obtain ⟨⟨a1, a2⟩, a3, a4⟩ := hr m (by omega)
    have h2 : sumTo (fun i => sumTo (fun j => tabAt l l' (m + 1) i j) k) k = sumTo (fun i => sumTo (fun j => tabAt l l' m i j) k + (if (gi l m).toNat = i then 1 else 0)) k := by
      refine sumTo_congr fun i hi => ?_
      have h3 : sumTo (fun j => tabAt l l' (m + 1) i j) k = sumTo (fun j => tabAt l l' m i j + (if (gi l' m).toNat = j then (if (gi l m).toNat = i then 1 else 0) else 0)) k := by
        refine sumTo_congr fun j hj => ?_
        rw [tabAt_succ]
        by_cases e1 : gi l m = (i : Int)
        · by_cases e2 : gi l' m = (j : Int)
          · rw [if_pos ⟨e1, e2⟩, if_pos (by omega), if_pos (by omega)]
          · rw [if_neg (fun h => e2 h.2), if_neg (by omega)]
        · rw [if_neg (fun h => e1 h.1), if_neg (show ¬ (gi l m).toNat = i by omega)]
          split <;> rfl
      rw [h3, sumTo_add, sum_one _ _ (by omega)]
    rw [h2, sumTo_add, h1, sum_one _ _ (by omega)]
    omega
theorem diag_sum (l l' : List Int) (k : Nat) {m : Nat} (hr : ∀ i, i < m → (0 ≤ gi l i ∧ gi l i < k) ∧ 0 ≤ gi l' i ∧ gi l' i < k) : sumTo (fun i => tabAt l l' m i i) k = hits l l' m := by
  induction m with
  | zero => exact sumTo_zero fun i hi => rfl
  | succ m ih =>
    have h1 := ih fun i hi => hr i (by omega)
    obtain ⟨⟨a1, a2⟩, a3, a4⟩ := hr m (by omega)
    have h2 : sumTo (fun i => tabAt l l' (m + 1) i i) k = sumTo (fun i => tabAt l l' m i i + (if (gi l m).toNat = i then (if gi l m = gi l' m then 1 else 0) else 0)) k := by
      refine sumTo_congr fun i hi => ?_
      rw [tabAt_succ]
      by_cases e1 : gi l m = (i : Int)
      · by_cases e2 : gi l' m = (i : Int)
        · rw [if_pos ⟨e1, e2⟩, if_pos (by omega), if_pos (by omega)]
        · rw [if_neg (fun h => e2 h.2), if_pos (by omega), if_neg (by omega)]
      · rw [if_neg (fun h => e1 h.1), if_neg (show ¬ (gi l m).toNat = i by omega)]
    rw [h2, sumTo_add, h1, sum_one _ _ (by omega)]
    unfold hits
    simp only [cnt, beq_iff_eq]
    split <;> simp
theorem wantAt_range (l : List Int) {k : Nat} (hk : 0 < k) (i : Nat) : 0 ≤ wantAt l k i ∧ wantAt l k i < k := pick_range _ (by omega)
theorem gotAt_range (l : List Int) {k : Nat} (hk : 0 < k) (i : Nat) : 0 ≤ gotAt l k i ∧ gotAt l k i < k := pick_range _ (by omega)
theorem lists_range (la lb : List Int) {k : Nat} (hk : 0 < k) (m : Nat) (i : Nat) (hi : i < m) : (0 ≤ gi (wantL la k m) i ∧ gi (wantL la k m) i < k) ∧ 0 ≤ gi (gotL lb k m) i ∧ gi (gotL lb k m) i < k := by
  rw [wantL_gi la k hi, gotL_gi lb k hi]
  exact ⟨wantAt_range la hk i, gotAt_range lb hk i⟩
/-- a call whose answer depends on where things came to lie -/
def RetX {X : Type} (f : X → Value) (T : X → World → Prop) (w : World) (e : Ending) (w' : World) : Prop := ∃ x, e = .returned (f x) ∧ T x w' ∧ Grow w w'
theorem Lrows.tb {W : World} {B0 k : Nat} {l l' : List Int} {m : Nat} (h : Lrows W (some ⟨B0, 0, none⟩) (tabRows B0 k l l' m)) (hk : 0 < k) : Tb W B0 0 k (fun i => B0 + 1 + i) (fun _ => 0) (fun _ => k) (fun i j => tabAt l l' m i j) := by
  obtain ⟨b, off, e, hb, hc⟩ := h (by unfold tabRows; intro h0; have := congrArg List.length h0; simp at this; omega)
  injection e with e
  injection e with e1 e2
  subst e1; subst e2
  refine ⟨hb, fun i hi => ?_⟩
  have hg : (tabRows B0 k l l' m)[i]? = some (some ⟨B0 + 1 + i, 0, none⟩, k, tabRow l l' m k i) := by unfold tabRows; simp [hi]
  obtain ⟨h1, h2⟩ := hc i _ hg
  have hlen : (tabRow l l' m k i).length = k := by unfold tabRow; simp
  simp only [hlen] at h1
  obtain ⟨b2, off2, e2, hb2, hc2⟩ := h2 (by intro h0; have h3 : (tabRow l l' m k i) = [] := h0; rw [h3] at hlen; simp at hlen; omega)
  injection e2 with e2
  injection e2 with e3 e4
  subst e3; subst e4
  exact ⟨h1, hb2, fun j hj => hc2 j _ (tabRow_get l l' m k i hj)⟩
theorem score_Table_X (A B : Option Addr) (m c d k : Nat) (l l' : List Int) (hl : l.length = m) (hl' : l'.length = m) (hm0 : 0 < m) (hm : m ≤ 1099511627776) (hk1 : 1 ≤ k) (hk2 : k ≤ 12)
    (hr : ∀ i, i < m → (0 ≤ gi l i ∧ gi l i < k) ∧ 0 ≤ gi l' i ∧ gi l' i < k) (w : World) (h1 : Li w A l) (h2 : Li w B l') :
    Calls Tryz.prog 14 #[.slice A m c, .slice B m d, .int .i64 k] w (RetX (fun B0 : Nat => .tuple #[.slice (some ⟨B0, 0, none⟩) k k, .int .i64 0]) (fun B0 W => Tb W B0 0 k (fun i => B0 + 1 + i) (fun _ => 0) (fun _ => k) (fun i j => tabAt l l' m i j)) w) :=
  (score_Table_ok A B m c d k l l' hl hl' hm0 hm hk1 hk2 hr w h1 h2).mono fun e w' ⟨B0, _, he, hL, hg⟩ => ⟨B0, he, hL.tb hk1, hg⟩
theorem score_Rates_X (bt ot k c : Nat) (rb ro rc : Nat → Nat) (T : Nat → Nat → Int) (s : Nat) (hk : 0 < k) (hk2 : k ≤ 1048576) (hT : ∀ a, a < k → ∀ t, t < k → 0 ≤ T a t) (hsum : sumTo (fun a => sumTo (T a) k) k ≤ 2147483647) (hss : sumTo (fun a => sumTo (T a) k) k < 2 ^ s) (hs1 : 1 ≤ s) (hsB : 6 * s + 2 ≤ BIG)
    (w : World) (ht : Tb w bt ot k rb ro rc T) :
    Calls Tryz.prog 20 #[.slice (some ⟨bt, ot, none⟩) k c] w (RetX (fun bo : Nat => .tuple #[.slice (some ⟨bo, 0, none⟩) k k, .int .i64 0]) (fun bo W => Blk W bo 58 (cellsR (rateTo k T k))) w) :=
  (score_Rates_ok bt ot k c rb ro rc T s hk hk2 hT hsum hss hs1 hsB w ht).mono fun e w' ⟨bo, _, he, hb, hg⟩ => ⟨bo, he, hb, hg⟩
theorem rates_cells {W : World} {bo k i : Nat} {T : Nat → Nat → Int} (h : Blk W bo 58 (cellsR (rateTo k T k))) (hi : i < k) :
    W.cell? ⟨bo, i * 15 + 5, none⟩ = some (.bool (intNeg (qover (T i i) (sumTo (T i) k)).num)) ∧ W.cell? ⟨bo, i * 15 + 6, none⟩ = some (.int .u64 (natLo (qover (T i i) (sumTo (T i) k)).num.natAbs)) ∧ W.cell? ⟨bo, i * 15 + 7, none⟩ = some (.string (natMo (qover (T i i) (sumTo (T i) k)).num.natAbs)) ∧ W.cell? ⟨bo, i * 15 + 8, none⟩ = some (.int .u64 (natLo (keptDen (qover (T i i) (sumTo (T i) k)).den))) ∧ W.cell? ⟨bo, i * 15 + 9, none⟩ = some (.string (natMo (keptDen (qover (T i i) (sumTo (T i) k)).den))) := by
  have hl : i < (rateTo k T k).length := by rw [rateTo_len]; exact hi
  have hg : (rateTo k T k)[i] = rateAt k T i := by
    have h1 : (rateTo k T k)[i]? = some (rateAt k T i) := by unfold rateTo; simp [hi]
    rw [List.getElem?_eq_getElem hl] at h1
    exact Option.some.inj h1
  have key : ∀ j, j < 15 → W.cell? ⟨bo, i * 15 + j, none⟩ = (rL (rateAt k T i))[j]? := fun j hj => by
    rw [h.cell, Nat.mul_comm, cellsR_get _ hl hj, hg]
  exact ⟨key 5 (by omega), key 6 (by omega), key 7 (by omega), key 8 (by omega), key 9 (by omega)⟩
theorem tables_step {k : Nat} {m h : Int} {i : Nat} {T : Nat → Nat → Int} (hT0 : ∀ a, a < k → ∀ t, t < k → 0 ≤ T a t) (hS : sumTo (fun a => sumTo (T a) k) k = m) (hD : sumTo (fun a => T a a) k = h) (hi : i < k) :
    0 ≤ sumTo (T i) k ∧ 0 ≤ sumTo (fun a => sumTo (T a) k) i ∧ sumTo (fun a => sumTo (T a) k) i + sumTo (T i) k ≤ m ∧ 0 ≤ sumTo (fun a => T a a) i ∧ sumTo (fun a => T a a) i + T i i ≤ h ∧ 0 ≤ T i i ∧ T i i ≤ sumTo (T i) k := by
  have n1 : ∀ a, a < k → 0 ≤ sumTo (T a) k := fun a ha => sumTo_nonneg fun t ht => hT0 a ha t ht
  have n2 : ∀ a, a < k → 0 ≤ T a a := fun a ha => hT0 a ha a ha
  refine ⟨n1 i hi, sumTo_nonneg fun a ha => n1 a (by omega), ?_, sumTo_nonneg fun a ha => n2 a (by omega), ?_, n2 i hi, le_sumTo hi fun t ht => hT0 i hi t ht⟩
  · have := sumTo_mono (f := fun a => sumTo (T a) k) (m := i + 1) (n := k) hi n1
    rw [hS] at this
    exact this
  · have := sumTo_mono (f := fun a => T a a) (m := i + 1) (n := k) hi n2
    rw [hD] at this
    exact this
theorem q0_cells : (#[.bool (intNeg ((0 : Rat)).num), .int .u64 (natLo ((0 : Rat)).num.natAbs), .string (natMo ((0 : Rat)).num.natAbs), .int .u64 (natLo (keptDen ((0 : Rat)).den)), .string (natMo (keptDen ((0 : Rat)).den))] : Array Value) = #[.bool false, .int .u64 0, .string ⟨#[]⟩, .int .u64 0, .string ⟨#[]⟩] := by kernel_rfl
end Go.Proofs.YtimjnkfcnpfoeaaGreatDoor
