/-
  Contracts and laws: CurveP.
-/
import Derived.Test.YtimjnkfcnpfoeaaGreatDoorA43
set_option linter.unusedSimpArgs false
set_option linter.unusedVariables false
namespace Go.Proofs.YtimjnkfcnpfoeaaGreatDoor
theorem qint_nn {n : Nat} (h : 0 < n) : qint (n : Int) ≠ 0 := fun h0 => by
 unfold qint at h0
 have : (n : Int) = 0 := Rat.intCast_inj.1 (h0.trans rfl)
 omega
/-- what a pair of places adds, of any marks and numbers -/
def hw (t : Nat → Bool) (v : Nat → Rat) (i j : Nat) : Int := if t i && !t j then cmpQ (v i) (v j) + 1 else 0
/-- the points behind k of the sorted: how many are not, how many are -/
def ptsN (t : Nat → Bool) (v : Nat → Rat) (n : Nat) : Nat → List (Nat × Nat)
 | 0 => [(0, 0)]
 | k + 1 => ptsN t v n k ++ (if k + 1 = n ∨ v (k + 1) ≠ v k then [(k + 1 - cnt t (k + 1), cnt t (k + 1))] else [])
def lastP (l : List (Nat × Nat)) : Nat × Nat := l.getLast?.getD (0, 0)
/-- the double of what lies below the points' line -/
def trapN : List (Nat × Nat) → Int
 | p :: q :: l => ((q.1 : Int) - p.1) * (q.2 + p.2) + trapN (q :: l)
 | _ => 0
theorem lastP_snoc (l : List (Nat × Nat)) (p : Nat × Nat) : lastP (l ++ [p]) = p := by
 unfold lastP; simp
theorem trapN_snoc (p : Nat × Nat) : ∀ l : List (Nat × Nat), l ≠ [] → trapN (l ++ [p]) = trapN l + ((p.1 : Int) - (lastP l).1) * (p.2 + (lastP l).2)
 | [], h => absurd rfl h
 | [a], _ => by show _ + trapN [p] = _; simp [trapN, lastP]
 | a :: b :: l, _ => by
  have ih := trapN_snoc p (b :: l) (by simp)
  show _ + trapN (b :: l ++ [p]) = _ + trapN (b :: l) + _
  rw [ih]
  have : lastP (a :: b :: l) = lastP (b :: l) := by unfold lastP; simp
  rw [this]
  omega
theorem ptsN_ne (t : Nat → Bool) (v : Nat → Rat) (n : Nat) : ∀ k, ptsN t v n k ≠ []
 | 0 => by simp [ptsN]
 | k + 1 => by
  have := ptsN_ne t v n k
  unfold ptsN
  simp [this]
theorem sumTo_cong {f g : Nat → Int} : ∀ n, (∀ i, i < n → f i = g i) → sumTo f n = sumTo g n
 | 0, _ => rfl
 | n + 1, h => by
  show sumTo f n + f n = sumTo g n + g n
  rw [sumTo_cong n fun i hi => h i (by omega), h n (by omega)]
/-- a square of sums grows by a row, a column and a corner -/
theorem square_succ (h : Nat → Nat → Int) (k : Nat) : sumTo (fun a => sumTo (h a) (k + 1)) (k + 1) = sumTo (fun a => sumTo (h a) k) k + sumTo (fun a => h a k) k + sumTo (h k) k + h k k := by
 show sumTo (fun a => sumTo (h a) k + h a k) k + (sumTo (h k) k + h k k) = _
 rw [sumTo_add]
 omega
theorem cmpQ_self (a : Rat) : cmpQ a a = 0 := by unfold cmpQ; simp [Rat.lt_irrefl]
theorem cmpQ_below {a b : Rat} (h : a < b) : cmpQ a b = -1 := by unfold cmpQ; simp [h]
theorem cmpQ_above {a b : Rat} (h : b < a) : cmpQ a b = 1 := by
 unfold cmpQ
 rw [if_neg (Rat.not_lt.2 (Rat.le_of_lt h)), if_pos h]
theorem sum_yes (t : Nat → Bool) (c : Int) : ∀ k, sumTo (fun i => if t i then c else 0) k = c * cnt t k
 | 0 => by simp [sumTo, cnt]
 | k + 1 => by
  show sumTo (fun i => if t i then c else 0) k + (if t k then c else 0) = c * ((cnt t k + if t k then 1 else 0 : Nat) : Int)
  rw [sum_yes t c k]
  cases t k <;> simp [Int.mul_add]
theorem cnt_lek (t : Nat → Bool) : ∀ k, cnt t k ≤ k
 | 0 => Nat.le_refl _
 | k + 1 => by have := cnt_lek t k; unfold cnt; split <;> omega
theorem sum_no (t : Nat → Bool) (c : Int) : ∀ k, sumTo (fun i => if !t i then c else 0) k = c * (k - cnt t k : Nat)
 | 0 => by simp [sumTo, cnt]
 | k + 1 => by
  have hk := cnt_lek t k
  show sumTo (fun i => if !t i then c else 0) k + (if !t k then c else 0) = c * ((k + 1 - (cnt t k + if t k then 1 else 0) : Nat) : Int)
  rw [sum_no t c k]
  cases t k
  ·simp only [Bool.not_false, if_true, Bool.false_eq_true, if_false, Nat.add_zero]
   rw [show ((k + 1 - cnt t k : Nat) : Int) = ((k - cnt t k : Nat) : Int) + 1 by omega, Int.mul_add]
   omega
  ·simp
theorem cnt_split (t : Nat → Bool) (g : Nat) : ∀ k, g ≤ k → cnt t k = cnt t g + cnt (fun i => t (g + i)) (k - g)
  | 0, h => by obtain rfl : g = 0 := by omega
               rfl
  | k + 1, h => by
    rcases Nat.eq_or_lt_of_le h with rfl | h
    · simp [cnt]
    · have ih := cnt_split t g k (by omega)
      rw [show k + 1 - g = (k - g) + 1 by omega]
      show cnt t k + _ = _ + (cnt (fun i => t (g + i)) (k - g) + _)
      rw [ih]
      simp only [show g + (k - g) = k by omega]
      omega
theorem sumTo_split (f : Nat → Int) (g : Nat) : ∀ k, g ≤ k → sumTo f k = sumTo f g + sumTo (fun i => f (g + i)) (k - g)
  | 0, h => by obtain rfl : g = 0 := by omega
               rfl
  | k + 1, h => by
    rcases Nat.eq_or_lt_of_le h with rfl | h
    · simp [sumTo]
    · have ih := sumTo_split f g k (by omega)
      rw [show k + 1 - g = (k - g) + 1 by omega]
      show sumTo f k + _ = _ + (sumTo (fun i => f (g + i)) (k - g) + _)
      rw [ih]
      simp only [show g + (k - g) = k by omega]
      omega
/-- where the group at hand begins: all ahead are greater, all in it are alike -/
def GroupAt (t : Nat → Bool) (v : Nat → Rat) (n k g : Nat) : Prop :=
 g ≤ k ∧ lastP (ptsN t v n k) = (g - cnt t g, cnt t g) ∧ (∀ i j, i < g → g ≤ j → j < n → v j < v i) ∧ (∀ i, g ≤ i → i < k → v i = v g) ∧ (k < n → v k = v g)
theorem col_sum {t : Nat → Bool} {v : Nat → Rat} {n k g : Nat} (hk : k < n) (h : GroupAt t v n k g) :
  sumTo (fun a => hw t v a k) k + sumTo (hw t v k) k + hw t v k k = if t k then ((k - cnt t k : Nat) : Int) - ((g - cnt t g : Nat) : Int) else (cnt t k : Int) + cnt t g := by
 obtain ⟨h1, -, h3, h4, h5⟩ := h
 have h5 := h5 hk
 have hc : hw t v k k = 0 := by unfold hw; cases t k <;> simp
 rw [hc]
 cases htk : t k
 ·have e2 : sumTo (hw t v k) k = 0 := by
   rw [sumTo_cong (g := fun i => if t i then 0 else 0) k (fun i _ => by unfold hw; simp [htk])]
   rw [sum_yes]; simp
  have e1 : sumTo (fun a => hw t v a k) k = (cnt t k : Int) + cnt t g := by
   rw [sumTo_split _ g k h1, cnt_split t g k h1]
   rw [sumTo_cong (g := fun i => if t i then 2 else 0) g (fun i hi => by unfold hw; simp [htk, cmpQ_above (h3 i k hi h1 hk)])]
   rw [sumTo_cong (g := fun i => if t (g + i) then 1 else 0) (k - g) (fun i hi => by
    unfold hw
    rw [h4 (g + i) (by omega) (by omega), h5, cmpQ_self]
    simp [htk])]
   rw [sum_yes, sum_yes (fun i => t (g + i))]
   simp
   omega
  rw [e1, e2]
  simp
 ·have e1 : sumTo (fun a => hw t v a k) k = 0 := by
   rw [sumTo_cong (g := fun i => if t i then 0 else 0) k (fun i _ => by unfold hw; simp [htk])]
   rw [sum_yes]; simp
  have e2 : sumTo (hw t v k) k = ((k - cnt t k : Nat) : Int) - ((g - cnt t g : Nat) : Int) := by
   rw [sumTo_split _ g k h1]
   rw [sumTo_cong (g := fun i => if t i then 0 else 0) g (fun i hi => by unfold hw; simp [htk, cmpQ_below (h3 i k hi h1 hk)])]
   rw [sumTo_cong (g := fun i => if !t (g + i) then 1 else 0) (k - g) (fun i hi => by
    unfold hw
    rw [h4 (g + i) (by omega) (by omega), h5, cmpQ_self]
    simp [htk])]
   rw [sum_yes, sum_no (fun i => t (g + i))]
   have := cnt_split t g k h1
   have := cnt_lek t g
   have := cnt_lek (fun i => t (g + i)) (k - g)
   omega
  rw [e1, e2]
  simp
/-- the sorted from the greatest down: the pairs so far are the line's area so far and that of the open group -/
theorem curve_inv (t : Nat → Bool) (v : Nat → Rat) (n : Nat) (hs : ∀ i j, i < j → j < n → v j ≤ v i) : ∀ k, k ≤ n → (∃ g, GroupAt t v n k g) ∧
  sumTo (fun a => sumTo (hw t v a) k) k = trapN (ptsN t v n k) + (((k - cnt t k : Nat) : Int) - (lastP (ptsN t v n k)).1) * (cnt t k + (lastP (ptsN t v n k)).2)
 | 0, _ => ⟨⟨0, Nat.le_refl _, rfl, fun i j h => absurd h (Nat.not_lt_zero _), fun i _ h => absurd h (Nat.not_lt_zero _), fun _ => rfl⟩, by simp [sumTo, trapN, ptsN, lastP, cnt]⟩
 | k + 1, hk => by
  obtain ⟨⟨g, hg⟩, ih⟩ := curve_inv t v n hs k (by omega)
  have hcs := col_sum (by omega) hg
  have hn := cnt_lek t k
  have hn1 := cnt_lek t (k + 1)
  have hng := cnt_lek t g
  obtain ⟨g1, g2, g3, g4, g5⟩ := hg
  have g5 := g5 (by omega)
  rw [square_succ, Int.add_assoc, Int.add_assoc, ← Int.add_assoc (sumTo (fun a => hw t v a k) k), hcs, ih]
  rw [g2]
  have hmid : trapN (ptsN t v n k) + (((k - cnt t k : Nat) : Int) - ((g - cnt t g : Nat) : Int)) * (cnt t k + cnt t g) + (if t k then ((k - cnt t k : Nat) : Int) - ((g - cnt t g : Nat) : Int) else (cnt t k : Int) + cnt t g) =
    trapN (ptsN t v n k) + (((k + 1 - cnt t (k + 1) : Nat) : Int) - ((g - cnt t g : Nat) : Int)) * (cnt t (k + 1) + cnt t g) := by
   have e : cnt t (k + 1) = cnt t k + if t k then 1 else 0 := rfl
   rw [e]
   cases t k
   ·simp only [Bool.false_eq_true, if_false, Nat.add_zero]
    rw [show ((k + 1 - cnt t k : Nat) : Int) = ((k - cnt t k : Nat) : Int) + 1 by omega]
    grind
   ·simp only [if_true]
    rw [show ((k + 1 - (cnt t k + 1) : Nat) : Int) = ((k - cnt t k : Nat) : Int) by omega]
    grind
  by_cases hb : k + 1 = n ∨ v (k + 1) ≠ v k
  ·have e : ptsN t v n (k + 1) = ptsN t v n k ++ [(k + 1 - cnt t (k + 1), cnt t (k + 1))] := by
    show ptsN t v n k ++ _ = _
    rw [if_pos hb]
   rw [e, trapN_snoc _ _ (ptsN_ne _ _ _ _), lastP_snoc, g2]
   refine ⟨⟨k + 1, Nat.le_refl _, by rw [e, lastP_snoc], fun i j hi hj hjn => ?_, fun i h1 h2 => by omega, fun _ => rfl⟩, ?_⟩
   ·have hlt : v (k + 1) < v k := by
     have hne : v (k + 1) ≠ v k := hb.resolve_left (by omega)
     have := hs k (k + 1) (by omega) (by omega)
     grind
    have h1 : v j ≤ v (k + 1) := by
     rcases Nat.eq_or_lt_of_le hj with rfl | h
     ·exact Rat.le_refl
     ·exact hs _ _ h hjn
    have h2 : v k ≤ v i := by
     rcases Nat.eq_or_lt_of_le (show i ≤ k by omega) with rfl | h
     ·exact Rat.le_refl
     ·exact hs _ _ h (by omega)
    grind
   ·rw [hmid]
    simp
  ·have e : ptsN t v n (k + 1) = ptsN t v n k := by
    show ptsN t v n k ++ _ = _
    rw [if_neg hb, List.append_nil]
   rw [e, g2]
   refine ⟨⟨g, by omega, by rw [e, g2], g3, fun i h1 h2 => ?_, fun h => ?_⟩, ?_⟩
   ·rcases Nat.eq_or_lt_of_le (show i ≤ k by omega) with rfl | h
    ·exact g5
    ·exact g4 i h1 h
   ·have : v (k + 1) = v k := by
     by_cases hv : v (k + 1) = v k
     ·exact hv
     ·exact absurd (Or.inr hv) hb
    rw [this, g5]
   ·rw [hmid]
theorem curve_end {t : Nat → Bool} {v : Nat → Rat} {n : Nat} (hn : 0 < n) : lastP (ptsN t v n n) = (n - cnt t n, cnt t n) := by
 obtain ⟨m, rfl⟩ : ∃ m, n = m + 1 := ⟨n - 1, by omega⟩
 show lastP (ptsN t v (m + 1) m ++ _) = _
 rw [if_pos (Or.inl rfl), lastP_snoc]
/-- the points' area is the pairs' -/
theorem curve_area {t : Nat → Bool} {v : Nat → Rat} {n : Nat} (hn : 0 < n) (hs : ∀ i j, i < j → j < n → v j ≤ v i) : sumTo (fun a => sumTo (hw t v a) n) n = trapN (ptsN t v n n) := by
 have := (curve_inv t v n hs n (Nat.le_refl _)).2
 rw [curve_end hn] at this
 rw [this]
 simp
def isum : List Int → Int
 | [] => 0
 | x :: l => x + isum l
theorem isum_perm {l l' : List Int} (h : l.Perm l') : isum l = isum l' := by
 induction h with
 | nil => rfl
 | cons x _ ih => show x + _ = x + _; rw [ih]
 | swap x y l => show y + (x + isum l) = x + (y + isum l); omega
 | trans _ _ h1 h2 => exact h1.trans h2
theorem isum_snoc (x : Int) : ∀ l, isum (l ++ [x]) = isum l + x
 | [] => by simp [isum]
 | y :: l => by show y + isum (l ++ [x]) = y + isum l + x; rw [isum_snoc x l]; omega
theorem sumTo_isum (f : Nat → Int) : ∀ n, sumTo f n = isum ((List.range n).map f)
 | 0 => rfl
 | n + 1 => by rw [List.range_succ, List.map_append, List.map_singleton, isum_snoc, ← sumTo_isum f n]; rfl
/-- the place at a place of a list of places -/
def at0 (o : List Nat) (i : Nat) : Nat := o[i]?.getD 0
theorem map_at0 (o : List Nat) : (List.range o.length).map (at0 o) = o := by
 apply List.ext_getElem
 ·simp
 ·intro i h1 h2
  simp [at0, h2]
theorem sumTo_perm {o : List Nat} {n : Nat} (h : o.Perm (List.range n)) (f : Nat → Int) : sumTo (fun i => f (at0 o i)) n = sumTo f n := by
 have hl : o.length = n := by rw [h.length_eq, List.length_range]
 rw [sumTo_isum, sumTo_isum]
 have e : (List.range n).map (fun i => f (at0 o i)) = o.map f := by
  rw [← hl]
  conv => rhs; rw [← map_at0 o]
  rw [List.map_map]
  rfl
 rw [e]
 exact isum_perm (h.map f)
theorem cnt_sum (t : Nat → Bool) : ∀ n, (cnt t n : Int) = sumTo (fun i => if t i then 1 else 0) n := fun n => by
 rw [sum_yes]; simp
theorem cnt_perm {o : List Nat} {n : Nat} (h : o.Perm (List.range n)) (t : Nat → Bool) : cnt (fun i => t (at0 o i)) n = cnt t n := by
 have e := sumTo_perm h (fun i => if t i then 1 else 0)
 have e1 := cnt_sum (fun i => t (at0 o i)) n
 have e2 := cnt_sum t n
 omega
/-- an order of the places from the greatest number down -/
def Down (l : List Rat) (n : Nat) (o : List Nat) : Prop := o.Perm (List.range n) ∧ ∀ i j, i < j → j < n → gq l (at0 o j) ≤ gq l (at0 o i)
/-- the curve's points at an order, whole numbers -/
def ptsO (is : List Bool) (l : List Rat) (n : Nat) (o : List Nat) : List (Nat × Nat) := ptsN (fun i => gb is (at0 o i)) (fun i => gq l (at0 o i)) n n
theorem halves_trap {is : List Bool} {l : List Rat} {n : Nat} {o : List Nat} (hn : 0 < n) (h : Down l n o) : halves is l n = trapN (ptsO is l n o) := by
 rw [ptsO, ← curve_area hn h.2]
 have e : ∀ a, sumTo (hw (fun i => gb is (at0 o i)) (fun i => gq l (at0 o i)) a) n = sumTo (hv is l (at0 o a)) n := fun a => sumTo_perm h.1 (hv is l (at0 o a))
 rw [sumTo_cong n fun a _ => e a]
 exact (sumTo_perm h.1 fun a => sumTo (hv is l a) n).symm
theorem pts_end {is : List Bool} {l : List Rat} {n : Nat} {o : List Nat} (hn : 0 < n) (h : Down l n o) : lastP (ptsO is l n o) = (n - yesN is n, yesN is n) := by
 rw [ptsO, curve_end hn, cnt_perm h.1 (gb is)]
 rfl
theorem pts_sorted (t : Nat → Bool) (v : Nat → Rat) (n : Nat) : ∀ k, (ptsN t v n k).Pairwise (fun p q => p.1 ≤ q.1 ∧ p.2 ≤ q.2) ∧ ∀ p ∈ ptsN t v n k, p.1 ≤ k - cnt t k ∧ p.2 ≤ cnt t k
 | 0 => by simp [ptsN]
 | k + 1 => by
  obtain ⟨h1, h2⟩ := pts_sorted t v n k
  have hk := cnt_lek t k
  have hc : cnt t (k + 1) = cnt t k + if t k then 1 else 0 := rfl
  have hm : k - cnt t k ≤ k + 1 - cnt t (k + 1) ∧ cnt t k ≤ cnt t (k + 1) := by rw [hc]; split <;> omega
  unfold ptsN
  split
  ·constructor
   ·rw [List.pairwise_append]
    refine ⟨h1, by simp, fun p hp q hq => ?_⟩
    have := h2 p hp
    simp only [List.mem_singleton] at hq
    subst hq
    simp only
    omega
   ·intro p hp
    rcases List.mem_append.1 hp with hp | hp
    ·have := h2 p hp; omega
    ·simp only [List.mem_singleton] at hp
     subst hp
     exact ⟨Nat.le_refl _, Nat.le_refl _⟩
  ·rw [List.append_nil]
   exact ⟨h1, fun p hp => by have := h2 p hp; omega⟩
def gp (l : List (Nat × Nat)) (i : Nat) : Nat × Nat := l[i]?.getD (0, 0)
theorem trapN_sum : ∀ l : List (Nat × Nat), trapN l = sumTo (fun i => (((gp l (i + 1)).1 : Int) - (gp l i).1) * ((gp l (i + 1)).2 + (gp l i).2)) (l.length - 1)
 | [] => rfl
 | [_] => rfl
 | p :: q :: l => by
  have ih := trapN_sum (q :: l)
  show _ + trapN (q :: l) = sumTo _ (l.length + 1)
  rw [ih, sumTo_split _ 1 (l.length + 1) (by omega)]
  show _ = (0 + _) + _
  rw [Int.zero_add]
  congr 1
  simp only [List.length_cons, Nat.add_sub_cancel]
  refine sumTo_cong _ fun i _ => ?_
  have e : ∀ j, gp (p :: q :: l) (1 + j) = gp (q :: l) j := fun j => by rw [Nat.add_comm]; rfl
  rw [show 1 + i + 1 = 1 + (i + 1) by omega, e, e]
/-- one step of the law's sum -/
def stepQ (a b : Nat) (p q : Nat × Nat) : Rat := qmul (qsub (qover (q.1 : Nat) a) (qover (p.1 : Nat) a)) (qdiv (qadd (qover (q.2 : Nat) b) (qover (p.2 : Nat) b)) (qint 2))
theorem qover_mul {a : Nat} (ha : 0 < a) (x : Nat) : qover (x : Int) (a : Int) = (x : Int) * (qint a)⁻¹ := by
 unfold qover qint
 rw [Rat.divInt_eq_div, Rat.div_def]
theorem step_eq {a b : Nat} (ha : 0 < a) (hb : 0 < b) (p q : Nat × Nat) : stepQ a b p q = (((((q.1 : Int) - p.1) * (q.2 + p.2) : Int)) : Rat) * ((qint a)⁻¹ * (qint b)⁻¹ * (qint 2)⁻¹) := by
 unfold stepQ
 rw [qover_mul ha, qover_mul ha, qover_mul hb, qover_mul hb]
 unfold qmul qsub qdiv qadd
 rw [Rat.div_def, Rat.intCast_mul, Rat.intCast_sub, Rat.intCast_add]
 grind
theorem qsum_int (g : Nat → Int) (c : Rat) : ∀ n, qsum (fun i => (g i : Rat) * c) n = ((sumTo g n : Int) : Rat) * c
 | 0 => by show (0 : Rat) = ((0 : Int) : Rat) * c; rw [show ((0 : Int) : Rat) = 0 from rfl]; grind
 | n + 1 => by
  show qadd (qsum _ n) _ = ((sumTo g n + g n : Int) : Rat) * c
  rw [qsum_int g c n, Rat.intCast_add]
  unfold qadd
  grind
theorem qsum_cg {f g : Nat → Rat} : ∀ n, (∀ i, i < n → f i = g i) → qsum f n = qsum g n
 | 0, _ => rfl
 | n + 1, h => by
  show qadd (qsum f n) (f n) = qadd (qsum g n) (g n)
  rw [qsum_cg n fun i hi => h i (by omega), h n (by omega)]
theorem area_den {a b : Nat} (ha : 0 < a) (hb : 0 < b) (z : Int) : qdiv (qint z) (qadd (qmul (qint (a : Nat)) (qint (b : Nat))) (qmul (qint (a : Nat)) (qint (b : Nat)))) = (z : Rat) * ((qint a)⁻¹ * (qint b)⁻¹ * (qint 2)⁻¹) := by
 have h1 := qint_nn ha
 have h2 := qint_nn hb
 have h3 : qint 2 ≠ 0 := qint_nn (n := 2) (by omega)
 have e : qadd (qmul (qint a) (qint b)) (qmul (qint a) (qint b)) = qint a * qint b * qint 2 := by
  unfold qadd qmul
  rw [show qint 2 = 2 from rfl]
  grind
 rw [e]
 unfold qdiv
 rw [Rat.div_def, Rat.inv_mul_rev, Rat.inv_mul_rev]
 show qint z * _ = qint z * _
 grind
/-- the area is what lies below the line -/
theorem area_trap {is : List Bool} {l : List Rat} {n : Nat} {o : List Nat} (hy : 0 < yesN is n) (hno : yesN is n < n) (h : Down l n o) :
  qsum (fun i => stepQ (n - yesN is n) (yesN is n) (gp (ptsO is l n o) i) (gp (ptsO is l n o) (i + 1))) ((ptsO is l n o).length - 1) = areaQ is l n := by
 rw [areaQ, area_den (by omega) hy, halves_trap (by omega) h, trapN_sum]
 rw [qsum_cg _ fun i _ => step_eq (by omega) hy _ _]
 exact qsum_int _ _ _
/-- numbers in the same order have the same area -/
theorem area_same {is : List Bool} {l l' : List Rat} {n : Nat} (h : ∀ i j, i < n → j < n → cmpQ (gq l' i) (gq l' j) = cmpQ (gq l i) (gq l j)) : areaQ is l' n = areaQ is l n := by
 have e : halves is l' n = halves is l n := by
  unfold halves
  refine sumTo_cong n fun a ha => sumTo_cong n fun b hb => ?_
  unfold hv
  rw [h a b ha hb]
 rw [areaQ, areaQ, e]
theorem cmpQ_affine (c m : Rat) (hc : 0 < c) (a b : Rat) : cmpQ (qadd (qmul a c) m) (qadd (qmul b c) m) = cmpQ a b := by
 have h : ∀ a b : Rat, qadd (qmul a c) m < qadd (qmul b c) m ↔ a < b := fun a b => by
  unfold qadd qmul
  have := @Rat.mul_lt_mul_right a b c hc
  grind
 unfold cmpQ
 simp only [h]
theorem cmpQ_neg (a b : Rat) : cmpQ (qneg a) (qneg b) = - cmpQ a b := by
 have h : ∀ a b : Rat, qneg a < qneg b ↔ b < a := fun a b => by unfold qneg; grind
 unfold cmpQ
 simp only [h]
 by_cases h1 : a < b
 ·have h2 : ¬ b < a := by grind
  simp [h1, h2]
 ·by_cases h2 : b < a <;> simp [h1, h2]
theorem pairs_sum (t : Nat → Bool) (n : Nat) : sumTo (fun a => sumTo (fun b => if t a && !t b then 2 else 0) n) n = 2 * (cnt t n : Int) * ((n - cnt t n : Nat) : Int) := by
 have e : ∀ a, sumTo (fun b => if t a && !t b then (2 : Int) else 0) n = if t a then 2 * ((n - cnt t n : Nat) : Int) else 0 := fun a => by
  cases t a
  ·rw [sumTo_cong (g := fun i => if t i then 0 else 0) n (fun i _ => by simp), sum_yes]; simp
  ·rw [sumTo_cong (g := fun i => if !t i then 2 else 0) n (fun i _ => by simp), sum_no]; simp
 rw [sumTo_cong n fun a _ => e a, sum_yes]
 grind
/-- turned round it is the rest to 1 -/
theorem area_turn {is : List Bool} {l l' : List Rat} {n : Nat} (hy : 0 < yesN is n) (hno : yesN is n < n) (h : ∀ i j, i < n → j < n → cmpQ (gq l' i) (gq l' j) = - cmpQ (gq l i) (gq l j)) : qadd (areaQ is l' n) (areaQ is l n) = qint 1 := by
 have e : halves is l' n + halves is l n = 2 * (yesN is n : Int) * ((n - yesN is n : Nat) : Int) := by
  unfold halves
  rw [← sumTo_add]
  rw [sumTo_cong n fun a ha => (sumTo_add (hv is l' a) (hv is l a) n).symm]
  refine Eq.trans ?_ (pairs_sum (gb is) n)
  refine sumTo_cong n fun a ha => sumTo_cong n fun b hb => ?_
  unfold hv
  rw [h a b ha hb]
  split <;> omega
 rw [areaQ, areaQ, area_den (by omega) hy, area_den (by omega) hy]
 unfold qadd
 rw [← Rat.add_mul, ← Rat.intCast_add, e, Rat.intCast_mul, Rat.intCast_mul]
 have h1 := Rat.mul_inv_cancel _ (qint_nn hy)
 have h2 := Rat.mul_inv_cancel _ (qint_nn (n := n - yesN is n) (by omega))
 have h3 : qint 2 * (qint 2)⁻¹ = 1 := Rat.mul_inv_cancel _ (qint_nn (n := 2) (by omega))
 show qint 2 * qint (yesN is n) * qint ((n - yesN is n : Nat)) * _ = 1
 generalize (qint (yesN is n))⁻¹ = A at *
 generalize (qint ((n - yesN is n : Nat)))⁻¹ = B at *
 generalize (qint 2)⁻¹ = C at *
 grind
end Go.Proofs.YtimjnkfcnpfoeaaGreatDoor
