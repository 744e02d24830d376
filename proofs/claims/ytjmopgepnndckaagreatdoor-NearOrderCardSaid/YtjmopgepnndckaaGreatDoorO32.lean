/-
  Contracts and laws: NearP.
-/
import Derived.Test.YtjmopgepnndckaaGreatDoorO31
set_option linter.unusedSimpArgs false
set_option linter.unusedVariables false
namespace Go.Proofs.YtjmopgepnndckaaGreatDoor
def cmpI (a b : Int) : Int := if a < b then -1 else if b < a then 1 else 0
/-- a hit: the row's number, how far it is -/
abbrev Ht := Nat × Rat
/-- two hits, by how far, then by their numbers -/
def cmpNr (a b : Nat) : Int := if a < b then -1 else if b < a then 1 else 0
def cmpH (a b : Ht) : Int := if cmpQ a.2 b.2 ≠ 0 then cmpQ a.2 b.2 else cmpNr a.1 b.1
def leH (a b : Ht) : Prop := a.2 < b.2 ∨ (a.2 = b.2 ∧ a.1 ≤ b.1)
theorem leH_trans {a b c : Ht} (h1 : leH a b) (h2 : leH b c) : leH a c := by
 unfold leH at *
 rcases h1 with h1 | ⟨h1, h3⟩ <;> rcases h2 with h2 | ⟨h2, h4⟩
 ·left; grind
 ·left; grind
 ·left; grind
 ·right; exact ⟨h1.trans h2, Nat.le_trans h3 h4⟩
theorem leH_total (a b : Ht) : leH a b ∨ leH b a := by
 unfold leH
 by_cases h1 : a.2 < b.2
 ·exact .inl (.inl h1)
 ·by_cases h2 : b.2 < a.2
  ·exact .inr (.inl h2)
  ·have e : a.2 = b.2 := by grind
   rcases Nat.le_total a.1 b.1 with h | h
   ·exact .inl (.inr ⟨e, h⟩)
   ·exact .inr (.inr ⟨e.symm, h⟩)
theorem leH_anti {a b : Ht} (h1 : leH a b) (h2 : leH b a) : a = b := by
 unfold leH at *
 rcases h1 with h1 | ⟨h1, h3⟩ <;> rcases h2 with h2 | ⟨h2, h4⟩
 ·exact absurd h1 (by grind)
 ·exact absurd h1 (by grind)
 ·exact absurd h2 (by grind)
 ·exact Prod.ext (Nat.le_antisymm h3 h4) h1
theorem hits_uniq {l l' : List Ht} (hp : l.Perm l') (h1 : l.Pairwise leH) (h2 : l'.Pairwise leH) : l = l' :=
 List.Perm.eq_of_pairwise (le := leH) (fun a b _ _ h1 h2 => leH_anti h1 h2) h1 h2 hp
/-- all rows' hits -/
def hitsTo (f : Nat → Rat) (n : Nat) : List Ht := (List.range n).map fun i => (i, f i)
theorem cmpH_lt (a b : Ht) : cmpH a b < 0 ↔ ¬ leH b a := by
 unfold cmpH cmpQ cmpNr leH
 by_cases h1 : a.2 < b.2
 ·have h2 : ¬ b.2 < a.2 := by grind
  have h3 : b.2 ≠ a.2 := by grind
  simp [h1, h2, h3]
 ·by_cases h2 : b.2 < a.2
  ·simp [h1, h2]
  ·have e : a.2 = b.2 := by grind
   simp [e, Rat.lt_irrefl]
   by_cases h4 : a.1 < b.1
   ·simp [h4]
   ·by_cases h5 : b.1 < a.1 <;> simp [h4, h5] <;> omega
instance (a b : Ht) : Decidable (leH a b) := by unfold leH; infer_instance
/-- hits in order -/
def srt (l : List Ht) : List Ht := l.mergeSort fun a b => decide (leH a b)
theorem srt_perm (l : List Ht) : (srt l).Perm l := List.mergeSort_perm l _
theorem srt_sorted (l : List Ht) : (srt l).Pairwise leH := by
 have h := List.pairwise_mergeSort (le := fun a b : Ht => decide (leH a b)) (fun a b c h1 h2 => decide_eq_true (leH_trans (of_decide_eq_true h1) (of_decide_eq_true h2))) (fun a b => by
  rcases leH_total a b with h | h <;> simp [h]) l
 exact h.imp fun h => of_decide_eq_true h
theorem srt_uniq {l l' : List Ht} (hp : l'.Perm l) (hs : l'.Pairwise leH) : l' = srt l := hits_uniq (hp.trans (srt_perm l).symm) hs (srt_sorted l)
theorem srt_congr {l l' : List Ht} (hp : l'.Perm l) : srt l' = srt l := srt_uniq ((srt_perm l').trans hp) (srt_sorted l')
/-- a hit in its place -/
def insS (h : Ht) : List Ht → List Ht
 | [] => [h]
 | x :: l => if leH h x then h :: x :: l else x :: insS h l
theorem insS_perm (h : Ht) : ∀ l, (insS h l).Perm (h :: l)
 | [] => List.Perm.refl _
 | x :: l => by
  unfold insS
  split
  ·exact List.Perm.refl _
  ·exact ((insS_perm h l).cons x).trans (List.Perm.swap h x l)
theorem insS_sorted (h : Ht) : ∀ l : List Ht, l.Pairwise leH → (insS h l).Pairwise leH
 | [], _ => by simp [insS]
 | x :: l, hs => by
  rw [List.pairwise_cons] at hs
  unfold insS
  split
  ·rename_i hlt
   rw [List.pairwise_cons, List.pairwise_cons]
   refine ⟨fun y hy => ?_, hs⟩
   rcases List.mem_cons.1 hy with rfl | hy
   ·exact hlt
   ·exact leH_trans hlt (hs.1 y hy)
  ·rename_i hlt
   rw [List.pairwise_cons]
   refine ⟨fun y hy => ?_, insS_sorted h l hs.2⟩
   rcases List.mem_cons.1 ((insS_perm h l).mem_iff.1 hy) with rfl | hy
   ·exact (leH_total x y).resolve_right hlt
   ·exact hs.1 y hy
theorem insS_srt (h : Ht) (l : List Ht) : insS h (srt l) = srt (h :: l) :=
 srt_uniq ((insS_perm h _).trans ((srt_perm l).cons h)) (insS_sorted h _ (srt_sorted l))
/-- inserting into the first k is enough -/
theorem insS_take (h : Ht) : ∀ (l : List Ht) (k : Nat), (insS h (l.take k)).take k = (insS h l).take k
 | [], k => by simp
 | x :: l, 0 => by simp
 | x :: l, k + 1 => by
  rw [List.take_succ_cons]
  unfold insS
  split
  ·rw [List.take_succ_cons, List.take_succ_cons]
   cases k with
   | zero => rfl
   | succ k => rw [List.take_succ_cons, List.take_succ_cons, List.take_take, Nat.min_eq_left (Nat.le_succ k)]
  ·rw [List.take_succ_cons, List.take_succ_cons, insS_take h l k]
/-- the k best -/
def best (k : Nat) (l : List Ht) : List Ht := (srt l).take k
theorem best_cons (k : Nat) (h : Ht) (l : List Ht) : best k (h :: l) = (insS h (best k l)).take k := by
 unfold best
 rw [insS_take, insS_srt]
theorem best_congr (k : Nat) {l l' : List Ht} (hp : l'.Perm l) : best k l' = best k l := by unfold best; rw [srt_congr hp]
/-- one that is farther than all of k changes nothing -/
theorem insS_far (h : Ht) : ∀ l : List Ht, (∀ x ∈ l, ¬ leH h x) → insS h l = l ++ [h]
 | [], _ => rfl
 | x :: l, hf => by
  unfold insS
  rw [if_neg (hf x (List.mem_cons_self)), insS_far h l fun y hy => hf y (List.mem_cons_of_mem _ hy)]
  rfl
theorem best_far (k : Nat) (h : Ht) (l : List Ht) (hk : (best k l).length = k) (hf : ∀ x ∈ best k l, x.2 < h.2) : best k (h :: l) = best k l := by
 rw [best_cons, insS_far h _ (fun x hx hle => by
  have := hf x hx
  unfold leH at hle
  rcases hle with h1 | ⟨h1, _⟩ <;> grind), List.take_append_of_le_length (by omega), List.take_of_length_le (by omega)]
theorem best_prune (k : Nat) : ∀ (T l : List Ht), (best k l).length = k → (∀ h ∈ T, ∀ x ∈ best k l, x.2 < h.2) → best k (T ++ l) = best k l
 | [], _, _, _ => rfl
 | h :: T, l, hk, hf => by
  have ih := best_prune k T l hk fun y hy => hf y (List.mem_cons_of_mem _ hy)
  rw [List.cons_append, best_far k h _ (by rw [ih]; exact hk) (by rw [ih]; exact hf h List.mem_cons_self), ih]
theorem best_len (k : Nat) (l : List Ht) : (best k l).length = min k l.length := by
 unfold best
 rw [List.length_take, (srt_perm l).length_eq]
theorem best_sorted (k : Nat) (l : List Ht) : (best k l).Pairwise leH := (srt_sorted l).take
/-- where all that are in question are no farther than the last -/
theorem last_far {l : List Ht} (hs : l.Pairwise leH) {x : Ht} (hx : x ∈ l) (hne : l ≠ []) : x.2 ≤ (l.getLast hne).2 := by
 induction l with
 | nil => cases hx
 | cons a l ih =>
  rw [List.pairwise_cons] at hs
  by_cases h0 : l = []
  ·subst h0
   simp only [List.mem_singleton] at hx
   subst hx
   exact Rat.le_refl
  ·rw [List.getLast_cons h0]
   rcases List.mem_cons.1 hx with rfl | hx
   ·have := hs.1 _ (List.getLast_mem h0)
    unfold leH at this
    rcases this with h | ⟨h, _⟩ <;> grind
   ·exact ih hs.2 hx h0
/-- a tree: nothing, or a row, the column that divides, what is below -/
inductive KT where
 | none : KT
 | node (row col : Nat) (l r : KT) : KT
def KT.size : KT → Nat
 | .none => 0
 | .node _ _ l r => l.size + r.size + 1
def KT.rows : KT → List Nat
 | .none => []
 | .node r _ a b => r :: (a.rows ++ b.rows)
def KT.deep : KT → Nat
 | .none => 0
 | .node _ _ .none .none => 0
 | .node _ _ .none b => b.deep + 1
 | .node _ _ a .none => a.deep + 1
 | .node _ _ a b => max (a.deep + 1) (b.deep + 1)
/-- rows' entries -/
def ent (X : List (List Rat)) (i c : Nat) : Rat := ((X[i]?).getD []).getD c 0
/-- each row stands on its side of each node above it -/
def KT.ok (X : List (List Rat)) : KT → Prop
 | .none => True
 | .node r c a b => a.ok X ∧ b.ok X ∧ (∀ i ∈ a.rows, ent X i c ≤ ent X r c) ∧ ∀ i ∈ b.rows, ent X r c ≤ ent X i c
/-- how far a row is -/
def farI (X : List (List Rat)) (q : List Rat) (w i : Nat) : Rat := qsum (fun c => qmul (qsub (ent X i c) (q.getD c 0)) (qsub (ent X i c) (q.getD c 0))) w
def hitI (X : List (List Rat)) (q : List Rat) (w i : Nat) : Ht := (i, farI X q w i)
theorem sqr_nn (x : Rat) : 0 ≤ x * x := by
 by_cases h : 0 ≤ x
 ·exact Rat.mul_nonneg h h
 ·have := Rat.mul_nonneg (a := -x) (b := -x) (by grind) (by grind)
  grind
theorem qsum_term {f : Nat → Rat} (h : ∀ i, 0 ≤ f i) {c : Nat} : ∀ w, c < w → f c ≤ qsum f w
 | 0, hc => by omega
 | w + 1, hc => by
  have hn : ∀ n, 0 ≤ qsum f n := fun n => by
   induction n with
   | zero => exact Rat.le_refl
   | succ n ih => have := h n; show 0 ≤ qadd (qsum f n) (f n); unfold qadd; grind
  show f c ≤ qadd (qsum f w) (f w)
  unfold qadd
  by_cases e : c = w
  ·subst e
   have := hn c
   grind
  ·have := qsum_term h (c := c) w (by omega)
   have := h w
   grind
theorem far_gap {X : List (List Rat)} {q : List Rat} {w c i r : Nat} (hc : c < w) (h : (0 < q.getD c 0 - ent X r c ∧ ent X i c ≤ ent X r c) ∨ (q.getD c 0 - ent X r c ≤ 0 ∧ ent X r c ≤ ent X i c)) :
  (q.getD c 0 - ent X r c) * (q.getD c 0 - ent X r c) ≤ farI X q w i := by
 have h1 := qsum_term (f := fun c => qmul (qsub (ent X i c) (q.getD c 0)) (qsub (ent X i c) (q.getD c 0))) (fun j => sqr_nn _) w hc
 refine Rat.le_trans ?_ h1
 show _ ≤ (ent X i c - q.getD c 0) * (ent X i c - q.getD c 0)
 generalize q.getD c 0 = Q at *
 generalize ent X r c = P at *
 generalize ent X i c = Y at *
 have key : ∀ a b : Rat, 0 ≤ a → a ≤ b → a * a ≤ b * b := fun a b h1 h2 => by
  have e1 := Rat.mul_le_mul_of_nonneg_left h2 h1
  have e2 := Rat.mul_le_mul_of_nonneg_right h2 (Rat.le_trans h1 h2)
  exact Rat.le_trans e1 e2
 rcases h with ⟨g1, g2⟩ | ⟨g1, g2⟩
 ·have := key (Q - P) (Q - Y) (by grind) (by grind)
  grind
 ·have := key (P - Q) (Y - Q) (by grind) (by grind)
  grind
/-- one hit taken in: not where it is too far; at most keep -/
def takeH (most : List Ht → Option Rat) (keep : Nat) (h : Ht) (hs : List Ht) : List Ht :=
 match most hs with
 | some m => if m < h.2 then hs else (insS h hs).take keep
 | none => (insS h hs).take keep
/-- the search: the side that q lies on first -/
def visitT (X : List (List Rat)) (q : List Rat) (w : Nat) (most : List Ht → Option Rat) (keep : Nat) : KT → List Ht × Nat → List Ht × Nat
 | .none, s => s
 | .node r c a b, s =>
  let s1 := (takeH most keep (hitI X q w r) s.1, s.2 + 1)
  if 0 < q.getD c 0 - ent X r c then
   let s2 := visitT X q w most keep b s1
   match most s2.1 with
   | some m => if (q.getD c 0 - ent X r c) * (q.getD c 0 - ent X r c) ≤ m then visitT X q w most keep a s2 else s2
   | none => visitT X q w most keep a s2
  else
   let s2 := visitT X q w most keep a s1
   match most s2.1 with
   | some m => if (q.getD c 0 - ent X r c) * (q.getD c 0 - ent X r c) ≤ m then visitT X q w most keep b s2 else s2
   | none => visitT X q w most keep b s2
/-- the bound of the k nearest -/
def mostK (k : Nat) (hs : List Ht) : Option Rat := if hs.length < k then none else hs.getLast?.map (·.2)
theorem mostK_some {k : Nat} (hk : 0 < k) {S : List Ht} {m : Rat} (h : mostK k (best k S) = some m) : (best k S).length = k ∧ ∀ x ∈ best k S, x.2 ≤ m := by
 unfold mostK at h
 split at h
 ·cases h
 ·rename_i hlt
  have hl := best_len k S
  have hne : best k S ≠ [] := fun e => by rw [e] at hlt; simp at hlt; omega
  rw [List.getLast?_eq_some_getLast hne] at h
  simp only [Option.map_some, Option.some.injEq] at h
  refine ⟨by omega, fun x hx => ?_⟩
  rw [← h]
  exact last_far (best_sorted k S) hx hne
theorem take_best {k : Nat} (hk : 0 < k) (h : Ht) (S : List Ht) : takeH (mostK k) k h (best k S) = best k (h :: S) := by
 unfold takeH
 cases hm : mostK k (best k S) with
 | none => exact (best_cons k h S).symm
 | some m =>
  obtain ⟨h1, h2⟩ := mostK_some hk hm
  simp only
  split
  ·rename_i hlt
   exact (best_far k h S h1 fun x hx => by have := h2 x hx; grind).symm
  ·exact (best_cons k h S).symm
def KT.hits (X : List (List Rat)) (q : List Rat) (w : Nat) (t : KT) : List Ht := t.rows.map (hitI X q w)
/-- each node's column is one of the rows' -/
def KT.cols (w : Nat) : KT → Prop
 | .none => True
 | .node _ c a b => c < w ∧ a.cols w ∧ b.cols w
theorem other_perm {α : Type} (h : α) (A B S : List α) : (A ++ (B ++ h :: S)).Perm (h :: (A ++ B) ++ S) := by
 have : (A ++ (B ++ h :: S)).Perm (h :: (A ++ (B ++ S))) := by
  rw [← List.append_assoc, ← List.append_assoc]
  exact List.perm_middle
 simpa using this
theorem other_perm2 {α : Type} (h : α) (A B S : List α) : (B ++ (A ++ h :: S)).Perm (h :: (A ++ B) ++ S) := by
 refine (other_perm h B A S).trans ?_
 refine List.Perm.cons h ?_
 exact (List.perm_append_comm).append_right S
/-- THE SEARCH: after a tree the k best of all that were and of its rows -/
theorem visit_best (X : List (List Rat)) (q : List Rat) (w k : Nat) (hk : 0 < k) : ∀ (t : KT) (S : List Ht) (n : Nat), t.ok X → t.cols w → (visitT X q w (mostK k) k t (best k S, n)).1 = best k (t.hits X q w ++ S)
 | .none, S, n, _, _ => rfl
 | .node r c a b, S, n, ⟨ha, hb, hl, hr⟩, ⟨hc, hca, hcb⟩ => by
  unfold visitT
  simp only
  rw [take_best hk]
  have e : KT.hits X q w (.node r c a b) = hitI X q w r :: (a.hits X q w ++ b.hits X q w) := by unfold KT.hits; show List.map _ (r :: (a.rows ++ b.rows)) = _; simp
  rw [e]
  by_cases hg : 0 < q.getD c 0 - ent X r c
  ·rw [if_pos hg]
   have ih := visit_best X q w k hk b (hitI X q w r :: S) (n + 1) hb hcb
   generalize visitT X q w (mostK k) k b (best k (hitI X q w r :: S), n + 1) = s2 at ih
   obtain ⟨hs, n2⟩ := s2
   simp only at ih ⊢
   subst ih
   have hp := other_perm (hitI X q w r) (a.hits X q w) (b.hits X q w) S
   have ih2 := visit_best X q w k hk a (b.hits X q w ++ hitI X q w r :: S) n2 ha hca
   cases hm : mostK k (best k (b.hits X q w ++ hitI X q w r :: S)) with
   | none => simp only; rw [ih2]; exact (best_congr k hp).symm ▸ rfl
   | some m =>
    simp only
    split
    ·rw [ih2]; exact (best_congr k hp).symm ▸ rfl
    ·rename_i hgap
     obtain ⟨h1, h2⟩ := mostK_some hk hm
     rw [← best_congr k hp]
     refine (best_prune k _ _ h1 fun h hh x hx => ?_).symm
     unfold KT.hits at hh
     obtain ⟨i, hi, rfl⟩ := List.mem_map.1 hh
     have h3 := far_gap (X := X) (q := q) (i := i) (r := r) hc (.inl ⟨hg, hl i hi⟩)
     have h4 := h2 x hx
     show x.2 < farI X q w i
     grind
  ·rw [if_neg hg]
   have ih := visit_best X q w k hk a (hitI X q w r :: S) (n + 1) ha hca
   generalize visitT X q w (mostK k) k a (best k (hitI X q w r :: S), n + 1) = s2 at ih
   obtain ⟨hs, n2⟩ := s2
   simp only at ih ⊢
   subst ih
   have hp := other_perm2 (hitI X q w r) (a.hits X q w) (b.hits X q w) S
   have ih2 := visit_best X q w k hk b (a.hits X q w ++ hitI X q w r :: S) n2 hb hcb
   cases hm : mostK k (best k (a.hits X q w ++ hitI X q w r :: S)) with
   | none => simp only; rw [ih2]; exact (best_congr k hp).symm ▸ rfl
   | some m =>
    simp only
    split
    ·rw [ih2]; exact (best_congr k hp).symm ▸ rfl
    ·rename_i hgap
     obtain ⟨h1, h2⟩ := mostK_some hk hm
     rw [← best_congr k hp]
     refine (best_prune k _ _ h1 fun h hh x hx => ?_).symm
     unfold KT.hits at hh
     obtain ⟨i, hi, rfl⟩ := List.mem_map.1 hh
     have h3 := far_gap (X := X) (q := q) (i := i) (r := r) hc (.inr ⟨by grind, hr i hi⟩)
     have h4 := h2 x hx
     show x.2 < farI X q w i
     grind
theorem insS_len (h : Ht) (l : List Ht) : (insS h l).length = l.length + 1 := (insS_perm h l).length_eq
theorem takeH_len (most : List Ht → Option Rat) (keep : Nat) (h : Ht) (hs : List Ht) : (takeH most keep h hs).length ≤ hs.length + 1 := by
 have h1 : ((insS h hs).take keep).length ≤ hs.length + 1 := by rw [List.length_take, insS_len]; omega
 unfold takeH
 cases most hs with
 | none => exact h1
 | some m => simp only; split <;> omega
/-- how many are looked at -/
theorem visit_looked (X : List (List Rat)) (q : List Rat) (w : Nat) (most : List Ht → Option Rat) (keep : Nat) : ∀ (t : KT) (s : List Ht × Nat), s.2 ≤ (visitT X q w most keep t s).2 ∧ (visitT X q w most keep t s).2 ≤ s.2 + t.size ∧ (s.1.length ≤ s.2 → (visitT X q w most keep t s).1.length ≤ (visitT X q w most keep t s).2)
 | .none, s => ⟨Nat.le_refl _, Nat.le_refl _, id⟩
 | .node r c a b, s => by
  have hl := takeH_len most keep (hitI X q w r) s.1
  unfold visitT
  simp only
  have e : KT.size (.node r c a b) = a.size + b.size + 1 := rfl
  rw [e]
  split
  ·obtain ⟨i1, i2, i3⟩ := visit_looked X q w most keep b (takeH most keep (hitI X q w r) s.1, s.2 + 1)
   generalize visitT X q w most keep b (takeH most keep (hitI X q w r) s.1, s.2 + 1) = s2 at *
   obtain ⟨j1, j2, j3⟩ := visit_looked X q w most keep a s2
   simp only at *
   split
   ·split
    ·exact ⟨by omega, by omega, fun h => j3 (i3 (by omega))⟩
    ·exact ⟨by omega, by omega, fun h => i3 (by omega)⟩
   ·exact ⟨by omega, by omega, fun h => j3 (i3 (by omega))⟩
  ·obtain ⟨i1, i2, i3⟩ := visit_looked X q w most keep a (takeH most keep (hitI X q w r) s.1, s.2 + 1)
   generalize visitT X q w most keep a (takeH most keep (hitI X q w r) s.1, s.2 + 1) = s2 at *
   obtain ⟨j1, j2, j3⟩ := visit_looked X q w most keep b s2
   simp only at *
   split
   ·split
    ·exact ⟨by omega, by omega, fun h => j3 (i3 (by omega))⟩
    ·exact ⟨by omega, by omega, fun h => i3 (by omega)⟩
   ·exact ⟨by omega, by omega, fun h => j3 (i3 (by omega))⟩
/-- two rows by a column, then by their numbers -/
def leC (X : List (List Rat)) (c : Nat) (a b : Nat) : Prop := ent X a c < ent X b c ∨ (ent X a c = ent X b c ∧ a ≤ b)
instance (X : List (List Rat)) (c a b : Nat) : Decidable (leC X c a b) := by unfold leC; infer_instance
theorem leC_trans {X : List (List Rat)} {c a b d : Nat} (h1 : leC X c a b) (h2 : leC X c b d) : leC X c a d := by
 unfold leC at *
 rcases h1 with h1 | ⟨h1, h3⟩ <;> rcases h2 with h2 | ⟨h2, h4⟩
 ·left; grind
 ·left; grind
 ·left; grind
 ·right; exact ⟨h1.trans h2, Nat.le_trans h3 h4⟩
theorem leC_total (X : List (List Rat)) (c a b : Nat) : leC X c a b ∨ leC X c b a := by
 unfold leC
 by_cases h1 : ent X a c < ent X b c
 ·exact .inl (.inl h1)
 ·by_cases h2 : ent X b c < ent X a c
  ·exact .inr (.inl h2)
  ·have e : ent X a c = ent X b c := by grind
   rcases Nat.le_total a b with h | h
   ·exact .inl (.inr ⟨e, h⟩)
   ·exact .inr (.inr ⟨e.symm, h⟩)
theorem leC_anti {X : List (List Rat)} {c a b : Nat} (h1 : leC X c a b) (h2 : leC X c b a) : a = b := by
 unfold leC at *
 rcases h1 with h1 | ⟨h1, h3⟩ <;> rcases h2 with h2 | ⟨h2, h4⟩
 ·exact absurd h1 (by grind)
 ·exact absurd h1 (by grind)
 ·exact absurd h2 (by grind)
 ·exact Nat.le_antisymm h3 h4
theorem leC_ent {X : List (List Rat)} {c a b : Nat} (h : leC X c a b) : ent X a c ≤ ent X b c := by
 unfold leC at h
 rcases h with h | ⟨h, _⟩ <;> grind
def sortC (X : List (List Rat)) (c : Nat) (l : List Nat) : List Nat := l.mergeSort fun a b => decide (leC X c a b)
theorem sortC_perm (X : List (List Rat)) (c : Nat) (l : List Nat) : (sortC X c l).Perm l := List.mergeSort_perm l _
theorem sortC_sorted (X : List (List Rat)) (c : Nat) (l : List Nat) : (sortC X c l).Pairwise (leC X c) := by
 have h := List.pairwise_mergeSort (le := fun a b => decide (leC X c a b)) (fun a b d h1 h2 => decide_eq_true (leC_trans (of_decide_eq_true h1) (of_decide_eq_true h2))) (fun a b => by
  rcases leC_total X c a b with h | h <;> simp [h]) l
 exact h.imp fun h => of_decide_eq_true h
theorem sortC_uniq {X : List (List Rat)} {c : Nat} {l l' : List Nat} (hp : l'.Perm l) (hs : l'.Pairwise (leC X c)) : l' = sortC X c l :=
 List.Perm.eq_of_pairwise (le := leC X c) (fun a b _ _ h1 h2 => leC_anti h1 h2) hs (sortC_sorted X c l) (hp.trans (sortC_perm X c l).symm)
theorem sortC_len (X : List (List Rat)) (c : Nat) (l : List Nat) : (sortC X c l).length = l.length := (sortC_perm X c l).length_eq
/-- the tree of some rows -/
def growT (X : List (List Rat)) (w : Nat) (l : List Nat) (c : Nat) : KT :=
 if h : l.length = 0 then .none
 else .node ((sortC X c l).getD (l.length / 2) 0) c (growT X w ((sortC X c l).take (l.length / 2)) ((c + 1) % w)) (growT X w ((sortC X c l).drop (l.length / 2 + 1)) ((c + 1) % w))
termination_by l.length
decreasing_by
 ·rw [List.length_take, sortC_len]; omega
 ·rw [List.length_drop, sortC_len]; omega
theorem split_mid {α : Type} {l : List α} {h : Nat} (hh : h < l.length) (d : α) : l = l.take h ++ l.getD h d :: l.drop (h + 1) := by
 conv => lhs; rw [← List.take_append_drop h l]
 congr 1
 rw [List.drop_eq_getElem_cons hh]
 simp [List.getD, hh]
theorem growT_rows (X : List (List Rat)) (w : Nat) : ∀ (n : Nat) (l : List Nat) (c : Nat), l.length = n → (growT X w l c).rows.Perm l := by
 intro n
 induction n using Nat.strongRecOn with
 | ind n ih =>
  intro l c hn
  rw [growT]
  split
  ·rename_i h
   rw [List.length_eq_zero_iff.1 h]
   exact List.Perm.refl _
  ·rename_i h
   show (_ :: (_ ++ _)).Perm l
   have h1 := ih _ (by rw [List.length_take, sortC_len]; omega) ((sortC X c l).take (l.length / 2)) ((c + 1) % w) rfl
   have h2 := ih _ (by rw [List.length_drop, sortC_len]; omega) ((sortC X c l).drop (l.length / 2 + 1)) ((c + 1) % w) rfl
   refine ((h1.append h2).cons _).trans ?_
   refine List.perm_middle.symm.trans ?_
   rw [← split_mid (l := sortC X c l) (h := l.length / 2) (by rw [sortC_len]; omega) 0]
   exact sortC_perm X c l
theorem growT_ok (X : List (List Rat)) (w : Nat) (hw : 0 < w) : ∀ (n : Nat) (l : List Nat) (c : Nat), l.length = n → c < w → (growT X w l c).ok X ∧ (growT X w l c).cols w := by
 intro n
 induction n using Nat.strongRecOn with
 | ind n ih =>
  intro l c hn hc
  rw [growT]
  split
  ·exact ⟨trivial, trivial⟩
  ·rename_i h
   have l1 : ((sortC X c l).take (l.length / 2)).length < n := by rw [List.length_take, sortC_len]; omega
   have l2 : ((sortC X c l).drop (l.length / 2 + 1)).length < n := by rw [List.length_drop, sortC_len]; omega
   obtain ⟨a1, a2⟩ := ih _ l1 ((sortC X c l).take (l.length / 2)) ((c + 1) % w) rfl (Nat.mod_lt _ hw)
   obtain ⟨b1, b2⟩ := ih _ l2 ((sortC X c l).drop (l.length / 2 + 1)) ((c + 1) % w) rfl (Nat.mod_lt _ hw)
   have r1 := growT_rows X w _ ((sortC X c l).take (l.length / 2)) ((c + 1) % w) rfl
   have r2 := growT_rows X w _ ((sortC X c l).drop (l.length / 2 + 1)) ((c + 1) % w) rfl
   have hs := sortC_sorted X c l
   rw [split_mid (l := sortC X c l) (h := l.length / 2) (by rw [sortC_len]; omega) 0, List.pairwise_append, List.pairwise_cons] at hs
   obtain ⟨_, ⟨h2, _⟩, h3⟩ := hs
   refine ⟨⟨a1, b1, fun i hi => leC_ent (h3 i (r1.mem_iff.1 hi) _ List.mem_cons_self), fun i hi => leC_ent (h2 i (r2.mem_iff.1 hi))⟩, hc, a2, b2⟩
theorem deep_le {a b : KT} {r c m : Nat} (ha : a ≠ .none → a.deep + 1 ≤ m) (hb : b ≠ .none → b.deep + 1 ≤ m) : (KT.node r c a b).deep ≤ m := by
 cases a with
 | none => cases b with
  | none => exact Nat.zero_le _
  | node => exact hb (by simp)
 | node => cases b with
  | none => exact ha (by simp)
  | node => exact Nat.max_le.2 ⟨ha (by simp), hb (by simp)⟩
theorem growT_none {X : List (List Rat)} {w : Nat} {l : List Nat} {c : Nat} : growT X w l c = .none ↔ l.length = 0 := by
 rw [growT]
 split
 ·rename_i h; simp [h]
 ·rename_i h; simp [h]
theorem growT_deep (X : List (List Rat)) (w : Nat) : ∀ (n : Nat) (l : List Nat) (c : Nat), l.length = n → 0 < n → 2 ^ (growT X w l c).deep ≤ n := by
 intro n
 induction n using Nat.strongRecOn with
 | ind n ih =>
  intro l c hn h0
  have hlog : 2 ^ (Nat.log2 n) ≤ n := Nat.log2_self_le (by omega)
  refine Nat.le_trans (Nat.pow_le_pow_right (by omega) ?_) hlog
  have sub : ∀ (l' : List Nat) (c' : Nat), l'.length ≤ n / 2 → growT X w l' c' ≠ .none → (growT X w l' c').deep + 1 ≤ Nat.log2 n := fun l' c' hl hne => by
   have hp : 0 < l'.length := Nat.pos_of_ne_zero fun e => hne (growT_none.2 e)
   have h1 := ih _ (by omega) l' c' rfl hp
   rw [Nat.le_log2 (by omega), Nat.pow_succ]
   omega
  rw [growT, dif_neg (by omega)]
  refine deep_le (fun h => sub _ _ ?_ h) (fun h => sub _ _ ?_ h)
  ·rw [List.length_take, sortC_len]; omega
  ·rw [List.length_drop, sortC_len]; omega
theorem growT_size (X : List (List Rat)) (w : Nat) (l : List Nat) (c : Nat) : (growT X w l c).size = l.length := by
 have h := (growT_rows X w _ l c rfl).length_eq
 have e : ∀ t : KT, t.rows.length = t.size := fun t => by
  induction t with
  | none => rfl
  | node r c a b iha ihb => show (r :: (a.rows ++ b.rows)).length = a.size + b.size + 1; simp [iha, ihb]
 rw [← h, e]
/-- a node as the program keeps it -/
structure NdT where
 r : Int
 c : Int
 l : Int
 t : Int
deriving DecidableEq
/-- a tree's nodes from number i on -/
def flatT : KT → Nat → List NdT
 | .none, _ => []
 | .node r c a b, i => ⟨r, c, if a.size = 0 then 0 else (i + 1 : Nat), if b.size = 0 then 0 else (i + 1 + a.size : Nat)⟩ :: (flatT a (i + 1) ++ flatT b (i + 1 + a.size))
theorem flatT_len : ∀ (t : KT) (i : Nat), (flatT t i).length = t.size
 | .none, _ => rfl
 | .node r c a b, i => by
  show (_ :: (flatT a (i + 1) ++ flatT b (i + 1 + a.size))).length = a.size + b.size + 1
  simp [flatT_len a, flatT_len b]
/-- a tree's shape -/
inductive Sh where
 | no : Sh
 | nd (a b : Sh) : Sh
def Sh.size : Sh → Nat
 | .no => 0
 | .nd a b => a.size + b.size + 1
def Sh.deep : Sh → Nat
 | .no => 0
 | .nd .no .no => 0
 | .nd .no b => b.deep + 1
 | .nd a .no => a.deep + 1
 | .nd a b => max (a.deep + 1) (b.deep + 1)
/-- how far below a child's part ends -/
def Sh.under (s : Sh) (d : Nat) : Nat := if s.size = 0 then d else max d (s.deep + 1)
theorem Sh.deep_nd (a b : Sh) : (Sh.nd a b).deep = b.under (a.under 0) := by
 cases a <;> cases b <;> simp [Sh.under, Sh.size, Sh.deep]
/-- nodes from number i on stand as a shape says -/
def Lay (ns : List NdT) : Sh → Nat → Prop
 | .no, _ => True
 | .nd a b, i => ∃ n, ns[i]? = some n ∧ n.l = (if a.size = 0 then 0 else ((i + 1 : Nat) : Int)) ∧ n.t = (if b.size = 0 then 0 else ((i + 1 + a.size : Nat) : Int)) ∧ Lay ns a (i + 1) ∧ Lay ns b (i + 1 + a.size)
/-- one child's part -/
def kidF (e : Nat → Option (Nat × Nat)) (ch : Int) (s : Nat × Nat) : Option (Nat × Nat) :=
 if ch = 0 then some s else if ch ≠ (s.1 : Int) then none else
  match e s.1 with
  | none => none
  | some p => some (p.1, max s.2 (p.2 + 1))
/-- where a node's part ends, how deep it is -/
def endF (ns : List NdT) : Nat → Nat → Option (Nat × Nat)
 | 0, _ => none
 | f + 1, i =>
  match ns[i]? with
  | none => none
  | some n => (kidF (endF ns f) n.l (i + 1, 0)).bind fun s => kidF (endF ns f) n.t s
theorem endF_lay (ns : List NdT) : ∀ (f i e d : Nat), endF ns f i = some (e, d) → ∃ s, 0 < s.size ∧ Lay ns s i ∧ e = i + s.size ∧ d = s.deep ∧ e ≤ ns.length
 | 0, _, _, _, h => by cases h
 | f + 1, i, e, d, h => by
  unfold endF at h
  cases hn : ns[i]? with
  | none => rw [hn] at h; cases h
  | some n =>
   rw [hn] at h
   simp only at h
   have hil : i < ns.length := (List.getElem?_eq_some_iff.1 hn).1
   have kid : ∀ (ch : Int) (s p : Nat × Nat), s.1 ≤ ns.length → kidF (endF ns f) ch s = some p → ∃ sh, (ch = if sh.size = 0 then 0 else (s.1 : Int)) ∧ Lay ns sh s.1 ∧ p.1 = s.1 + sh.size ∧ p.2 = sh.under s.2 ∧ p.1 ≤ ns.length := by
    intro ch s p hs hk
    unfold kidF at hk
    split at hk
    ·rename_i h0
     cases hk
     exact ⟨.no, by simp [Sh.size, h0], trivial, rfl, by simp [Sh.under, Sh.size], hs⟩
    ·rename_i h0
     split at hk
     ·cases hk
     ·rename_i h1
      cases he : endF ns f s.1 with
      | none => rw [he] at hk; cases hk
      | some q =>
       rw [he] at hk
       obtain ⟨sh, g1, g2, g3, g4, g5⟩ := endF_lay ns f s.1 q.1 q.2 (by rw [he])
       simp only [Option.some.injEq] at hk
       subst hk
       refine ⟨sh, ?_, g2, g3, ?_, g5⟩
       ·rw [if_neg (by omega)]
        exact Decidable.byContradiction h1
       ·unfold Sh.under
        rw [if_neg (by omega), g4]
   cases hk : kidF (endF ns f) n.l (i + 1, 0) with
   | none => rw [hk] at h; cases h
   | some s =>
    rw [hk] at h
    obtain ⟨a, a1, a2, a3, a4, a5⟩ := kid n.l (i + 1, 0) s (by simp; omega) hk
    obtain ⟨b, b1, b2, b3, b4, b5⟩ := kid n.t s (e, d) a5 h
    simp only at a1 a2 a3 a4 b1 b2 b3 b4 b5
    refine ⟨.nd a b, Nat.succ_pos _, ⟨n, hn, a1, ?_, a2, ?_⟩, ?_, ?_, b5⟩
    ·rw [b1, a3]
    ·rw [← a3]; exact b2
    ·show e = i + (a.size + b.size + 1); omega
    ·rw [Sh.deep_nd, b4, a4]
theorem lay_len {ns : List NdT} : ∀ (s : Sh) (i : Nat), Lay ns s i → 0 < s.size → i + s.size ≤ ns.length
 | .no, _, _, h => by simp [Sh.size] at h
 | .nd a b, i, ⟨n, hn, _, _, ha, hb⟩, _ => by
  have hil : i < ns.length := (List.getElem?_eq_some_iff.1 hn).1
  show i + (a.size + b.size + 1) ≤ _
  rcases Nat.eq_zero_or_pos b.size with h | h
  ·rcases Nat.eq_zero_or_pos a.size with h' | h'
   ·omega
   ·have := lay_len a (i + 1) ha h'; omega
  ·have := lay_len b _ hb h; omega
theorem lay_endF (ns : List NdT) : ∀ (s : Sh) (i f : Nat), 0 < s.size → Lay ns s i → s.size ≤ f → endF ns f i = some (i + s.size, s.deep)
 | .no, _, _, h, _, _ => by simp [Sh.size] at h
 | .nd a b, i, 0, _, _, hf => by simp [Sh.size] at hf
 | .nd a b, i, f + 1, _, ⟨n, hn, hl, ht, ha, hb⟩, hf => by
  have hs : (Sh.nd a b).size = a.size + b.size + 1 := rfl
  rw [hs] at hf
  have kid : ∀ (sh : Sh) (ch : Int) (s : Nat × Nat), 0 < s.1 → (ch = if sh.size = 0 then 0 else (s.1 : Int)) → (0 < sh.size → endF ns f s.1 = some (s.1 + sh.size, sh.deep)) → kidF (endF ns f) ch s = some (s.1 + sh.size, sh.under s.2) := by
   intro sh ch s h0 hch he
   unfold kidF Sh.under
   rcases Nat.eq_zero_or_pos sh.size with h | h
   ·rw [if_pos h] at hch
    rw [if_pos hch, if_pos h, h]
    rfl
   ·rw [if_neg (by omega)] at hch
    rw [if_neg (by omega), if_neg (by omega), if_neg (by omega), he h]
  unfold endF
  rw [hn]
  simp only
  rw [kid a n.l (i + 1, 0) (by simp) hl (fun h => lay_endF ns a (i + 1) f h ha (by omega))]
  simp only [Option.bind_some]
  rw [kid b n.t _ (by simp; omega) ht (fun h => lay_endF ns b (i + 1 + a.size) f h hb (by omega))]
  rw [Sh.deep_nd, hs]
  simp only [Option.some.injEq, Prod.mk.injEq, and_true]
  omega
/-- a part of the nodes as a tree -/
def toK (ns : List NdT) : Sh → Nat → KT
 | .no, _ => .none
 | .nd a b, i => .node ((ns[i]?.map fun n => n.r.toNat).getD 0) ((ns[i]?.map fun n => n.c.toNat).getD 0) (toK ns a (i + 1)) (toK ns b (i + 1 + a.size))
theorem toK_size (ns : List NdT) : ∀ (s : Sh) (i : Nat), (toK ns s i).size = s.size
 | .no, _ => rfl
 | .nd a b, i => by
  show (toK ns a (i + 1)).size + (toK ns b (i + 1 + a.size)).size + 1 = a.size + b.size + 1
  rw [toK_size ns a, toK_size ns b]
def rowN (ns : List NdT) (j : Nat) : Nat := (ns[j]?.map fun n => n.r.toNat).getD 0
/-- a part's rows are its nodes' -/
theorem toK_rows (ns : List NdT) : ∀ (s : Sh) (i : Nat), (toK ns s i).rows = (List.range s.size).map fun j => rowN ns (i + j)
 | .no, _ => rfl
 | .nd a b, i => by
  show rowN ns i :: ((toK ns a (i + 1)).rows ++ (toK ns b (i + 1 + a.size)).rows) = _
  rw [toK_rows ns a, toK_rows ns b]
  show _ = (List.range (a.size + b.size + 1)).map _
  rw [List.range_succ_eq_map, List.map_cons, List.map_map, List.range_add, List.map_append, List.map_map]
  simp only [Nat.add_zero, List.cons.injEq, true_and]
  congr 1
  ·refine List.map_congr_left fun j _ => ?_
   show rowN ns (i + 1 + j) = rowN ns (i + (j + 1))
   rw [show i + 1 + j = i + (j + 1) by omega]
  ·refine List.map_congr_left fun j _ => ?_
   show rowN ns (i + 1 + a.size + j) = rowN ns (i + (a.size + j + 1))
   rw [show i + 1 + a.size + j = i + (a.size + j + 1) by omega]
/-- the order of a node's part -/
def OrdAt (X : List (List Rat)) (ns : List NdT) (i e : Nat) : Prop :=
 ∀ n, ns[i]? = some n → ∀ j, i < j → j < e → ((j : Int) < (if n.t = 0 then (e : Int) else n.t) → ent X (rowN ns j) n.c.toNat ≤ ent X n.r.toNat n.c.toNat) ∧ ((if n.t = 0 then (e : Int) else n.t) ≤ (j : Int) → ent X n.r.toNat n.c.toNat ≤ ent X (rowN ns j) n.c.toNat)
/-- a tree's nodes that may be -/
def Fine (X : List (List Rat)) (w : Nat) (ns : List NdT) : Prop :=
 (∀ n ∈ ns, 0 ≤ n.c ∧ n.c < w ∧ 0 ≤ n.r ∧ n.r < X.length) ∧ (ns.map (·.r)).Nodup ∧ ∀ i e d, endF ns (ns.length + 1) i = some (e, d) → OrdAt X ns i e
theorem fine_ok {X : List (List Rat)} {w : Nat} {ns : List NdT} (hf : Fine X w ns) : ∀ (s : Sh) (i : Nat), Lay ns s i → (toK ns s i).ok X ∧ (toK ns s i).cols w
 | .no, _, _ => ⟨trivial, trivial⟩
 | .nd a b, i, hlay => by
  have hlay' := hlay
  obtain ⟨n, hn, hl, ht, ha, hb⟩ := hlay
  obtain ⟨a1, a2⟩ := fine_ok hf a (i + 1) ha
  obtain ⟨b1, b2⟩ := fine_ok hf b (i + 1 + a.size) hb
  have hlen := lay_len (.nd a b) i hlay' (Nat.succ_pos _)
  have hsz : (Sh.nd a b).size = a.size + b.size + 1 := rfl
  have he := lay_endF ns (.nd a b) i (ns.length + 1) (Nat.succ_pos _) hlay' (by omega)
  have ho := hf.2.2 i _ _ he n hn
  have e1 : (ns[i]?.map fun n => n.r.toNat).getD 0 = n.r.toNat := by rw [hn]; rfl
  have e2 : (ns[i]?.map fun n => n.c.toNat).getD 0 = n.c.toNat := by rw [hn]; rfl
  obtain ⟨c0, c1, _, _⟩ := hf.1 n (List.mem_of_getElem? hn)
  have hk : toK ns (.nd a b) i = .node n.r.toNat n.c.toNat (toK ns a (i + 1)) (toK ns b (i + 1 + a.size)) := by
   show KT.node _ _ _ _ = _
   rw [e1, e2]
  rw [hk]
  refine ⟨⟨a1, b1, fun r hr => ?_, fun r hr => ?_⟩, by omega, a2, b2⟩
  ·rw [toK_rows] at hr
   obtain ⟨j, hj, rfl⟩ := List.mem_map.1 hr
   have hj := List.mem_range.1 hj
   refine (ho (i + 1 + j) (by omega) (by omega)).1 ?_
   rw [ht]
   by_cases hb0 : b.size = 0
   ·simp [hb0]; omega
   ·rw [if_neg (by omega), if_neg hb0]; omega
  ·rw [toK_rows] at hr
   obtain ⟨j, hj, rfl⟩ := List.mem_map.1 hr
   have hj := List.mem_range.1 hj
   refine (ho (i + 1 + a.size + j) (by omega) (by omega)).2 ?_
   rw [ht, if_neg (by omega), if_neg (by omega)]
   omega
theorem nodup_range : ∀ (n : Nat) (l : List Nat), l.Nodup → (∀ x ∈ l, x < n) → l.length ≤ n ∧ (l.length = n → l.Perm (List.range n))
 | 0, [], _, _ => ⟨Nat.le_refl _, fun _ => List.Perm.refl _⟩
 | 0, x :: l, _, h => absurd (h x List.mem_cons_self) (Nat.not_lt_zero _)
 | n + 1, l, hd, h => by
  by_cases hm : n ∈ l
  ·have hp := List.perm_cons_erase hm
   have hl := hp.length_eq
   rw [List.length_cons] at hl
   obtain ⟨i1, i2⟩ := nodup_range n (l.erase n) (hd.erase n) fun x hx => by
    have := (hd.mem_erase_iff).1 hx
    have := h x this.2
    omega
   refine ⟨by omega, fun e => ?_⟩
   rw [List.range_succ]
   refine hp.trans (((i2 (by omega)).cons n).trans ?_)
   exact (List.perm_append_singleton n _).symm
  ·obtain ⟨i1, _⟩ := nodup_range n l hd fun x hx => by
    have := h x hx
    have : x ≠ n := fun e => hm (e ▸ hx)
    omega
   exact ⟨by omega, fun e => by omega⟩
theorem fine_rows {X : List (List Rat)} {w : Nat} {ns : List NdT} (hf : Fine X w ns) (hn : ns.length = X.length) {s : Sh} (hs : s.size = ns.length) : (toK ns s 0).rows.Perm (List.range X.length) := by
 have hr : (toK ns s 0).rows = ns.map fun n => n.r.toNat := by
  rw [toK_rows, hs]
  apply List.ext_getElem
  ·simp
  ·intro j h1 h2
   have hj : j < ns.length := by simpa using h2
   simp [rowN, hj]
 have hnd : (ns.map fun n => n.r.toNat).Nodup := by
  have h := hf.2.1
  unfold List.Nodup at *
  rw [List.pairwise_map] at *
  refine h.imp_of_mem fun {a b} ha hb hab he => hab ?_
  have h1 := hf.1 a ha
  have h2 := hf.1 b hb
  omega
 rw [hr]
 refine (List.Perm.symm ?_)
 have hsub : ∀ x ∈ (ns.map fun n => n.r.toNat), x ∈ List.range X.length := fun x hx => by
  obtain ⟨n, hn1, rfl⟩ := List.mem_map.1 hx
  have := hf.1 n hn1
  rw [List.mem_range]
  omega
 exact ((nodup_range X.length _ hnd fun x hx => List.mem_range.1 (hsub x hx)).2 (by simp [hn])).symm
end Go.Proofs.YtjmopgepnndckaaGreatDoor
