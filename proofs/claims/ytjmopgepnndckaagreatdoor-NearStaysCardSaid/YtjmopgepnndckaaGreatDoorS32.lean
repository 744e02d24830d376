/-
  Contracts and laws: NearP.
-/
import Derived.Test.YtjmopgepnndckaaGreatDoorS31
set_option linter.unusedSimpArgs false
set_option linter.unusedVariables false
namespace Go.Proofs.YtjmopgepnndckaaGreatDoor
def cmpI (a b : Int) : Int := if a < b then -1 else if b < a then 1 else 0
/-- a hit: the row's number, how far it is -/
abbrev Ht := Nat × Rat
/-- two hits, by how far, then by their numbers -/
def cmpNr (a b : Nat) : Int := if a < b then -1 else if b < a then 1 else 0
def cmpH (a b : Ht) : Int := if cmpQ a.2 b.2 ≠ 0 then cmpQ a.2 b.2 else cmpNr a.1 b.1
def leH (a b : Ht) : Prop := a.2 < b.2 ∨ (a.2 = b.2 ∧ a.1 ≤ b.1)
theorem leH_trans {a b c : Ht} (h1 : leH a b) (h2 : leH b c) : leH a c := by
 unfold leH at *
 rcases h1 with h1 | ⟨h1, h3⟩ <;> rcases h2 with h2 | ⟨h2, h4⟩
 ·left; grind
 ·left; grind
 ·left; grind
 ·right; exact ⟨h1.trans h2, Nat.le_trans h3 h4⟩
theorem leH_total (a b : Ht) : leH a b ∨ leH b a := by
 unfold leH
 by_cases h1 : a.2 < b.2
 ·exact .inl (.inl h1)
 ·by_cases h2 : b.2 < a.2
  ·exact .inr (.inl h2)
  ·have e : a.2 = b.2 := by grind
   rcases Nat.le_total a.1 b.1 with h | h
   ·exact .inl (.inr ⟨e, h⟩)
   ·exact .inr (.inr ⟨e.symm, h⟩)
theorem leH_anti {a b : Ht} (h1 : leH a b) (h2 : leH b a) : a = b := by
 unfold leH at *
 rcases h1 with h1 | ⟨h1, h3⟩ <;> rcases h2 with h2 | ⟨h2, h4⟩
 ·exact absurd h1 (by grind)
 ·exact absurd h1 (by grind)
 ·exact absurd h2 (by grind)
 ·exact Prod.ext (Nat.le_antisymm h3 h4) h1
theorem hits_uniq {l l' : List Ht} (hp : l.Perm l') (h1 : l.Pairwise leH) (h2 : l'.Pairwise leH) : l = l' :=
 List.Perm.eq_of_pairwise (le := leH) (fun a b _ _ h1 h2 => leH_anti h1 h2) h1 h2 hp
/-- all rows' hits -/
def hitsTo (f : Nat → Rat) (n : Nat) : List Ht := (List.range n).map fun i => (i, f i)
theorem cmpH_lt (a b : Ht) : cmpH a b < 0 ↔ ¬ leH b a := by
 unfold cmpH cmpQ cmpNr leH
 by_cases h1 : a.2 < b.2
 ·have h2 : ¬ b.2 < a.2 := by grind
  have h3 : b.2 ≠ a.2 := by grind
  simp [h1, h2, h3]
 ·by_cases h2 : b.2 < a.2
  ·simp [h1, h2]
  ·have e : a.2 = b.2 := by grind
   simp [e, Rat.lt_irrefl]
   by_cases h4 : a.1 < b.1
   ·simp [h4]
   ·by_cases h5 : b.1 < a.1 <;> simp [h4, h5] <;> omega
instance (a b : Ht) : Decidable (leH a b) := by unfold leH; infer_instance
/-- hits in order -/
def srt (l : List Ht) : List Ht := l.mergeSort fun a b => decide (leH a b)
theorem srt_perm (l : List Ht) : (srt l).Perm l := List.mergeSort_perm l _
theorem srt_sorted (l : List Ht) : (srt l).Pairwise leH := by
 have h := List.pairwise_mergeSort (le := fun a b : Ht => decide (leH a b)) (fun a b c h1 h2 => decide_eq_true (leH_trans (of_decide_eq_true h1) (of_decide_eq_true h2))) (fun a b => by
  rcases leH_total a b with h | h <;> simp [h]) l
 exact h.imp fun h => of_decide_eq_true h
theorem srt_uniq {l l' : List Ht} (hp : l'.Perm l) (hs : l'.Pairwise leH) : l' = srt l := hits_uniq (hp.trans (srt_perm l).symm) hs (srt_sorted l)
/-- the k best -/
def best (k : Nat) (l : List Ht) : List Ht := (srt l).take k
theorem best_len (k : Nat) (l : List Ht) : (best k l).length = min k l.length := by
 unfold best
 rw [List.length_take, (srt_perm l).length_eq]
/-- a tree: nothing, or a row, the column that divides, what is below -/
inductive KT where
 | none : KT
 | node (row col : Nat) (l r : KT) : KT
def KT.size : KT → Nat
 | .none => 0
 | .node _ _ l r => l.size + r.size + 1
def KT.rows : KT → List Nat
 | .none => []
 | .node r _ a b => r :: (a.rows ++ b.rows)
def KT.deep : KT → Nat
 | .none => 0
 | .node _ _ .none .none => 0
 | .node _ _ .none b => b.deep + 1
 | .node _ _ a .none => a.deep + 1
 | .node _ _ a b => max (a.deep + 1) (b.deep + 1)
/-- rows' entries -/
def ent (X : List (List Rat)) (i c : Nat) : Rat := ((X[i]?).getD []).getD c 0
/-- each row stands on its side of each node above it -/
def KT.ok (X : List (List Rat)) : KT → Prop
 | .none => True
 | .node r c a b => a.ok X ∧ b.ok X ∧ (∀ i ∈ a.rows, ent X i c ≤ ent X r c) ∧ ∀ i ∈ b.rows, ent X r c ≤ ent X i c
/-- how far a row is -/
def farI (X : List (List Rat)) (q : List Rat) (w i : Nat) : Rat := qsum (fun c => qmul (qsub (ent X i c) (q.getD c 0)) (qsub (ent X i c) (q.getD c 0))) w
def hitI (X : List (List Rat)) (q : List Rat) (w i : Nat) : Ht := (i, farI X q w i)
def KT.hits (X : List (List Rat)) (q : List Rat) (w : Nat) (t : KT) : List Ht := t.rows.map (hitI X q w)
/-- each node's column is one of the rows' -/
def KT.cols (w : Nat) : KT → Prop
 | .none => True
 | .node _ c a b => c < w ∧ a.cols w ∧ b.cols w
/-- two rows by a column, then by their numbers -/
def leC (X : List (List Rat)) (c : Nat) (a b : Nat) : Prop := ent X a c < ent X b c ∨ (ent X a c = ent X b c ∧ a ≤ b)
instance (X : List (List Rat)) (c a b : Nat) : Decidable (leC X c a b) := by unfold leC; infer_instance
theorem leC_trans {X : List (List Rat)} {c a b d : Nat} (h1 : leC X c a b) (h2 : leC X c b d) : leC X c a d := by
 unfold leC at *
 rcases h1 with h1 | ⟨h1, h3⟩ <;> rcases h2 with h2 | ⟨h2, h4⟩
 ·left; grind
 ·left; grind
 ·left; grind
 ·right; exact ⟨h1.trans h2, Nat.le_trans h3 h4⟩
theorem leC_total (X : List (List Rat)) (c a b : Nat) : leC X c a b ∨ leC X c b a := by
 unfold leC
 by_cases h1 : ent X a c < ent X b c
 ·exact .inl (.inl h1)
 ·by_cases h2 : ent X b c < ent X a c
  ·exact .inr (.inl h2)
  ·have e : ent X a c = ent X b c := by grind
   rcases Nat.le_total a b with h | h
   ·exact .inl (.inr ⟨e, h⟩)
   ·exact .inr (.inr ⟨e.symm, h⟩)
theorem leC_anti {X : List (List Rat)} {c a b : Nat} (h1 : leC X c a b) (h2 : leC X c b a) : a = b := by
 unfold leC at *
 rcases h1 with h1 | ⟨h1, h3⟩ <;> rcases h2 with h2 | ⟨h2, h4⟩
 ·exact absurd h1 (by grind)
 ·exact absurd h1 (by grind)
 ·exact absurd h2 (by grind)
 ·exact Nat.le_antisymm h3 h4
theorem leC_ent {X : List (List Rat)} {c a b : Nat} (h : leC X c a b) : ent X a c ≤ ent X b c := by
 unfold leC at h
 rcases h with h | ⟨h, _⟩ <;> grind
def sortC (X : List (List Rat)) (c : Nat) (l : List Nat) : List Nat := l.mergeSort fun a b => decide (leC X c a b)
theorem sortC_perm (X : List (List Rat)) (c : Nat) (l : List Nat) : (sortC X c l).Perm l := List.mergeSort_perm l _
theorem sortC_sorted (X : List (List Rat)) (c : Nat) (l : List Nat) : (sortC X c l).Pairwise (leC X c) := by
 have h := List.pairwise_mergeSort (le := fun a b => decide (leC X c a b)) (fun a b d h1 h2 => decide_eq_true (leC_trans (of_decide_eq_true h1) (of_decide_eq_true h2))) (fun a b => by
  rcases leC_total X c a b with h | h <;> simp [h]) l
 exact h.imp fun h => of_decide_eq_true h
theorem sortC_uniq {X : List (List Rat)} {c : Nat} {l l' : List Nat} (hp : l'.Perm l) (hs : l'.Pairwise (leC X c)) : l' = sortC X c l :=
 List.Perm.eq_of_pairwise (le := leC X c) (fun a b _ _ h1 h2 => leC_anti h1 h2) hs (sortC_sorted X c l) (hp.trans (sortC_perm X c l).symm)
theorem sortC_len (X : List (List Rat)) (c : Nat) (l : List Nat) : (sortC X c l).length = l.length := (sortC_perm X c l).length_eq
/-- the tree of some rows -/
def growT (X : List (List Rat)) (w : Nat) (l : List Nat) (c : Nat) : KT :=
 if h : l.length = 0 then .none
 else .node ((sortC X c l).getD (l.length / 2) 0) c (growT X w ((sortC X c l).take (l.length / 2)) ((c + 1) % w)) (growT X w ((sortC X c l).drop (l.length / 2 + 1)) ((c + 1) % w))
termination_by l.length
decreasing_by
 ·rw [List.length_take, sortC_len]; omega
 ·rw [List.length_drop, sortC_len]; omega
theorem split_mid {α : Type} {l : List α} {h : Nat} (hh : h < l.length) (d : α) : l = l.take h ++ l.getD h d :: l.drop (h + 1) := by
 conv => lhs; rw [← List.take_append_drop h l]
 congr 1
 rw [List.drop_eq_getElem_cons hh]
 simp [List.getD, hh]
theorem growT_rows (X : List (List Rat)) (w : Nat) : ∀ (n : Nat) (l : List Nat) (c : Nat), l.length = n → (growT X w l c).rows.Perm l := by
 intro n
 induction n using Nat.strongRecOn with
 | ind n ih =>
  intro l c hn
  rw [growT]
  split
  ·rename_i h
   rw [List.length_eq_zero_iff.1 h]
   exact List.Perm.refl _
  ·rename_i h
   show (_ :: (_ ++ _)).Perm l
   have h1 := ih _ (by rw [List.length_take, sortC_len]; omega) ((sortC X c l).take (l.length / 2)) ((c + 1) % w) rfl
   have h2 := ih _ (by rw [List.length_drop, sortC_len]; omega) ((sortC X c l).drop (l.length / 2 + 1)) ((c + 1) % w) rfl
   refine ((h1.append h2).cons _).trans ?_
   refine List.perm_middle.symm.trans ?_
   rw [← split_mid (l := sortC X c l) (h := l.length / 2) (by rw [sortC_len]; omega) 0]
   exact sortC_perm X c l
theorem growT_ok (X : List (List Rat)) (w : Nat) (hw : 0 < w) : ∀ (n : Nat) (l : List Nat) (c : Nat), l.length = n → c < w → (growT X w l c).ok X ∧ (growT X w l c).cols w := by
 intro n
 induction n using Nat.strongRecOn with
 | ind n ih =>
  intro l c hn hc
  rw [growT]
  split
  ·exact ⟨trivial, trivial⟩
  ·rename_i h
   have l1 : ((sortC X c l).take (l.length / 2)).length < n := by rw [List.length_take, sortC_len]; omega
   have l2 : ((sortC X c l).drop (l.length / 2 + 1)).length < n := by rw [List.length_drop, sortC_len]; omega
   obtain ⟨a1, a2⟩ := ih _ l1 ((sortC X c l).take (l.length / 2)) ((c + 1) % w) rfl (Nat.mod_lt _ hw)
   obtain ⟨b1, b2⟩ := ih _ l2 ((sortC X c l).drop (l.length / 2 + 1)) ((c + 1) % w) rfl (Nat.mod_lt _ hw)
   have r1 := growT_rows X w _ ((sortC X c l).take (l.length / 2)) ((c + 1) % w) rfl
   have r2 := growT_rows X w _ ((sortC X c l).drop (l.length / 2 + 1)) ((c + 1) % w) rfl
   have hs := sortC_sorted X c l
   rw [split_mid (l := sortC X c l) (h := l.length / 2) (by rw [sortC_len]; omega) 0, List.pairwise_append, List.pairwise_cons] at hs
   obtain ⟨_, ⟨h2, _⟩, h3⟩ := hs
   refine ⟨⟨a1, b1, fun i hi => leC_ent (h3 i (r1.mem_iff.1 hi) _ List.mem_cons_self), fun i hi => leC_ent (h2 i (r2.mem_iff.1 hi))⟩, hc, a2, b2⟩
theorem deep_le {a b : KT} {r c m : Nat} (ha : a ≠ .none → a.deep + 1 ≤ m) (hb : b ≠ .none → b.deep + 1 ≤ m) : (KT.node r c a b).deep ≤ m := by
 cases a with
 | none => cases b with
  | none => exact Nat.zero_le _
  | node => exact hb (by simp)
 | node => cases b with
  | none => exact ha (by simp)
  | node => exact Nat.max_le.2 ⟨ha (by simp), hb (by simp)⟩
theorem growT_none {X : List (List Rat)} {w : Nat} {l : List Nat} {c : Nat} : growT X w l c = .none ↔ l.length = 0 := by
 rw [growT]
 split
 ·rename_i h; simp [h]
 ·rename_i h; simp [h]
theorem growT_deep (X : List (List Rat)) (w : Nat) : ∀ (n : Nat) (l : List Nat) (c : Nat), l.length = n → 0 < n → 2 ^ (growT X w l c).deep ≤ n := by
 intro n
 induction n using Nat.strongRecOn with
 | ind n ih =>
  intro l c hn h0
  have hlog : 2 ^ (Nat.log2 n) ≤ n := Nat.log2_self_le (by omega)
  refine Nat.le_trans (Nat.pow_le_pow_right (by omega) ?_) hlog
  have sub : ∀ (l' : List Nat) (c' : Nat), l'.length ≤ n / 2 → growT X w l' c' ≠ .none → (growT X w l' c').deep + 1 ≤ Nat.log2 n := fun l' c' hl hne => by
   have hp : 0 < l'.length := Nat.pos_of_ne_zero fun e => hne (growT_none.2 e)
   have h1 := ih _ (by omega) l' c' rfl hp
   rw [Nat.le_log2 (by omega), Nat.pow_succ]
   omega
  rw [growT, dif_neg (by omega)]
  refine deep_le (fun h => sub _ _ ?_ h) (fun h => sub _ _ ?_ h)
  ·rw [List.length_take, sortC_len]; omega
  ·rw [List.length_drop, sortC_len]; omega
theorem growT_size (X : List (List Rat)) (w : Nat) (l : List Nat) (c : Nat) : (growT X w l c).size = l.length := by
 have h := (growT_rows X w _ l c rfl).length_eq
 have e : ∀ t : KT, t.rows.length = t.size := fun t => by
  induction t with
  | none => rfl
  | node r c a b iha ihb => show (r :: (a.rows ++ b.rows)).length = a.size + b.size + 1; simp [iha, ihb]
 rw [← h, e]
/-- a node as the program keeps it -/
structure NdT where
 r : Int
 c : Int
 l : Int
 t : Int
deriving DecidableEq
/-- a tree's nodes from number i on -/
def flatT : KT → Nat → List NdT
 | .none, _ => []
 | .node r c a b, i => ⟨r, c, if a.size = 0 then 0 else (i + 1 : Nat), if b.size = 0 then 0 else (i + 1 + a.size : Nat)⟩ :: (flatT a (i + 1) ++ flatT b (i + 1 + a.size))
theorem flatT_len : ∀ (t : KT) (i : Nat), (flatT t i).length = t.size
 | .none, _ => rfl
 | .node r c a b, i => by
  show (_ :: (flatT a (i + 1) ++ flatT b (i + 1 + a.size))).length = a.size + b.size + 1
  simp [flatT_len a, flatT_len b]
/-- a tree's shape -/
inductive Sh where
 | no : Sh
 | nd (a b : Sh) : Sh
def Sh.size : Sh → Nat
 | .no => 0
 | .nd a b => a.size + b.size + 1
def Sh.deep : Sh → Nat
 | .no => 0
 | .nd .no .no => 0
 | .nd .no b => b.deep + 1
 | .nd a .no => a.deep + 1
 | .nd a b => max (a.deep + 1) (b.deep + 1)
/-- how far below a child's part ends -/
def Sh.under (s : Sh) (d : Nat) : Nat := if s.size = 0 then d else max d (s.deep + 1)
theorem Sh.deep_nd (a b : Sh) : (Sh.nd a b).deep = b.under (a.under 0) := by
 cases a <;> cases b <;> simp [Sh.under, Sh.size, Sh.deep]
/-- nodes from number i on stand as a shape says -/
def Lay (ns : List NdT) : Sh → Nat → Prop
 | .no, _ => True
 | .nd a b, i => ∃ n, ns[i]? = some n ∧ n.l = (if a.size = 0 then 0 else ((i + 1 : Nat) : Int)) ∧ n.t = (if b.size = 0 then 0 else ((i + 1 + a.size : Nat) : Int)) ∧ Lay ns a (i + 1) ∧ Lay ns b (i + 1 + a.size)
/-- one child's part -/
def kidF (e : Nat → Option (Nat × Nat)) (ch : Int) (s : Nat × Nat) : Option (Nat × Nat) :=
 if ch = 0 then some s else if ch ≠ (s.1 : Int) then none else
  match e s.1 with
  | none => none
  | some p => some (p.1, max s.2 (p.2 + 1))
/-- where a node's part ends, how deep it is -/
def endF (ns : List NdT) : Nat → Nat → Option (Nat × Nat)
 | 0, _ => none
 | f + 1, i =>
  match ns[i]? with
  | none => none
  | some n => (kidF (endF ns f) n.l (i + 1, 0)).bind fun s => kidF (endF ns f) n.t s
theorem endF_lay (ns : List NdT) : ∀ (f i e d : Nat), endF ns f i = some (e, d) → ∃ s, 0 < s.size ∧ Lay ns s i ∧ e = i + s.size ∧ d = s.deep ∧ e ≤ ns.length
 | 0, _, _, _, h => by cases h
 | f + 1, i, e, d, h => by
  unfold endF at h
  cases hn : ns[i]? with
  | none => rw [hn] at h; cases h
  | some n =>
   rw [hn] at h
   simp only at h
   have hil : i < ns.length := (List.getElem?_eq_some_iff.1 hn).1
   have kid : ∀ (ch : Int) (s p : Nat × Nat), s.1 ≤ ns.length → kidF (endF ns f) ch s = some p → ∃ sh, (ch = if sh.size = 0 then 0 else (s.1 : Int)) ∧ Lay ns sh s.1 ∧ p.1 = s.1 + sh.size ∧ p.2 = sh.under s.2 ∧ p.1 ≤ ns.length := by
    intro ch s p hs hk
    unfold kidF at hk
    split at hk
    ·rename_i h0
     cases hk
     exact ⟨.no, by simp [Sh.size, h0], trivial, rfl, by simp [Sh.under, Sh.size], hs⟩
    ·rename_i h0
     split at hk
     ·cases hk
     ·rename_i h1
      cases he : endF ns f s.1 with
      | none => rw [he] at hk; cases hk
      | some q =>
       rw [he] at hk
       obtain ⟨sh, g1, g2, g3, g4, g5⟩ := endF_lay ns f s.1 q.1 q.2 (by rw [he])
       simp only [Option.some.injEq] at hk
       subst hk
       refine ⟨sh, ?_, g2, g3, ?_, g5⟩
       ·rw [if_neg (by omega)]
        exact Decidable.byContradiction h1
       ·unfold Sh.under
        rw [if_neg (by omega), g4]
   cases hk : kidF (endF ns f) n.l (i + 1, 0) with
   | none => rw [hk] at h; cases h
   | some s =>
    rw [hk] at h
    obtain ⟨a, a1, a2, a3, a4, a5⟩ := kid n.l (i + 1, 0) s (by simp; omega) hk
    obtain ⟨b, b1, b2, b3, b4, b5⟩ := kid n.t s (e, d) a5 h
    simp only at a1 a2 a3 a4 b1 b2 b3 b4 b5
    refine ⟨.nd a b, Nat.succ_pos _, ⟨n, hn, a1, ?_, a2, ?_⟩, ?_, ?_, b5⟩
    ·rw [b1, a3]
    ·rw [← a3]; exact b2
    ·show e = i + (a.size + b.size + 1); omega
    ·rw [Sh.deep_nd, b4, a4]
theorem lay_len {ns : List NdT} : ∀ (s : Sh) (i : Nat), Lay ns s i → 0 < s.size → i + s.size ≤ ns.length
 | .no, _, _, h => by simp [Sh.size] at h
 | .nd a b, i, ⟨n, hn, _, _, ha, hb⟩, _ => by
  have hil : i < ns.length := (List.getElem?_eq_some_iff.1 hn).1
  show i + (a.size + b.size + 1) ≤ _
  rcases Nat.eq_zero_or_pos b.size with h | h
  ·rcases Nat.eq_zero_or_pos a.size with h' | h'
   ·omega
   ·have := lay_len a (i + 1) ha h'; omega
  ·have := lay_len b _ hb h; omega
theorem lay_endF (ns : List NdT) : ∀ (s : Sh) (i f : Nat), 0 < s.size → Lay ns s i → s.size ≤ f → endF ns f i = some (i + s.size, s.deep)
 | .no, _, _, h, _, _ => by simp [Sh.size] at h
 | .nd a b, i, 0, _, _, hf => by simp [Sh.size] at hf
 | .nd a b, i, f + 1, _, ⟨n, hn, hl, ht, ha, hb⟩, hf => by
  have hs : (Sh.nd a b).size = a.size + b.size + 1 := rfl
  rw [hs] at hf
  have kid : ∀ (sh : Sh) (ch : Int) (s : Nat × Nat), 0 < s.1 → (ch = if sh.size = 0 then 0 else (s.1 : Int)) → (0 < sh.size → endF ns f s.1 = some (s.1 + sh.size, sh.deep)) → kidF (endF ns f) ch s = some (s.1 + sh.size, sh.under s.2) := by
   intro sh ch s h0 hch he
   unfold kidF Sh.under
   rcases Nat.eq_zero_or_pos sh.size with h | h
   ·rw [if_pos h] at hch
    rw [if_pos hch, if_pos h, h]
    rfl
   ·rw [if_neg (by omega)] at hch
    rw [if_neg (by omega), if_neg (by omega), if_neg (by omega), he h]
  unfold endF
  rw [hn]
  simp only
  rw [kid a n.l (i + 1, 0) (by simp) hl (fun h => lay_endF ns a (i + 1) f h ha (by omega))]
  simp only [Option.bind_some]
  rw [kid b n.t _ (by simp; omega) ht (fun h => lay_endF ns b (i + 1 + a.size) f h hb (by omega))]
  rw [Sh.deep_nd, hs]
  simp only [Option.some.injEq, Prod.mk.injEq, and_true]
  omega
def rowN (ns : List NdT) (j : Nat) : Nat := (ns[j]?.map fun n => n.r.toNat).getD 0
/-- the order of a node's part -/
def OrdAt (X : List (List Rat)) (ns : List NdT) (i e : Nat) : Prop :=
 ∀ n, ns[i]? = some n → ∀ j, i < j → j < e → ((j : Int) < (if n.t = 0 then (e : Int) else n.t) → ent X (rowN ns j) n.c.toNat ≤ ent X n.r.toNat n.c.toNat) ∧ ((if n.t = 0 then (e : Int) else n.t) ≤ (j : Int) → ent X n.r.toNat n.c.toNat ≤ ent X (rowN ns j) n.c.toNat)
/-- a tree's nodes that may be -/
def Fine (X : List (List Rat)) (w : Nat) (ns : List NdT) : Prop :=
 (∀ n ∈ ns, 0 ≤ n.c ∧ n.c < w ∧ 0 ≤ n.r ∧ n.r < X.length) ∧ (ns.map (·.r)).Nodup ∧ ∀ i e d, endF ns (ns.length + 1) i = some (e, d) → OrdAt X ns i e
theorem nodup_range : ∀ (n : Nat) (l : List Nat), l.Nodup → (∀ x ∈ l, x < n) → l.length ≤ n ∧ (l.length = n → l.Perm (List.range n))
 | 0, [], _, _ => ⟨Nat.le_refl _, fun _ => List.Perm.refl _⟩
 | 0, x :: l, _, h => absurd (h x List.mem_cons_self) (Nat.not_lt_zero _)
 | n + 1, l, hd, h => by
  by_cases hm : n ∈ l
  ·have hp := List.perm_cons_erase hm
   have hl := hp.length_eq
   rw [List.length_cons] at hl
   obtain ⟨i1, i2⟩ := nodup_range n (l.erase n) (hd.erase n) fun x hx => by
    have := (hd.mem_erase_iff).1 hx
    have := h x this.2
    omega
   refine ⟨by omega, fun e => ?_⟩
   rw [List.range_succ]
   refine hp.trans (((i2 (by omega)).cons n).trans ?_)
   exact (List.perm_append_singleton n _).symm
  ·obtain ⟨i1, _⟩ := nodup_range n l hd fun x hx => by
    have := h x hx
    have : x ≠ n := fun e => hm (e ▸ hx)
    omega
   exact ⟨by omega, fun e => by omega⟩
end Go.Proofs.YtjmopgepnndckaaGreatDoor
