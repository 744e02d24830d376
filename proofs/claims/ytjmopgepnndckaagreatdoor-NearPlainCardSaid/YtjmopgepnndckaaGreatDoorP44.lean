/-
  Contracts and laws: Own Apart Ins.
-/
import Derived.Test.YtjmopgepnndckaaGreatDoorP42
import Derived.Deep.Onto
set_option linter.unusedSimpArgs false
set_option linter.unusedVariables false
namespace Go.Proofs.YtjmopgepnndckaaGreatDoor
open Go Go.RowKit
def setAll {V : Type} : List V → Nat → List V → List V
 | xs, _, [] => xs
 | xs, i, v :: vs => setAll (xs.set i v) (i + 1) vs
theorem setAll_mid {V : Type} : ∀ (vs ys fa fb : List V), ys.length = vs.length → setAll (fa ++ (ys ++ fb)) fa.length vs = fa ++ (vs ++ fb)
 | [], ys, fa, fb, h => by
  obtain rfl : ys = [] := List.length_eq_zero_iff.1 h
  rfl
 | v :: vs, [], fa, fb, h => by cases h
 | v :: vs, y :: ys, fa, fb, h => by
  show setAll ((fa ++ (y :: ys ++ fb)).set fa.length v) (fa.length + 1) vs = _
  have e : (fa ++ (y :: ys ++ fb)).set fa.length v = (fa ++ [v]) ++ (ys ++ fb) := by
   simp [List.set_append_right]
  rw [e, show fa.length + 1 = (fa ++ [v]).length by simp, setAll_mid vs ys _ fb (by simpa using h)]
  simp
theorem flat_lenO {V α : Type} {enc : α → List V} {size : Nat} (he : ∀ x, (enc x).length = size) : ∀ ps : List α, (ps.flatMap enc).length = ps.length * size
 | [] => by simp
 | p :: ps => by rw [List.flatMap_cons, List.length_append, flat_lenO he ps, he, List.length_cons, Nat.add_mul]; omega
theorem flat_set {V α : Type} {enc : α → List V} {size : Nat} (he : ∀ x, (enc x).length = size) (ps : List α) (k : Nat) (z : α) (hk : k < ps.length) : setAll (ps.flatMap enc) (k * size) (enc z) = (ps.set k z).flatMap enc := by
 have e : ps = ps.take k ++ (ps[k] :: ps.drop (k + 1)) := by rw [← List.drop_eq_getElem_cons hk, List.take_append_drop]
 have e2 : ps.set k z = ps.take k ++ (z :: ps.drop (k + 1)) := by
  rw [List.set_eq_take_append_cons_drop, if_pos hk]
 rw [e2]
 conv => lhs; rw [e]
 rw [List.flatMap_append, List.flatMap_cons, List.flatMap_append, List.flatMap_cons]
 have hl : ((ps.take k).flatMap enc).length = k * size := by rw [flat_lenO he, List.length_take, Nat.min_eq_left (by omega)]
 have := setAll_mid (enc z) (enc ps[k]) ((ps.take k).flatMap enc) ((ps.drop (k + 1)).flatMap enc) (by rw [he, he])
 rw [hl] at this
 exact this
theorem flat_at {V α : Type} {enc : α → List V} {size : Nat} (he : ∀ x, (enc x).length = size) (ps : List α) (k j : Nat) (hk : k < ps.length) (hj : j < size) : (ps.flatMap enc)[k * size + j]? = (enc ps[k])[j]? := by
 have e : ps = ps.take k ++ (ps[k] :: ps.drop (k + 1)) := by rw [← List.drop_eq_getElem_cons hk, List.take_append_drop]
 have hl : ((ps.take k).flatMap enc).length = k * size := by rw [flat_lenO he, List.length_take, Nat.min_eq_left (by omega)]
 conv => lhs; rw [e]
 rw [List.flatMap_append, List.flatMap_cons, List.getElem?_append_right (by omega), hl, Nat.add_sub_cancel_left, List.getElem?_append_left (by rw [he]; exact hj)]
theorem grownBy_trans {u u1 u2 : World} {r : Option Nat} (h : u.grownBy u1 r) (h' : u1.grownBy u2 r) : u.grownBy u2 r := by
 obtain ⟨a1, a2, a3, a4, a5⟩ := h
 obtain ⟨b1, b2, b3, b4, b5⟩ := h'
 exact ⟨b1.trans a1, b2.trans a2, b3.trans a3, Nat.le_trans a4 b4, fun k hk hr => (b5 k (Nat.lt_of_lt_of_le hk a4) hr).trans (a5 k hk hr)⟩
theorem own_putAll {B : Nat} {e : TypeId} {size g cap n : Nat} : ∀ (vs : List Value) (i : Nat) (u : World) (xs : List Value), u.ownsRow B e size (.slice (some ⟨g, 0, none⟩) n cap) n xs →
  (putAll u g i vs).ownsRow B e size (.slice (some ⟨g, 0, none⟩) n cap) n (setAll xs i vs) ∧ u.grownBy (putAll u g i vs) (some g)
 | [], i, u, xs, h => ⟨h, ⟨rfl, rfl, rfl, Nat.le_refl _, fun _ _ _ => rfl⟩⟩
 | v :: vs, i, u, xs, h => by
  obtain ⟨h1, h2⟩ := h.stored i v
  obtain ⟨h3, h4⟩ := own_putAll vs (i + 1) _ _ h1
  exact ⟨h3, grownBy_trans h2 h4⟩
/-- element k of an own row is written -/
theorem own_put {α : Type} {enc : α → List Value} {B : Nat} {e : TypeId} {size g cap n : Nat} (he : ∀ x, (enc x).length = size) {u : World} {ps : List α} (h : u.ownsRow B e size (.slice (some ⟨g, 0, none⟩) n cap) n (ps.flatMap enc)) (k : Nat) (z : α) (hk : k < ps.length) :
  (putAll u g (k * size) (enc z)).ownsRow B e size (.slice (some ⟨g, 0, none⟩) n cap) n ((ps.set k z).flatMap enc) ∧ u.grownBy (putAll u g (k * size) (enc z)) (some g) := by
 have := own_putAll (enc z) (k * size) u _ h
 rw [flat_set he ps k z hk] at this
 exact this
/-- element k of an own row is read -/
theorem own_get {α : Type} {enc : α → List Value} {B : Nat} {e : TypeId} {size g cap n : Nat} (he : ∀ x, (enc x).length = size) {u : World} {ps : List α} (h : u.ownsRow B e size (.slice (some ⟨g, 0, none⟩) n cap) n (ps.flatMap enc)) (hn : n = ps.length) (k j : Nat) (hk : k < ps.length) (hj : j < size) :
  u.cell? ⟨g, k * size + j, none⟩ = (enc ps[k])[j]? := by
 have hlt : k * size + j < n * size := by
  have : k * size + size ≤ ps.length * size := by rw [← Nat.succ_mul]; exact Nat.mul_le_mul_right _ hk
  rw [hn]; omega
 rw [h.cellAt (k * size + j) hlt, flat_at he ps k j hk hj]
end Go.Proofs.YtjmopgepnndckaaGreatDoor
namespace Go.Proofs.YtjmopgepnndckaaGreatDoor
open Go Go.RowKit
/-- two rows lie in two blocks -/
def Apart (v v2 : Value) : Prop := ∀ g, v.ownBlock = some g → v2.ownBlock = some g → False
theorem Apart.symm {v v2 : Value} (h : Apart v v2) : Apart v2 v := fun g h1 h2 => h g h2 h1
end Go.Proofs.YtjmopgepnndckaaGreatDoor
namespace Go.Proofs.YtjmopgepnndckaaGreatDoor
open Go Go.RowKit
/-- an element put in at place k -/
def insAt {α : Type} (ps : List α) (k : Nat) (y : α) : List α := ps.take k ++ y :: ps.drop k
theorem insAt_end {α : Type} (ps : List α) (y : α) : insAt ps ps.length y = ps ++ [y] := by simp [insAt]
theorem insAt_len {α : Type} (ps : List α) (k : Nat) (y : α) (hk : k ≤ ps.length) : (insAt ps k y).length = ps.length + 1 := by
 unfold insAt; rw [List.length_append, List.length_cons, List.length_take, List.length_drop]; omega
theorem insAt_perm {α : Type} (ps : List α) (k : Nat) (y : α) : (insAt ps k y).Perm (y :: ps) := by
 unfold insAt
 refine List.perm_middle.trans ?_
 rw [List.take_append_drop]
theorem insAt_set {α : Type} (ps : List α) (k : Nat) (y z : α) (hk : k ≤ ps.length) : (insAt ps k y).set k z = insAt ps k z := by
 unfold insAt
 have : (ps.take k).length = k := by rw [List.length_take]; omega
 rw [List.set_append_right _ _ (by omega), this, Nat.sub_self, List.set_cons_zero]
/-- the element ahead is moved up: the place goes down by one -/
theorem insAt_down {α : Type} (ps : List α) (k : Nat) (y : α) (hk : k < ps.length) : (insAt ps (k + 1) y).set (k + 1) ps[k] = insAt ps k ps[k] := by
 rw [insAt_set _ _ _ _ (by omega)]
 unfold insAt
 rw [List.take_succ_eq_append_getElem hk, List.append_assoc, List.drop_eq_getElem_cons hk]
 rfl
theorem insAt_get {α : Type} (ps : List α) (k j : Nat) (y : α) (hj : j < k) (hk : k ≤ ps.length) : (insAt ps k y)[j]? = ps[j]? := by
 unfold insAt
 rw [List.getElem?_append_left (by rw [List.length_take]; omega), List.getElem?_take, if_pos hj]
theorem insAt_map {α β : Type} (f : α → β) (ps : List α) (k : Nat) (y : α) : (insAt ps k y).map f = insAt (ps.map f) k (f y) := by
 unfold insAt
 rw [List.map_append, List.map_cons, List.map_take, List.map_drop]
/-- where all behind are no less and the one ahead is no greater the list stays in order -/
theorem insAt_sorted {α : Type} {R : α → α → Prop} (ht : ∀ {a b c}, R a b → R b c → R a c) (ps : List α) (k : Nat) (y : α) (hk : k ≤ ps.length) (hs : ps.Pairwise R) (h1 : ∀ j (h : j < ps.length), k ≤ j → R y ps[j]) (h2 : ∀ j (h : j < ps.length), j + 1 = k → R ps[j] y) : (insAt ps k y).Pairwise R := by
 have h3 : ∀ j (h : j < ps.length), j < k → R ps[j] y := fun j h hjk => by
  by_cases e : j + 1 = k
  ·exact h2 j h e
  ·have hp := List.pairwise_iff_getElem.1 hs j (k - 1) h (by omega) (by omega)
   exact ht hp (h2 (k - 1) (by omega) (by omega))
 unfold insAt
 rw [List.pairwise_append, List.pairwise_cons]
 refine ⟨hs.take, ⟨fun x hx => ?_, hs.drop⟩, fun a ha b hb => ?_⟩
 ·obtain ⟨j, hj, rfl⟩ := List.getElem_of_mem hx
  rw [List.length_drop] at hj
  rw [List.getElem_drop]
  exact h1 _ _ (by omega)
 ·obtain ⟨i, hi, rfl⟩ := List.getElem_of_mem ha
  rw [List.length_take] at hi
  rw [List.getElem_take]
  have hi1 : i < k := by omega
  have hi2 : i < ps.length := by omega
  rcases List.mem_cons.1 hb with rfl | hb
  ·exact h3 i hi2 hi1
  ·obtain ⟨j, hj, rfl⟩ := List.getElem_of_mem hb
   rw [List.length_drop] at hj
   rw [List.getElem_drop]
   exact List.pairwise_iff_getElem.1 hs i (k + j) hi2 (by omega) (by omega)
theorem rn_kept {u w' : World} {B : Nat} {e : TypeId} {size n : Nat} {v : Value} {xs : List Value} {x : Ax} {a : Nat} (hl : Rn u x a) (h : u.ownsRow B e size v n xs) (ht : e ≠ 162) (hg : u.grownBy w' v.ownBlock) : Rn w' x a := ⟨fun hne => by
 obtain ⟨b, off, cs, fr, e1, hb, hc⟩ := hl.1 hne
 refine ⟨b, off, cs, fr, e1, ?_, hc⟩
 refine (hg.block b (heap_lt hb) fun hxe => ?_).trans hb
 obtain ⟨_, h | ⟨g, cap, cur, rfl, hb', hh, hn, hc', hs, ht2⟩⟩ := h
 ·rw [h.1] at hxe; cases hxe
 ·have h1 : b = g := Option.some.inj hxe
  rw [h1, hh] at hb
  injection hb with hb
  injection hb with _ h3 _
  exact ht h3, hl.2⟩
theorem rz_kept {u w' : World} {B : Nat} {e : TypeId} {size n : Nat} {v : Value} {xs : List Value} {p : Az} {q : Rat} (hl : Rz u p q) (h : u.ownsRow B e size v n xs) (ht : e ≠ 162) (hg : u.grownBy w' v.ownBlock) : Rz w' p q := ⟨rn_kept hl.1 h ht hg, rn_kept hl.2 h ht hg⟩
theorem allz_kept {u w' : World} {B : Nat} {e : TypeId} {size n : Nat} {v : Value} {xs : List Value} {ps : List Zr} (hl : AllZ u ps) (h : u.ownsRow B e size v n xs) (ht : e ≠ 162) (hg : u.grownBy w' v.ownBlock) : AllZ w' ps := fun r hr => rz_kept (hl r hr) h ht hg
/-- a row that is not empty has a block -/
theorem own_slice {u : World} {B : Nat} {e : TypeId} {size n : Nat} {v : Value} {xs : List Value} (h : u.ownsRow B e size v n xs) (h0 : 0 < n) : ∃ g cap, v = .slice (some ⟨g, 0, none⟩) n cap ∧ B ≤ g ∧ n ≤ cap := by
 obtain ⟨_, h | ⟨g, cap, cur, rfl, hb', hh, hn, hc', hs, ht2⟩⟩ := h
 ·omega
 ·exact ⟨g, cap, rfl, hb', hn⟩
/-- rows of two types of elements lie apart -/
theorem apart_types {u : World} {B B' : Nat} {e e' : TypeId} {s s' : Nat} {v v' : Value} {n n' : Nat} {xs xs' : List Value} (h : u.ownsRow B e s v n xs) (h' : u.ownsRow B' e' s' v' n' xs') (hne : e ≠ e') : Apart v v' := fun g h1 h2 => by
 obtain ⟨_, h | ⟨g1, cap, cur, rfl, hb, hh, hn, hc, hs, ht⟩⟩ := h
 ·rw [h.1] at h1; cases h1
 ·obtain ⟨_, h' | ⟨g2, cap', cur', rfl, hb', hh', hn', hc', hs', ht'⟩⟩ := h'
  ·rw [h'.1] at h2; cases h2
  ·have e1 : g = g1 := Option.some.inj h1.symm
   have e2 : g = g2 := Option.some.inj h2.symm
   rw [← e1] at hh
   rw [← e2, hh] at hh'
   injection hh' with hh'
   injection hh' with _ h3 _
   exact hne h3
theorem own_kgrow' {w u u' : World} {e : TypeId} {size n : Nat} {v : Value} {xs : List Value} (h : u.ownsRow w.heap.size e size v n xs) (hG : Grow w u) (hg : u.grownBy u' v.ownBlock) : Grow w u' := hG.grown hg fun k hk => (h.lt k hk).1
end Go.Proofs.YtjmopgepnndckaaGreatDoor
