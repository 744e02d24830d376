/-
  Contracts and laws: Own Ins RefS.
-/
import Derived.Test.YtimjnkfcnpfoeaaGreatDoorU40
import Derived.Deep.Onto
set_option linter.unusedSimpArgs false
set_option linter.unusedVariables false
namespace Go.Proofs.YtimjnkfcnpfoeaaGreatDoor
open Go Go.RowKit
def setAll {V : Type} : List V → Nat → List V → List V
 | xs, _, [] => xs
 | xs, i, v :: vs => setAll (xs.set i v) (i + 1) vs
theorem setAll_mid {V : Type} : ∀ (vs ys fa fb : List V), ys.length = vs.length → setAll (fa ++ (ys ++ fb)) fa.length vs = fa ++ (vs ++ fb)
 | [], ys, fa, fb, h => by
  obtain rfl : ys = [] := List.length_eq_zero_iff.1 h
  rfl
 | v :: vs, [], fa, fb, h => by cases h
 | v :: vs, y :: ys, fa, fb, h => by
  show setAll ((fa ++ (y :: ys ++ fb)).set fa.length v) (fa.length + 1) vs = _
  have e : (fa ++ (y :: ys ++ fb)).set fa.length v = (fa ++ [v]) ++ (ys ++ fb) := by
   simp [List.set_append_right]
  rw [e, show fa.length + 1 = (fa ++ [v]).length by simp, setAll_mid vs ys _ fb (by simpa using h)]
  simp
theorem flat_lenO {V α : Type} {enc : α → List V} {size : Nat} (he : ∀ x, (enc x).length = size) : ∀ ps : List α, (ps.flatMap enc).length = ps.length * size
 | [] => by simp
 | p :: ps => by rw [List.flatMap_cons, List.length_append, flat_lenO he ps, he, List.length_cons, Nat.add_mul]; omega
theorem flat_set {V α : Type} {enc : α → List V} {size : Nat} (he : ∀ x, (enc x).length = size) (ps : List α) (k : Nat) (z : α) (hk : k < ps.length) : setAll (ps.flatMap enc) (k * size) (enc z) = (ps.set k z).flatMap enc := by
 have e : ps = ps.take k ++ (ps[k] :: ps.drop (k + 1)) := by rw [← List.drop_eq_getElem_cons hk, List.take_append_drop]
 have e2 : ps.set k z = ps.take k ++ (z :: ps.drop (k + 1)) := by
  rw [List.set_eq_take_append_cons_drop, if_pos hk]
 rw [e2]
 conv => lhs; rw [e]
 rw [List.flatMap_append, List.flatMap_cons, List.flatMap_append, List.flatMap_cons]
 have hl : ((ps.take k).flatMap enc).length = k * size := by rw [flat_lenO he, List.length_take, Nat.min_eq_left (by omega)]
 have := setAll_mid (enc z) (enc ps[k]) ((ps.take k).flatMap enc) ((ps.drop (k + 1)).flatMap enc) (by rw [he, he])
 rw [hl] at this
 exact this
theorem flat_at {V α : Type} {enc : α → List V} {size : Nat} (he : ∀ x, (enc x).length = size) (ps : List α) (k j : Nat) (hk : k < ps.length) (hj : j < size) : (ps.flatMap enc)[k * size + j]? = (enc ps[k])[j]? := by
 have e : ps = ps.take k ++ (ps[k] :: ps.drop (k + 1)) := by rw [← List.drop_eq_getElem_cons hk, List.take_append_drop]
 have hl : ((ps.take k).flatMap enc).length = k * size := by rw [flat_lenO he, List.length_take, Nat.min_eq_left (by omega)]
 conv => lhs; rw [e]
 rw [List.flatMap_append, List.flatMap_cons, List.getElem?_append_right (by omega), hl, Nat.add_sub_cancel_left, List.getElem?_append_left (by rw [he]; exact hj)]
theorem grownBy_trans {u u1 u2 : World} {r : Option Nat} (h : u.grownBy u1 r) (h' : u1.grownBy u2 r) : u.grownBy u2 r := by
 obtain ⟨a1, a2, a3, a4, a5⟩ := h
 obtain ⟨b1, b2, b3, b4, b5⟩ := h'
 exact ⟨b1.trans a1, b2.trans a2, b3.trans a3, Nat.le_trans a4 b4, fun k hk hr => (b5 k (Nat.lt_of_lt_of_le hk a4) hr).trans (a5 k hk hr)⟩
theorem own_putAll {B : Nat} {e : TypeId} {size g cap n : Nat} : ∀ (vs : List Value) (i : Nat) (u : World) (xs : List Value), u.ownsRow B e size (.slice (some ⟨g, 0, none⟩) n cap) n xs →
  (putAll u g i vs).ownsRow B e size (.slice (some ⟨g, 0, none⟩) n cap) n (setAll xs i vs) ∧ u.grownBy (putAll u g i vs) (some g)
 | [], i, u, xs, h => ⟨h, ⟨rfl, rfl, rfl, Nat.le_refl _, fun _ _ _ => rfl⟩⟩
 | v :: vs, i, u, xs, h => by
  obtain ⟨h1, h2⟩ := h.stored i v
  obtain ⟨h3, h4⟩ := own_putAll vs (i + 1) _ _ h1
  exact ⟨h3, grownBy_trans h2 h4⟩
/-- element k of an own row is written -/
theorem own_put {α : Type} {enc : α → List Value} {B : Nat} {e : TypeId} {size g cap n : Nat} (he : ∀ x, (enc x).length = size) {u : World} {ps : List α} (h : u.ownsRow B e size (.slice (some ⟨g, 0, none⟩) n cap) n (ps.flatMap enc)) (k : Nat) (z : α) (hk : k < ps.length) :
  (putAll u g (k * size) (enc z)).ownsRow B e size (.slice (some ⟨g, 0, none⟩) n cap) n ((ps.set k z).flatMap enc) ∧ u.grownBy (putAll u g (k * size) (enc z)) (some g) := by
 have := own_putAll (enc z) (k * size) u _ h
 rw [flat_set he ps k z hk] at this
 exact this
/-- element k of an own row is read -/
theorem own_get {α : Type} {enc : α → List Value} {B : Nat} {e : TypeId} {size g cap n : Nat} (he : ∀ x, (enc x).length = size) {u : World} {ps : List α} (h : u.ownsRow B e size (.slice (some ⟨g, 0, none⟩) n cap) n (ps.flatMap enc)) (hn : n = ps.length) (k j : Nat) (hk : k < ps.length) (hj : j < size) :
  u.cell? ⟨g, k * size + j, none⟩ = (enc ps[k])[j]? := by
 have hlt : k * size + j < n * size := by
  have : k * size + size ≤ ps.length * size := by rw [← Nat.succ_mul]; exact Nat.mul_le_mul_right _ hk
  rw [hn]; omega
 rw [h.cellAt (k * size + j) hlt, flat_at he ps k j hk hj]
end Go.Proofs.YtimjnkfcnpfoeaaGreatDoor
namespace Go.Proofs.YtimjnkfcnpfoeaaGreatDoor
open Go Go.RowKit
/-- an element put in at place k -/
def insAt {α : Type} (ps : List α) (k : Nat) (y : α) : List α := ps.take k ++ y :: ps.drop k
theorem insAt_end {α : Type} (ps : List α) (y : α) : insAt ps ps.length y = ps ++ [y] := by simp [insAt]
theorem insAt_len {α : Type} (ps : List α) (k : Nat) (y : α) (hk : k ≤ ps.length) : (insAt ps k y).length = ps.length + 1 := by
 unfold insAt; rw [List.length_append, List.length_cons, List.length_take, List.length_drop]; omega
theorem insAt_perm {α : Type} (ps : List α) (k : Nat) (y : α) : (insAt ps k y).Perm (y :: ps) := by
 unfold insAt
 refine List.perm_middle.trans ?_
 rw [List.take_append_drop]
theorem insAt_set {α : Type} (ps : List α) (k : Nat) (y z : α) (hk : k ≤ ps.length) : (insAt ps k y).set k z = insAt ps k z := by
 unfold insAt
 have : (ps.take k).length = k := by rw [List.length_take]; omega
 rw [List.set_append_right _ _ (by omega), this, Nat.sub_self, List.set_cons_zero]
/-- the element ahead is moved up: the place goes down by one -/
theorem insAt_down {α : Type} (ps : List α) (k : Nat) (y : α) (hk : k < ps.length) : (insAt ps (k + 1) y).set (k + 1) ps[k] = insAt ps k ps[k] := by
 rw [insAt_set _ _ _ _ (by omega)]
 unfold insAt
 rw [List.take_succ_eq_append_getElem hk, List.append_assoc, List.drop_eq_getElem_cons hk]
 rfl
theorem insAt_get {α : Type} (ps : List α) (k j : Nat) (y : α) (hj : j < k) (hk : k ≤ ps.length) : (insAt ps k y)[j]? = ps[j]? := by
 unfold insAt
 rw [List.getElem?_append_left (by rw [List.length_take]; omega), List.getElem?_take, if_pos hj]
theorem insAt_map {α β : Type} (f : α → β) (ps : List α) (k : Nat) (y : α) : (insAt ps k y).map f = insAt (ps.map f) k (f y) := by
 unfold insAt
 rw [List.map_append, List.map_cons, List.map_take, List.map_drop]
/-- where all behind are no less and the one ahead is no greater the list stays in order -/
theorem insAt_sorted {α : Type} {R : α → α → Prop} (ht : ∀ {a b c}, R a b → R b c → R a c) (ps : List α) (k : Nat) (y : α) (hk : k ≤ ps.length) (hs : ps.Pairwise R) (h1 : ∀ j (h : j < ps.length), k ≤ j → R y ps[j]) (h2 : ∀ j (h : j < ps.length), j + 1 = k → R ps[j] y) : (insAt ps k y).Pairwise R := by
 have h3 : ∀ j (h : j < ps.length), j < k → R ps[j] y := fun j h hjk => by
  by_cases e : j + 1 = k
  ·exact h2 j h e
  ·have hp := List.pairwise_iff_getElem.1 hs j (k - 1) h (by omega) (by omega)
   exact ht hp (h2 (k - 1) (by omega) (by omega))
 unfold insAt
 rw [List.pairwise_append, List.pairwise_cons]
 refine ⟨hs.take, ⟨fun x hx => ?_, hs.drop⟩, fun a ha b hb => ?_⟩
 ·obtain ⟨j, hj, rfl⟩ := List.getElem_of_mem hx
  rw [List.length_drop] at hj
  rw [List.getElem_drop]
  exact h1 _ _ (by omega)
 ·obtain ⟨i, hi, rfl⟩ := List.getElem_of_mem ha
  rw [List.length_take] at hi
  rw [List.getElem_take]
  have hi1 : i < k := by omega
  have hi2 : i < ps.length := by omega
  rcases List.mem_cons.1 hb with rfl | hb
  ·exact h3 i hi2 hi1
  ·obtain ⟨j, hj, rfl⟩ := List.getElem_of_mem hb
   rw [List.length_drop] at hj
   rw [List.getElem_drop]
   exact List.pairwise_iff_getElem.1 hs i (k + j) hi2 (by omega) (by omega)
theorem rn_kept {u w' : World} {B : Nat} {e : TypeId} {size n : Nat} {v : Value} {xs : List Value} {x : Ax} {a : Nat} (hl : Rn u x a) (h : u.ownsRow B e size v n xs) (ht : e ≠ 157) (hg : u.grownBy w' v.ownBlock) : Rn w' x a := ⟨fun hne => by
 obtain ⟨b, off, cs, fr, e1, hb, hc⟩ := hl.1 hne
 refine ⟨b, off, cs, fr, e1, ?_, hc⟩
 refine (hg.block b (heap_lt hb) fun hxe => ?_).trans hb
 obtain ⟨_, h | ⟨g, cap, cur, rfl, hb', hh, hn, hc', hs, ht2⟩⟩ := h
 ·rw [h.1] at hxe; cases hxe
 ·have h1 : b = g := Option.some.inj hxe
  rw [h1, hh] at hb
  injection hb with hb
  injection hb with _ h3 _
  exact ht h3, hl.2⟩
theorem rz_kept {u w' : World} {B : Nat} {e : TypeId} {size n : Nat} {v : Value} {xs : List Value} {p : Az} {q : Rat} (hl : Rz u p q) (h : u.ownsRow B e size v n xs) (ht : e ≠ 157) (hg : u.grownBy w' v.ownBlock) : Rz w' p q := ⟨rn_kept hl.1 h ht hg, rn_kept hl.2 h ht hg⟩
theorem allz_kept {u w' : World} {B : Nat} {e : TypeId} {size n : Nat} {v : Value} {xs : List Value} {ps : List Zr} (hl : AllZ u ps) (h : u.ownsRow B e size v n xs) (ht : e ≠ 157) (hg : u.grownBy w' v.ownBlock) : AllZ w' ps := fun r hr => rz_kept (hl r hr) h ht hg
/-- a row that is not empty has a block -/
theorem own_slice {u : World} {B : Nat} {e : TypeId} {size n : Nat} {v : Value} {xs : List Value} (h : u.ownsRow B e size v n xs) (h0 : 0 < n) : ∃ g cap, v = .slice (some ⟨g, 0, none⟩) n cap ∧ B ≤ g ∧ n ≤ cap := by
 obtain ⟨_, h | ⟨g, cap, cur, rfl, hb', hh, hn, hc', hs, ht2⟩⟩ := h
 ·omega
 ·exact ⟨g, cap, rfl, hb', hn⟩
/-- rows of two types of elements lie apart -/
theorem apart_types {u : World} {B B' : Nat} {e e' : TypeId} {s s' : Nat} {v v' : Value} {n n' : Nat} {xs xs' : List Value} (h : u.ownsRow B e s v n xs) (h' : u.ownsRow B' e' s' v' n' xs') (hne : e ≠ e') : Apart v v' := fun g h1 h2 => by
 obtain ⟨_, h | ⟨g1, cap, cur, rfl, hb, hh, hn, hc, hs, ht⟩⟩ := h
 ·rw [h.1] at h1; cases h1
 ·obtain ⟨_, h' | ⟨g2, cap', cur', rfl, hb', hh', hn', hc', hs', ht'⟩⟩ := h'
  ·rw [h'.1] at h2; cases h2
  ·have e1 : g = g1 := Option.some.inj h1.symm
   have e2 : g = g2 := Option.some.inj h2.symm
   rw [← e1] at hh
   rw [← e2, hh] at hh'
   injection hh' with hh'
   injection hh' with _ h3 _
   exact hne h3
theorem own_kgrow' {w u u' : World} {e : TypeId} {size n : Nat} {v : Value} {xs : List Value} (h : u.ownsRow w.heap.size e size v n xs) (hG : Grow w u) (hg : u.grownBy u' v.ownBlock) : Grow w u' := hG.grown hg fun k hk => (h.lt k hk).1
/-- an append of one element that lies already in a block -/
theorem app_oneG {ops : Array Oper} {a : Act} {u : World} {K : Act → World → Prop} {d2 : Option Nat} {s z : Operand} {t2 : TypeId} {p2 : String} {f2 : Array Edge} {rest : List Oper} {T e : TypeId} {size bytes : Nat} (hE : EI T e size bytes)
  (B : Nat) (v : Value) (n : Nat) (xs : List Value) (b : Nat) (ys : List Value) (hy : ys.length = size) (h1 : (ys.all fun y => y.oneCell') = true) (hblk : Blk u b e ys.toArray)
  (hs : a.eval s = v) (hz : a.eval z = .slice (some ⟨b, 0, none⟩) 1 1)
  (hown : u.ownsRow B e size v n xs) (hl : n + 1 ≤ 1099511627776) (hl2 : (n + 1) * bytes ≤ 140737488355328) (hB : B ≤ u.heap.size)
  (h : ∀ v' w', w'.ownsRow B e size v' (n + 1) (xs ++ ys) → u.grownBy w' v.ownBlock → (v'.ownBlock = v.ownBlock ∨ v'.ownBlock = some u.heap.size) → wpList Tryz.prog ops (NoK K) rest (a.put d2 v') w') :
  wpList Tryz.prog ops (NoK K) (⟨d2, .call { callee := .builtin .append, args := #[s, z], argTypes := #[T, T] }, t2, p2, f2, none⟩ :: rest) a u := by
 obtain ⟨hund, ⟨i0, z0, hi0, hz0, hz1, hz2, hz3⟩, hpos⟩ := hE
 refine wpList_append_own_at u (a := a) (Q := NoK K) rfl s z T rfl B e i0 z0 size bytes hund hi0 hz0 hz1 hz2 hz3 hpos v n xs hs hown ⟨b, 0, none⟩ 1 1 ys hz (by rw [hy]; omega) ?_ (fun y hy => List.all_eq_true.1 h1 y hy) (by unfold maxLen; omega) hl2 hB fun v' w' g1 g2 _ g4 => h v' w' g1 g2 g4
 intro j y hj
 rw [Go.WideShapes.add_plain, Nat.zero_add, Blk.cell hblk j, List.getElem?_toArray]
 exact hj
end Go.Proofs.YtimjnkfcnpfoeaaGreatDoor
namespace Go.Proofs.YtimjnkfcnpfoeaaGreatDoor
open Go Go.RowKit
theorem rsort_ins {l ps : List Rat} {i k : Nat} (hi : i < l.length) (hp : ps = rsort (l.take i)) (hk : k ≤ ps.length) (h1 : ∀ j (h : j < ps.length), k ≤ j → gq l i ≤ ps[j]) (h2 : ∀ j (h : j < ps.length), j + 1 = k → ps[j] ≤ gq l i) : insAt ps k (gq l i) = rsort (l.take (i + 1)) := by
 have e : gq l i = l[i] := by unfold gq; rw [List.getElem?_eq_getElem hi]; rfl
 refine rsort_uniq ?_ (insAt_sorted (R := fun a b : Rat => a ≤ b) (fun h1 h2 => Rat.le_trans h1 h2) ps k _ hk (hp ▸ rsort_sorted _) h1 h2)
 refine (insAt_perm ps k _).trans ?_
 rw [List.take_succ_eq_append_getElem hi, e]
 refine ((hp ▸ rsort_perm _ : ps.Perm (l.take i)).cons _).trans ?_
 exact (List.perm_append_singleton _ _).symm
theorem rsort_nil : rsort [] = [] := by simp [rsort]
theorem own_zlen {u : World} {B n : Nat} {v : Value} {ps : List Zr} (h : u.ownsRow B 41 3 v n (ps.flatMap zrL)) : ps.length = n := by
 have := h.1; rw [flatz_len] at this; omega
theorem own_kgrow {w u u' : World} {e : TypeId} {size n : Nat} {v : Value} {xs : List Value} (h : u.ownsRow w.heap.size e size v n xs) (hG : Grow w u) (hg : u.grownBy u' v.ownBlock) : Grow w u' := hG.grown hg fun k hk => (h.lt k hk).1
theorem cmpQ_pos {a b : Rat} : (0 < cmpQ a b) ↔ b < a := by
 unfold cmpQ
 by_cases h1 : a < b
 ·rw [if_pos h1]
  exact ⟨fun h => absurd h (by omega), fun h => absurd h1 (Rat.not_lt.2 (Rat.le_of_lt h))⟩
 ·rw [if_neg h1]
  by_cases h2 : b < a
  ·rw [if_pos h2]; exact ⟨fun _ => h2, fun _ => by omega⟩
  ·rw [if_neg h2]; exact ⟨fun h => absurd h (by omega), fun h => absurd h h2⟩
/-- an element of a row of the call's own, read -/
theorem own_cz {u : World} {B g cap n : Nat} {ps : List Zr} (h : u.ownsRow B 41 3 (.slice (some ⟨g, 0, none⟩) n cap) n (ps.flatMap zrL)) {k : Nat} (hk : k < ps.length) : Cz u g (k * 3) ps[k].1 ps[k].2 :=
 ⟨own_get zrL_len h (own_zlen h).symm k 0 hk (by omega), own_get zrL_len h (own_zlen h).symm k 1 hk (by omega), own_get zrL_len h (own_zlen h).symm k 2 hk (by omega)⟩
/-- the three cells of an element of an own row may be written -/
theorem own_spot {α : Type} {enc : α → List Value} {B : Nat} {e : TypeId} {g cap n : Nat} (he : ∀ x, (enc x).length = 3) {u : World} {ps : List α} (h : u.ownsRow B e 3 (.slice (some ⟨g, 0, none⟩) n cap) n (ps.flatMap enc)) (hn : n = ps.length) (k : Nat) (hk : k < ps.length) :
  ∃ x y z, u.cell? ⟨g, k * 3, none⟩ = some x ∧ u.cell? ⟨g, k * 3 + 1, none⟩ = some y ∧ u.cell? ⟨g, k * 3 + 2, none⟩ = some z ∧ ∀ j, u.frozen? ⟨g, j, none⟩ = false := by
 have hl := he ps[k]
 have h0 := own_get he h hn k 0 hk (by omega)
 have h1 := own_get he h hn k 1 hk (by omega)
 have h2 := own_get he h hn k 2 hk (by omega)
 rw [List.getElem?_eq_getElem (by omega)] at h0 h1 h2
 refine ⟨_, _, _, h0, h1, h2, fun j => ?_⟩
 rcases h.2 with ⟨hv, -⟩ | ⟨g', cap', cur, hv, -, hg, -⟩
 ·cases hv
 ·cases hv
  unfold World.frozen?
  simp only [hg]
  simp
set_option maxHeartbeats 2000000 in
set_option maxRecDepth 100000 in
theorem ref1_SortO (A : Option Addr) (l : List Rat) (c n : Nat) (hn : n = l.length) (hm : n ≤ 1048576) (s : Nat) (hs : ∀ x ∈ l, qs x ≤ s) (hBs : 2 * s + 1 ≤ BIG) (w : World) (h : Lz w A l) :
  Calls Tryz.prog 114 #[.slice A n c] w fun e w' => ∃ (v : Value) (ps : List Zr), e = .returned v ∧ ps.map (·.2) = rsort l ∧ AllZ w' ps ∧ w'.ownsRow w.heap.size 41 3 v n (ps.flatMap zrL) ∧ Grow w w' := by
 have H := Lib.hid h
 have Hn := Lib.hid hn
 have Hs := Lib.hid hs
 clear h hn hs
 go_enter Tryz.func114, Tryz.ntmps114
 refine en0 ?_
 intro u hG hB hF
 refine r0T ?_
 refine wp_seq ?_
 refine r0T ?_
 refine wp_block ?_
 clear hB hF
 go_loopw [4, 3] (fun s0 s1 wr => ∃ (i : Nat) (ps : List Zr), i ≤ n ∧ s0 = .int .i64 i ∧ ps.map (·.2) = rsort (l.take i) ∧ AllZ wr ps ∧ wr.ownsRow w.heap.size 41 3 s1 i (ps.flatMap zrL) ∧ Grow w wr) (fun s0 _ _ => n - (intOf s0).toNat)
 case atStart => exact ⟨0, [], Nat.zero_le _, rfl, rsort_nil.symm, AllZ.nil _, World.ownsRow_nil _ _ _ _, hG⟩
 case round =>
  clear hG
  obtain ⟨i, ps, hi, rfl, hps, hA, ho, hG⟩ := hrel
  obtain ⟨u, rfl⟩ : ∃ x, x = wr := ⟨_, rfl⟩
  have hB := Bx.nil u
  have hF := Fr.nil w
  have hpl := own_zlen ho
  obtain ⟨A', cc, rfl, hcc1, hcc2, hL, hkl⟩ := own_lz ho hA
  rcases Nat.lt_or_ge i n with hlt | hge
  ·have hdec : decide ((i : Int) < (n : Int)) = true := by simp; omega
   have hil : i < l.length := by rw [← Hn.out]; exact hlt
   have hrt : ∀ k, k ≤ ps.length → (∀ j (h : j < ps.length), k ≤ j → gq l i ≤ ps[j].2) → (∀ j (h : j < ps.length), j + 1 = k → ps[j].2 ≤ gq l i) → ∀ p, (insAt ps k (p, gq l i)).map (·.2) = rsort (l.take (i + 1)) := fun k hk h1 h2 p => by
    rw [insAt_map]
    exact rsort_ins hil hps (by simpa using hk) (fun j hj => by simpa using h1 j (by simpa using hj)) (fun j hj => by simpa using h2 j (by simpa using hj))
   obtain ⟨ba, oa, rfl⟩ := H.out.addr (by omega)
   obtain ⟨pz, hrd⟩ := H.out.read hil
   have z := Hs.out _ (gq_mem hil)
   have zps : ∀ j (h : j < ps.length), qs ps[j].2 ≤ s := fun j h => by
    have h1 : ps[j].2 ∈ ps.map (·.2) := List.mem_map_of_mem (List.getElem_mem h)
    rw [hps] at h1
    exact Hs.out _ (List.mem_of_mem_take ((rsort_perm _).mem_iff.1 h1))
   obtain ⟨X, hX⟩ : ∃ F, F = gq l i := ⟨_, rfl⟩
   simp only [← hX] at hrd hrt z
   have Ho := Lib.hid ho
   have Hrd := Lib.hid hrd
   have Hrt := Lib.hid hrt
   have Zps := Lib.hid zps
   clear ho hps hcc1 hcc2 hL hkl hrd hrt zps hX hil
   refine wp_seq ?_
   refine r0T ?_
   refine wp_cond_true (rfl) ?_
   refine wp_skip ?_
   refine then_norm ?_
   refine wp_seq ?_
   refine wp_block ?_
   refine r0T ?_
   refine wp_seq ?_
   refine wp_rs (w := w) allocs 5 [0, 0, 0, 0, 0] (by kernel_rfl) (by simp only [List.drop_succ_cons, List.drop_zero]; exact rfl) (fun _ => True) noG hB hG trivial ?_
   intro K L hN hL
   simp only [List.zip_cons_cons, List.zip_nil_left]
   repeat first | refine gya ?_ | refine gyr ?_ | refine gna ?_ | refine gyb (by (rintro v ⟨hgu, hB, hG, -⟩ N hN; have r := hB.r; simp only [BxR] at r; obtain ⟨-, c1, c2, c3⟩ := Hrd.out v hG; go_simp; exact hN)) ?_
   refine gend ?_
   rintro v ⟨hgu, hB1, hG1, -⟩
   replace hA := hA.grow hgu
   have ROWn := Lib.hid (own_grow' Ho.out hgu)
   clear Ho
   have Ho := ROWn
   clear ROWn
   clear hB hG
   have hB := hB1
   have hG := hG1
   clear hB1 hG1
   refine hL _ _ ?_
   clear hL L hgu
   obtain ⟨u, rfl⟩ : ∃ x, x = v := ⟨_, rfl⟩
   refine app_tailG ei_RQ w.heap.size _ _ _ _ (zL pz X) rfl rfl (bs_RQ pz.1 pz.2 X u) rfl (fun _ => rfl) (fun _ => rfl) (fun _ _ => rfl) Ho.out (by omega) (by omega) hG.sz fun p v' w' g1 g2 g3 => ?_
   have hBn := Bx.nil w'
   have hGn := own_growth Ho.out hG g2
   replace hA := hA.own Ho.out (by decide) g2
   clear Ho hB hG
   have Ho := Lib.hid g1
   have hB := hBn
   have hG := hGn
   clear g1 g2 g3 hBn hGn
   obtain ⟨u, rfl⟩ : ∃ x, x = w' := ⟨_, rfl⟩
   simp only [Act.put, List.setIfInBounds_toArray, List.set_cons_succ, List.set_cons_zero]
   refine NoK.norm (hN _ _ ?_)
   clear hN K
   refine then_norm ?_
   refine wp_seq ?_
   refine wp_block ?_
   have ho2 : u.ownsRow w.heap.size 41 3 v' (i + 1) ((insAt ps i (pz, X)).flatMap zrL) := by
    have h1 := Ho.out
    rw [← hpl, insAt_end, List.flatMap_append]
    rw [← hpl] at h1
    simpa [zrL] using h1
   clear Ho
   obtain ⟨i1, hi1⟩ : ∃ x, i + 1 = x := ⟨_, rfl⟩
   rw [hi1] at ho2
   obtain ⟨g, cap, rfl, hgb, hcap⟩ := own_slice ho2 (by omega)
   go_loopw [5] (fun s0 wr => ∃ (k : Nat) (y : Zr), k ≤ i ∧ s0 = .int .i64 k ∧ (∀ j (h : j < ps.length), k ≤ j → X ≤ ps[j].2) ∧ AllZ wr ps ∧ wr.ownsRow w.heap.size 41 3 (.slice (some ⟨g, 0, none⟩) i1 cap) i1 ((insAt ps k y).flatMap zrL) ∧ Grow w wr) (fun s0 _ => (intOf s0).toNat)
   case atStart => exact ⟨i, (pz, X), Nat.le_refl _, rfl, fun j h hj => by omega, hA, ho2, hG⟩
   case round =>
    clear hG hA ho2 hB
    obtain ⟨k, y, hk, rfl, hup, hA, ho, hG⟩ := hrel
    obtain ⟨u, rfl⟩ : ∃ x, x = wr := ⟨_, rfl⟩
    have hB := Bx.nil u
    have hki : (k : Int) < (i1 : Int) := by omega
    rcases Nat.eq_zero_or_pos k with rfl | hk0
    ·have hr := Lib.hid (Hrt.out 0 (by omega) hup (fun j h hj => by omega) pz)
     have Ho := Lib.hid ho
     clear ho hup
     refine wp_seq ?_
     refine wp_seq (rdC allocs [] [(0, 0), (0, 1), (0, 2), (0, 3), (0, 4), (0, 5), (0, 6), (0, 7), (0, 8), (0, 9), (0, 10), (0, 11), (1, 12), (0, 13)] hB hG fun K L hN hL => ?_)
     repeat first | refine gya ?_ | refine gyr ?_ | refine gna ?_ | refine gyb (by (rintro v ⟨hgu, hB, hG, -⟩ N hN; have r := hB.r; simp only [BxR] at r; obtain ⟨-, c1, c2, c3⟩ := Hrd.out v hG; go_simp; exact hN)) ?_
     first | refine gmd (C := fun v ⟨hgu, hB, hG, _⟩ => ref1_Cmp P.1 P.2 pz.1 pz.2 Y X _ (hzk.grow hgu).a (hzk.grow hgu).b (Hrd.out _ hG).1.a (Hrd.out _ hG).1.b (by omega)) ?_ | refine gmna ?_
     refine gs ?_
     refine geC hL ?_
     clear hB hG hL L
     rintro u ⟨hgu, hB, hG, -⟩
     replace hA := hA.grow hgu
     have Ho2 := Lib.hid (own_grow' Ho.out hgu)
     clear Ho
     have Ho := Ho2
     clear Ho2
     clear hgu
     refine gtT ?_
     clear hN K
     refine wp_cond_false (rfl) ?_
     refine wp_exit ?_
     refine then_exit ?_
     refine then_exit ?_
     refine blk_exit ?_
     refine then_norm ?_
     obtain ⟨hz1, c1, c2, c3⟩ := Hrd.out u hG
     obtain ⟨y1, y2, y3, e1, e2, e3, e4⟩ := own_spot zrL_len Ho.out (by rw [insAt_len _ _ _ (by omega)]; omega) 0 (by rw [insAt_len _ _ _ (by omega)]; omega)
     simp only [Nat.zero_mul, Nat.zero_add] at e1 e2 e3
     refine r0E ?_
     generalize hu0 : World.setCell (World.setCell (World.setCell u _ _) _ _) _ _ = u0
     have hu1 : putAll u g (0 * 3) (zrL (pz, X)) = u0 := hu0
     have hP := own_put zrL_len Ho.out 0 (pz, X) (by rw [insAt_len _ _ _ (by omega)]; omega)
     rw [insAt_set _ _ _ _ (by omega), hu1] at hP
     have hA2 := allz_kept hA Ho.out (by decide) hP.2
     have hp2 := rz_kept (Hrd.out u hG).1 Ho.out (by decide) hP.2
     have hG2 := own_kgrow Ho.out hG hP.2
     have Ho2 := Lib.hid hP.1
     clear hA hG hB Ho hP hu1 hu0
     have hA := hA2
     have hG := hG2
     have Ho := Ho2
     clear hA2 hG2 Ho2
     obtain ⟨u, rfl⟩ : ∃ x, x = u0 := ⟨_, rfl⟩
     have hB := Bx.nil u
     refine blk_norm ?_
     refine then_norm ?_
     refine r0E ?_
     refine then_norm ?_
     go_roundw
     case rel => exact ⟨i1, insAt ps 0 (pz, X), by omega, by go_num, by rw [← hi1]; exact hr.out, fun r hr => ((insAt_perm ps 0 (pz, X)).mem_iff.1 hr |> List.mem_cons.1).elim (fun e => by rw [e]; exact hp2) (fun h => hA r h), Ho.out, hG⟩
     case measure => simp [intOf]; omega
    ·obtain ⟨k0, hk0e⟩ : ∃ x, x = k - 1 := ⟨_, rfl⟩
     have hk0l : k0 < ps.length := by omega
     have fk : IntKind.i64.wrap ((k : Int) - 1) = (k0 : Int) := by rw [IntWalk.i64_in _ (by omega)]; omega
     have hdk : decide ((0 : Int) < (k : Int)) = true := by simp; omega
     have hdk0 : decide (0 < k) = true := by simp; omega
     have hk0i : (k0 : Int) < (i1 : Int) := by omega
     have hkk : k = k0 + 1 := by omega
     have hil2 : k0 < (insAt ps k y).length := by rw [insAt_len _ _ _ (by omega)]; omega
     have eg : (insAt ps k y)[k0] = ps[k0] := by
      have h1 := insAt_get ps k k0 y (by omega) (by omega)
      rw [List.getElem?_eq_getElem hil2, List.getElem?_eq_getElem hk0l] at h1
      exact Option.some.inj h1
     have hcz := own_cz ho hil2
     rw [eg] at hcz
     have hgl : g < u.heap.size := (ho.lt g rfl).2
     have hrk : ∀ W, Grow u W → Cz W g (k0 * 3) ps[k0].1 ps[k0].2 := fun W hg => hcz.grow hgl hg
     have hzk := hA _ (List.getElem_mem hk0l)
     have zk := Zps.out k0 hk0l
     have hdn := insAt_down ps k0 y hk0l
     rw [← hkk] at hdn
     have hst : ps[k0].2 ≤ X → ∀ pz, (insAt ps k (pz, X)).map (·.2) = rsort (l.take (i + 1)) := fun hle pz => Hrt.out k (by omega) hup (fun j h hj => by cases (show j = k0 by omega); exact hle) pz
     have hup2 : X ≤ ps[k0].2 → ∀ j (h : j < ps.length), k0 ≤ j → X ≤ ps[j].2 := fun hle j h hj => by
      rcases Nat.eq_or_lt_of_le hj with rfl | hlt
      ·exact hle
      ·exact hup j h (by omega)
     clear hup hcz eg hgl
     obtain ⟨R, hR⟩ : ∃ R, R = ps[k0] := ⟨_, rfl⟩
     rw [← hR] at hrk hzk zk hdn hst hup2
     obtain ⟨P, Y⟩ := R
     have Hrk := Lib.hid hrk
     have Hdn := Lib.hid hdn
     have Ho := Lib.hid ho
     simp only at hst hup2 zk hzk
     have hk0k : k0 < k := by omega
     have hkp : k ≤ ps.length := by omega
     clear hrk hdn ho hR hkk hk0e
     by_cases hXY : X < Y
     ·have fc : decide (0 < cmpQ Y X) = true := decide_eq_true (cmpQ_pos.2 hXY)
      have Hup := Lib.hid (hup2 (Rat.le_of_lt hXY))
      clear hst hup2 hXY
      refine wp_seq ?_
      refine wp_seq (rdC allocs [] [(0, 0), (0, 1), (0, 2), (0, 3), (0, 4), (0, 5), (0, 6), (0, 7), (0, 8), (0, 9), (0, 10), (0, 11), (1, 12), (0, 13)] hB hG fun K L hN hL => ?_)
      repeat first | refine gya ?_ | refine gyr ?_ | refine gna ?_ | refine gyb (by (rintro v ⟨hgu, hB, hG, -⟩ N hN; have r := hB.r; simp only [BxR] at r; obtain ⟨-, c1, c2, c3⟩ := Hrd.out v hG; obtain ⟨d1, d2, d3⟩ := Hrk.out v hgu; go_simp; exact hN)) ?_
      first | refine gmd (C := fun v ⟨hgu, hB, hG, _⟩ => ref1_Cmp P.1 P.2 pz.1 pz.2 Y X _ (hzk.grow hgu).a (hzk.grow hgu).b (Hrd.out _ hG).1.a (Hrd.out _ hG).1.b (by omega)) ?_ | refine gmna ?_
      refine gs ?_
      refine geC hL ?_
      clear hB hG hL L
      rintro u ⟨hgu, hB, hG, -⟩
      replace hA := hA.grow hgu
      replace hzk := hzk.grow hgu
      have Hrk2 := Lib.hid (fun W hg => Hrk.out W (hgu.trans hg))
      have Ho2 := Lib.hid (own_grow' Ho.out hgu)
      clear Hrk Ho
      have Hrk := Hrk2
      have Ho := Ho2
      clear Hrk2 Ho2
      clear hgu
      refine gtT ?_
      clear hN K
      refine wp_cond_true (rfl) ?_
      refine wp_skip ?_
      refine then_norm ?_
      refine wp_block ?_
      refine wp_seq ?_
      obtain ⟨d1, d2, d3⟩ := Hrk.out u (Grow.refl u)
      obtain ⟨y1, y2, y3, e1, e2, e3, e4⟩ := own_spot zrL_len Ho.out (by rw [insAt_len _ _ _ (by omega)]; omega) k (by rw [insAt_len _ _ _ (by omega)]; omega)
      refine r0N ?_
      generalize hu0 : World.setCell (World.setCell (World.setCell u _ _) _ _) _ _ = u0
      have hu1 : putAll u g (k * 3) (zrL (P, Y)) = u0 := hu0
      have hP := own_put zrL_len Ho.out k (P, Y) (by rw [insAt_len _ _ _ (by omega)]; omega)
      rw [Hdn.out, hu1] at hP
      have hA2 := allz_kept hA Ho.out (by decide) hP.2
      have hG2 := own_kgrow Ho.out hG hP.2
      have Ho2 := Lib.hid hP.1
      clear hA hG hB Ho hP hu1 hu0 Hrk
      have hA := hA2
      have hG := hG2
      have Ho := Ho2
      clear hA2 hG2 Ho2
      obtain ⟨u, rfl⟩ : ∃ x, x = u0 := ⟨_, rfl⟩
      have hB := Bx.nil u
      refine r0E ?_
      refine blk_norm ?_
      refine then_norm ?_
      go_roundw
      case rel => exact ⟨k0, (P, Y), by omega, by go_num, Hup.out, hA, Ho.out, hG⟩
      case measure => simp [intOf]; omega
     ·have fc : decide (0 < cmpQ Y X) = false := decide_eq_false fun h => hXY (cmpQ_pos.1 h)
      have hr := Lib.hid (hst (Rat.not_lt.1 hXY) pz)
      clear hst hup2 hXY
      refine wp_seq ?_
      refine wp_seq (rdC allocs [] [(0, 0), (0, 1), (0, 2), (0, 3), (0, 4), (0, 5), (0, 6), (0, 7), (0, 8), (0, 9), (0, 10), (0, 11), (1, 12), (0, 13)] hB hG fun K L hN hL => ?_)
      repeat first | refine gya ?_ | refine gyr ?_ | refine gna ?_ | refine gyb (by (rintro v ⟨hgu, hB, hG, -⟩ N hN; have r := hB.r; simp only [BxR] at r; obtain ⟨-, c1, c2, c3⟩ := Hrd.out v hG; obtain ⟨d1, d2, d3⟩ := Hrk.out v hgu; go_simp; exact hN)) ?_
      first | refine gmd (C := fun v ⟨hgu, hB, hG, _⟩ => ref1_Cmp P.1 P.2 pz.1 pz.2 Y X _ (hzk.grow hgu).a (hzk.grow hgu).b (Hrd.out _ hG).1.a (Hrd.out _ hG).1.b (by omega)) ?_ | refine gmna ?_
      refine gs ?_
      refine geC hL ?_
      clear hB hG hL L
      rintro u ⟨hgu, hB, hG, -⟩
      replace hA := hA.grow hgu
      replace hzk := hzk.grow hgu
      have Ho2 := Lib.hid (own_grow' Ho.out hgu)
      clear Hrk Ho
      have Ho := Ho2
      clear Ho2
      clear hgu
      refine gtT ?_
      clear hN K
      refine wp_cond_false (rfl) ?_
      refine wp_exit ?_
      refine then_exit ?_
      refine then_exit ?_
      refine blk_exit ?_
      refine then_norm ?_
      obtain ⟨hz1, c1, c2, c3⟩ := Hrd.out u hG
      obtain ⟨y1, y2, y3, e1, e2, e3, e4⟩ := own_spot zrL_len Ho.out (by rw [insAt_len _ _ _ (by omega)]; omega) k (by rw [insAt_len _ _ _ (by omega)]; omega)
      refine r0E ?_
      generalize hu0 : World.setCell (World.setCell (World.setCell u _ _) _ _) _ _ = u0
      have hu1 : putAll u g (k * 3) (zrL (pz, X)) = u0 := hu0
      have hP := own_put zrL_len Ho.out k (pz, X) (by rw [insAt_len _ _ _ (by omega)]; omega)
      rw [insAt_set _ _ _ _ (by omega), hu1] at hP
      have hA2 := allz_kept hA Ho.out (by decide) hP.2
      have hp2 := rz_kept (Hrd.out u hG).1 Ho.out (by decide) hP.2
      have hG2 := own_kgrow Ho.out hG hP.2
      have Ho2 := Lib.hid hP.1
      clear hA hG hB Ho hP hu1 hu0
      have hA := hA2
      have hG := hG2
      have Ho := Ho2
      clear hA2 hG2 Ho2
      obtain ⟨u, rfl⟩ : ∃ x, x = u0 := ⟨_, rfl⟩
      have hB := Bx.nil u
      refine blk_norm ?_
      refine then_norm ?_
      refine r0E ?_
      refine then_norm ?_
      go_roundw
      case rel => exact ⟨i1, insAt ps k (pz, X), by omega, by go_num, by rw [← hi1]; exact hr.out, fun r hr => ((insAt_perm ps k (pz, X)).mem_iff.1 hr |> List.mem_cons.1).elim (fun e => by rw [e]; exact hp2) (fun h => hA r h), Ho.out, hG⟩
      case measure => simp [intOf]; omega
  ·obtain rfl : n = i := by omega
   have hdec : decide ((n : Int) < (n : Int)) = false := by simp
   rw [List.take_of_length_le (Nat.le_of_eq Hn.out.symm)] at hps
   have Hps := Lib.hid hps
   have Ho := Lib.hid ho
   clear hL hkl ho hps hcc1 hcc2 hpl
   refine wp_seq ?_
   refine r0T ?_
   refine wp_cond_false (rfl) ?_
   refine wp_exit ?_
   refine then_exit ?_
   refine then_exit ?_
   refine blk_exit ?_
   refine then_norm ?_
   refine r0T ?_
   refine rt Tryz.results114 ?_
   exact ⟨_, ps, rfl, Hps.out, hA, Ho.out, hG⟩
/-- fractions of the document's in a row of the call's own -/
def OwnS (B g cap n : Nat) (zs : List Zr) (W : World) : Prop := zs.length = n ∧ AllZ W zs ∧ W.ownsRow B 41 3 (.slice (some ⟨g, 0, none⟩) n cap) n (zs.flatMap zrL)
theorem OwnS.grow {B g cap n : Nat} {zs : List Zr} {u u' : World} (h : OwnS B g cap n zs u) (hg : Grow u u') : OwnS B g cap n zs u' := ⟨h.1, h.2.1.grow hg, own_grow' h.2.2 hg⟩
theorem OwnS.own {B0 g cap n0 : Nat} {zs : List Zr} {u w' : World} {B : Nat} {e : TypeId} {size n : Nat} {v : Value} {xs : List Value} {o : Obj} (hl : OwnS B0 g cap n0 zs u) (h : u.ownsRow B e size v n xs) (ht : e ≠ 157 ∧ e ≠ 41) (hg : (u.alloc o).grownBy w' v.ownBlock) : OwnS B0 g cap n0 zs w' :=
 ⟨hl.1, hl.2.1.own h ht.1 hg, (hl.2.2.alloc o).kept hg (.inr fun e1 => apart_types h hl.2.2 ht.2 g e1.symm rfl)⟩
theorem OwnS.read {B g cap n : Nat} {zs : List Zr} {u : World} (h : OwnS B g cap n zs u) {k : Nat} (hk : k < zs.length) : ∀ W, Grow u W → Rz W zs[k].1 zs[k].2 ∧ Cz W g (k * 3) zs[k].1 zs[k].2 := fun W hg =>
 ⟨(h.2.1 _ (List.getElem_mem hk)).grow hg, (own_cz h.2.2 hk).grow (h.2.2.lt g rfl).2 hg⟩
end Go.Proofs.YtimjnkfcnpfoeaaGreatDoor
