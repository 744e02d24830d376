/-
  Contracts and laws: NearV NearVA NearE NearC Fast NearCW NearRG NearPt NearPw NearDc NearSb NearRWi.
-/
import Derived.Test.YtjmopgepnndckaaGreatDoorS43
set_option linter.unusedSimpArgs false
set_option linter.unusedVariables false
namespace Go.Proofs.YtjmopgepnndckaaGreatDoor
end Go.Proofs.YtjmopgepnndckaaGreatDoor
namespace Go.Proofs.YtjmopgepnndckaaGreatDoor
open Go Go.RowKit
/-- things of k cells that lie from the address on -/
def Le {α : Type} (enc : α → List Value) (k : Nat) (u : World) (A : Option Addr) (l : List α) : Prop :=
 l ≠ [] → ∃ b off, A = some ⟨b, off, none⟩ ∧ b < u.heap.size ∧ ∀ i x, l[i]? = some x → ∀ j v, (enc x)[j]? = some v → u.cell? ⟨b, off + i * k + j, none⟩ = some v
theorem Le.grow {α : Type} {enc : α → List Value} {k : Nat} {u u' : World} {A : Option Addr} {l : List α} (h : Le enc k u A l) (hg : Grow u u') : Le enc k u' A l := fun hn => by
 obtain ⟨b, off, e, hb, hc⟩ := h hn
 exact ⟨b, off, e, Nat.lt_of_lt_of_le hb hg.size, fun i q hi j v hj => (hg.cell (p := ⟨b, off + i * k + j, none⟩) hb).trans (hc i q hi j v hj)⟩
theorem own_le {α : Type} {enc : α → List Value} {k : Nat} (he : ∀ x, (enc x).length = k) (hk : 0 < k) {u : World} {B n : Nat} {e : TypeId} {v : Value} {l : List α} (h : u.ownsRow B e k v n (l.flatMap enc)) : ∃ A c, v = .slice A n c ∧ n ≤ c ∧ Le enc k u A l ∧ n = l.length := by
 have hn : n = l.length := by
  have h1 := h.1
  rw [flat_lenO he] at h1
  exact (Nat.eq_of_mul_eq_mul_right hk h1).symm
 obtain ⟨_, h | ⟨g, cap, cur, rfl, hb, hh, hn', hc, hs, ht⟩⟩ := h
 ·obtain ⟨rfl, h0⟩ := h
  exact ⟨none, 0, by rw [h0], by omega, fun hne => absurd (List.eq_nil_of_length_eq_zero (l := l) (by omega)) hne, hn⟩
 ·refine ⟨_, cap, rfl, hn', fun _ => ⟨g, 0, rfl, heap_lt hh, fun i q hi j v hj => ?_⟩, hn⟩
  have hil : i < l.length := (List.getElem?_eq_some_iff.1 hi).1
  have er : l[i] = q := by rw [List.getElem?_eq_getElem hil] at hi; exact Option.some.inj hi
  have hjl : j < k := by have := (List.getElem?_eq_some_iff.1 hj).1; rw [he] at this; exact this
  rw [cell_of_row u g _ cur e (0, 0) hh, Nat.zero_add]
  have h1 : (cur.toList.take (n * k))[i * k + j]? = some v := by rw [ht, flat_at he l i j hil hjl, er, hj]
  have hlt : i * k + j < n * k := by
   have : i * k + k ≤ l.length * k := by rw [← Nat.succ_mul]; exact Nat.mul_le_mul_right _ hil
   rw [hn]; omega
  rw [List.getElem?_take, if_pos hlt] at h1
  simpa using h1
theorem Le.at {α : Type} {enc : α → List Value} {k : Nat} {u : World} {A : Option Addr} {l : List α} (h : Le enc k u A l) {i : Nat} (hi : i < l.length) : ∃ b off, A = some ⟨b, off, none⟩ ∧ ∀ W, Grow u W → ∀ j v, (enc l[i])[j]? = some v → W.cell? ⟨b, off + i * k + j, none⟩ = some v := by
 obtain ⟨b, off, e, hb, hc⟩ := h (fun e => by rw [e] at hi; simp at hi)
 exact ⟨b, off, e, fun W hg j v hj => (hg.cell (p := ⟨b, off + i * k + j, none⟩) hb).trans (hc i _ (List.getElem?_eq_getElem hi) j v hj)⟩
end Go.Proofs.YtjmopgepnndckaaGreatDoor
namespace Go.Proofs.YtjmopgepnndckaaGreatDoor
open Go Go.RowKit
/-- what end answers -/
def endE (o : Option (Nat × Nat)) : Nat := (o.map (·.1)).getD 0
abbrev treeV (R : Ax) (n : Nat) (N : Ax) (m : Nat) : Value := .agg #[.slice R.1 n R.2, .slice N.1 m N.2]
end Go.Proofs.YtjmopgepnndckaaGreatDoor
namespace Go.Proofs.YtjmopgepnndckaaGreatDoor
open Go Go.RowKit
/-- is a row among the first k nodes' -/
def seenN (ns : List NdT) (k : Nat) (r : Int) : Bool := (ns.take k).any fun y => decide (y.r = r)
/-- node k by itself may not be -/
def badN (L n : Nat) (ns : List NdT) (k : Nat) : Bool :=
 match ns[k]? with
 | none => false
 | some x => decide (x.c < 0) || decide ((L : Int) ≤ x.c) || decide (x.r < 0) || decide ((n : Int) ≤ x.r) || seenN ns k x.r
/-- the part of node i -/
def partN (ns : List NdT) (i : Nat) : Option (Nat × Nat) := endF ns (ns.length + 1) i
/-- where the right side of node i begins -/
def rightN (ns : List NdT) (i : Nat) : Int := match ns[i]? with | none => 0 | some x => if x.t = 0 then (endE (partN ns i) : Int) else x.t
/-- node j stands on the wrong side of node i -/
def wrongN (X : List (List Rat)) (ns : List NdT) (i j : Nat) : Bool :=
 match ns[i]?, ns[j]? with
 | some x, some y => (decide ((j : Int) < rightN ns i) && decide (0 < cmpQ (ent X y.r.toNat x.c.toNat) (ent X x.r.toNat x.c.toNat))) || (decide (rightN ns i ≤ (j : Int)) && decide (cmpQ (ent X y.r.toNat x.c.toNat) (ent X x.r.toNat x.c.toNat) < 0))
 | _, _ => false
/-- some node of i's part, up to number j, stands on the wrong side of it -/
def wrongTo (X : List (List Rat)) (ns : List NdT) (i e : Nat) : Bool := (List.range e).any fun j => decide (i < j) && wrongN X ns i j
def wrongI (X : List (List Rat)) (ns : List NdT) (i : Nat) : Bool := wrongTo X ns i (endE (partN ns i))
/-- what Check says -/
def checkN (X : List (List Rat)) (L : Nat) (ns : List NdT) : Nat :=
 if ns.length ≠ X.length then 5
 else if (partN ns 0).isSome = false ∨ endE (partN ns 0) ≠ ns.length then 2
 else if (List.range ns.length).any (badN L X.length ns) then 2
 else if (List.range ns.length).any (wrongI X ns) then 1 else 0
theorem any_upto {f : Nat → Bool} {k n : Nat} (hk : k < n) (h : f k = true) : (List.range n).any f = true := List.any_eq_true.2 ⟨k, List.mem_range.2 hk, h⟩
theorem any_none {f : Nat → Bool} {n : Nat} (h : ∀ k, k < n → f k = false) : (List.range n).any f = false := by
 rw [List.any_eq_false]
 intro k hk
 rw [h k (List.mem_range.1 hk)]
 simp
theorem checkN_ok {X : List (List Rat)} {L : Nat} {ns : List NdT} (h : ns.length = X.length) (h1 : ¬ ((partN ns 0).isSome = false ∨ endE (partN ns 0) ≠ ns.length)) (h2 : ∀ k, k < ns.length → badN L X.length ns k = false) (h3 : ∀ i, i < ns.length → wrongI X ns i = false) : checkN X L ns = 0 := by
 unfold checkN
 rw [if_neg (by simp [h]), if_neg h1, if_neg (by rw [any_none h2]; simp), if_neg (by rw [any_none h3]; simp)]
theorem wrong_in {X : List (List Rat)} {ns : List NdT} {i j : Nat} (hij : i < j) (hj : j < endE (partN ns i)) (h : wrongN X ns i j = true) : wrongI X ns i = true := any_upto hj (by rw [h]; simp [hij])
theorem wrong_no {X : List (List Rat)} {ns : List NdT} {i : Nat} (h : ∀ j, i < j → j < endE (partN ns i) → wrongN X ns i j = false) : wrongI X ns i = false := any_none fun j hj => by
 by_cases hij : i < j
 ·rw [h j hij hj]; simp
 ·simp [hij]
theorem badN_at {L n : Nat} {ns : List NdT} {k : Nat} {x : NdT} (h : ns[k]? = some x) : badN L n ns k = (decide (x.c < 0) || decide ((L : Int) ≤ x.c) || decide (x.r < 0) || decide ((n : Int) ≤ x.r) || seenN ns k x.r) := by unfold badN; rw [h]
theorem rightN_at {ns : List NdT} {i : Nat} {x : NdT} (h : ns[i]? = some x) : rightN ns i = if x.t = 0 then (endE (partN ns i) : Int) else x.t := by unfold rightN; rw [h]
theorem wrongN_at {X : List (List Rat)} {ns : List NdT} {i j : Nat} {x y : NdT} (h : ns[i]? = some x) (h2 : ns[j]? = some y) : wrongN X ns i j = ((decide ((j : Int) < rightN ns i) && decide (0 < cmpQ (ent X y.r.toNat x.c.toNat) (ent X x.r.toNat x.c.toNat))) || (decide (rightN ns i ≤ (j : Int)) && decide (cmpQ (ent X y.r.toNat x.c.toNat) (ent X x.r.toNat x.c.toNat) < 0))) := by unfold wrongN; rw [h, h2]
/-- what is known of a node's column and row: five ways to be bad, one to be good -/
theorem badN_cases {L n : Nat} {ns : List NdT} {k : Nat} {x : NdT} (h : ns[k]? = some x) : (x.c < 0 ∧ badN L n ns k = true) ∨ (∃ c : Nat, x.c = c ∧ L ≤ c ∧ badN L n ns k = true) ∨ (∃ c : Nat, x.c = c ∧ c < L ∧ x.r < 0 ∧ badN L n ns k = true) ∨ (∃ c r : Nat, x.c = c ∧ c < L ∧ x.r = r ∧ n ≤ r ∧ badN L n ns k = true) ∨ (∃ c r : Nat, x.c = c ∧ c < L ∧ x.r = r ∧ r < n ∧ seenN ns k (r : Nat) = true ∧ badN L n ns k = true) ∨ ∃ c r : Nat, x.c = c ∧ c < L ∧ x.r = r ∧ r < n ∧ seenN ns k (r : Nat) = false ∧ badN L n ns k = false := by
 rw [badN_at h]
 by_cases h1 : x.c < 0
 ·exact .inl ⟨h1, by simp [h1]⟩
 ·obtain ⟨c, hc⟩ : ∃ c : Nat, x.c = c := ⟨x.c.toNat, by omega⟩
  rw [hc] at h1 ⊢
  by_cases h2 : L ≤ c
  ·exact .inr (.inl ⟨c, rfl, h2, by simp [h2]⟩)
  ·by_cases h3 : x.r < 0
   ·exact .inr (.inr (.inl ⟨c, rfl, by omega, h3, by simp [h3]⟩))
   ·obtain ⟨r, hr⟩ : ∃ r : Nat, x.r = r := ⟨x.r.toNat, by omega⟩
    rw [hr] at h3 ⊢
    by_cases h4 : n ≤ r
    ·exact .inr (.inr (.inr (.inl ⟨c, r, rfl, by omega, rfl, h4, by simp [h4]⟩)))
    ·by_cases h5 : seenN ns k (r : Int) = true
     ·exact .inr (.inr (.inr (.inr (.inl ⟨c, r, rfl, by omega, rfl, by omega, h5, by simp [h5]⟩))))
     ·refine .inr (.inr (.inr (.inr (.inr ⟨c, r, rfl, by omega, rfl, by omega, by simpa using h5, ?_⟩))))
      (simp [h2, h4, h5]; try omega)
/-- the document's answers on a tree that may be -/
theorem checkN_good {X : List (List Rat)} {L : Nat} {ns : List NdT} (h : checkN X L ns = 0) : ns.length = X.length ∧ (∃ d, partN ns 0 = some (ns.length, d)) ∧ (∀ k, k < ns.length → badN L X.length ns k = false) ∧ ∀ i, i < ns.length → wrongI X ns i = false := by
 unfold checkN at h
 split at h
 ·cases h
 ·rename_i h0
  split at h
  ·cases h
  ·rename_i h1
   split at h
   ·cases h
   ·rename_i h2
    split at h
    ·cases h
    ·rename_i h3
     refine ⟨Decidable.byContradiction h0, ?_, fun k hk => ?_, fun i hi => ?_⟩
     ·have h4 : (partN ns 0).isSome = true := by
       cases hp : (partN ns 0).isSome with
       | true => rfl
       | false => exact absurd (.inl hp) h1
      obtain ⟨p, hp⟩ := Option.isSome_iff_exists.1 h4
      have h5 : endE (partN ns 0) = ns.length := Decidable.byContradiction fun h => h1 (.inr h)
      rw [hp] at h5 ⊢
      exact ⟨p.2, by rw [← h5]; rfl⟩
     ·rw [Bool.eq_false_iff]
      exact fun hb => h2 (any_upto hk hb)
     ·rw [Bool.eq_false_iff]
      exact fun hb => h3 (any_upto hi hb)
end Go.Proofs.YtjmopgepnndckaaGreatDoor
namespace Go.Proofs.YtjmopgepnndckaaGreatDoor
open Go Go.RowKit
end Go.Proofs.YtjmopgepnndckaaGreatDoor
namespace Go.Proofs.YtjmopgepnndckaaGreatDoor
open Go Go.RowKit Go.Shelf
end Go.Proofs.YtjmopgepnndckaaGreatDoor
namespace Go.Proofs.YtjmopgepnndckaaGreatDoor
open Go Go.RowKit
theorem ahead_lt (X : List (List Rat)) (c a b : Nat) : (¬ leC X c b a) ↔ (ent X a c < ent X b c ∨ (ent X a c = ent X b c ∧ a < b)) := by
 unfold leC
 by_cases h1 : ent X a c < ent X b c
 ·have h2 : ¬ ent X b c < ent X a c := by grind
  have h3 : ent X b c ≠ ent X a c := by grind
  simp [h1, h2, h3]
 ·by_cases h2 : ent X b c < ent X a c
  ·have h3 : ent X a c ≠ ent X b c := by grind
   simp [h1, h2, h3]
  ·have e : ent X a c = ent X b c := by grind
   simp [e, Rat.lt_irrefl]
theorem cmpQ_neg {x y : Rat} : (cmpQ x y < 0) ↔ x < y := by
 unfold cmpQ
 by_cases h1 : x < y
 ·simp [h1]
 ·by_cases h2 : y < x <;> simp [h1, h2]
theorem cmpQ_eq {x y : Rat} : (cmpQ x y = 0) ↔ x = y := by
 unfold cmpQ
 by_cases h1 : x < y
 ·have : x ≠ y := by grind
  simp [h1, this]
 ·by_cases h2 : y < x
  ·have : x ≠ y := by grind
   simp [h1, h2, this]
  ·have : x = y := by grind
   simp [this, Rat.lt_irrefl]
set_option maxHeartbeats 2000000 in
set_option maxRecDepth 100000 in
theorem ref22_ahead (A : Option Addr) (rs : List Rq) (n Lw c col a b : Nat) (hn : rs.length = n) (hrl : ∀ r ∈ rs, r.2.2.length = Lw) (ha : a < n) (hb : b < n) (hcol : col < Lw) (s : Nat) (hs : ∀ r ∈ rs, ∀ x ∈ r.2.2, qs x ≤ s) (hBz : 2 * s + 1 ≤ BIG) (w : World) (h : Lrz w A rs) :
  Calls Tryz.prog 101 #[.slice A n c, .int .i64 (col : Nat), .int .i64 (a : Nat), .int .i64 (b : Nat)] w fun e w' => e = .returned (.bool (decide (¬ leC (rs.map (·.2.2)) col b a))) ∧ Grow w w' := by
 obtain ⟨bb, ob, rfl⟩ := h.addr (by omega)
 have hrow : ∀ i, i < n → ∃ (ba oa : Nat) (cr : Nat) (p : Az), qs (ent (rs.map (·.2.2)) i col) ≤ s ∧ ∀ W, Grow w W → W.cell? ⟨bb, ob + i, none⟩ = some (.slice (some ⟨ba, oa, none⟩) Lw cr) ∧ Rz W p (ent (rs.map (·.2.2)) i col) ∧ Cz W ba (oa + col * 3) p (ent (rs.map (·.2.2)) i col) := fun i hi => by
  have hil : i < rs.length := by omega
  have hL := hrl _ (List.getElem_mem hil)
  obtain ⟨h1, h2⟩ := h.read (List.getElem?_eq_getElem hil)
  obtain ⟨ba, oa, e⟩ := h2.addr (by omega)
  have er : ent (rs.map (·.2.2)) i col = gq rs[i].2.2 col := by
   rw [ent_gq]
   unfold rowR
   rw [List.getElem?_map, List.getElem?_eq_getElem hil]
   rfl
  rw [er]
  rw [e] at h2
  obtain ⟨p, hp⟩ := h2.read (i := col) (by omega)
  refine ⟨ba, oa, rs[i].2.1, p, hs _ (List.getElem_mem hil) _ (gq_mem (by omega)), fun W hg => ?_⟩
  obtain ⟨h3, -⟩ := (h.grow hg).read (List.getElem?_eq_getElem hil)
  rw [e, hL] at h3
  exact ⟨h3, hp W hg⟩
 obtain ⟨ba, oa, ca, p, za, ra⟩ := hrow a ha
 obtain ⟨bb2, ob2, cb, q, zb, rb⟩ := hrow b hb
 obtain ⟨V, hV⟩ : ∃ V, V = decide (¬ leC (rs.map (·.2.2)) col b a) := ⟨_, rfl⟩
 have hV2 : V = decide (ent (rs.map (·.2.2)) a col < ent (rs.map (·.2.2)) b col ∨ (ent (rs.map (·.2.2)) a col = ent (rs.map (·.2.2)) b col ∧ a < b)) := by
  rw [hV]
  exact decide_eq_decide.2 (ahead_lt _ _ _ _)
 rw [← hV]
 obtain ⟨x, hx⟩ : ∃ x, x = ent (rs.map (·.2.2)) a col := ⟨_, rfl⟩
 obtain ⟨y, hy⟩ : ∃ x, x = ent (rs.map (·.2.2)) b col := ⟨_, rfl⟩
 rw [← hx] at za
 rw [← hy] at zb
 rw [← hx, ← hy] at hV2
 simp only [← hx] at ra
 simp only [← hy] at rb
 have hcm := fun W (h1 : Rz W p x) (h2 : Rz W q y) => ref1_Cmp p.1 p.2 q.1 q.2 x y W h1.a h1.b h2.a h2.b (by omega)
 have hai : (a : Int) < (n : Int) := by omega
 have hbi : (b : Int) < (n : Int) := by omega
 have hci2 : (col : Int) < (Lw : Int) := by omega
 obtain ⟨P, hP⟩ : ∃ X, X = cmpQ x y := ⟨_, rfl⟩
 simp only [← hP] at hcm
 have Hcm := Lib.hid hcm
 have Ra := Lib.hid ra
 have Rb := Lib.hid rb
 have HP := Lib.hid hP
 have HV := Lib.hid hV2
 clear hcm ra rb hx hy za zb h hs hrl hn hrow hBz hV hV2 hP
 go_enter Tryz.func101, Tryz.ntmps101
 refine en0 ?_
 intro u hG hB hF
 refine wp_seq (rdC allocs [] [(0, 0), (0, 1), (0, 2), (0, 3), (0, 4), (0, 5), (0, 6), (0, 7), (0, 8), (0, 9), (0, 10), (0, 11), (0, 12), (0, 13), (1, 14)] hB hG fun K L hN hL => ?_)
 repeat first | refine gya ?_ | refine gyr ?_ | refine gna ?_ | refine gyb (by (rintro v ⟨hgu, hB, hG, -⟩ N hN; have r := hB.r; simp only [BxR] at r; obtain ⟨g1, -, q1, q2, q3⟩ := Ra.out v hG; obtain ⟨g2, -, y1, y2, y3⟩ := Rb.out v hG; go_simp; exact hN)) ?_
 refine gmd (C := fun v ⟨hgu, hB, hG, _⟩ => Hcm.out _ (Ra.out _ hG).2.1 (Rb.out _ hG).2.1) ?_
 refine geC hL ?_
 clear hB hG hL L
 rintro u ⟨-, hB, hG, -⟩
 refine gtT ?_
 clear hN K
 by_cases c1 : x < y
 ·have d1 : decide (P < 0) = true := decide_eq_true (by rw [HP.out]; exact cmpQ_neg.2 c1)
  have hv : V = true := by rw [HV.out]; simp [c1]
  rw [hv]
  clear hv c1
  refine r0T ?_
  refine rt Tryz.results101 ?_
  exact ⟨rfl, hG⟩
 ·have d1 : decide (P < 0) = false := decide_eq_false (by rw [HP.out]; exact fun h => c1 (cmpQ_neg.1 h))
  by_cases c2 : x = y
  ·have d2 : (P == 0) = true := by rw [HP.out]; simpa using cmpQ_eq.2 c2
   have d2n : decide (P = 0) = true := by rw [HP.out]; simpa using cmpQ_eq.2 c2
   by_cases c3 : a < b
   ·have d3 : decide ((a : Int) < (b : Int)) = true := by simp; omega
    have d3n : decide (a < b) = true := decide_eq_true c3
    have hv : V = true := by rw [HV.out]; simp [c2, c3]
    rw [hv]
    clear hv c1 c2 c3
    refine r0T ?_
    refine rt Tryz.results101 ?_
    exact ⟨rfl, hG⟩
   ·have d3 : decide ((a : Int) < (b : Int)) = false := by simp; omega
    have d3n : decide (a < b) = false := decide_eq_false c3
    have hv : V = false := by rw [HV.out]; simp [c2, c3, Rat.lt_irrefl]
    rw [hv]
    clear hv c1 c2 c3
    refine r0T ?_
    refine rt Tryz.results101 ?_
    exact ⟨rfl, hG⟩
  ·have d2 : (P == 0) = false := by rw [HP.out]; simpa using fun h => c2 (cmpQ_eq.1 h)
   have d2n : decide (P = 0) = false := by rw [HP.out]; simpa using fun h => c2 (cmpQ_eq.1 h)
   have hv : V = false := by rw [HV.out]; simp [c1, c2]
   rw [hv]
   clear hv c1 c2
   refine r0T ?_
   refine rt Tryz.results101 ?_
   exact ⟨rfl, hG⟩
/-- rows' numbers as values -/
abbrev nv (l : List Nat) : List Value := l.map fun (i : Nat) => Value.int .i64 (i : Int)
theorem nv_set (l : List Nat) (k x : Nat) : (nv l).set k (.int .i64 (x : Nat)) = nv (l.set k x) := by simp [nv, List.map_set]
theorem nv_app (l : List Nat) (x : Nat) : nv l ++ [.int .i64 (x : Nat)] = nv (l ++ [x]) := by simp [nv]
theorem nv_at {l : List Nat} {k : Nat} (h : k < l.length) : (nv l)[k]? = some (.int .i64 (l[k] : Nat)) := by simp [nv, h]
theorem li_nv {u : World} {B g cap m : Nat} {l : List Nat} (h : u.ownsRow B 3 1 (.slice (some ⟨g, 0, none⟩) m cap) m (nv l)) : Li u (some ⟨g, 0, none⟩) (ints l) := fun hne => by
 have hl : m = l.length := by have := h.1; simp [nv] at this; omega
 refine ⟨g, 0, rfl, (h.lt g rfl).2, fun i x hx => ?_⟩
 have hil := (List.getElem?_eq_some_iff.1 hx).1
 simp only [ints, List.length_map] at hil
 simp only [ints, List.getElem?_map, List.getElem?_eq_getElem hil, Option.map_some, Option.some.injEq] at hx
 rw [Nat.zero_add, h.cellAt i (by omega), nv_at hil, ← hx]
/-- the form of an own row -/
theorem own_shape {u : World} {B n k : Nat} {e : TypeId} {v : Value} {xs : List Value} (h : u.ownsRow B e k v n xs) : ∃ A c, v = .slice A n c := by
 obtain ⟨_, h | ⟨g, cap, cur, rfl, _⟩⟩ := h
 ·exact ⟨none, 0, by rw [h.1, h.2]⟩
 ·exact ⟨_, cap, rfl⟩
/-- in order up to a number more -/
theorem srtC_ins {X : List (List Rat)} {c k x : Nat} {ps is : List Nat} (hp : ps.Perm is) (hs : ps.Pairwise (leC X c)) (hk : k ≤ ps.length) (h1 : ∀ j (h : j < ps.length), k ≤ j → ¬ leC X c ps[j] x) (h2 : ∀ j (h : j < ps.length), j + 1 = k → leC X c ps[j] x) :
  (insAt ps k x).Perm (is ++ [x]) ∧ (insAt ps k x).Pairwise (leC X c) := by
 refine ⟨?_, insAt_sorted (R := leC X c) (fun h1 h2 => leC_trans h1 h2) ps k x hk hs (fun j h hj => (leC_total X c ps[j] x).resolve_left (h1 j h hj)) h2⟩
 refine (insAt_perm ps k x).trans ?_
 exact (List.Perm.cons x hp).trans (List.perm_append_singleton x is).symm
/-- what is known in the midst of the document's grow -/
structure GrR (w1 : World) (S : Nat → Prop) (b99 gl B : Nat) (ls : List Int) (NA : Option Addr) (NC kk : Nat) (ns : List NdT) (u : World) : Prop where
 K : KepS S w1 u
 l : Li u (some ⟨gl, 0, none⟩) ls
 gu : gl < u.heap.size
 own : u.ownsRow B 118 4 (.slice NA kk NC) kk (ns.flatMap ndL)
 len : ns.length = kk
 n9 : nbk NA ≠ some b99
 gn : nbk NA ≠ some gl
theorem GrR.grow {w1 : World} {S : Nat → Prop} {b99 gl B : Nat} {ls : List Int} {NA : Option Addr} {NC kk : Nat} {ns : List NdT} {u u' : World} (h : GrR w1 S b99 gl B ls NA NC kk ns u) (hg : Grow u u') : GrR w1 S b99 gl B ls NA NC kk ns u' :=
 ⟨h.K.grow hg, h.l.grow hg, Nat.lt_of_lt_of_le h.gu hg.size, own_grow' h.own hg, h.len, h.n9, h.gn⟩
theorem ei_RNode : EI 70 118 4 32 := ei_of (by kernel_rfl) (by kernel_rfl) (by omega)
/-- what the document's grow does for so many rows -/
def RGrowOK (b99 n L : Nat) (RA : Option Addr) (RC : Nat) (X : List (List Rat)) (w0 : World) (m : Nat) : Prop :=
 ∀ (is : List Nat) (col : Nat) (A : Option Addr) (c : Nat) (ns : List NdT) (NA : Option Addr) (NC k : Nat) (w : World), is.length = m → 0 < m → (∀ x ∈ is, x < n) → col < L → k = ns.length → k + m ≤ 1000000 → Grow w0 w → Li w A (ints is) →
  Blk w b99 72 #[.slice RA n RC, .slice NA k NC] → w.ownsRow w0.heap.size 118 4 (.slice NA k NC) k (ns.flatMap ndL) → nbk NA ≠ some b99 →
  Calls Tryz.prog 60 #[.pointer (some ⟨b99, 0, none⟩), .slice A m c, .int .i64 (col : Nat)] w fun e w' => e = .returned (.tuple #[]) ∧ ∃ (NA' : Option Addr) (NC' : Nat),
   Blk w' b99 72 #[.slice RA n RC, .slice NA' (k + m) NC'] ∧ w'.ownsRow w0.heap.size 118 4 (.slice NA' (k + m) NC') (k + m) ((ns ++ flatT (growT X L is col) k).flatMap ndL) ∧
   KepS (fun k => k = b99 ∨ nbk NA = some k) w w' ∧ (∀ k, nbk NA' = some k → nbk NA = some k ∨ w.heap.size ≤ k) ∧ Grow w0 w'
theorem growR_end {b99 n RC B : Nat} {RA : Option Addr} {gl k m kk NC' : Nat} {lsI : List Int} {NA NA' : Option Addr} {ns ns' T : List NdT} {w0 w1 u : World} {bl : List (Nat × TypeId × Array Value)}
  (GS : GrR w1 (fun k => (k = b99 ∨ nbk NA = some k) ∨ w1.heap.size ≤ k) b99 gl B lsI NA' NC' kk ns' u) (hB : Bx u ((b99, 72, #[.slice RA n RC, .slice NA' kk NC']) :: bl)) (hkk : kk = k + m) (hns : ns' = ns ++ T) (hnb : ∀ j, nbk NA' = some j → nbk NA = some j ∨ w1.heap.size ≤ j) (hG : Grow w0 u) :
  ∃ (NA' : Option Addr) (NC' : Nat), Blk u b99 72 #[.slice RA n RC, .slice NA' (k + m) NC'] ∧ u.ownsRow B 118 4 (.slice NA' (k + m) NC') (k + m) ((ns ++ T).flatMap ndL) ∧ KepS (fun k => k = b99 ∨ nbk NA = some k) w1 u ∧ (∀ k, nbk NA' = some k → nbk NA = some k ∨ w1.heap.size ≤ k) ∧ Grow w0 u := by
 subst hkk hns
 exact ⟨NA', NC', hB.head, GS.own, GS.K.mono (fun j hj e => e.elim id (fun h => absurd h (by omega))), hnb, hG⟩
end Go.Proofs.YtjmopgepnndckaaGreatDoor
namespace Go.Proofs.YtjmopgepnndckaaGreatDoor
open Go Go.RowKit
structure PartW (bw ge EC n m : Nat) (R N : Ax) (B : Nat) (far : Nat) (es : List Int) (W : World) : Prop where
 blk : Blk W bw 122 #[.slice R.1 n R.2, .slice N.1 m N.2, .slice (some ⟨ge, 0, none⟩) m EC, .int .i64 (far : Nat)]
 own : W.ownsRow B 3 1 (.slice (some ⟨ge, 0, none⟩) m EC) m (iv es)
theorem PartW.kep {bw ge EC n m : Nat} {R N : Ax} {B : Nat} {far : Nat} {es : List Int} {S : Nat → Prop} {W W' : World} (h : PartW bw ge EC n m R N B far es W) (hk : KepS S W W') (h1 : ¬ S bw) (h2 : ¬ S ge) : PartW bw ge EC n m R N B far es W' :=
 ⟨hk.blk h.blk h1, kep_own hk h.own (fun b hb => by have := Option.some.inj hb; subst this; exact h2)⟩
theorem PartW.grow {bw ge EC n m : Nat} {R N : Ax} {B : Nat} {far : Nat} {es : List Int} {W W' : World} (h : PartW bw ge EC n m R N B far es W) (hg : Grow W W') : PartW bw ge EC n m R N B far es W' := ⟨h.blk.grow hg, own_grow' h.own hg⟩
end Go.Proofs.YtjmopgepnndckaaGreatDoor
namespace Go.Proofs.YtjmopgepnndckaaGreatDoor
open Go Go.RowKit
theorem KepS.over {S : Nat → Prop} {w1 u u' : World} {b i : Nat} {vs : List Value} (h : KepS S w1 u) (hb : w1.heap.size ≤ b ∨ S b) (hu : putAll u b i vs = u') : KepS S w1 u' := by
 subst hu
 have h1 : KepS (fun k => k = b) u (putAll u b i vs) := putAll_kep (S := fun k => k = b) rfl vs i u
 exact ⟨h1.os.trans h.os, h1.tape.trans h.tape, h1.output.trans h.output, Nat.le_trans h.size h1.size, fun k hk hs => (h1.block k (Nat.lt_of_lt_of_le hk h.size) (fun e => hb.elim (fun h => by omega) (fun h => hs (e ▸ h)))).trans (h.block k hk hs)⟩
end Go.Proofs.YtjmopgepnndckaaGreatDoor
namespace Go.Proofs.YtjmopgepnndckaaGreatDoor
open Go Go.RowKit
end Go.Proofs.YtjmopgepnndckaaGreatDoor
namespace Go.Proofs.YtjmopgepnndckaaGreatDoor
theorem check_fine {X : List (List Rat)} {L : Nat} {ns : List NdT} (h : checkN X L ns = 0) : Fine X L ns := by
 obtain ⟨hl, -, hb, hw⟩ := checkN_good h
 have hc : ∀ (k : Nat) (hk : k < ns.length), ∃ c r : Nat, ns[k].c = c ∧ c < L ∧ ns[k].r = r ∧ r < X.length ∧ seenN ns k (r : Nat) = false := fun k hk => by
  have h0 := hb k hk
  rcases badN_cases (L := L) (n := X.length) (List.getElem?_eq_getElem hk) with ⟨_, h1⟩ | ⟨c, _, _, h1⟩ | ⟨c, _, _, _, h1⟩ | ⟨c, r, _, _, _, _, h1⟩ | ⟨c, r, _, _, _, _, _, h1⟩ | ⟨c, r, h1, h2, h3, h4, h5, _⟩
  ·rw [h0] at h1; cases h1
  ·rw [h0] at h1; cases h1
  ·rw [h0] at h1; cases h1
  ·rw [h0] at h1; cases h1
  ·rw [h0] at h1; cases h1
  ·exact ⟨c, r, h1, h2, h3, h4, h5⟩
 refine ⟨fun n hn => ?_, ?_, fun i e d he => ?_⟩
 ·obtain ⟨k, hk, rfl⟩ := List.getElem_of_mem hn
  obtain ⟨c, r, h1, h2, h3, h4, _⟩ := hc k hk
  omega
 ·unfold List.Nodup
  rw [List.pairwise_map, List.pairwise_iff_getElem]
  intro i j hi hj hij he
  obtain ⟨c, r, _, _, h3, _, h5⟩ := hc j hj
  have h6 : seenN ns j (r : Nat) = true := by
   unfold seenN
   rw [List.any_eq_true]
   refine ⟨ns[i], ?_, by simp; omega⟩
   rw [List.mem_iff_getElem]
   exact ⟨i, by simp; omega, by simp⟩
  rw [h5] at h6
  cases h6
 ·intro n hn j hij hje
  have hi : i < ns.length := (List.getElem?_eq_some_iff.1 hn).1
  obtain ⟨s, g1, g2, g3, g4, g5⟩ := endF_lay ns _ i e d he
  have hj : j < ns.length := by omega
  have hE : endE (partN ns i) = e := by unfold partN; rw [he]; rfl
  have h1 := hw i hi
  have h2 : wrongN X ns i j = false := by
   cases h3 : wrongN X ns i j with
   | false => rfl
   | true => rw [wrong_in hij (by rw [hE]; exact hje) h3] at h1; cases h1
  have hr : rowN ns j = ns[j].r.toNat := by unfold rowN; rw [List.getElem?_eq_getElem hj]; rfl
  rw [wrongN_at hn (List.getElem?_eq_getElem hj), rightN_at hn, hE] at h2
  rw [hr]
  generalize (if n.t = 0 then (e : Int) else n.t) = G at h2 ⊢
  generalize ent X ns[j].r.toNat n.c.toNat = Y at h2 ⊢
  generalize ent X n.r.toNat n.c.toNat = P at h2 ⊢
  rw [Bool.or_eq_false_iff, Bool.and_eq_false_iff, Bool.and_eq_false_iff] at h2
  simp only [decide_eq_false_iff_not] at h2
  obtain ⟨h3, h4⟩ := h2
  unfold cmpQ at h3 h4
  refine ⟨fun hjG => ?_, fun hjG => ?_⟩
  ·have h5 := h3.resolve_left (by omega)
   by_cases h6 : P < Y
   ·have h7 : ¬ Y < P := fun h => by grind
    rw [if_neg h7, if_pos h6] at h5
    exact absurd (by decide) h5
   ·grind
  ·have h5 := h4.resolve_left (by omega)
   by_cases h6 : Y < P
   ·rw [if_pos h6] at h5
    exact absurd (by decide) h5
   ·grind
end Go.Proofs.YtjmopgepnndckaaGreatDoor
namespace Go.Proofs.YtjmopgepnndckaaGreatDoor
open Go Go.RowKit
theorem Lhz.at {u : World} {A : Option Addr} {l : List Ht} (h : Lhz u A l) {i : Nat} (hi : i < l.length) : ∃ b off, A = some ⟨b, off, none⟩ ∧ ∃ p : Az, Rz u p l[i].2 ∧ ∀ W, Grow u W → W.cell? ⟨b, off + i * 4, none⟩ = some (.int .i64 (l[i].1 : Nat)) ∧ Cz W b (off + i * 4 + 1) p l[i].2 := by
 obtain ⟨b, off, e, hb, hc⟩ := h (fun e => by rw [e] at hi; simp at hi)
 obtain ⟨p, h1, h2, h3⟩ := hc i _ (List.getElem?_eq_getElem hi)
 exact ⟨b, off, e, p, h1, fun W hg => ⟨(hg.cell (p := ⟨b, off + i * 4, none⟩) hb).trans h2, h3.grow hb hg⟩⟩
end Go.Proofs.YtjmopgepnndckaaGreatDoor
