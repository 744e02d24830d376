/-
  Contracts and laws: NearVA.
-/
import Derived.Test.YtjmopgepnndckaaGreatDoorV47
set_option linter.unusedSimpArgs false
set_option linter.unusedVariables false
namespace Go.Proofs.YtjmopgepnndckaaGreatDoor
open Go Go.RowKit
/-- things of k cells that lie from the address on -/
def Le {α : Type} (enc : α → List Value) (k : Nat) (u : World) (A : Option Addr) (l : List α) : Prop :=
 l ≠ [] → ∃ b off, A = some ⟨b, off, none⟩ ∧ b < u.heap.size ∧ ∀ i x, l[i]? = some x → ∀ j v, (enc x)[j]? = some v → u.cell? ⟨b, off + i * k + j, none⟩ = some v
theorem Le.grow {α : Type} {enc : α → List Value} {k : Nat} {u u' : World} {A : Option Addr} {l : List α} (h : Le enc k u A l) (hg : Grow u u') : Le enc k u' A l := fun hn => by
 obtain ⟨b, off, e, hb, hc⟩ := h hn
 exact ⟨b, off, e, Nat.lt_of_lt_of_le hb hg.size, fun i q hi j v hj => (hg.cell (p := ⟨b, off + i * k + j, none⟩) hb).trans (hc i q hi j v hj)⟩
theorem own_le {α : Type} {enc : α → List Value} {k : Nat} (he : ∀ x, (enc x).length = k) (hk : 0 < k) {u : World} {B n : Nat} {e : TypeId} {v : Value} {l : List α} (h : u.ownsRow B e k v n (l.flatMap enc)) : ∃ A c, v = .slice A n c ∧ n ≤ c ∧ Le enc k u A l ∧ n = l.length := by
 have hn : n = l.length := by
  have h1 := h.1
  rw [flat_lenO he] at h1
  exact (Nat.eq_of_mul_eq_mul_right hk h1).symm
 obtain ⟨_, h | ⟨g, cap, cur, rfl, hb, hh, hn', hc, hs, ht⟩⟩ := h
 ·obtain ⟨rfl, h0⟩ := h
  exact ⟨none, 0, by rw [h0], by omega, fun hne => absurd (List.eq_nil_of_length_eq_zero (l := l) (by omega)) hne, hn⟩
 ·refine ⟨_, cap, rfl, hn', fun _ => ⟨g, 0, rfl, heap_lt hh, fun i q hi j v hj => ?_⟩, hn⟩
  have hil : i < l.length := (List.getElem?_eq_some_iff.1 hi).1
  have er : l[i] = q := by rw [List.getElem?_eq_getElem hil] at hi; exact Option.some.inj hi
  have hjl : j < k := by have := (List.getElem?_eq_some_iff.1 hj).1; rw [he] at this; exact this
  rw [cell_of_row u g _ cur e (0, 0) hh, Nat.zero_add]
  have h1 : (cur.toList.take (n * k))[i * k + j]? = some v := by rw [ht, flat_at he l i j hil hjl, er, hj]
  have hlt : i * k + j < n * k := by
   have : i * k + k ≤ l.length * k := by rw [← Nat.succ_mul]; exact Nat.mul_le_mul_right _ hil
   rw [hn]; omega
  rw [List.getElem?_take, if_pos hlt] at h1
  simpa using h1
theorem Le.at {α : Type} {enc : α → List Value} {k : Nat} {u : World} {A : Option Addr} {l : List α} (h : Le enc k u A l) {i : Nat} (hi : i < l.length) : ∃ b off, A = some ⟨b, off, none⟩ ∧ ∀ W, Grow u W → ∀ j v, (enc l[i])[j]? = some v → W.cell? ⟨b, off + i * k + j, none⟩ = some v := by
 obtain ⟨b, off, e, hb, hc⟩ := h (fun e => by rw [e] at hi; simp at hi)
 exact ⟨b, off, e, fun W hg j v hj => (hg.cell (p := ⟨b, off + i * k + j, none⟩) hb).trans (hc i _ (List.getElem?_eq_getElem hi) j v hj)⟩
/-- a hit with its row alone, the program's and the document's -/
abbrev hvL (r : Int) : List Value := [.int .i64 r, .bool false, .int .u64 0, .string ⟨#[]⟩, .int .u64 0, .string ⟨#[]⟩]
abbrev hwL (r : Int) : List Value := [.int .i64 r, .bool false, .slice none 0 0, .slice none 0 0]
theorem gi_get {l : List Int} {i : Nat} (h : i < l.length) : gi l i = l[i] := by unfold gi; rw [List.getElem?_eq_getElem h]; rfl
theorem newObj_Arr12 (d : Option Tmp) (ty : TypeId) (pos : String) (af : Array Edge) (gd : Option (Nat × Bool)) : newObj Tryz.prog ⟨d, .alloc 112, ty, pos, af, gd⟩ = .cells #[.int .i64 0, .int .i64 0, .int .i64 0, .int .i64 0, .int .i64 0, .int .i64 0, .int .i64 0, .int .i64 0, .int .i64 0, .int .i64 0, .int .i64 0, .int .i64 0] 112 := by kernel_rfl
theorem allocsV : ∀ t ∈ [45, 47, 49, 51, 112, 57], AllocT Tryz.prog t := by
 intro t ht
 simp only [List.mem_cons, List.not_mem_nil, or_false] at ht
 rcases ht with rfl | rfl | rfl | rfl | rfl | rfl
 ·exact fun _ _ _ _ _ _ => by rw [newObj_Nat]; kernel_rfl
 ·exact fun _ _ _ _ _ _ => by rw [newObj_Int]; kernel_rfl
 ·exact fun _ _ _ _ _ _ => by rw [newObj_Q]; kernel_rfl
 ·exact fun _ _ _ _ _ _ => by rw [newObj_Hit]; kernel_rfl
 ·exact fun _ _ _ _ _ _ => by rw [newObj_Arr12]; kernel_rfl
 ·exact fun _ _ _ _ _ _ => by rw [newObj_RQ]; kernel_rfl
theorem idx_12 (C : Nat → Nat) (k : Nat) (hk : k < 12) (W : World) : (Instr.index 112 (.agg #[.int .i64 (C 0 : Nat), .int .i64 (C 1 : Nat), .int .i64 (C 2 : Nat), .int .i64 (C 3 : Nat), .int .i64 (C 4 : Nat), .int .i64 (C 5 : Nat), .int .i64 (C 6 : Nat), .int .i64 (C 7 : Nat), .int .i64 (C 8 : Nat), .int .i64 (C 9 : Nat), .int .i64 (C 10 : Nat), .int .i64 (C 11 : Nat)]) (.int .i64 (k : Nat))).run Tryz.prog W = .ok (.int .i64 (C k : Nat)) W := by
 rcases (show k = 0 ∨ k = 1 ∨ k = 2 ∨ k = 3 ∨ k = 4 ∨ k = 5 ∨ k = 6 ∨ k = 7 ∨ k = 8 ∨ k = 9 ∨ k = 10 ∨ k = 11 by omega) with rfl | rfl | rfl | rfl | rfl | rfl | rfl | rfl | rfl | rfl | rfl | rfl <;> kernel_rfl
/-- what is known of a hit's row and label: four ways to be bad, one to be good -/
theorem badV_cases (ls : List Int) (R : Int) : (R < 0 ∧ badV ls R = true) ∨ (∃ r : Nat, R = r ∧ ls.length ≤ r ∧ badV ls R = true) ∨ (∃ r : Nat, R = r ∧ r < ls.length ∧ gi ls r < 0 ∧ badV ls R = true) ∨ (∃ r : Nat, R = r ∧ r < ls.length ∧ 12 ≤ gi ls r ∧ badV ls R = true) ∨ ∃ r k : Nat, R = r ∧ r < ls.length ∧ gi ls r = k ∧ k < 12 ∧ badV ls R = false := by
 by_cases h1 : R < 0
 ·exact .inl ⟨h1, by unfold badV; simp [h1]⟩
 ·obtain ⟨r, rfl⟩ : ∃ r : Nat, R = r := ⟨R.toNat, by omega⟩
  by_cases h2 : ls.length ≤ r
  ·exact .inr (.inl ⟨r, rfl, h2, by unfold badV; simp [h2]⟩)
  ·by_cases h3 : gi ls r < 0
   ·exact .inr (.inr (.inl ⟨r, rfl, by omega, h3, by unfold badV; simp [h3]⟩))
   ·by_cases h4 : 12 ≤ gi ls r
    ·exact .inr (.inr (.inr (.inl ⟨r, rfl, by omega, h4, by unfold badV; simp [h4]⟩)))
    ·refine .inr (.inr (.inr (.inr ⟨r, (gi ls r).toNat, rfl, by omega, by omega, by omega, ?_⟩)))
     unfold badV
     simp only [Int.toNat_natCast, Bool.or_eq_false_iff, decide_eq_false_iff_not]
     omega
set_option maxHeartbeats 1000000 in
theorem near_Vote_none (A B : Option Addr) (m c d : Nat) (w : World) : Calls Tryz.prog 22 #[.slice A 0 c, .slice B m d] w fun e w' => e = .returned (.tuple #[.int .i64 0, .int .i64 5]) ∧ Grow w w' := by
 go_enter Tryz.func22, Tryz.ntmps22
 refine en0 ?_
 intro u hG hB hF
 refine wp_seq ?_
 refine r0T ?_
 refine wp_cond_true (rfl) ?_
 refine r0T ?_
 refine rt Tryz.results22 ?_
 exact ⟨rfl, hG⟩
set_option maxHeartbeats 8000000 in
set_option maxRecDepth 100000 in
theorem near_Vote_some (A B : Option Addr) (hs ls : List Int) (n m c d : Nat) (hn : n = hs.length) (hn0 : 0 < n) (hm : m = ls.length) (hnm : n ≤ 1048576) (w : World) (h : Le hvL 6 w A hs) (h' : Li w B ls) :
  Calls Tryz.prog 22 #[.slice A n c, .slice B m d] w fun e w' => e = .returned (.tuple #[.int .i64 ((voteV hs ls).1 : Nat), .int .i64 ((voteV hs ls).2 : Nat)]) ∧ Grow w w' := by
 have H := Lib.hid h
 have H' := Lib.hid h'
 have Hn := Lib.hid hn
 have Hm := Lib.hid hm
 have fn : ((n : Int) == 0) = false := by simp; omega
 have fnd : decide (n = 0) = false := by simp; omega
 clear h h' hn hm
 go_enter Tryz.func22, Tryz.ntmps22
 refine en0 ?_
 intro u hG hB hF
 refine wp_seq ?_
 refine r0T ?_
 refine wp_cond_false (rfl) ?_
 refine wp_skip ?_
 refine then_norm ?_
 refine wp_seq (rsE allocsV [2] hB hG fun L hL => ?_)
 refine gaa (newObj_Arr12 _ _ _ _ _) fun b6 hb6 hn6 => ?_
 replace hF := hF.n1 [] hB hG hb6 hn6
 refine geT hL ?_
 clear hB hG hL L
 rintro u ⟨⟨-, hB, hG, -⟩, h6⟩
 replace hB := hB.cons' h6
 clear h6
 clear hb6 hn6
 refine wp_seq ?_
 refine r0T ?_
 refine wp_block ?_
 go_loopw [18] (fun s0 wr => ∃ j : Nat, j ≤ n ∧ s0 = .int .i64 j ∧ (∀ i, i < j → badV ls (gi hs i) = false) ∧ Bx wr [(b6, 112, cellsI (cntL hs ls j))] ∧ Grow w wr) (fun s0 _ => n - (intOf s0).toNat)
 case atStart => exact ⟨0, Nat.zero_le _, rfl, (fun i hi => absurd hi (by omega)), hB, hG⟩
 case round =>
  clear hB hG
  obtain ⟨j, hj, rfl, hbad, hB, hG⟩ := hrel
  obtain ⟨u, rfl⟩ : ∃ x, x = wr := ⟨_, rfl⟩
  rcases Nat.lt_or_ge j n with hlt | hge
  ·have hdec : decide ((j : Int) < (n : Int)) = true := by simp; omega
   have hji : (j : Int) < (n : Int) := by omega
   have hjl : j < hs.length := by rw [← Hn.out]; exact hlt
   obtain ⟨ba, oa, rfl, hrd⟩ := H.out.at hjl
   rw [← gi_get hjl] at hrd
   have hv1 := fun hb => voteV_bad (ls := ls) hjl hb
   have hb0 := fun (hb : badV ls (gi hs j) = false) (i : Nat) (hi : i < j + 1) => (if e : i = j then by rw [e]; exact hb else hbad i (by omega) : badV ls (gi hs i) = false)
   have hcs := fun k e hk => cntL_succ hs ls j k e hk
   have hcg := fun k (hk : k < 12) => (cntV_le hs ls k j)
   have hcl := cntL_len hs ls j
   obtain ⟨R, hR⟩ : ∃ R, R = gi hs j := ⟨_, rfl⟩
   rw [← hR] at hrd hv1 hb0
   simp only [← hR] at hcs
   have Hrd := Lib.hid hrd
   have HR := Lib.hid hR
   clear hrd hbad hR
   rcases badV_cases ls R with ⟨e1, e2⟩ | ⟨r, rfl, e1, e2⟩ | ⟨r, rfl, e1, e2, e3⟩ | ⟨r, rfl, e1, e2, e3⟩ | ⟨r, k, rfl, e1, e2, e3, e4⟩
   ·have d1 : decide (R < 0) = true := decide_eq_true e1
    rw [hv1 e2]
    clear hv1 hb0 hcs hcg hcl e1 e2
    refine r0T ?_
    refine wp_seq ?_
    refine wp_cond_true (rfl) ?_
    refine wp_skip ?_
    refine then_norm ?_
    refine wp_seq ?_
    refine wp_block ?_
    refine wp_seq (rsC allocsV [0, 0, 2] hB hG fun K L hN hL => ?_)
    repeat first | refine gya ?_ | refine gyr ?_ | refine gna ?_ | refine gyb (by (rintro v ⟨hgu, hB, hG, -⟩ N hN; have r := hB.r; simp only [BxR] at r; have q0 := Hrd.out v hG 0 _ rfl; have q1 := Hrd.out v hG 1 _ rfl; have q2 := Hrd.out v hG 2 _ rfl; have q3 := Hrd.out v hG 3 _ rfl; have q4 := Hrd.out v hG 4 _ rfl; have q5 := Hrd.out v hG 5 _ rfl; simp only [Nat.add_zero] at q0; go_simp; exact hN)) ?_
    refine gaa (newObj_Hit _ _ _ _ _) fun b8 hb8 hn8 => ?_
    replace hF := hF.n1 [] hB hG hb8 hn8
    refine geC hL ?_
    clear hB hG hL L
    rintro u ⟨⟨-, hB, hG, -⟩, h8⟩
    replace hB := hB.cons' h8
    clear h8
    clear hb8 hn8
    refine gtT ?_
    clear hN K
    refine st hB hF hG 0 0 [_, _, _, _, _, _] ?_
    clear hB hG
    intro u hB hG
    refine wp_seq ?_
    refine wp_seq ?_
    have q0 := Hrd.out u hG 0 _ rfl; have q1 := Hrd.out u hG 1 _ rfl; have q2 := Hrd.out u hG 2 _ rfl; have q3 := Hrd.out u hG 3 _ rfl; have q4 := Hrd.out u hG 4 _ rfl; have q5 := Hrd.out u hG 5 _ rfl; simp only [Nat.add_zero] at q0
    refine r0N ?_
    refine wp_cond_true (rfl) ?_
    refine r0T ?_
    refine rt Tryz.results22 ?_
    exact ⟨rfl, hG⟩
   ·rw [← Hm.out] at e1
    have d2 : decide ((m : Int) ≤ (r : Int)) = true := by simp; omega
    have d3 : decide (m ≤ r) = true := by simp; omega
    rw [hv1 e2]
    clear hv1 hb0 hcs hcg hcl e2
    refine r0T ?_
    refine wp_seq ?_
    refine wp_cond_true (rfl) ?_
    refine wp_skip ?_
    refine then_norm ?_
    refine wp_seq ?_
    refine wp_block ?_
    refine wp_seq (rsC allocsV [0, 0, 2] hB hG fun K L hN hL => ?_)
    repeat first | refine gya ?_ | refine gyr ?_ | refine gna ?_ | refine gyb (by (rintro v ⟨hgu, hB, hG, -⟩ N hN; have r := hB.r; simp only [BxR] at r; have q0 := Hrd.out v hG 0 _ rfl; have q1 := Hrd.out v hG 1 _ rfl; have q2 := Hrd.out v hG 2 _ rfl; have q3 := Hrd.out v hG 3 _ rfl; have q4 := Hrd.out v hG 4 _ rfl; have q5 := Hrd.out v hG 5 _ rfl; simp only [Nat.add_zero] at q0; go_simp; exact hN)) ?_
    refine gaa (newObj_Hit _ _ _ _ _) fun b8 hb8 hn8 => ?_
    replace hF := hF.n1 [] hB hG hb8 hn8
    refine geC hL ?_
    clear hB hG hL L
    rintro u ⟨⟨-, hB, hG, -⟩, h8⟩
    replace hB := hB.cons' h8
    clear h8
    clear hb8 hn8
    refine gtT ?_
    clear hN K
    refine st hB hF hG 0 0 [_, _, _, _, _, _] ?_
    clear hB hG
    intro u hB hG
    refine wp_seq ?_
    refine wp_seq ?_
    have q0 := Hrd.out u hG 0 _ rfl; have q1 := Hrd.out u hG 1 _ rfl; have q2 := Hrd.out u hG 2 _ rfl; have q3 := Hrd.out u hG 3 _ rfl; have q4 := Hrd.out u hG 4 _ rfl; have q5 := Hrd.out u hG 5 _ rfl; simp only [Nat.add_zero] at q0
    refine r0N ?_
    refine wp_cond_true (rfl) ?_
    refine r0T ?_
    refine rt Tryz.results22 ?_
    exact ⟨rfl, hG⟩
   ·obtain ⟨bb, ob, rfl, hlb⟩ := H'.out.at e1
    rw [← Hm.out] at e1
    have d2 : decide ((m : Int) ≤ (r : Int)) = false := by simp; omega
    have d3 : decide (m ≤ r) = false := by simp; omega
    have hri : (r : Int) < (m : Int) := by omega
    obtain ⟨L0, hL0⟩ : ∃ L, L = gi ls r := ⟨_, rfl⟩
    rw [← hL0] at e2 hlb
    have Hlb := Lib.hid hlb
    have d4 : decide (L0 < 0) = true := decide_eq_true e2
    rw [hv1 e3]
    clear hv1 hb0 hcs hcg hcl e2 e3 hlb hL0
    refine r0T ?_
    refine wp_seq ?_
    refine wp_cond_true (rfl) ?_
    refine wp_skip ?_
    refine then_norm ?_
    refine wp_seq ?_
    refine wp_block ?_
    refine wp_seq (rsC allocsV [0, 0, 2] hB hG fun K L hN hL => ?_)
    repeat first | refine gya ?_ | refine gyr ?_ | refine gna ?_ | refine gyb (by (rintro v ⟨hgu, hB, hG, -⟩ N hN; have r := hB.r; simp only [BxR] at r; have q0 := Hrd.out v hG 0 _ rfl; have q1 := Hrd.out v hG 1 _ rfl; have q2 := Hrd.out v hG 2 _ rfl; have q3 := Hrd.out v hG 3 _ rfl; have q4 := Hrd.out v hG 4 _ rfl; have q5 := Hrd.out v hG 5 _ rfl; simp only [Nat.add_zero] at q0; have y0 := Hlb.out v hG; go_simp; exact hN)) ?_
    refine gaa (newObj_Hit _ _ _ _ _) fun b8 hb8 hn8 => ?_
    replace hF := hF.n1 [] hB hG hb8 hn8
    refine geC hL ?_
    clear hB hG hL L
    rintro u ⟨⟨-, hB, hG, -⟩, h8⟩
    replace hB := hB.cons' h8
    clear h8
    clear hb8 hn8
    refine gtT ?_
    clear hN K
    refine st hB hF hG 0 0 [_, _, _, _, _, _] ?_
    clear hB hG
    intro u hB hG
    refine wp_seq ?_
    refine wp_seq ?_
    have q0 := Hrd.out u hG 0 _ rfl; have q1 := Hrd.out u hG 1 _ rfl; have q2 := Hrd.out u hG 2 _ rfl; have q3 := Hrd.out u hG 3 _ rfl; have q4 := Hrd.out u hG 4 _ rfl; have q5 := Hrd.out u hG 5 _ rfl; simp only [Nat.add_zero] at q0; have y0 := Hlb.out u hG
    refine r0N ?_
    refine wp_cond_false (rfl) ?_
    refine wp_skip ?_
    refine then_norm ?_
    refine wp_seq ?_
    have q0 := Hrd.out u hG 0 _ rfl; have q1 := Hrd.out u hG 1 _ rfl; have q2 := Hrd.out u hG 2 _ rfl; have q3 := Hrd.out u hG 3 _ rfl; have q4 := Hrd.out u hG 4 _ rfl; have q5 := Hrd.out u hG 5 _ rfl; simp only [Nat.add_zero] at q0; have y0 := Hlb.out u hG
    refine r0N ?_
    refine wp_seq ?_
    refine r0T ?_
    refine wp_cond_true (rfl) ?_
    refine r0T ?_
    refine rt Tryz.results22 ?_
    exact ⟨rfl, hG⟩
   ·obtain ⟨bb, ob, rfl, hlb⟩ := H'.out.at e1
    rw [← Hm.out] at e1
    have d2 : decide ((m : Int) ≤ (r : Int)) = false := by simp; omega
    have d3 : decide (m ≤ r) = false := by simp; omega
    have hri : (r : Int) < (m : Int) := by omega
    obtain ⟨L0, hL0⟩ : ∃ L, L = gi ls r := ⟨_, rfl⟩
    rw [← hL0] at e2 hlb
    have Hlb := Lib.hid hlb
    have d4 : decide (L0 < 0) = false := by simp; omega
    have d5 : decide (12 ≤ L0) = true := decide_eq_true e2
    rw [hv1 e3]
    clear hv1 hb0 hcs hcg hcl e2 e3 hlb hL0
    refine r0T ?_
    refine wp_seq ?_
    refine wp_cond_true (rfl) ?_
    refine wp_skip ?_
    refine then_norm ?_
    refine wp_seq ?_
    refine wp_block ?_
    refine wp_seq (rsC allocsV [0, 0, 2] hB hG fun K L hN hL => ?_)
    repeat first | refine gya ?_ | refine gyr ?_ | refine gna ?_ | refine gyb (by (rintro v ⟨hgu, hB, hG, -⟩ N hN; have r := hB.r; simp only [BxR] at r; have q0 := Hrd.out v hG 0 _ rfl; have q1 := Hrd.out v hG 1 _ rfl; have q2 := Hrd.out v hG 2 _ rfl; have q3 := Hrd.out v hG 3 _ rfl; have q4 := Hrd.out v hG 4 _ rfl; have q5 := Hrd.out v hG 5 _ rfl; simp only [Nat.add_zero] at q0; have y0 := Hlb.out v hG; go_simp; exact hN)) ?_
    refine gaa (newObj_Hit _ _ _ _ _) fun b8 hb8 hn8 => ?_
    replace hF := hF.n1 [] hB hG hb8 hn8
    refine geC hL ?_
    clear hB hG hL L
    rintro u ⟨⟨-, hB, hG, -⟩, h8⟩
    replace hB := hB.cons' h8
    clear h8
    clear hb8 hn8
    refine gtT ?_
    clear hN K
    refine st hB hF hG 0 0 [_, _, _, _, _, _] ?_
    clear hB hG
    intro u hB hG
    refine wp_seq ?_
    refine wp_seq ?_
    have q0 := Hrd.out u hG 0 _ rfl; have q1 := Hrd.out u hG 1 _ rfl; have q2 := Hrd.out u hG 2 _ rfl; have q3 := Hrd.out u hG 3 _ rfl; have q4 := Hrd.out u hG 4 _ rfl; have q5 := Hrd.out u hG 5 _ rfl; simp only [Nat.add_zero] at q0; have y0 := Hlb.out u hG
    refine r0N ?_
    refine wp_cond_false (rfl) ?_
    refine wp_skip ?_
    refine then_norm ?_
    refine wp_seq ?_
    have q0 := Hrd.out u hG 0 _ rfl; have q1 := Hrd.out u hG 1 _ rfl; have q2 := Hrd.out u hG 2 _ rfl; have q3 := Hrd.out u hG 3 _ rfl; have q4 := Hrd.out u hG 4 _ rfl; have q5 := Hrd.out u hG 5 _ rfl; simp only [Nat.add_zero] at q0; have y0 := Hlb.out u hG
    refine r0N ?_
    refine wp_seq ?_
    refine r0T ?_
    refine wp_cond_true (rfl) ?_
    refine r0T ?_
    refine rt Tryz.results22 ?_
    exact ⟨rfl, hG⟩
   ·obtain ⟨bb, ob, rfl, hlb⟩ := H'.out.at e1
    rw [← Hm.out] at e1
    have d2 : decide ((m : Int) ≤ (r : Int)) = false := by simp; omega
    have d3 : decide (m ≤ r) = false := by simp; omega
    have hri : (r : Int) < (m : Int) := by omega
    have hcs2 := hcs k (by simpa using e2) e3
    rw [e2] at hlb
    have Hlb := Lib.hid hlb
    have d5 : decide ((12 : Int) ≤ (k : Int)) = false := by simp; omega
    have d6 : decide (12 ≤ k) = false := by simp; omega
    have hki : (k : Int) < 12 := by omega
    have hcb := hcg k e3
    have Hb0 := Lib.hid (hb0 e4)
    have g1 : (cellsI (cntL hs ls j))[k]? = some (.int .i64 (cntV hs ls j k : Nat)) := by
     rw [cellsI_get]
     unfold cntL
     simp [e3]
    obtain ⟨C, hC⟩ : ∃ C, C = cntV hs ls j k := ⟨_, rfl⟩
    rw [← hC] at hcs2 hcb g1
    have g3 : (cellsI (cntL hs ls j)).setIfInBounds k (.int .i64 ((C : Int) + 1)) = cellsI (cntL hs ls (j + 1)) := by rw [cellsI_set, hcs2]
    have G3 := Lib.hid g3
    have hCi : (C : Int) ≤ 1048576 := by omega
    clear hv1 hb0 hcs hcg hcl e2 e4 hlb hcs2 hC g3
    refine r0T ?_
    refine wp_seq ?_
    refine wp_cond_true (rfl) ?_
    refine wp_skip ?_
    refine then_norm ?_
    refine wp_seq ?_
    refine wp_block ?_
    refine wp_seq (rsC allocsV [0, 0, 2] hB hG fun K L hN hL => ?_)
    repeat first | refine gya ?_ | refine gyr ?_ | refine gna ?_ | refine gyb (by (rintro v ⟨hgu, hB, hG, -⟩ N hN; have r := hB.r; simp only [BxR] at r; have q0 := Hrd.out v hG 0 _ rfl; have q1 := Hrd.out v hG 1 _ rfl; have q2 := Hrd.out v hG 2 _ rfl; have q3 := Hrd.out v hG 3 _ rfl; have q4 := Hrd.out v hG 4 _ rfl; have q5 := Hrd.out v hG 5 _ rfl; simp only [Nat.add_zero] at q0; have y0 := Hlb.out v hG; go_simp; exact hN)) ?_
    refine gaa (newObj_Hit _ _ _ _ _) fun b8 hb8 hn8 => ?_
    replace hF := hF.n1 [] hB hG hb8 hn8
    refine geC hL ?_
    clear hB hG hL L
    rintro u ⟨⟨-, hB, hG, -⟩, h8⟩
    replace hB := hB.cons' h8
    clear h8
    clear hb8 hn8
    refine gtT ?_
    clear hN K
    refine st hB hF hG 0 0 [_, _, _, _, _, _] ?_
    clear hB hG
    intro u hB hG
    refine wp_seq ?_
    refine wp_seq ?_
    have q0 := Hrd.out u hG 0 _ rfl; have q1 := Hrd.out u hG 1 _ rfl; have q2 := Hrd.out u hG 2 _ rfl; have q3 := Hrd.out u hG 3 _ rfl; have q4 := Hrd.out u hG 4 _ rfl; have q5 := Hrd.out u hG 5 _ rfl; simp only [Nat.add_zero] at q0; have y0 := Hlb.out u hG
    refine r0N ?_
    refine wp_cond_false (rfl) ?_
    refine wp_skip ?_
    refine then_norm ?_
    refine wp_seq ?_
    have q0 := Hrd.out u hG 0 _ rfl; have q1 := Hrd.out u hG 1 _ rfl; have q2 := Hrd.out u hG 2 _ rfl; have q3 := Hrd.out u hG 3 _ rfl; have q4 := Hrd.out u hG 4 _ rfl; have q5 := Hrd.out u hG 5 _ rfl; simp only [Nat.add_zero] at q0; have y0 := Hlb.out u hG
    refine r0N ?_
    refine wp_seq ?_
    refine r0T ?_
    refine wp_cond_false (rfl) ?_
    refine wp_skip ?_
    refine then_norm ?_
    have q0 := Hrd.out u hG 0 _ rfl; have q1 := Hrd.out u hG 1 _ rfl; have q2 := Hrd.out u hG 2 _ rfl; have q3 := Hrd.out u hG 3 _ rfl; have q4 := Hrd.out u hG 4 _ rfl; have q5 := Hrd.out u hG 5 _ rfl; simp only [Nat.add_zero] at q0; have y0 := Hlb.out u hG
    refine r0E ?_
    generalize hu0 : World.setCell u _ _ = u0
    have hBG := hB.over hF hG 1 rfl k [_] hu0
    clear hB hG
    simp only [List.modify_succ_cons, List.modify_zero_cons, wrAll, G3.out] at hBG
    obtain ⟨hB, hG⟩ := hBG
    obtain ⟨u, rfl⟩ : ∃ x, x = u0 := ⟨_, rfl⟩
    refine blk_norm ?_
    refine then_norm ?_
    refine r0E ?_
    refine then_norm ?_
    go_roundw
    case rel => exact ⟨j + 1, by omega, by go_num, Hb0.out, hB.tail, hG⟩
    case measure => simp [intOf]; omega
  ·obtain rfl : n = j := by omega
   have hdec : decide ((n : Int) < (n : Int)) = false := by simp
   have hne : hs ≠ [] := fun e => by
    have := Hn.out
    rw [e] at this
    simp at this
    omega
   have hv : voteV hs ls = (topV (cntV hs ls n) 12, 0) := by
    have h1 := voteV_ok (ls := ls) hne (by rw [← Hn.out]; exact hbad)
    rw [h1, ← Hn.out]
   rw [hv]
   have hgc : ∀ k, k < 12 → (cellsI (cntL hs ls n))[k]? = some (.int .i64 (cntV hs ls n k : Nat)) := fun k hk => by
    rw [cellsI_get]
    unfold cntL
    simp [hk]
   clear hv hne hbad
   obtain ⟨CC, hCC⟩ : ∃ C, C = cntV hs ls n := ⟨_, rfl⟩
   simp only [← hCC] at hgc ⊢
   obtain ⟨X12, hX12⟩ : ∃ X, X = cellsI (cntL hs ls n) := ⟨_, rfl⟩
   rw [← hX12] at hB
   simp only [← hX12] at hgc
   have Hgc := Lib.hid hgc
   have g0 := hgc 0 (by omega)
   have g1 := hgc 1 (by omega)
   have g2 := hgc 2 (by omega)
   have g3 := hgc 3 (by omega)
   have g4 := hgc 4 (by omega)
   have g5 := hgc 5 (by omega)
   have g6 := hgc 6 (by omega)
   have g7 := hgc 7 (by omega)
   have g8 := hgc 8 (by omega)
   have g9 := hgc 9 (by omega)
   have g10 := hgc 10 (by omega)
   have g11 := hgc 11 (by omega)
   clear hX12 hCC hgc
   refine r0T ?_
   refine wp_seq ?_
   refine wp_cond_false (rfl) ?_
   refine wp_exit ?_
   refine then_exit ?_
   refine then_exit ?_
   refine blk_exit ?_
   refine then_norm ?_
   refine r0T ?_
   refine wp_seq ?_
   refine r0T ?_
   refine wp_block ?_
   go_loopw [10, 50] (fun s0 s1 wr => ∃ k : Nat, k ≤ 12 ∧ s1 = .int .i64 k ∧ s0 = .int .i64 (topV CC k : Nat) ∧ Bx wr [(b6, 112, X12)] ∧ Grow w wr) (fun _ s1 _ => 12 - (intOf s1).toNat)
   case atStart => exact ⟨0, Nat.zero_le _, rfl, rfl, hB, hG⟩
   case round =>
    clear hB hG
    obtain ⟨k, hk, rfl, rfl, hB, hG⟩ := hrel
    obtain ⟨u, rfl⟩ : ∃ x, x = wr := ⟨_, rfl⟩
    rcases Nat.lt_or_ge k 12 with hlt | hge
    ·have hT : topV CC k < 12 := by
      rcases Nat.eq_zero_or_pos k with rfl | h0
      ·show 0 < 12
       omega
      ·have := topV_lt CC k h0
       omega
     have gT := Hgc.out _ hT
     have hsu : topV CC (k + 1) = if CC (topV CC k) < CC k then k else topV CC k := rfl
     obtain ⟨T, hTe⟩ : ∃ T, T = topV CC k := ⟨_, rfl⟩
     rw [← hTe] at hT gT hsu ⊢
     have hTi : (T : Int) < 12 := by omega
     have hki : (k : Int) < 12 := by omega
     have hTd : decide ((k : Int) < 12) = true := by simp; omega
     have hkn : decide (k < 12) = true := by simp; omega
     have hix := fun W => idx_12 CC k hlt W
     obtain ⟨Y, hY⟩ : ∃ Y, Y = CC T := ⟨_, rfl⟩
     rw [← hY] at gT hsu
     by_cases hc : Y < CC k
     ·rw [if_pos hc] at hsu
      have dn : decide (Y < CC k) = true := decide_eq_true hc
      have di : decide ((Y : Int) < (CC k : Int)) = true := by simp; omega
      clear hc hY hTe
      refine r0T ?_
      refine wp_seq ?_
      refine wp_cond_true (rfl) ?_
      refine wp_skip ?_
      refine then_norm ?_
      refine wp_seq ?_
      refine wp_block ?_
      refine r0T ?_
      refine r0T ?_
      refine wp_cond_true (rfl) ?_
      refine r0E ?_
      refine blk_norm ?_
      refine then_norm ?_
      refine r0E ?_
      refine then_norm ?_
      go_roundw
      case rel => exact ⟨k + 1, hlt, by go_num, by rw [hsu], hB, hG⟩
      case measure => simp [intOf]; omega
     ·rw [if_neg hc] at hsu
      have dn : decide (Y < CC k) = false := decide_eq_false hc
      have di : decide ((Y : Int) < (CC k : Int)) = false := by simp; omega
      clear hc hY hTe
      refine r0T ?_
      refine wp_seq ?_
      refine wp_cond_true (rfl) ?_
      refine wp_skip ?_
      refine then_norm ?_
      refine wp_seq ?_
      refine wp_block ?_
      refine r0T ?_
      refine r0T ?_
      refine wp_cond_false (rfl) ?_
      refine wp_skip ?_
      refine blk_norm ?_
      refine then_norm ?_
      refine r0E ?_
      refine then_norm ?_
      go_roundw
      case rel => exact ⟨k + 1, hlt, by go_num, by rw [hsu], hB, hG⟩
      case measure => simp [intOf]; omega
    ·obtain rfl : k = 12 := by omega
     have hTd : decide ((12 : Int) < 12) = false := by simp
     refine r0T ?_
     refine wp_seq ?_
     refine wp_cond_false (rfl) ?_
     refine wp_exit ?_
     refine then_exit ?_
     refine then_exit ?_
     refine blk_exit ?_
     refine then_norm ?_
     refine r0T ?_
     refine rt Tryz.results22 ?_
     exact ⟨rfl, hG⟩
theorem near_Vote (A B : Option Addr) (hs ls : List Int) (n m c d : Nat) (hn : n = hs.length) (hm : m = ls.length) (hnm : n ≤ 1048576) (w : World) (h : Le hvL 6 w A hs) (h' : Li w B ls) :
  Calls Tryz.prog 22 #[.slice A n c, .slice B m d] w fun e w' => e = .returned (.tuple #[.int .i64 ((voteV hs ls).1 : Nat), .int .i64 ((voteV hs ls).2 : Nat)]) ∧ Grow w w' := by
 rcases Nat.eq_zero_or_pos n with h0 | h0
 ·obtain rfl : hs = [] := List.eq_nil_of_length_eq_zero (by omega)
  subst h0
  exact near_Vote_none A B m c d w
 ·exact near_Vote_some A B hs ls n m c d hn h0 hm hnm w h h'
set_option maxHeartbeats 1000000 in
theorem ref22_Vote_none (A B : Option Addr) (m c d : Nat) (w : World) : Calls Tryz.prog 23 #[.slice A 0 c, .slice B m d] w fun e w' => e = .returned (.tuple #[.int .i64 0, .int .i64 5]) ∧ Grow w w' := by
 go_enter Tryz.func23, Tryz.ntmps23
 refine en0 ?_
 intro u hG hB hF
 refine wp_seq ?_
 refine r0T ?_
 refine wp_cond_true (rfl) ?_
 refine r0T ?_
 refine rt Tryz.results23 ?_
 exact ⟨rfl, hG⟩
set_option maxHeartbeats 8000000 in
set_option maxRecDepth 100000 in
theorem ref22_Vote_some (A B : Option Addr) (hs ls : List Int) (n m c d : Nat) (hn : n = hs.length) (hn0 : 0 < n) (hm : m = ls.length) (hnm : n ≤ 1048576) (w : World) (h : Le hwL 4 w A hs) (h' : Li w B ls) :
  Calls Tryz.prog 23 #[.slice A n c, .slice B m d] w fun e w' => e = .returned (.tuple #[.int .i64 ((voteV hs ls).1 : Nat), .int .i64 ((voteV hs ls).2 : Nat)]) ∧ Grow w w' := by
 have H := Lib.hid h
 have H' := Lib.hid h'
 have Hn := Lib.hid hn
 have Hm := Lib.hid hm
 have fn : ((n : Int) == 0) = false := by simp; omega
 have fnd : decide (n = 0) = false := by simp; omega
 have hmk := make_int 12 (by omega) 12 rfl
 obtain ⟨Z12, hZ⟩ : ∃ Z, Z = List.replicate 12 (0 : Int) := ⟨_, rfl⟩
 rw [← hZ] at hmk
 have HZ := Lib.hid hZ
 clear h h' hn hm hZ
 go_enter Tryz.func23, Tryz.ntmps23
 refine en0 ?_
 intro u hG hB hF
 refine wp_seq ?_
 refine r0T ?_
 refine wp_cond_false (rfl) ?_
 refine wp_skip ?_
 refine then_norm ?_
 refine r0T ?_
 have hbo := Blk.new u 3 (cellsI Z12)
 have hF3 := Fr.new (tk := []) hF hB hG (Nat.le_refl u.heap.size) (by simp)
 have hB3 := Bx.cons hbo (hB.grow (Grow.alloc u (.cells (cellsI Z12) 3)))
 have hG3 := hG.trans (Grow.alloc u (.cells (cellsI Z12) 3))
 simp only [List.cons_append, List.nil_append, List.map_cons, List.map_nil] at hF3
 clear hB hF hG hbo
 generalize World.alloc u _ = v at hB3 hG3 ⊢
 generalize u.heap.size = b13 at hB3 hF3 ⊢
 have hB := hB3
 have hF := hF3
 have hG := hG3
 clear hB3 hF3 hG3 hmk
 obtain ⟨u, rfl⟩ : ∃ x, x = v := ⟨_, rfl⟩
 refine wp_seq ?_
 refine r0T ?_
 refine wp_block ?_
 go_loopw [7] (fun s0 wr => ∃ j : Nat, j ≤ n ∧ s0 = .int .i64 j ∧ (∀ i, i < j → badV ls (gi hs i) = false) ∧ Bx wr [(b13, 3, cellsI (cntL hs ls j))] ∧ Grow w wr) (fun s0 _ => n - (intOf s0).toNat)
 case atStart => exact ⟨0, Nat.zero_le _, rfl, (fun i hi => absurd hi (by omega)), by rw [cntL_zero, ← HZ.out]; exact hB, hG⟩
 case round =>
  clear hB hG
  obtain ⟨j, hj, rfl, hbad, hB, hG⟩ := hrel
  obtain ⟨u, rfl⟩ : ∃ x, x = wr := ⟨_, rfl⟩
  rcases Nat.lt_or_ge j n with hlt | hge
  ·have hdec : decide ((j : Int) < (n : Int)) = true := by simp; omega
   have hji : (j : Int) < (n : Int) := by omega
   have hjl : j < hs.length := by rw [← Hn.out]; exact hlt
   obtain ⟨ba, oa, rfl, hrd⟩ := H.out.at hjl
   rw [← gi_get hjl] at hrd
   have hv1 := fun hb => voteV_bad (ls := ls) hjl hb
   have hb0 := fun (hb : badV ls (gi hs j) = false) (i : Nat) (hi : i < j + 1) => (if e : i = j then by rw [e]; exact hb else hbad i (by omega) : badV ls (gi hs i) = false)
   have hcs := fun k e hk => cntL_succ hs ls j k e hk
   have hcg := fun k (hk : k < 12) => (cntV_le hs ls k j)
   obtain ⟨R, hR⟩ : ∃ R, R = gi hs j := ⟨_, rfl⟩
   rw [← hR] at hrd hv1 hb0
   simp only [← hR] at hcs
   have Hrd := Lib.hid fun W hg => hrd W hg 0 _ rfl
   simp only [Nat.add_zero] at Hrd
   clear hrd hbad hR
   rcases badV_cases ls R with ⟨e1, e2⟩ | ⟨r, rfl, e1, e2⟩ | ⟨r, rfl, e1, e2, e3⟩ | ⟨r, rfl, e1, e2, e3⟩ | ⟨r, k, rfl, e1, e2, e3, e4⟩
   ·have d1 : decide (R < 0) = true := decide_eq_true e1
    rw [hv1 e2]
    clear hv1 hb0 hcs hcg e1 e2
    refine wp_seq ?_
    refine r0T ?_
    refine wp_cond_true (rfl) ?_
    refine wp_skip ?_
    refine then_norm ?_
    refine wp_seq ?_
    refine wp_block ?_
    refine wp_seq ?_
    refine wp_seq ?_
    have q0 := Hrd.out u hG
    refine r0N ?_
    refine wp_cond_true (rfl) ?_
    refine r0T ?_
    refine rt Tryz.results23 ?_
    exact ⟨rfl, hG⟩
   ·rw [← Hm.out] at e1
    have d2 : decide ((m : Int) ≤ (r : Int)) = true := by simp; omega
    have d3 : decide (m ≤ r) = true := by simp; omega
    rw [hv1 e2]
    clear hv1 hb0 hcs hcg e2
    refine wp_seq ?_
    refine r0T ?_
    refine wp_cond_true (rfl) ?_
    refine wp_skip ?_
    refine then_norm ?_
    refine wp_seq ?_
    refine wp_block ?_
    refine wp_seq ?_
    refine wp_seq ?_
    have q0 := Hrd.out u hG
    refine r0N ?_
    refine wp_cond_true (rfl) ?_
    refine r0T ?_
    refine rt Tryz.results23 ?_
    exact ⟨rfl, hG⟩
   ·obtain ⟨bb, ob, rfl, hlb⟩ := H'.out.at e1
    rw [← Hm.out] at e1
    have d2 : decide ((m : Int) ≤ (r : Int)) = false := by simp; omega
    have d3 : decide (m ≤ r) = false := by simp; omega
    have hri : (r : Int) < (m : Int) := by omega
    obtain ⟨L0, hL0⟩ : ∃ L, L = gi ls r := ⟨_, rfl⟩
    rw [← hL0] at e2 hlb
    have Hlb := Lib.hid hlb
    have d4 : decide (L0 < 0) = true := decide_eq_true e2
    rw [hv1 e3]
    clear hv1 hb0 hcs hcg e2 e3 hlb hL0
    refine wp_seq ?_
    refine r0T ?_
    refine wp_cond_true (rfl) ?_
    refine wp_skip ?_
    refine then_norm ?_
    refine wp_seq ?_
    refine wp_block ?_
    refine wp_seq ?_
    refine wp_seq ?_
    have q0 := Hrd.out u hG; have y0 := Hlb.out u hG
    refine r0N ?_
    refine wp_cond_true (rfl) ?_
    refine r0T ?_
    refine rt Tryz.results23 ?_
    exact ⟨rfl, hG⟩
   ·obtain ⟨bb, ob, rfl, hlb⟩ := H'.out.at e1
    rw [← Hm.out] at e1
    have d2 : decide ((m : Int) ≤ (r : Int)) = false := by simp; omega
    have d3 : decide (m ≤ r) = false := by simp; omega
    have hri : (r : Int) < (m : Int) := by omega
    obtain ⟨L0, hL0⟩ : ∃ L, L = gi ls r := ⟨_, rfl⟩
    rw [← hL0] at e2 hlb
    have Hlb := Lib.hid hlb
    have d4 : decide (L0 < 0) = false := by simp; omega
    have d5 : decide (12 ≤ L0) = true := decide_eq_true e2
    rw [hv1 e3]
    clear hv1 hb0 hcs hcg e2 e3 hlb hL0
    refine wp_seq ?_
    refine r0T ?_
    refine wp_cond_true (rfl) ?_
    refine wp_skip ?_
    refine then_norm ?_
    refine wp_seq ?_
    refine wp_block ?_
    refine wp_seq ?_
    refine wp_seq ?_
    have q0 := Hrd.out u hG; have y0 := Hlb.out u hG
    refine r0N ?_
    refine wp_cond_true (rfl) ?_
    refine r0T ?_
    refine rt Tryz.results23 ?_
    exact ⟨rfl, hG⟩
   ·obtain ⟨bb, ob, rfl, hlb⟩ := H'.out.at e1
    rw [← Hm.out] at e1
    have d2 : decide ((m : Int) ≤ (r : Int)) = false := by simp; omega
    have d3 : decide (m ≤ r) = false := by simp; omega
    have hri : (r : Int) < (m : Int) := by omega
    have hcs2 := hcs k (by simpa using e2) e3
    rw [e2] at hlb
    have Hlb := Lib.hid hlb
    have d5 : decide ((12 : Int) ≤ (k : Int)) = false := by simp; omega
    have d6 : decide (12 ≤ k) = false := by simp; omega
    have hki : (k : Int) < 12 := by omega
    have hcb := hcg k e3
    have Hb0 := Lib.hid (hb0 e4)
    have g1 : (cellsI (cntL hs ls j))[k]? = some (.int .i64 (cntV hs ls j k : Nat)) := by
     rw [cellsI_get]
     unfold cntL
     simp [e3]
    obtain ⟨C, hC⟩ : ∃ C, C = cntV hs ls j k := ⟨_, rfl⟩
    rw [← hC] at hcs2 hcb g1
    have g3 : (cellsI (cntL hs ls j)).setIfInBounds k (.int .i64 ((C : Int) + 1)) = cellsI (cntL hs ls (j + 1)) := by rw [cellsI_set, hcs2]
    have G3 := Lib.hid g3
    have hCi : (C : Int) ≤ 1048576 := by omega
    clear hv1 hb0 hcs hcg e2 e4 hlb hcs2 hC g3
    refine wp_seq ?_
    refine r0T ?_
    refine wp_cond_true (rfl) ?_
    refine wp_skip ?_
    refine then_norm ?_
    refine wp_seq ?_
    refine wp_block ?_
    refine wp_seq ?_
    refine wp_seq ?_
    have q0 := Hrd.out u hG; have y0 := Hlb.out u hG
    refine r0N ?_
    refine wp_cond_false (rfl) ?_
    refine wp_skip ?_
    refine then_norm ?_
    have q0 := Hrd.out u hG; have y0 := Hlb.out u hG
    refine r0E ?_
    generalize hu0 : World.setCell u _ _ = u0
    have hBG := hB.over hF hG 0 rfl k [_] hu0
    clear hB hG
    simp only [List.modify_zero_cons, wrAll, G3.out] at hBG
    obtain ⟨hB, hG⟩ := hBG
    obtain ⟨u, rfl⟩ : ∃ x, x = u0 := ⟨_, rfl⟩
    refine blk_norm ?_
    refine then_norm ?_
    refine r0E ?_
    refine then_norm ?_
    go_roundw
    case rel => exact ⟨j + 1, by omega, by go_num, Hb0.out, hB, hG⟩
    case measure => simp [intOf]; omega
  ·obtain rfl : n = j := by omega
   have hdec : decide ((n : Int) < (n : Int)) = false := by simp
   have hne : hs ≠ [] := fun e => by
    have := Hn.out
    rw [e] at this
    simp at this
    omega
   have hv : voteV hs ls = (topV (cntV hs ls n) 12, 0) := by
    have h1 := voteV_ok (ls := ls) hne (by rw [← Hn.out]; exact hbad)
    rw [h1, ← Hn.out]
   rw [hv]
   have hgc : ∀ k, k < 12 → (cellsI (cntL hs ls n))[k]? = some (.int .i64 (cntV hs ls n k : Nat)) := fun k hk => by
    rw [cellsI_get]
    unfold cntL
    simp [hk]
   clear hv hne hbad
   obtain ⟨CC, hCC⟩ : ∃ C, C = cntV hs ls n := ⟨_, rfl⟩
   simp only [← hCC] at hgc ⊢
   obtain ⟨X12, hX12⟩ : ∃ X, X = cellsI (cntL hs ls n) := ⟨_, rfl⟩
   rw [← hX12] at hB
   simp only [← hX12] at hgc
   have Hgc := Lib.hid hgc
   clear hX12 hCC hgc
   refine wp_seq ?_
   refine r0T ?_
   refine wp_cond_false (rfl) ?_
   refine wp_exit ?_
   refine then_exit ?_
   refine then_exit ?_
   refine blk_exit ?_
   refine then_norm ?_
   refine r0T ?_
   refine wp_seq ?_
   refine r0T ?_
   refine wp_block ?_
   go_loopw [8, 9] (fun s0 s1 wr => ∃ k : Nat, 1 ≤ k ∧ k ≤ 12 ∧ s1 = .int .i64 k ∧ s0 = .int .i64 (topV CC k : Nat) ∧ Bx wr [(b13, 3, X12)] ∧ Grow w wr) (fun _ s1 _ => 12 - (intOf s1).toNat)
   case atStart => exact ⟨1, by omega, by omega, rfl, by rw [topV_one]; rfl, hB, hG⟩
   case round =>
    clear hB hG
    obtain ⟨k, hk1, hk, rfl, rfl, hB, hG⟩ := hrel
    obtain ⟨u, rfl⟩ : ∃ x, x = wr := ⟨_, rfl⟩
    rcases Nat.lt_or_ge k 12 with hlt | hge
    ·have hT : topV CC k < 12 := by
      have := topV_lt CC k (by omega)
      omega
     have gT := Hgc.out _ hT
     have gk := Hgc.out _ hlt
     have hsu : topV CC (k + 1) = if CC (topV CC k) < CC k then k else topV CC k := rfl
     obtain ⟨T, hTe⟩ : ∃ T, T = topV CC k := ⟨_, rfl⟩
     rw [← hTe] at hT gT hsu ⊢
     have hTi : (T : Int) < 12 := by omega
     have hki : (k : Int) < 12 := by omega
     have hTd : decide ((k : Int) < 12) = true := by simp; omega
     have hkn : decide (k < 12) = true := by simp; omega
     obtain ⟨Y, hY⟩ : ∃ Y, Y = CC T := ⟨_, rfl⟩
     obtain ⟨Z, hZ⟩ : ∃ Y, Y = CC k := ⟨_, rfl⟩
     rw [← hY] at gT hsu
     rw [← hZ] at gk hsu
     clear hY hTe hZ
     by_cases hc : Y < Z
     ·rw [if_pos hc] at hsu
      have dn : decide (Y < Z) = true := decide_eq_true hc
      have di : decide ((Y : Int) < (Z : Int)) = true := by simp; omega
      clear hc
      refine wp_seq ?_
      refine r0T ?_
      refine wp_cond_true (rfl) ?_
      refine wp_skip ?_
      refine then_norm ?_
      refine wp_seq ?_
      refine wp_block ?_
      refine wp_seq (rdC allocsV [] [(0, 0), (0, 1), (0, 2), (0, 3), (0, 4), (0, 5), (0, 6), (0, 7)] hB hG fun K L hN hL => ?_)
      refine gs ?_
      refine geC hL ?_
      clear hB hG hL L
      rintro u ⟨-, hB, hG, -⟩
      refine gtT ?_
      clear hN K
      refine wp_cond_true (rfl) ?_
      refine r0E ?_
      refine blk_norm ?_
      refine then_norm ?_
      refine r0E ?_
      refine then_norm ?_
      go_roundw
      case rel => exact ⟨k + 1, by omega, hlt, by go_num, by rw [hsu], hB, hG⟩
      case measure => simp [intOf]; omega
     ·rw [if_neg hc] at hsu
      have dn : decide (Y < Z) = false := decide_eq_false hc
      have di : decide ((Y : Int) < (Z : Int)) = false := by simp; omega
      clear hc
      refine wp_seq ?_
      refine r0T ?_
      refine wp_cond_true (rfl) ?_
      refine wp_skip ?_
      refine then_norm ?_
      refine wp_seq ?_
      refine wp_block ?_
      refine wp_seq (rdC allocsV [] [(0, 0), (0, 1), (0, 2), (0, 3), (0, 4), (0, 5), (0, 6), (0, 7)] hB hG fun K L hN hL => ?_)
      refine gs ?_
      refine geC hL ?_
      clear hB hG hL L
      rintro u ⟨-, hB, hG, -⟩
      refine gtT ?_
      clear hN K
      refine wp_cond_false (rfl) ?_
      refine wp_skip ?_
      refine blk_norm ?_
      refine then_norm ?_
      refine r0E ?_
      refine then_norm ?_
      go_roundw
      case rel => exact ⟨k + 1, by omega, hlt, by go_num, by rw [hsu], hB, hG⟩
      case measure => simp [intOf]; omega
    ·obtain rfl : k = 12 := by omega
     have hTd : decide ((12 : Int) < 12) = false := by simp
     refine wp_seq ?_
     refine r0T ?_
     refine wp_cond_false (rfl) ?_
     refine wp_exit ?_
     refine then_exit ?_
     refine then_exit ?_
     refine blk_exit ?_
     refine then_norm ?_
     refine r0T ?_
     refine rt Tryz.results23 ?_
     exact ⟨rfl, hG⟩
theorem ref22_Vote (A B : Option Addr) (hs ls : List Int) (n m c d : Nat) (hn : n = hs.length) (hm : m = ls.length) (hnm : n ≤ 1048576) (w : World) (h : Le hwL 4 w A hs) (h' : Li w B ls) :
  Calls Tryz.prog 23 #[.slice A n c, .slice B m d] w fun e w' => e = .returned (.tuple #[.int .i64 ((voteV hs ls).1 : Nat), .int .i64 ((voteV hs ls).2 : Nat)]) ∧ Grow w w' := by
 rcases Nat.eq_zero_or_pos n with h0 | h0
 ·obtain rfl : hs = [] := List.eq_nil_of_length_eq_zero (by omega)
  subst h0
  exact ref22_Vote_none A B m c d w
 ·exact ref22_Vote_some A B hs ls n m c d hn h0 hm hnm w h h'
end Go.Proofs.YtjmopgepnndckaaGreatDoor
