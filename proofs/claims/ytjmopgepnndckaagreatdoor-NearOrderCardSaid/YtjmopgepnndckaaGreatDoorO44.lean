/-
  Contracts and laws: NearE NearC NearSb NearVp.
-/
import Derived.Test.YtjmopgepnndckaaGreatDoorO42
import Derived.Test.YtjmopgepnndckaaGreatDoorO43
set_option linter.unusedSimpArgs false
set_option linter.unusedVariables false
namespace Go.Proofs.YtjmopgepnndckaaGreatDoor
open Go Go.RowKit
theorem deep_size : ∀ s : Sh, s.deep ≤ s.size
 | .no => Nat.le_refl _
 | .nd a b => by
  have h1 := deep_size a
  have h2 := deep_size b
  rw [Sh.deep_nd]
  show _ ≤ a.size + b.size + 1
  unfold Sh.under
  split <;> split <;> omega
theorem endF_le {ns : List NdT} {f i e d : Nat} (h : endF ns f i = some (e, d)) : e ≤ ns.length ∧ d ≤ ns.length := by
 obtain ⟨s, h1, h2, h3, h4, h5⟩ := endF_lay ns f i e d h
 have := deep_size s
 exact ⟨h5, by omega⟩
theorem endF_out {ns : List NdT} {i : Nat} (h : ns.length ≤ i) : ∀ f, endF ns f i = none
 | 0 => rfl
 | f + 1 => by
  unfold endF
  rw [List.getElem?_eq_none h]
/-- what end answers -/
def endE (o : Option (Nat × Nat)) : Nat := (o.map (·.1)).getD 0
def endD (o : Option (Nat × Nat)) : Nat := (o.map (·.2)).getD 0
/-- what is still to be done of a node's two children -/
def kidsK (e : Nat → Option (Nat × Nat)) (l t : Int) : Nat → Nat × Nat → Option (Nat × Nat)
 | 0, p => (kidF e l p).bind fun s => kidF e t s
 | 1, p => kidF e t p
 | _, p => some p
theorem kidsK_step (e : Nat → Option (Nat × Nat)) (l t : Int) {j : Nat} (hj : j < 2) (p : Nat × Nat) : kidsK e l t j p = (kidF e (if j = 0 then l else t) p).bind fun s => kidsK e l t (j + 1) s := by
 rcases (show j = 0 ∨ j = 1 by omega) with rfl | rfl
 ·rfl
 ·show kidF e t p = _
  simp only [Nat.succ_ne_zero, if_false]
  cases kidF e t p <;> rfl
theorem kidF_zero (e : Nat → Option (Nat × Nat)) (p : Nat × Nat) : kidF e 0 p = some p := by unfold kidF; simp
theorem kidF_off {e : Nat → Option (Nat × Nat)} {c : Int} {p : Nat × Nat} (h0 : c ≠ 0) (h : c ≠ (p.1 : Int)) : kidF e c p = none := by unfold kidF; rw [if_neg h0, if_pos h]
theorem kidF_none {e : Nat → Option (Nat × Nat)} {c : Int} {p : Nat × Nat} (h0 : c ≠ 0) (h : c = (p.1 : Int)) (he : e p.1 = none) : kidF e c p = none := by unfold kidF; rw [if_neg h0, if_neg (by simp [h]), he]
theorem kidF_some {e : Nat → Option (Nat × Nat)} {c : Int} {p q : Nat × Nat} (h0 : c ≠ 0) (h : c = (p.1 : Int)) (he : e p.1 = some q) : kidF e c p = some (q.1, max p.2 (q.2 + 1)) := by unfold kidF; rw [if_neg h0, if_neg (by simp [h]), he]
theorem idx_2 (a b : Int) (k : Nat) (hk : k < 2) (W : World) : (Instr.index 168 (.agg #[.int .i64 a, .int .i64 b]) (.int .i64 (k : Nat))).run Tryz.prog W = .ok (.int .i64 (if k = 0 then a else b)) W := by
 rcases (show k = 0 ∨ k = 1 by omega) with rfl | rfl <;> kernel_rfl
abbrev treeV (R : Ax) (n : Nat) (N : Ax) (m : Nat) : Value := .agg #[.slice R.1 n R.2, .slice N.1 m N.2]
set_option maxHeartbeats 4000000 in
set_option maxRecDepth 100000 in
theorem near_end (R N : Ax) (n m : Nat) (ns : List NdT) (hm : ns.length = m) (hm2 : m ≤ 100000) (w0 : World) (h : Le ndL 4 w0 N.1 ns) :
  ∀ (f i : Nat) (w : World), Grow w0 w → i ≤ 100000 → m < f + i → Calls Tryz.prog 64 #[treeV R n N m, .int .i64 (i : Nat)] w fun e w' => e = .returned (.tuple #[.int .i64 (endE (endF ns f i) : Nat), .int .i64 (endD (endF ns f i) : Nat), .bool (endF ns f i).isSome]) ∧ Grow w w' := by
 intro f
 induction f with
 | zero =>
  intro i w hg hi hf
  have hmi : decide ((m : Int) ≤ (i : Int)) = true := by simp; omega
  have hmin : decide (m ≤ i) = true := by simp; omega
  clear h hg
  show Calls Tryz.prog 64 #[treeV R n N m, .int .i64 (i : Nat)] w fun e w' => e = .returned (.tuple #[.int .i64 (0 : Nat), .int .i64 (0 : Nat), .bool false]) ∧ Grow w w'
  obtain ⟨RA, RC⟩ := R
  obtain ⟨NA, NC⟩ := N
  go_enter Tryz.func64, Tryz.ntmps64
  refine en1 ?_
  intro u hG b2 hB hF
  refine wp_seq ?_
  refine r0T ?_
  refine wp_cond_true (rfl) ?_
  refine r0T ?_
  refine rt Tryz.results64 ?_
  exact ⟨rfl, hG⟩
 | succ f ih =>
  intro i w hg hi hf
  rcases Nat.lt_or_ge i m with him | him
  ·have hil : i < ns.length := by omega
   obtain ⟨bN, oN, hNe, hnd⟩ := (h.grow hg).at hil
   obtain ⟨nd, hndE⟩ : ∃ x, x = ns[i] := ⟨_, rfl⟩
   rw [← hndE] at hnd
   have hV : endF ns (f + 1) i = kidsK (endF ns f) nd.l nd.t 0 (i + 1, 0) := by
    show (match ns[i]? with | none => none | some n => (kidF (endF ns f) n.l (i + 1, 0)).bind fun s => kidF (endF ns f) n.t s) = _
    rw [List.getElem?_eq_getElem hil, ← hndE]
    rfl
   rw [hV]
   have hrd : ∀ W, Grow w W → W.cell? ⟨bN, oN + i * 4 + 2, none⟩ = some (.int .i64 nd.l) ∧ W.cell? ⟨bN, oN + i * 4 + 3, none⟩ = some (.int .i64 nd.t) := fun W hg => ⟨hnd W hg 2 _ rfl, hnd W hg 3 _ rfl⟩
   have hcl : ∀ (k : Nat) (W : World), Grow w W → i < k → k ≤ m → Calls Tryz.prog 64 #[treeV R n N m, .int .i64 (k : Nat)] W fun e w' => e = .returned (.tuple #[.int .i64 (endE (endF ns f k) : Nat), .int .i64 (endD (endF ns f k) : Nat), .bool (endF ns f k).isSome]) ∧ Grow W w' := fun k W hgW h1 h2 => ih k W (hg.trans hgW) (by omega) (by omega)
   have hle : ∀ k q, endF ns f k = some q → i < k → k < q.1 ∧ q.1 ≤ m ∧ q.2 ≤ m := fun k q hq hk => by
    have h1 := endF_le (e := q.1) (d := q.2) hq
    obtain ⟨s, g1, g2, g3, g4, g5⟩ := endF_lay ns f k q.1 q.2 hq
    omega
   obtain ⟨E, hE⟩ : ∃ E, E = endF ns f := ⟨_, rfl⟩
   simp only [← hE] at hcl hle ⊢
   obtain ⟨cl, hcle⟩ : ∃ x, x = nd.l := ⟨_, rfl⟩
   obtain ⟨ct, hcte⟩ : ∃ x, x = nd.t := ⟨_, rfl⟩
   rw [← hcle, ← hcte] at hrd ⊢
   obtain ⟨V, hVe⟩ : ∃ V, V = kidsK E cl ct 0 (i + 1, 0) := ⟨_, rfl⟩
   rw [← hVe]
   have hmi : decide ((m : Int) ≤ (i : Int)) = false := by simp; omega
   have hmin : decide (m ≤ i) = false := by simp; omega
   have himi : (i : Int) < (m : Int) := by omega
   have fi1 : IntKind.i64.wrap ((i : Int) + 1) = ((i + 1 : Nat) : Int) := by rw [IntWalk.i64_in _ (by omega)]; omega
   obtain ⟨i1, hi1⟩ : ∃ x, x = i + 1 := ⟨_, rfl⟩
   rw [← hi1] at fi1 hVe
   have hii1 : i < i1 := by omega
   have hi1m : i1 ≤ m := by omega
   have Hrd := Lib.hid hrd
   have Hcl := Lib.hid hcl
   have Hle := Lib.hid hle
   have HVe := Lib.hid hVe
   have Hm1 := Lib.hid hi1m
   clear hrd hcl hle hVe hV hE hcle hcte hndE hnd ih h hil hi hf hg hm hi1 hi1m
   obtain ⟨RA, RC⟩ := R
   obtain ⟨NA, NC⟩ := N
   simp only at hNe
   subst hNe
   go_enter Tryz.func64, Tryz.ntmps64
   refine en1 ?_
   intro u hG b2 hB hF
   refine wp_seq ?_
   refine r0T ?_
   refine wp_cond_false (rfl) ?_
   refine wp_skip ?_
   refine then_norm ?_
   refine r0T ?_
   refine wp_seq ?_
   refine wp_seq ?_
   obtain ⟨c2, c3⟩ := Hrd.out u hG
   refine Code.wp_mono NoP.up ?_
   have r := hB.r
   simp only [BxR] at r
   go_region
   clear r
   replace hB := hB.grow (Grow.drew u)
   replace hG := hG.trans (Grow.drew u)
   obtain ⟨u, rfl⟩ : ∃ x, x = u.drew := ⟨_, rfl⟩
   refine NoP.norm ?_
   clear c2 c3
   refine then_norm ?_
   refine wp_block ?_
   go_loopw [32, 4, 5] (fun s0 s1 s2 wr => ∃ (j : Nat) (p : Nat × Nat), j ≤ 2 ∧ s0 = .int .i64 j ∧ s1 = .int .i64 (p.1 : Nat) ∧ s2 = .int .i64 (p.2 : Nat) ∧ i < p.1 ∧ p.1 ≤ m ∧ p.2 ≤ m + 1 ∧ V = kidsK E cl ct j p ∧ Bx wr [(b2, 79, #[.slice RA n RC, .slice (some ⟨bN, oN, none⟩) m NC])] ∧ Grow w wr) (fun s0 _ _ _ => 2 - (intOf s0).toNat)
   case atStart => exact ⟨0, (i1, 0), by omega, rfl, rfl, rfl, hii1, Hm1.out, by omega, HVe.out, hB, hG⟩
   case round =>
    clear hB hG HVe
    obtain ⟨j, ⟨p1, p2⟩, hj, rfl, rfl, rfl, hp0, hp1, hp2, hV, hB, hG⟩ := hrel
    simp only at hp0 hp1 hp2
    obtain ⟨u, rfl⟩ : ∃ x, x = wr := ⟨_, rfl⟩
    rcases Nat.lt_or_ge j 2 with hlt | hge
    ·have hdec : decide ((j : Int) < 2) = true := by simp; omega
     have hdecn : decide (j < 2) = true := by simp; omega
     have hix := fun W => idx_2 cl ct j hlt W
     rw [kidsK_step E cl ct hlt] at hV
     obtain ⟨ch, hch⟩ : ∃ x, x = if j = 0 then cl else ct := ⟨_, rfl⟩
     rw [← hch] at hV
     simp only [← hch] at hix
     clear hch
     by_cases h0 : ch = 0
     ·have f0 : (ch == 0) = true := by simp [h0]
      have f0d : decide (ch = 0) = true := by simp [h0]
      rw [h0, kidF_zero] at hV
      have HV := Lib.hid hV
      clear hV h0
      refine r0T ?_
      refine wp_seq ?_
      refine wp_cond_true (rfl) ?_
      refine wp_skip ?_
      refine then_norm ?_
      refine wp_seq ?_
      refine wp_block ?_
      refine r0T ?_
      refine wp_seq ?_
      refine r0T ?_
      refine wp_cond_true (rfl) ?_
      refine wp_exit ?_
      refine then_exit ?_
      refine blk_exit ?_
      refine then_norm ?_
      refine r0E ?_
      refine then_norm ?_
      go_roundw
      case rel => exact ⟨j + 1, (p1, p2), by omega, by go_num, rfl, rfl, hp0, hp1, hp2, HV.out, hB, hG⟩
      case measure => simp [intOf]; omega
     ·have f0 : (ch == 0) = false := by simp [h0]
      have f0d : decide (ch = 0) = false := by simp [h0]
      by_cases h1 : ch = (p1 : Int)
      ·have f1 : (ch != (p1 : Int)) = false := by simp [h1]
       have f1d : decide (ch = (p1 : Int)) = true := by simp [h1]
       have hc := fun W hg => Hcl.out p1 W hg hp0 hp1
       rw [← h1] at hc
       cases hq : E p1 with
       | none =>
        rw [kidF_none h0 h1 hq] at hV
        simp only [hq, endE, endD, Option.map_none, Option.getD_none, Option.isSome_none] at hc
        have HV := Lib.hid hV
        have Hc := Lib.hid hc
        clear hV h0 h1 hq hc
        refine r0T ?_
        refine wp_seq ?_
        refine wp_cond_true (rfl) ?_
        refine wp_skip ?_
        refine then_norm ?_
        refine wp_seq ?_
        refine wp_block ?_
        refine r0T ?_
        refine wp_seq ?_
        refine r0T ?_
        refine wp_cond_false (rfl) ?_
        refine wp_skip ?_
        refine then_norm ?_
        refine wp_seq ?_
        refine r0T ?_
        refine wp_cond_false (rfl) ?_
        refine wp_skip ?_
        refine then_norm ?_
        refine wp_seq (rsE allocs [0, 0, 1, 0, 0, 0, 0, 0, 0, 0] hB hG fun L hL => ?_)
        refine gs ?_
        refine gmd (C := fun v ⟨hgu, hB, hG, _⟩ => Hc.out _ hG) ?_
        refine gs ?_
        refine geT hL ?_
        clear hB hG hL L
        rintro u ⟨-, hB, hG, -⟩
        refine wp_seq ?_
        refine r0T ?_
        refine wp_cond_true (rfl) ?_
        refine r0T ?_
        refine rt Tryz.results64 ?_
        exact ⟨by rw [HV.out]; rfl, hG⟩
       | some q =>
        rw [kidF_some h0 h1 hq] at hV
        simp only [hq, endE, endD, Option.map_some, Option.getD_some, Option.isSome_some] at hc
        obtain ⟨l1, l2, l3⟩ := Hle.out p1 q hq hp0
        obtain ⟨q1, q2⟩ := q
        simp only at l1 l2 l3 hV
        have fq : IntKind.i64.wrap ((q2 : Int) + 1) = ((q2 + 1 : Nat) : Int) := by rw [IntWalk.i64_in _ (by omega)]; omega
        obtain ⟨q3, hq3⟩ : ∃ x, x = q2 + 1 := ⟨_, rfl⟩
        have hq3m : q3 ≤ m + 1 := by omega
        obtain ⟨mx, hmx⟩ : ∃ x, x = max p2 q3 := ⟨_, rfl⟩
        have fmx : max (p2 : Int) (q3 : Int) = (mx : Int) := by omega
        have hmxm : mx ≤ m + 1 := by omega
        rw [← hq3] at fq hV
        rw [← hmx] at hV
        have HV := Lib.hid hV
        have Hc := Lib.hid hc
        have L1 := Lib.hid (show i < q1 by omega)
        clear hV h0 h1 hq hc hq3 hmx l1 hp0
        refine r0T ?_
        refine wp_seq ?_
        refine wp_cond_true (rfl) ?_
        refine wp_skip ?_
        refine then_norm ?_
        refine wp_seq ?_
        refine wp_block ?_
        refine r0T ?_
        refine wp_seq ?_
        refine r0T ?_
        refine wp_cond_false (rfl) ?_
        refine wp_skip ?_
        refine then_norm ?_
        refine wp_seq ?_
        refine r0T ?_
        refine wp_cond_false (rfl) ?_
        refine wp_skip ?_
        refine then_norm ?_
        refine wp_seq (rsE allocs [0, 0, 1, 0, 0, 0, 0, 0, 0, 0] hB hG fun L hL => ?_)
        refine gs ?_
        refine gmd (C := fun v ⟨hgu, hB, hG, _⟩ => Hc.out _ hG) ?_
        refine gs ?_
        refine geT hL ?_
        clear hB hG hL L
        rintro u ⟨-, hB, hG, -⟩
        refine wp_seq ?_
        refine r0T ?_
        refine wp_cond_false (rfl) ?_
        refine wp_skip ?_
        refine then_norm ?_
        refine r0E ?_
        refine blk_norm ?_
        refine then_norm ?_
        refine r0E ?_
        refine then_norm ?_
        go_roundw
        case rel => exact ⟨j + 1, (q1, mx), by omega, by go_num, rfl, rfl, L1.out, l2, hmxm, HV.out, hB, hG⟩
        case measure => simp [intOf]; omega
      ·have f1 : (ch != (p1 : Int)) = true := by simp [h1]
       have f1d : decide (ch = (p1 : Int)) = false := by simp [h1]
       rw [kidF_off h0 h1] at hV
       have HV := Lib.hid hV
       clear hV h0 h1
       refine r0T ?_
       refine wp_seq ?_
       refine wp_cond_true (rfl) ?_
       refine wp_skip ?_
       refine then_norm ?_
       refine wp_seq ?_
       refine wp_block ?_
       refine r0T ?_
       refine wp_seq ?_
       refine r0T ?_
       refine wp_cond_false (rfl) ?_
       refine wp_skip ?_
       refine then_norm ?_
       refine wp_seq ?_
       refine r0T ?_
       refine wp_cond_true (rfl) ?_
       refine r0T ?_
       refine rt Tryz.results64 ?_
       exact ⟨by rw [HV.out]; rfl, hG⟩
    ·obtain rfl : j = 2 := by omega
     have HV := Lib.hid hV
     clear hV
     refine r0T ?_
     refine wp_seq ?_
     refine wp_cond_false (rfl) ?_
     refine wp_exit ?_
     refine then_exit ?_
     refine then_exit ?_
     refine blk_exit ?_
     refine then_norm ?_
     refine r0T ?_
     refine rt Tryz.results64 ?_
     exact ⟨by rw [HV.out]; rfl, hG⟩
  ·have hmi : decide ((m : Int) ≤ (i : Int)) = true := by simp; omega
   have hmin : decide (m ≤ i) = true := by simp; omega
   rw [endF_out (by omega)]
   clear h hg ih
   show Calls Tryz.prog 64 #[treeV R n N m, .int .i64 (i : Nat)] w fun e w' => e = .returned (.tuple #[.int .i64 (0 : Nat), .int .i64 (0 : Nat), .bool false]) ∧ Grow w w'
   obtain ⟨RA, RC⟩ := R
   obtain ⟨NA, NC⟩ := N
   go_enter Tryz.func64, Tryz.ntmps64
   refine en1 ?_
   intro u hG b2 hB hF
   refine wp_seq ?_
   refine r0T ?_
   refine wp_cond_true (rfl) ?_
   refine r0T ?_
   refine rt Tryz.results64 ?_
   exact ⟨rfl, hG⟩
end Go.Proofs.YtjmopgepnndckaaGreatDoor
namespace Go.Proofs.YtjmopgepnndckaaGreatDoor
open Go Go.RowKit
/-- is a row among the first k nodes' -/
def seenN (ns : List NdT) (k : Nat) (r : Int) : Bool := (ns.take k).any fun y => decide (y.r = r)
/-- node k by itself may not be -/
def badN (L n : Nat) (ns : List NdT) (k : Nat) : Bool :=
 match ns[k]? with
 | none => false
 | some x => decide (x.c < 0) || decide ((L : Int) ≤ x.c) || decide (x.r < 0) || decide ((n : Int) ≤ x.r) || seenN ns k x.r
/-- the part of node i -/
def partN (ns : List NdT) (i : Nat) : Option (Nat × Nat) := endF ns (ns.length + 1) i
/-- where the right side of node i begins -/
def rightN (ns : List NdT) (i : Nat) : Int := match ns[i]? with | none => 0 | some x => if x.t = 0 then (endE (partN ns i) : Int) else x.t
/-- the wrong side of what begins at G: by what a comparison says -/
def wrongB (G P : Int) (j : Nat) : Bool := (decide ((j : Int) < G) && decide (0 < P)) || (decide (G ≤ (j : Int)) && decide (P < 0))
/-- node j stands on the wrong side of node i -/
def wrongN (X : List (List Rat)) (ns : List NdT) (i j : Nat) : Bool :=
 match ns[i]?, ns[j]? with
 | some x, some y => (decide ((j : Int) < rightN ns i) && decide (0 < cmpQ (ent X y.r.toNat x.c.toNat) (ent X x.r.toNat x.c.toNat))) || (decide (rightN ns i ≤ (j : Int)) && decide (cmpQ (ent X y.r.toNat x.c.toNat) (ent X x.r.toNat x.c.toNat) < 0))
 | _, _ => false
/-- some node of i's part, up to number j, stands on the wrong side of it -/
def wrongTo (X : List (List Rat)) (ns : List NdT) (i e : Nat) : Bool := (List.range e).any fun j => decide (i < j) && wrongN X ns i j
def wrongI (X : List (List Rat)) (ns : List NdT) (i : Nat) : Bool := wrongTo X ns i (endE (partN ns i))
/-- what Check says -/
def checkN (X : List (List Rat)) (L : Nat) (ns : List NdT) : Nat :=
 if ns.length ≠ X.length then 5
 else if (partN ns 0).isSome = false ∨ endE (partN ns 0) ≠ ns.length then 2
 else if (List.range ns.length).any (badN L X.length ns) then 2
 else if (List.range ns.length).any (wrongI X ns) then 1 else 0
theorem any_upto {f : Nat → Bool} {k n : Nat} (hk : k < n) (h : f k = true) : (List.range n).any f = true := List.any_eq_true.2 ⟨k, List.mem_range.2 hk, h⟩
theorem any_none {f : Nat → Bool} {n : Nat} (h : ∀ k, k < n → f k = false) : (List.range n).any f = false := by
 rw [List.any_eq_false]
 intro k hk
 rw [h k (List.mem_range.1 hk)]
 simp
theorem checkN_len {X : List (List Rat)} {L : Nat} {ns : List NdT} (h : ns.length ≠ X.length) : checkN X L ns = 5 := by unfold checkN; rw [if_pos h]
theorem checkN_form {X : List (List Rat)} {L : Nat} {ns : List NdT} (h : ns.length = X.length) (h1 : (partN ns 0).isSome = false ∨ endE (partN ns 0) ≠ ns.length) : checkN X L ns = 2 := by unfold checkN; rw [if_neg (by simp [h]), if_pos h1]
theorem checkN_bad {X : List (List Rat)} {L : Nat} {ns : List NdT} (h : ns.length = X.length) (h1 : ¬ ((partN ns 0).isSome = false ∨ endE (partN ns 0) ≠ ns.length)) {k : Nat} (hk : k < ns.length) (hb : badN L X.length ns k = true) : checkN X L ns = 2 := by
 unfold checkN
 rw [if_neg (by simp [h]), if_neg h1, if_pos (any_upto hk hb)]
theorem checkN_wrong {X : List (List Rat)} {L : Nat} {ns : List NdT} (h : ns.length = X.length) (h1 : ¬ ((partN ns 0).isSome = false ∨ endE (partN ns 0) ≠ ns.length)) (h2 : ∀ k, k < ns.length → badN L X.length ns k = false) {i : Nat} (hi : i < ns.length) (hw : wrongI X ns i = true) : checkN X L ns = 1 := by
 unfold checkN
 rw [if_neg (by simp [h]), if_neg h1, if_neg (by rw [any_none h2]; simp), if_pos (any_upto hi hw)]
theorem checkN_ok {X : List (List Rat)} {L : Nat} {ns : List NdT} (h : ns.length = X.length) (h1 : ¬ ((partN ns 0).isSome = false ∨ endE (partN ns 0) ≠ ns.length)) (h2 : ∀ k, k < ns.length → badN L X.length ns k = false) (h3 : ∀ i, i < ns.length → wrongI X ns i = false) : checkN X L ns = 0 := by
 unfold checkN
 rw [if_neg (by simp [h]), if_neg h1, if_neg (by rw [any_none h2]; simp), if_neg (by rw [any_none h3]; simp)]
theorem wrong_in {X : List (List Rat)} {ns : List NdT} {i j : Nat} (hij : i < j) (hj : j < endE (partN ns i)) (h : wrongN X ns i j = true) : wrongI X ns i = true := any_upto hj (by rw [h]; simp [hij])
theorem wrong_no {X : List (List Rat)} {ns : List NdT} {i : Nat} (h : ∀ j, i < j → j < endE (partN ns i) → wrongN X ns i j = false) : wrongI X ns i = false := any_none fun j hj => by
 by_cases hij : i < j
 ·rw [h j hij hj]; simp
 ·simp [hij]
/-- the rows that were seen -/
def seenL (n : Nat) (ns : List NdT) (k : Nat) : List Value := (List.range n).map fun r => Value.bool (seenN ns k (r : Nat))
theorem seenL_start (n : Nat) (ns : List NdT) : seenL n ns 0 = List.replicate n (.bool false) := by
 unfold seenL
 apply List.ext_getElem
 ·simp
 ·intro i h1 h2; simp [seenN]
theorem seenL_at {n : Nat} {ns : List NdT} {k r : Nat} (h : r < n) : (seenL n ns k)[r]? = some (.bool (seenN ns k (r : Nat))) := by unfold seenL; simp [h]
theorem seenN_succ {ns : List NdT} {k : Nat} {x : NdT} (h : ns[k]? = some x) (r : Int) : seenN ns (k + 1) r = (seenN ns k r || decide (x.r = r)) := by
 unfold seenN
 rw [List.take_add_one, h, List.any_append]
 simp
theorem seenL_set {n : Nat} {ns : List NdT} {k r : Nat} {x : NdT} (h : ns[k]? = some x) (hr : x.r = (r : Int)) (hn : r < n) : (seenL n ns k).set r (.bool true) = seenL n ns (k + 1) := by
 unfold seenL
 apply List.ext_getElem
 ·simp
 ·intro j h1 h2
  rw [List.getElem_set]
  simp only [List.getElem_map, List.getElem_range, seenN_succ h]
  by_cases e : r = j
  ·subst e; simp [hr]
  ·rw [if_neg e]
   have : decide (x.r = (j : Int)) = false := by simp; omega
   rw [this]
   simp
theorem badN_at {L n : Nat} {ns : List NdT} {k : Nat} {x : NdT} (h : ns[k]? = some x) : badN L n ns k = (decide (x.c < 0) || decide ((L : Int) ≤ x.c) || decide (x.r < 0) || decide ((n : Int) ≤ x.r) || seenN ns k x.r) := by unfold badN; rw [h]
theorem rightN_at {ns : List NdT} {i : Nat} {x : NdT} (h : ns[i]? = some x) : rightN ns i = if x.t = 0 then (endE (partN ns i) : Int) else x.t := by unfold rightN; rw [h]
theorem wrongN_at {X : List (List Rat)} {ns : List NdT} {i j : Nat} {x y : NdT} (h : ns[i]? = some x) (h2 : ns[j]? = some y) : wrongN X ns i j = ((decide ((j : Int) < rightN ns i) && decide (0 < cmpQ (ent X y.r.toNat x.c.toNat) (ent X x.r.toNat x.c.toNat))) || (decide (rightN ns i ≤ (j : Int)) && decide (cmpQ (ent X y.r.toNat x.c.toNat) (ent X x.r.toNat x.c.toNat) < 0))) := by unfold wrongN; rw [h, h2]
/-- what is known of a node's column and row: five ways to be bad, one to be good -/
theorem badN_cases {L n : Nat} {ns : List NdT} {k : Nat} {x : NdT} (h : ns[k]? = some x) : (x.c < 0 ∧ badN L n ns k = true) ∨ (∃ c : Nat, x.c = c ∧ L ≤ c ∧ badN L n ns k = true) ∨ (∃ c : Nat, x.c = c ∧ c < L ∧ x.r < 0 ∧ badN L n ns k = true) ∨ (∃ c r : Nat, x.c = c ∧ c < L ∧ x.r = r ∧ n ≤ r ∧ badN L n ns k = true) ∨ (∃ c r : Nat, x.c = c ∧ c < L ∧ x.r = r ∧ r < n ∧ seenN ns k (r : Nat) = true ∧ badN L n ns k = true) ∨ ∃ c r : Nat, x.c = c ∧ c < L ∧ x.r = r ∧ r < n ∧ seenN ns k (r : Nat) = false ∧ badN L n ns k = false := by
 rw [badN_at h]
 by_cases h1 : x.c < 0
 ·exact .inl ⟨h1, by simp [h1]⟩
 ·obtain ⟨c, hc⟩ : ∃ c : Nat, x.c = c := ⟨x.c.toNat, by omega⟩
  rw [hc] at h1 ⊢
  by_cases h2 : L ≤ c
  ·exact .inr (.inl ⟨c, rfl, h2, by simp [h2]⟩)
  ·by_cases h3 : x.r < 0
   ·exact .inr (.inr (.inl ⟨c, rfl, by omega, h3, by simp [h3]⟩))
   ·obtain ⟨r, hr⟩ : ∃ r : Nat, x.r = r := ⟨x.r.toNat, by omega⟩
    rw [hr] at h3 ⊢
    by_cases h4 : n ≤ r
    ·exact .inr (.inr (.inr (.inl ⟨c, r, rfl, by omega, rfl, h4, by simp [h4]⟩)))
    ·by_cases h5 : seenN ns k (r : Int) = true
     ·exact .inr (.inr (.inr (.inr (.inl ⟨c, r, rfl, by omega, rfl, by omega, h5, by simp [h5]⟩))))
     ·refine .inr (.inr (.inr (.inr (.inr ⟨c, r, rfl, by omega, rfl, by omega, by simpa using h5, ?_⟩))))
      (simp [h2, h4, h5]; try omega)
/-- the document's answers on a tree that may be -/
theorem checkN_good {X : List (List Rat)} {L : Nat} {ns : List NdT} (h : checkN X L ns = 0) : ns.length = X.length ∧ (∃ d, partN ns 0 = some (ns.length, d)) ∧ (∀ k, k < ns.length → badN L X.length ns k = false) ∧ ∀ i, i < ns.length → wrongI X ns i = false := by
 unfold checkN at h
 split at h
 ·cases h
 ·rename_i h0
  split at h
  ·cases h
  ·rename_i h1
   split at h
   ·cases h
   ·rename_i h2
    split at h
    ·cases h
    ·rename_i h3
     refine ⟨Decidable.byContradiction h0, ?_, fun k hk => ?_, fun i hi => ?_⟩
     ·have h4 : (partN ns 0).isSome = true := by
       cases hp : (partN ns 0).isSome with
       | true => rfl
       | false => exact absurd (.inl hp) h1
      obtain ⟨p, hp⟩ := Option.isSome_iff_exists.1 h4
      have h5 : endE (partN ns 0) = ns.length := Decidable.byContradiction fun h => h1 (.inr h)
      rw [hp] at h5 ⊢
      exact ⟨p.2, by rw [← h5]; rfl⟩
     ·rw [Bool.eq_false_iff]
      exact fun hb => h2 (any_upto hk hb)
     ·rw [Bool.eq_false_iff]
      exact fun hb => h3 (any_upto hi hb)
end Go.Proofs.YtjmopgepnndckaaGreatDoor
namespace Go.Proofs.YtjmopgepnndckaaGreatDoor
theorem check_fine {X : List (List Rat)} {L : Nat} {ns : List NdT} (h : checkN X L ns = 0) : Fine X L ns := by
 obtain ⟨hl, -, hb, hw⟩ := checkN_good h
 have hc : ∀ (k : Nat) (hk : k < ns.length), ∃ c r : Nat, ns[k].c = c ∧ c < L ∧ ns[k].r = r ∧ r < X.length ∧ seenN ns k (r : Nat) = false := fun k hk => by
  have h0 := hb k hk
  rcases badN_cases (L := L) (n := X.length) (List.getElem?_eq_getElem hk) with ⟨_, h1⟩ | ⟨c, _, _, h1⟩ | ⟨c, _, _, _, h1⟩ | ⟨c, r, _, _, _, _, h1⟩ | ⟨c, r, _, _, _, _, _, h1⟩ | ⟨c, r, h1, h2, h3, h4, h5, _⟩
  ·rw [h0] at h1; cases h1
  ·rw [h0] at h1; cases h1
  ·rw [h0] at h1; cases h1
  ·rw [h0] at h1; cases h1
  ·rw [h0] at h1; cases h1
  ·exact ⟨c, r, h1, h2, h3, h4, h5⟩
 refine ⟨fun n hn => ?_, ?_, fun i e d he => ?_⟩
 ·obtain ⟨k, hk, rfl⟩ := List.getElem_of_mem hn
  obtain ⟨c, r, h1, h2, h3, h4, _⟩ := hc k hk
  omega
 ·unfold List.Nodup
  rw [List.pairwise_map, List.pairwise_iff_getElem]
  intro i j hi hj hij he
  obtain ⟨c, r, _, _, h3, _, h5⟩ := hc j hj
  have h6 : seenN ns j (r : Nat) = true := by
   unfold seenN
   rw [List.any_eq_true]
   refine ⟨ns[i], ?_, by simp; omega⟩
   rw [List.mem_iff_getElem]
   exact ⟨i, by simp; omega, by simp⟩
  rw [h5] at h6
  cases h6
 ·intro n hn j hij hje
  have hi : i < ns.length := (List.getElem?_eq_some_iff.1 hn).1
  obtain ⟨s, g1, g2, g3, g4, g5⟩ := endF_lay ns _ i e d he
  have hj : j < ns.length := by omega
  have hE : endE (partN ns i) = e := by unfold partN; rw [he]; rfl
  have h1 := hw i hi
  have h2 : wrongN X ns i j = false := by
   cases h3 : wrongN X ns i j with
   | false => rfl
   | true => rw [wrong_in hij (by rw [hE]; exact hje) h3] at h1; cases h1
  have hr : rowN ns j = ns[j].r.toNat := by unfold rowN; rw [List.getElem?_eq_getElem hj]; rfl
  rw [wrongN_at hn (List.getElem?_eq_getElem hj), rightN_at hn, hE] at h2
  rw [hr]
  generalize (if n.t = 0 then (e : Int) else n.t) = G at h2 ⊢
  generalize ent X ns[j].r.toNat n.c.toNat = Y at h2 ⊢
  generalize ent X n.r.toNat n.c.toNat = P at h2 ⊢
  rw [Bool.or_eq_false_iff, Bool.and_eq_false_iff, Bool.and_eq_false_iff] at h2
  simp only [decide_eq_false_iff_not] at h2
  obtain ⟨h3, h4⟩ := h2
  unfold cmpQ at h3 h4
  refine ⟨fun hjG => ?_, fun hjG => ?_⟩
  ·have h5 := h3.resolve_left (by omega)
   by_cases h6 : P < Y
   ·have h7 : ¬ Y < P := fun h => by grind
    rw [if_neg h7, if_pos h6] at h5
    exact absurd (by decide) h5
   ·grind
  ·have h5 := h4.resolve_left (by omega)
   by_cases h6 : Y < P
   ·rw [if_pos h6] at h5
    exact absurd (by decide) h5
   ·grind
/-- the shape of a tree that may be -/
theorem check_lay {X : List (List Rat)} {L : Nat} {ns : List NdT} (h : checkN X L ns = 0) : ∃ s : Sh, 0 < s.size ∧ Lay ns s 0 ∧ s.size = ns.length ∧ ns.length = X.length := by
 obtain ⟨hl, ⟨d, hp⟩, -, -⟩ := checkN_good h
 obtain ⟨s, h1, h2, h3, h4, h5⟩ := endF_lay ns _ 0 ns.length d hp
 exact ⟨s, h1, h2, by omega, hl⟩
theorem hits_all {X : List (List Rat)} {q : List Rat} {L : Nat} {ns : List NdT} (h : checkN X L ns = 0) {s : Sh} (hs : s.size = ns.length) : ((toK ns s 0).hits X q L).Perm (hitsTo (farI X q L) X.length) := by
 obtain ⟨hl, -, -, -⟩ := checkN_good h
 have hr := fine_rows (check_fine h) hl hs
 unfold KT.hits hitsTo
 exact hr.map _
theorem best_nil (k : Nat) : best k [] = [] := List.eq_nil_of_length_eq_zero (by rw [best_len]; simp)
theorem search_best {X : List (List Rat)} {q : List Rat} {L k : Nat} {ns : List NdT} (hk : 0 < k) (h : checkN X L ns = 0) {s : Sh} (hlay : Lay ns s 0) (hs : s.size = ns.length) : (visitT X q L (mostK k) k (toK ns s 0) ([], 0)).1 = best k (hitsTo (farI X q L) X.length) := by
 obtain ⟨h1, h2⟩ := fine_ok (check_fine h) s 0 hlay
 have h3 := visit_best X q L k hk (toK ns s 0) [] 0 h1 h2
 rw [best_nil, List.append_nil] at h3
 rw [h3]
 exact best_congr k (hits_all h hs)
theorem search_looked {X : List (List Rat)} {q : List Rat} {L keep : Nat} {most : List Ht → Option Rat} {ns : List NdT} (h : checkN X L ns = 0) {s : Sh} (hs : s.size = ns.length) : (visitT X q L most keep (toK ns s 0) ([], 0)).2 ≤ X.length ∧ (visitT X q L most keep (toK ns s 0) ([], 0)).1.length ≤ (visitT X q L most keep (toK ns s 0) ([], 0)).2 := by
 obtain ⟨h1, h2, h3⟩ := visit_looked X q L most keep (toK ns s 0) ([], 0)
 obtain ⟨hl, -, -, -⟩ := checkN_good h
 rw [toK_size] at h2
 exact ⟨by simp only at h2; omega, h3 (by simp)⟩
end Go.Proofs.YtjmopgepnndckaaGreatDoor
namespace Go.Proofs.YtjmopgepnndckaaGreatDoor
open Go Go.RowKit
theorem wp_at {P : Program} {c : Code} {Q : Exit → Act → World → Prop} {a : Act} {w : World} (h : ∀ u, Grow w u → c.wp P Q a u) : c.wp P Q a w := h w (Grow.refl w)
/-- is the other side looked at -/
def goOn (mf : List Ht → Option Rat) (gap : Rat) (hs : List Ht) : Bool := match mf hs with | some m => decide (qmul gap gap ≤ m) | none => true
theorem visitT_nd (X : List (List Rat)) (q : List Rat) (w : Nat) (mf : List Ht → Option Rat) (keep r c : Nat) (a b : KT) (st : List Ht × Nat) (G : Rat) (hG : G = qsub (q.getD c 0) (ent X r c)) (g : Bool) (hg : g = decide (0 < G)) (s2 : List Ht × Nat) (h2 : s2 = visitT X q w mf keep (if g then b else a) (takeH mf keep (hitI X q w r) st.1, st.2 + 1)) :
  visitT X q w mf keep (.node r c a b) st = if goOn mf G s2.1 then visitT X q w mf keep (if g then a else b) s2 else s2 := by
 have hG2 : q.getD c 0 - ent X r c = G := hG.symm
 subst h2
 unfold goOn
 show visitT X q w mf keep (.node r c a b) st = _
 rw [visitT]
 simp only
 rw [hG2]
 cases g with
 | true =>
  have h0 : 0 < G := of_decide_eq_true hg.symm
  rw [if_pos h0]
  simp only [if_true]
  cases mf (visitT X q w mf keep b (takeH mf keep (hitI X q w r) st.1, st.2 + 1)).1 with
  | none => rfl
  | some m =>
   show (if G * G ≤ m then _ else _) = if decide (qmul G G ≤ m) = true then _ else _
   by_cases hc : qmul G G ≤ m
   ·rw [if_pos (show G * G ≤ m from hc), if_pos (decide_eq_true hc)]
   ·rw [if_neg (show ¬ G * G ≤ m from hc), if_neg (by simpa using hc)]
 | false =>
  have h0 : ¬ 0 < G := of_decide_eq_false hg.symm
  rw [if_neg h0]
  simp only [Bool.false_eq_true, if_false]
  cases mf (visitT X q w mf keep a (takeH mf keep (hitI X q w r) st.1, st.2 + 1)).1 with
  | none => rfl
  | some m =>
   show (if G * G ≤ m then _ else _) = if decide (qmul G G ≤ m) = true then _ else _
   by_cases hc : qmul G G ≤ m
   ·rw [if_pos (show G * G ≤ m from hc), if_pos (decide_eq_true hc)]
   ·rw [if_neg (show ¬ G * G ≤ m from hc), if_neg (by simpa using hc)]
def InvS (s : Nat) (st : List Ht × Nat) : Prop := (∀ x ∈ st.1, qs x.2 ≤ s) ∧ st.1.Pairwise leH ∧ st.1.length ≤ st.2
theorem InvS.take {s : Nat} {mf : List Ht → Option Rat} {keep : Nat} {h : Ht} {st : List Ht × Nat} (hi : InvS s st) (hh : qs h.2 ≤ s) : InvS s (takeH mf keep h st.1, st.2 + 1) :=
 ⟨fun x hx => (takeH_mem hx).elim (fun e => by rw [e]; exact hh) (hi.1 x), takeH_sorted hi.2.1, by have := takeH_len mf keep h st.1; have := hi.2.2; simp only; omega⟩
theorem visitT_inv {X : List (List Rat)} {q : List Rat} {w : Nat} {mf : List Ht → Option Rat} {keep s : Nat} : ∀ (t : KT) (st : List Ht × Nat), (∀ r ∈ t.rows, qs (farI X q w r) ≤ s) → InvS s st → InvS s (visitT X q w mf keep t st)
 | .none, st, _, hi => hi
 | .node r c a b, st, hr, hi => by
  have ha : ∀ r ∈ a.rows, qs (farI X q w r) ≤ s := fun x hx => hr x (List.mem_cons_of_mem _ (List.mem_append_left _ hx))
  have hb : ∀ r ∈ b.rows, qs (farI X q w r) ≤ s := fun x hx => hr x (List.mem_cons_of_mem _ (List.mem_append_right _ hx))
  have h1 : InvS s (takeH mf keep (hitI X q w r) st.1, st.2 + 1) := hi.take (hr r List.mem_cons_self)
  rw [visitT_nd X q w mf keep r c a b st _ rfl _ rfl _ rfl]
  generalize decide (0 < qsub (q.getD c 0) (ent X r c)) = g
  cases g with
  | true =>
   simp only [if_true]
   have h2 := visitT_inv (mf := mf) (keep := keep) b _ hb h1
   split
   ·exact visitT_inv (mf := mf) (keep := keep) a _ ha h2
   ·exact h2
  | false =>
   simp only [Bool.false_eq_true, if_false]
   have h2 := visitT_inv (mf := mf) (keep := keep) a _ ha h1
   split
   ·exact visitT_inv (mf := mf) (keep := keep) b _ hb h2
   ·exact h2
theorem farI_eq (X : List (List Rat)) (q : List Rat) (w i : Nat) : farI X q w i = farQ (rowR X i) q w := by
 unfold farI farQ sqQ rowR
 congr 1
theorem rnum_pos {q : Rat} : 0 < q.num ↔ 0 < q := by
 have h := @Rat.num_nonneg (-q)
 rw [Rat.neg_num] at h
 refine ⟨fun h1 => Rat.not_le.1 fun h2 => ?_, fun h1 => Int.not_le.1 fun h2 => ?_⟩
 ·have := h.2 (by grind)
  omega
 ·have := h.1 (by omega)
  grind
theorem sign_pos (q : Rat) : decide (0 < q.num.sign) = decide (0 < q) := by
 have h : (0 < q.num.sign) ↔ 0 < q := by
  rw [Int.sign_pos_iff, rnum_pos]
 exact decide_eq_decide.2 h
/-- what visit does with a part of so many nodes at most -/
def VisitOK (b99 keep s : Nat) (c0 c1 c2 : Value) (MF : FuncId) (MC : Array Value) (mf : List Ht → Option Rat) (I : World → Prop) (w0 : World) (X : List (List Rat)) (q : List Rat) (L : Nat) (ns : List NdT) (f : Nat) : Prop :=
 ∀ (sh : Sh) (i : Nat) (hs : List Ht) (lk : Nat) (HA : Option Addr) (HC : Nat) (W : World), 0 < sh.size → sh.size ≤ f → Lay ns sh i → Grow w0 W → I W → InvS s (hs, lk) → lk + sh.size ≤ 90000 → SrW b99 w0.heap.size c0 c1 c2 (.int .i64 (keep : Nat)) (.func (.func MF) #[] MC) HA HC hs lk W →
  Calls Tryz.prog 73 #[.pointer (some ⟨b99, 0, none⟩), .int .i64 (i : Nat)] W fun e W' => e = .returned (.tuple #[]) ∧ ∃ (HA' : Option Addr) (HC' : Nat), SrW b99 w0.heap.size c0 c1 c2 (.int .i64 (keep : Nat)) (.func (.func MF) #[] MC) HA' HC' (visitT X q L mf keep (toK ns sh i) (hs, lk)).1 (visitT X q L mf keep (toK ns sh i) (hs, lk)).2 W' ∧ KepT W W' ∧ Grow w0 W'
end Go.Proofs.YtjmopgepnndckaaGreatDoor
