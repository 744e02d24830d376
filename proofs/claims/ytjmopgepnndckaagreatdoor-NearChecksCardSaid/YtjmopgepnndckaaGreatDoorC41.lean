/- Contracts and laws. -/
import Derived.Test.YtjmopgepnndckaaGreatDoorC39
set_option linter.unusedSimpArgs false
set_option linter.unusedVariables false
set_option maxHeartbeats 4000000
set_option maxRecDepth 100000
namespace Go.Proofs.YtjmopgepnndckaaGreatDoor
open Go Go.RowKit
theorem A30 : ∀ s : Sh, s.deep ≤ s.size
 | .no => Nat.le_refl _
 | .nd a b => by
  have h1 := A30 a
  have h2 := A30 b
  rw [Sh.deep_nd]
  show _ ≤ a.size + b.size + 1
  unfold Sh.under
  split <;> split <;> omega
theorem A2X {ns : List NdT} {f i e d : Nat} (h : D8 ns f i = some (e, d)) : e ≤ ns.length ∧ d ≤ ns.length := by
 obtain ⟨s, h1, h2, h3, h4, h5⟩ := A1g ns f i e d h
 have := A30 s
 exact ⟨h5, by omega⟩
theorem A6j {ns : List NdT} {i : Nat} (h : ns.length ≤ i) : ∀ f, D8 ns f i = none
 | 0 => rfl
 | f + 1 => by
  unfold D8
  rw [List.getElem?_eq_none h]
def E8 (o : Option (Nat × Nat)) : Nat := (o.map (·.1)).getD 0
def J3 (o : Option (Nat × Nat)) : Nat := (o.map (·.2)).getD 0
def A1V (e : Nat → Option (Nat × Nat)) (l t : Int) : Nat → Nat × Nat → Option (Nat × Nat)
 | 0, p => (E0 e l p).bind fun s => E0 e t s
 | 1, p => E0 e t p
 | _, p => some p
theorem B2Z (e : Nat → Option (Nat × Nat)) (l t : Int) {j : Nat} (hj : j < 2) (p : Nat × Nat) : A1V e l t j p = (E0 e (if j = 0 then l else t) p).bind fun s => A1V e l t (j + 1) s := by
 rcases (show j = 0 ∨ j = 1 by omega) with rfl | rfl
 ·rfl
 ·show E0 e t p = _
  simp only [Nat.succ_ne_zero, if_false]
  cases E0 e t p <;> rfl
theorem A2q (e : Nat → Option (Nat × Nat)) (p : Nat × Nat) : E0 e 0 p = some p := by unfold E0; simp
theorem A03 {e : Nat → Option (Nat × Nat)} {c : Int} {p : Nat × Nat} (h0 : c ≠ 0) (h : c ≠ (p.1 : Int)) : E0 e c p = none := by unfold E0; rw [if_neg h0, if_pos h]
theorem A2j {e : Nat → Option (Nat × Nat)} {c : Int} {p : Nat × Nat} (h0 : c ≠ 0) (h : c = (p.1 : Int)) (he : e p.1 = none) : E0 e c p = none := by unfold E0; rw [if_neg h0, if_neg (by simp [h]), he]
theorem A2A {e : Nat → Option (Nat × Nat)} {c : Int} {p q : Nat × Nat} (h0 : c ≠ 0) (h : c = (p.1 : Int)) (he : e p.1 = some q) : E0 e c p = some (q.1, max p.2 (q.2 + 1)) := by unfold E0; rw [if_neg h0, if_neg (by simp [h]), he]
theorem B3Z (a b : Int) (k : Nat) (hk : k < 2) (W : World) : (Instr.index 168 (.agg #[.int .i64 a, .int .i64 b]) (.int .i64 (k : Nat))).run Tryz.prog W = .ok (.int .i64 (if k = 0 then a else b)) W := by
 rcases (show k = 0 ∨ k = 1 by omega) with rfl | rfl <;> kernel_rfl
abbrev E6 (R : Ax) (n : Nat) (N : Ax) (m : Nat) : Value := .agg #[.slice R.1 n R.2, .slice N.1 m N.2]
theorem A6U (R N : Ax) (n m : Nat) (ns : List NdT) (hm : ns.length = m) (hm2 : m ≤ 100000) (w0 : World) (h : Le ndL 4 w0 N.1 ns) :
  ∀ (f i : Nat) (w : World), A3 w0 w → i ≤ 100000 → m < f + i → Calls Tryz.prog 64 #[E6 R n N m, .int .i64 (i : Nat)] w fun e w' => e = .returned (.tuple #[.int .i64 (E8 (D8 ns f i) : Nat), .int .i64 (J3 (D8 ns f i) : Nat), .bool (D8 ns f i).isSome]) ∧ A3 w w' := by
 intro f
 induction f with
 | zero =>
  intro i w hg hi hf
  have hmi : decide ((m : Int) ≤ (i : Int)) = true := by simp; omega
  have hmin : decide (m ≤ i) = true := by simp; omega
  clear h hg
  show Calls Tryz.prog 64 #[E6 R n N m, .int .i64 (i : Nat)] w fun e w' => e = .returned (.tuple #[.int .i64 (0 : Nat), .int .i64 (0 : Nat), .bool false]) ∧ A3 w w'
  obtain ⟨RA, RC⟩ := R
  obtain ⟨NA, NC⟩ := N
  go_enter Tryz.func64, Tryz.ntmps64
  refine en1 ?_
  intro u hG b2 hB hF
  refine wp_seq ?_
  refine r0T ?_
  refine wp_cond_true (rfl) ?_
  refine r0T ?_
  refine rt Tryz.results64 ?_
  exact ⟨rfl, hG⟩
 | succ f ih =>
  intro i w hg hi hf
  rcases Nat.lt_or_ge i m with him | him
  ·have hil : i < ns.length := by omega
   obtain ⟨bN, oN, hNe, hnd⟩ := (h.grow hg).at hil
   obtain ⟨nd, hndE⟩ : ∃ x, x = ns[i] := ⟨_, rfl⟩
   rw [← hndE] at hnd
   have hV : D8 ns (f + 1) i = A1V (D8 ns f) nd.l nd.t 0 (i + 1, 0) := by
    show (match ns[i]? with | none => none | some n => (E0 (D8 ns f) n.l (i + 1, 0)).bind fun s => E0 (D8 ns f) n.t s) = _
    rw [List.getElem?_eq_getElem hil, ← hndE]
    rfl
   rw [hV]
   have hrd : ∀ W, A3 w W → W.cell? ⟨bN, oN + i * 4 + 2, none⟩ = some (.int .i64 nd.l) ∧ W.cell? ⟨bN, oN + i * 4 + 3, none⟩ = some (.int .i64 nd.t) := fun W hg => ⟨hnd W hg 2 _ rfl, hnd W hg 3 _ rfl⟩
   have hcl : ∀ (k : Nat) (W : World), A3 w W → i < k → k ≤ m → Calls Tryz.prog 64 #[E6 R n N m, .int .i64 (k : Nat)] W fun e w' => e = .returned (.tuple #[.int .i64 (E8 (D8 ns f k) : Nat), .int .i64 (J3 (D8 ns f k) : Nat), .bool (D8 ns f k).isSome]) ∧ A3 W w' := fun k W hgW h1 h2 => ih k W (hg.trans hgW) (by omega) (by omega)
   have hle : ∀ k q, D8 ns f k = some q → i < k → k < q.1 ∧ q.1 ≤ m ∧ q.2 ≤ m := fun k q hq hk => by
    have h1 := A2X (e := q.1) (d := q.2) hq
    obtain ⟨s, g1, g2, g3, g4, g5⟩ := A1g ns f k q.1 q.2 hq
    omega
   obtain ⟨E, hE⟩ : ∃ E, E = D8 ns f := ⟨_, rfl⟩
   simp only [← hE] at hcl hle ⊢
   obtain ⟨cl, hcle⟩ : ∃ x, x = nd.l := ⟨_, rfl⟩
   obtain ⟨ct, hcte⟩ : ∃ x, x = nd.t := ⟨_, rfl⟩
   rw [← hcle, ← hcte] at hrd ⊢
   obtain ⟨V, hVe⟩ : ∃ V, V = A1V E cl ct 0 (i + 1, 0) := ⟨_, rfl⟩
   rw [← hVe]
   have hmi : decide ((m : Int) ≤ (i : Int)) = false := by simp; omega
   have hmin : decide (m ≤ i) = false := by simp; omega
   have himi : (i : Int) < (m : Int) := by omega
   have fi1 : IntKind.i64.wrap ((i : Int) + 1) = ((i + 1 : Nat) : Int) := by rw [IntWalk.i64_in _ (by omega)]; omega
   obtain ⟨i1, hi1⟩ : ∃ x, x = i + 1 := ⟨_, rfl⟩
   rw [← hi1] at fi1 hVe
   have hii1 : i < i1 := by omega
   have hi1m : i1 ≤ m := by omega
   have Hrd := Lib.hid hrd
   have Hcl := Lib.hid hcl
   have Hle := Lib.hid hle
   have HVe := Lib.hid hVe
   have Hm1 := Lib.hid hi1m
   clear hrd hcl hle hVe hV hE hcle hcte hndE hnd ih h hil hi hf hg hm hi1 hi1m
   obtain ⟨RA, RC⟩ := R
   obtain ⟨NA, NC⟩ := N
   simp only at hNe
   subst hNe
   go_enter Tryz.func64, Tryz.ntmps64
   refine en1 ?_
   intro u hG b2 hB hF
   refine wp_seq ?_
   refine r0T ?_
   refine wp_cond_false (rfl) ?_
   refine wp_skip ?_
   refine A4 ?_
   refine r0T ?_
   refine wp_seq ?_
   refine wp_seq ?_
   obtain ⟨c2, c3⟩ := Hrd.out u hG
   refine Code.wp_mono NoP.up ?_
   have r := hB.r
   simp only [BxR] at r
   go_region
   clear r
   replace hB := hB.grow (A3.drew u)
   replace hG := hG.trans (A3.drew u)
   obtain ⟨u, rfl⟩ : ∃ x, x = u.drew := ⟨_, rfl⟩
   refine NoP.norm ?_
   clear c2 c3
   refine A4 ?_
   refine wp_block ?_
   go_loopw [32, 4, 5] (fun s0 s1 s2 wr => ∃ (j : Nat) (p : Nat × Nat), j ≤ 2 ∧ s0 = .int .i64 j ∧ s1 = .int .i64 (p.1 : Nat) ∧ s2 = .int .i64 (p.2 : Nat) ∧ i < p.1 ∧ p.1 ≤ m ∧ p.2 ≤ m + 1 ∧ V = A1V E cl ct j p ∧ Bx wr [(b2, 79, #[.slice RA n RC, .slice (some ⟨bN, oN, none⟩) m NC])] ∧ A3 w wr) (fun s0 _ _ _ => 2 - (intOf s0).toNat)
   case atStart => exact ⟨0, (i1, 0), by omega, rfl, rfl, rfl, hii1, Hm1.out, by omega, HVe.out, hB, hG⟩
   case round =>
    clear hB hG HVe
    obtain ⟨j, ⟨p1, p2⟩, hj, rfl, rfl, rfl, hp0, hp1, hp2, hV, hB, hG⟩ := hrel
    simp only at hp0 hp1 hp2
    obtain ⟨u, rfl⟩ : ∃ x, x = wr := ⟨_, rfl⟩
    rcases Nat.lt_or_ge j 2 with hlt | hge
    ·have hdec : decide ((j : Int) < 2) = true := by simp; omega
     have hdecn : decide (j < 2) = true := by simp; omega
     have hix := fun W => B3Z cl ct j hlt W
     rw [B2Z E cl ct hlt] at hV
     obtain ⟨ch, hch⟩ : ∃ x, x = if j = 0 then cl else ct := ⟨_, rfl⟩
     rw [← hch] at hV
     simp only [← hch] at hix
     clear hch
     by_cases h0 : ch = 0
     ·have f0 : (ch == 0) = true := by simp [h0]
      have f0d : decide (ch = 0) = true := by simp [h0]
      rw [h0, A2q] at hV
      have HV := Lib.hid hV
      clear hV h0
      refine r0T ?_
      refine wp_seq ?_
      refine wp_cond_true (rfl) ?_
      refine wp_skip ?_
      refine A4 ?_
      refine wp_seq ?_
      refine wp_block ?_
      refine r0T ?_
      refine wp_seq ?_
      refine r0T ?_
      refine wp_cond_true (rfl) ?_
      refine wp_exit ?_
      refine B4 ?_
      refine E1 ?_
      refine A4 ?_
      refine r0E ?_
      refine A4 ?_
      go_roundw
      case rel => exact ⟨j + 1, (p1, p2), by omega, by go_num, rfl, rfl, hp0, hp1, hp2, HV.out, hB, hG⟩
      case measure => simp [intOf]; omega
     ·have f0 : (ch == 0) = false := by simp [h0]
      have f0d : decide (ch = 0) = false := by simp [h0]
      by_cases h1 : ch = (p1 : Int)
      ·have f1 : (ch != (p1 : Int)) = false := by simp [h1]
       have f1d : decide (ch = (p1 : Int)) = true := by simp [h1]
       have hc := fun W hg => Hcl.out p1 W hg hp0 hp1
       rw [← h1] at hc
       cases hq : E p1 with
       | none =>
        rw [A2j h0 h1 hq] at hV
        simp only [hq, E8, J3, Option.map_none, Option.getD_none, Option.isSome_none] at hc
        have HV := Lib.hid hV
        have Hc := Lib.hid hc
        clear hV h0 h1 hq hc
        refine r0T ?_
        refine wp_seq ?_
        refine wp_cond_true (rfl) ?_
        refine wp_skip ?_
        refine A4 ?_
        refine wp_seq ?_
        refine wp_block ?_
        refine r0T ?_
        refine wp_seq ?_
        refine r0T ?_
        refine wp_cond_false (rfl) ?_
        refine wp_skip ?_
        refine A4 ?_
        refine wp_seq ?_
        refine r0T ?_
        refine wp_cond_false (rfl) ?_
        refine wp_skip ?_
        refine A4 ?_
        refine wp_seq (rsE A6 [0, 0, 1, 0, 0, 0, 0, 0, 0, 0] hB hG fun L hL => ?_)
        refine gs ?_
        refine gmd (C := fun v ⟨hgu, hB, hG, _⟩ => Hc.out _ hG) ?_
        refine gs ?_
        refine geT hL ?_
        clear hB hG hL L
        rintro u ⟨-, hB, hG, -⟩
        refine wp_seq ?_
        refine r0T ?_
        refine wp_cond_true (rfl) ?_
        refine r0T ?_
        refine rt Tryz.results64 ?_
        exact ⟨by rw [HV.out]; rfl, hG⟩
       | some q =>
        rw [A2A h0 h1 hq] at hV
        simp only [hq, E8, J3, Option.map_some, Option.getD_some, Option.isSome_some] at hc
        obtain ⟨l1, l2, l3⟩ := Hle.out p1 q hq hp0
        obtain ⟨q1, q2⟩ := q
        simp only at l1 l2 l3 hV
        have fq : IntKind.i64.wrap ((q2 : Int) + 1) = ((q2 + 1 : Nat) : Int) := by rw [IntWalk.i64_in _ (by omega)]; omega
        obtain ⟨q3, hq3⟩ : ∃ x, x = q2 + 1 := ⟨_, rfl⟩
        have hq3m : q3 ≤ m + 1 := by omega
        obtain ⟨mx, hmx⟩ : ∃ x, x = max p2 q3 := ⟨_, rfl⟩
        have fmx : max (p2 : Int) (q3 : Int) = (mx : Int) := by omega
        have hmxm : mx ≤ m + 1 := by omega
        rw [← hq3] at fq hV
        rw [← hmx] at hV
        have HV := Lib.hid hV
        have Hc := Lib.hid hc
        have L1 := Lib.hid (show i < q1 by omega)
        clear hV h0 h1 hq hc hq3 hmx l1 hp0
        refine r0T ?_
        refine wp_seq ?_
        refine wp_cond_true (rfl) ?_
        refine wp_skip ?_
        refine A4 ?_
        refine wp_seq ?_
        refine wp_block ?_
        refine r0T ?_
        refine wp_seq ?_
        refine r0T ?_
        refine wp_cond_false (rfl) ?_
        refine wp_skip ?_
        refine A4 ?_
        refine wp_seq ?_
        refine r0T ?_
        refine wp_cond_false (rfl) ?_
        refine wp_skip ?_
        refine A4 ?_
        refine wp_seq (rsE A6 [0, 0, 1, 0, 0, 0, 0, 0, 0, 0] hB hG fun L hL => ?_)
        refine gs ?_
        refine gmd (C := fun v ⟨hgu, hB, hG, _⟩ => Hc.out _ hG) ?_
        refine gs ?_
        refine geT hL ?_
        clear hB hG hL L
        rintro u ⟨-, hB, hG, -⟩
        refine wp_seq ?_
        refine r0T ?_
        refine wp_cond_false (rfl) ?_
        refine wp_skip ?_
        refine A4 ?_
        refine r0E ?_
        refine D2 ?_
        refine A4 ?_
        refine r0E ?_
        refine A4 ?_
        go_roundw
        case rel => exact ⟨j + 1, (q1, mx), by omega, by go_num, rfl, rfl, L1.out, l2, hmxm, HV.out, hB, hG⟩
        case measure => simp [intOf]; omega
      ·have f1 : (ch != (p1 : Int)) = true := by simp [h1]
       have f1d : decide (ch = (p1 : Int)) = false := by simp [h1]
       rw [A03 h0 h1] at hV
       have HV := Lib.hid hV
       clear hV h0 h1
       refine r0T ?_
       refine wp_seq ?_
       refine wp_cond_true (rfl) ?_
       refine wp_skip ?_
       refine A4 ?_
       refine wp_seq ?_
       refine wp_block ?_
       refine r0T ?_
       refine wp_seq ?_
       refine r0T ?_
       refine wp_cond_false (rfl) ?_
       refine wp_skip ?_
       refine A4 ?_
       refine wp_seq ?_
       refine r0T ?_
       refine wp_cond_true (rfl) ?_
       refine r0T ?_
       refine rt Tryz.results64 ?_
       exact ⟨by rw [HV.out]; rfl, hG⟩
    ·obtain rfl : j = 2 := by omega
     have HV := Lib.hid hV
     clear hV
     refine r0T ?_
     refine wp_seq ?_
     refine wp_cond_false (rfl) ?_
     refine wp_exit ?_
     refine B4 ?_
     refine B4 ?_
     refine E1 ?_
     refine A4 ?_
     refine r0T ?_
     refine rt Tryz.results64 ?_
     exact ⟨by rw [HV.out]; rfl, hG⟩
  ·have hmi : decide ((m : Int) ≤ (i : Int)) = true := by simp; omega
   have hmin : decide (m ≤ i) = true := by simp; omega
   rw [A6j (by omega)]
   clear h hg ih
   show Calls Tryz.prog 64 #[E6 R n N m, .int .i64 (i : Nat)] w fun e w' => e = .returned (.tuple #[.int .i64 (0 : Nat), .int .i64 (0 : Nat), .bool false]) ∧ A3 w w'
   obtain ⟨RA, RC⟩ := R
   obtain ⟨NA, NC⟩ := N
   go_enter Tryz.func64, Tryz.ntmps64
   refine en1 ?_
   intro u hG b2 hB hF
   refine wp_seq ?_
   refine r0T ?_
   refine wp_cond_true (rfl) ?_
   refine r0T ?_
   refine rt Tryz.results64 ?_
   exact ⟨rfl, hG⟩
def O0 (ns : List NdT) (k : Nat) (r : Int) : Bool := (ns.take k).any fun y => decide (y.r = r)
def I8 (L n : Nat) (ns : List NdT) (k : Nat) : Bool :=
 match ns[k]? with
 | none => false
 | some x => decide (x.c < 0) || decide ((L : Int) ≤ x.c) || decide (x.r < 0) || decide ((n : Int) ≤ x.r) || O0 ns k x.r
def B8 (ns : List NdT) (i : Nat) : Option (Nat × Nat) := D8 ns (ns.length + 1) i
def Y4 (ns : List NdT) (i : Nat) : Int := match ns[i]? with | none => 0 | some x => if x.t = 0 then (E8 (B8 ns i) : Int) else x.t
def P3 (G P : Int) (j : Nat) : Bool := (decide ((j : Int) < G) && decide (0 < P)) || (decide (G ≤ (j : Int)) && decide (P < 0))
def H3 (X : List (List Rat)) (ns : List NdT) (i j : Nat) : Bool :=
 match ns[i]?, ns[j]? with
 | some x, some y => (decide ((j : Int) < Y4 ns i) && decide (0 < E9 (ent X y.r.toNat x.c.toNat) (ent X x.r.toNat x.c.toNat))) || (decide (Y4 ns i ≤ (j : Int)) && decide (E9 (ent X y.r.toNat x.c.toNat) (ent X x.r.toNat x.c.toNat) < 0))
 | _, _ => false
def A8Q (X : List (List Rat)) (ns : List NdT) (i e : Nat) : Bool := (List.range e).any fun j => decide (i < j) && H3 X ns i j
def P2 (X : List (List Rat)) (ns : List NdT) (i : Nat) : Bool := A8Q X ns i (E8 (B8 ns i))
def G6 (X : List (List Rat)) (L : Nat) (ns : List NdT) : Nat :=
 if ns.length ≠ X.length then 5
 else if (B8 ns 0).isSome = false ∨ E8 (B8 ns 0) ≠ ns.length then 2
 else if (List.range ns.length).any (I8 L X.length ns) then 2
 else if (List.range ns.length).any (P2 X ns) then 1 else 0
theorem A1d {f : Nat → Bool} {k n : Nat} (hk : k < n) (h : f k = true) : (List.range n).any f = true := List.any_eq_true.2 ⟨k, List.mem_range.2 hk, h⟩
theorem A2E {f : Nat → Bool} {n : Nat} (h : ∀ k, k < n → f k = false) : (List.range n).any f = false := by
 rw [List.any_eq_false]
 intro k hk
 rw [h k (List.mem_range.1 hk)]
 simp
theorem A5C {X : List (List Rat)} {L : Nat} {ns : List NdT} (h : ns.length ≠ X.length) : G6 X L ns = 5 := by unfold G6; rw [if_pos h]
theorem A4S {X : List (List Rat)} {L : Nat} {ns : List NdT} (h : ns.length = X.length) (h1 : (B8 ns 0).isSome = false ∨ E8 (B8 ns 0) ≠ ns.length) : G6 X L ns = 2 := by unfold G6; rw [if_neg (by simp [h]), if_pos h1]
theorem A5V {X : List (List Rat)} {L : Nat} {ns : List NdT} (h : ns.length = X.length) (h1 : ¬ ((B8 ns 0).isSome = false ∨ E8 (B8 ns 0) ≠ ns.length)) {k : Nat} (hk : k < ns.length) (hb : I8 L X.length ns k = true) : G6 X L ns = 2 := by
 unfold G6
 rw [if_neg (by simp [h]), if_neg h1, if_pos (A1d hk hb)]
theorem A6y {X : List (List Rat)} {L : Nat} {ns : List NdT} (h : ns.length = X.length) (h1 : ¬ ((B8 ns 0).isSome = false ∨ E8 (B8 ns 0) ≠ ns.length)) (h2 : ∀ k, k < ns.length → I8 L X.length ns k = false) {i : Nat} (hi : i < ns.length) (hw : P2 X ns i = true) : G6 X L ns = 1 := by
 unfold G6
 rw [if_neg (by simp [h]), if_neg h1, if_neg (by rw [A2E h2]; simp), if_pos (A1d hi hw)]
theorem A5J {X : List (List Rat)} {L : Nat} {ns : List NdT} (h : ns.length = X.length) (h1 : ¬ ((B8 ns 0).isSome = false ∨ E8 (B8 ns 0) ≠ ns.length)) (h2 : ∀ k, k < ns.length → I8 L X.length ns k = false) (h3 : ∀ i, i < ns.length → P2 X ns i = false) : G6 X L ns = 0 := by
 unfold G6
 rw [if_neg (by simp [h]), if_neg h1, if_neg (by rw [A2E h2]; simp), if_neg (by rw [A2E h3]; simp)]
theorem A4b {X : List (List Rat)} {ns : List NdT} {i j : Nat} (hij : i < j) (hj : j < E8 (B8 ns i)) (h : H3 X ns i j = true) : P2 X ns i = true := A1d hj (by rw [h]; simp [hij])
theorem A5I {X : List (List Rat)} {ns : List NdT} {i : Nat} (h : ∀ j, i < j → j < E8 (B8 ns i) → H3 X ns i j = false) : P2 X ns i = false := A2E fun j hj => by
 by_cases hij : i < j
 ·rw [h j hij hj]; simp
 ·simp [hij]
def Y7 (n : Nat) (ns : List NdT) (k : Nat) : List Value := (List.range n).map fun r => Value.bool (O0 ns k (r : Nat))
theorem A9Y (n : Nat) (ns : List NdT) : Y7 n ns 0 = List.replicate n (.bool false) := by
 unfold Y7
 apply List.ext_getElem
 ·simp
 ·intro i h1 h2; simp [O0]
theorem A2s {n : Nat} {ns : List NdT} {k r : Nat} (h : r < n) : (Y7 n ns k)[r]? = some (.bool (O0 ns k (r : Nat))) := by unfold Y7; simp [h]
theorem A9Q {ns : List NdT} {k : Nat} {x : NdT} (h : ns[k]? = some x) (r : Int) : O0 ns (k + 1) r = (O0 ns k r || decide (x.r = r)) := by
 unfold O0
 rw [List.take_add_one, h, List.any_append]
 simp
theorem B3R {n : Nat} {ns : List NdT} {k r : Nat} {x : NdT} (h : ns[k]? = some x) (hr : x.r = (r : Int)) (hn : r < n) : (Y7 n ns k).set r (.bool true) = Y7 n ns (k + 1) := by
 unfold Y7
 apply List.ext_getElem
 ·simp
 ·intro j h1 h2
  rw [List.getElem_set]
  simp only [List.getElem_map, List.getElem_range, A9Q h]
  by_cases e : r = j
  ·subst e; simp [hr]
  ·rw [if_neg e]
   have : decide (x.r = (j : Int)) = false := by simp; omega
   rw [this]
   simp
theorem A9s {L n : Nat} {ns : List NdT} {k : Nat} {x : NdT} (h : ns[k]? = some x) : I8 L n ns k = (decide (x.c < 0) || decide ((L : Int) ≤ x.c) || decide (x.r < 0) || decide ((n : Int) ≤ x.r) || O0 ns k x.r) := by unfold I8; rw [h]
theorem A5Y {ns : List NdT} {i : Nat} {x : NdT} (h : ns[i]? = some x) : Y4 ns i = if x.t = 0 then (E8 (B8 ns i) : Int) else x.t := by unfold Y4; rw [h]
theorem A5m {X : List (List Rat)} {ns : List NdT} {i j : Nat} {x y : NdT} (h : ns[i]? = some x) (h2 : ns[j]? = some y) : H3 X ns i j = ((decide ((j : Int) < Y4 ns i) && decide (0 < E9 (ent X y.r.toNat x.c.toNat) (ent X x.r.toNat x.c.toNat))) || (decide (Y4 ns i ≤ (j : Int)) && decide (E9 (ent X y.r.toNat x.c.toNat) (ent X x.r.toNat x.c.toNat) < 0))) := by unfold H3; rw [h, h2]
theorem A4G {L n : Nat} {ns : List NdT} {k : Nat} {x : NdT} (h : ns[k]? = some x) : (x.c < 0 ∧ I8 L n ns k = true) ∨ (∃ c : Nat, x.c = c ∧ L ≤ c ∧ I8 L n ns k = true) ∨ (∃ c : Nat, x.c = c ∧ c < L ∧ x.r < 0 ∧ I8 L n ns k = true) ∨ (∃ c r : Nat, x.c = c ∧ c < L ∧ x.r = r ∧ n ≤ r ∧ I8 L n ns k = true) ∨ (∃ c r : Nat, x.c = c ∧ c < L ∧ x.r = r ∧ r < n ∧ O0 ns k (r : Nat) = true ∧ I8 L n ns k = true) ∨ ∃ c r : Nat, x.c = c ∧ c < L ∧ x.r = r ∧ r < n ∧ O0 ns k (r : Nat) = false ∧ I8 L n ns k = false := by
 rw [A9s h]
 by_cases h1 : x.c < 0
 ·exact .inl ⟨h1, by simp [h1]⟩
 ·obtain ⟨c, hc⟩ : ∃ c : Nat, x.c = c := ⟨x.c.toNat, by omega⟩
  rw [hc] at h1 ⊢
  by_cases h2 : L ≤ c
  ·exact .inr (.inl ⟨c, rfl, h2, by simp [h2]⟩)
  ·by_cases h3 : x.r < 0
   ·exact .inr (.inr (.inl ⟨c, rfl, by omega, h3, by simp [h3]⟩))
   ·obtain ⟨r, hr⟩ : ∃ r : Nat, x.r = r := ⟨x.r.toNat, by omega⟩
    rw [hr] at h3 ⊢
    by_cases h4 : n ≤ r
    ·exact .inr (.inr (.inr (.inl ⟨c, r, rfl, by omega, rfl, h4, by simp [h4]⟩)))
    ·by_cases h5 : O0 ns k (r : Int) = true
     ·exact .inr (.inr (.inr (.inr (.inl ⟨c, r, rfl, by omega, rfl, by omega, h5, by simp [h5]⟩))))
     ·refine .inr (.inr (.inr (.inr (.inr ⟨c, r, rfl, by omega, rfl, by omega, by simpa using h5, ?_⟩))))
      (simp [h2, h4, h5]; try omega)
theorem B1L {X : List (List Rat)} {L : Nat} {ns : List NdT} (h : G6 X L ns = 0) : ns.length = X.length ∧ (∃ d, B8 ns 0 = some (ns.length, d)) ∧ (∀ k, k < ns.length → I8 L X.length ns k = false) ∧ ∀ i, i < ns.length → P2 X ns i = false := by
 unfold G6 at h
 split at h
 ·cases h
 ·rename_i h0
  split at h
  ·cases h
  ·rename_i h1
   split at h
   ·cases h
   ·rename_i h2
    split at h
    ·cases h
    ·rename_i h3
     refine ⟨Decidable.byContradiction h0, ?_, fun k hk => ?_, fun i hi => ?_⟩
     ·have h4 : (B8 ns 0).isSome = true := by
       cases hp : (B8 ns 0).isSome with
       | true => rfl
       | false => exact absurd (.inl hp) h1
      obtain ⟨p, hp⟩ := Option.isSome_iff_exists.1 h4
      have h5 : E8 (B8 ns 0) = ns.length := Decidable.byContradiction fun h => h1 (.inr h)
      rw [hp] at h5 ⊢
      exact ⟨p.2, by rw [← h5]; rfl⟩
     ·rw [Bool.eq_false_iff]
      exact fun hb => h2 (A1d hk hb)
     ·rw [Bool.eq_false_iff]
      exact fun hb => h3 (A1d hi hb)
def P9 (o : Option (Nat × Nat)) : Int := match o with | none => -1 | some p => (p.1 : Int)
def N8 (ns : List NdT) (es : List Int) (i e : Nat) : List Int := (List.range es.length).map fun j => if i ≤ j ∧ j < e then (E8 (B8 ns j) : Int) else gi es j
theorem Y8 (ns : List NdT) (es : List Int) (i e : Nat) : (N8 ns es i e).length = es.length := by unfold N8; simp
theorem A0K {ns : List NdT} {es : List Int} {i e j : Nat} (hj : j < es.length) : gi (N8 ns es i e) j = if i ≤ j ∧ j < e then (E8 (B8 ns j) : Int) else gi es j := by
 unfold N8 gi
 simp [hj]
theorem A3U {l l' : List Int} (hl : l.length = l'.length) (h : ∀ j, j < l.length → gi l j = gi l' j) : l = l' := by
 apply List.ext_getElem hl
 intro j h1 h2
 have := h j h1
 unfold gi at this
 rw [List.getElem?_eq_getElem h1, List.getElem?_eq_getElem h2] at this
 simpa using this
theorem A7Y (ns : List NdT) (es : List Int) (i : Nat) : N8 ns es i i = es := A3U (Y8 _ _ _ _) fun j hj => by
 rw [Y8] at hj
 rw [A0K hj, if_neg (by omega)]
theorem B14 {ns : List NdT} {es : List Int} {i k e : Nat} (h1 : i ≤ k) (h2 : k ≤ e) : N8 ns (N8 ns es i k) k e = N8 ns es i e := A3U (by simp [Y8]) fun j hj => by
 simp only [Y8] at hj
 rw [A0K (by rw [Y8]; exact hj), A0K hj, A0K hj]
 by_cases a : k ≤ j ∧ j < e
 ·rw [if_pos a, if_pos (by omega)]
 ·rw [if_neg a]
  by_cases b : i ≤ j ∧ j < k
  ·rw [if_pos b, if_pos (by omega)]
  ·rw [if_neg b, if_neg (by omega)]
theorem A5D {ns : List NdT} {es : List Int} {i e : Nat} (hi : i < es.length) (he : i < e) (h : E8 (B8 ns i) = e) : (N8 ns es (i + 1) e).set i (e : Nat) = N8 ns es i e := A3U (by simp [Y8]) fun j hj => by
 simp only [List.length_set, Y8] at hj
 have e1 : gi ((N8 ns es (i + 1) e).set i (e : Nat)) j = if i = j then (e : Int) else gi (N8 ns es (i + 1) e) j := by
  unfold gi
  rw [List.getElem?_set]
  by_cases e : i = j
  ·subst e; simp [Y8, hi]
  ·simp [e]
 rw [e1, A0K hj, A0K hj]
 by_cases e2 : i = j
 ·subst e2
  rw [if_pos rfl, if_pos (by omega), h]
 ·rw [if_neg e2]
  by_cases b : i + 1 ≤ j ∧ j < e
  ·rw [if_pos b, if_pos (by omega)]
  ·rw [if_neg b, if_neg (by omega)]
def A8V (ns : List NdT) (i deep far : Nat) (es : List Int) (o : Option (Nat × Nat)) (far' : Nat) (es' : List Int) : Prop :=
 ∀ e d, o = some (e, d) → far' = max far (deep + d) ∧ es' = N8 ns es i e
structure PartW (bw ge EC n m : Nat) (R N : Ax) (B : Nat) (far : Nat) (es : List Int) (W : World) : Prop where
 blk : Blk W bw 122 #[.slice R.1 n R.2, .slice N.1 m N.2, .slice (some ⟨ge, 0, none⟩) m EC, .int .i64 (far : Nat)]
 own : W.ownsRow B 3 1 (.slice (some ⟨ge, 0, none⟩) m EC) m (iv es)
theorem PartW.grow {bw ge EC n m : Nat} {R N : Ax} {B : Nat} {far : Nat} {es : List Int} {W W' : World} (h : PartW bw ge EC n m R N B far es W) (hg : A3 W W') : PartW bw ge EC n m R N B far es W' := ⟨h.blk.grow hg, D4 h.own hg⟩
abbrev A3f (bw ge : Nat) (k : Nat) : Prop := k = bw ∨ k = ge
def A3r (bw ge EC n m : Nat) (R N : Ax) (ns : List NdT) (w0 : World) (f : Nat) : Prop :=
 ∀ (i deep far : Nat) (es : List Int) (W : World), A3 w0 W → i ≤ 1000 → deep ≤ i → m < f + i → es.length = m → PartW bw ge EC n m R N w0.heap.size far es W →
  Calls Tryz.prog 61 #[.pointer (some ⟨bw, 0, none⟩), .int .i64 (i : Nat), .int .i64 (deep : Nat)] W fun e W' => e = .returned (.int .i64 (P9 (D8 ns f i))) ∧ ∃ (far' : Nat) (es' : List Int), es'.length = m ∧ PartW bw ge EC n m R N w0.heap.size far' es' W' ∧ KepS (A3f bw ge) W W' ∧ A3 w0 W' ∧ A8V ns i deep far es (D8 ns f i) far' es'
end Go.Proofs.YtjmopgepnndckaaGreatDoor
