/- Contracts and laws. -/
import Derived.Test.YtjmopgepnndckaaGreatDoorC42
import Derived.Test.YtjmopgepnndckaaGreatDoorC43
set_option linter.unusedSimpArgs false
set_option linter.unusedVariables false
set_option maxHeartbeats 4000000
set_option maxRecDepth 100000
namespace Go.Proofs.YtjmopgepnndckaaGreatDoor
open Go Go.RowKit
theorem B0V (X : List (List Rat)) (c a b : Nat) : (¬ leC X c b a) ↔ (ent X a c < ent X b c ∨ (ent X a c = ent X b c ∧ a < b)) := by
 unfold leC
 by_cases h1 : ent X a c < ent X b c
 ·have h2 : ¬ ent X b c < ent X a c := by grind
  have h3 : ent X b c ≠ ent X a c := by grind
  simp [h1, h2, h3]
 ·by_cases h2 : ent X b c < ent X a c
  ·have h3 : ent X a c ≠ ent X b c := by grind
   simp [h1, h2, h3]
  ·have e : ent X a c = ent X b c := by grind
   simp [e, Rat.lt_irrefl]
theorem A4l {x y : Rat} : (E9 x y < 0) ↔ x < y := by
 unfold E9
 by_cases h1 : x < y
 ·simp [h1]
 ·by_cases h2 : y < x <;> simp [h1, h2]
theorem A13 {x y : Rat} : (E9 x y = 0) ↔ x = y := by
 unfold E9
 by_cases h1 : x < y
 ·have : x ≠ y := by grind
  simp [h1, this]
 ·by_cases h2 : y < x
  ·have : x ≠ y := by grind
   simp [h1, h2, this]
  ·have : x = y := by grind
   simp [this, Rat.lt_irrefl]
theorem B1A (A : Option Addr) (rs : List Rq) (n Lw c col a b : Nat) (hn : rs.length = n) (hrl : ∀ r ∈ rs, r.2.2.length = Lw) (ha : a < n) (hb : b < n) (hcol : col < Lw) (s : Nat) (hs : ∀ r ∈ rs, ∀ x ∈ r.2.2, qs x ≤ s) (hBz : 2 * s + 1 ≤ BIG) (w : World) (h : Lrz w A rs) :
  Calls Tryz.prog 101 #[.slice A n c, .int .i64 (col : Nat), .int .i64 (a : Nat), .int .i64 (b : Nat)] w fun e w' => e = .returned (.bool (decide (¬ leC (rs.map (·.2.2)) col b a))) ∧ A3 w w' := by
 obtain ⟨bb, ob, rfl⟩ := h.addr (by omega)
 have hrow : ∀ i, i < n → ∃ (ba oa : Nat) (cr : Nat) (p : Az), qs (ent (rs.map (·.2.2)) i col) ≤ s ∧ ∀ W, A3 w W → W.cell? ⟨bb, ob + i, none⟩ = some (.slice (some ⟨ba, oa, none⟩) Lw cr) ∧ Rz W p (ent (rs.map (·.2.2)) i col) ∧ Cz W ba (oa + col * 3) p (ent (rs.map (·.2.2)) i col) := fun i hi => by
  have hil : i < rs.length := by omega
  have hL := hrl _ (List.getElem_mem hil)
  obtain ⟨h1, h2⟩ := h.read (List.getElem?_eq_getElem hil)
  obtain ⟨ba, oa, e⟩ := h2.addr (by omega)
  have er : ent (rs.map (·.2.2)) i col = gq rs[i].2.2 col := by
   rw [A3S]
   unfold R8
   rw [List.getElem?_map, List.getElem?_eq_getElem hil]
   rfl
  rw [er]
  rw [e] at h2
  obtain ⟨p, hp⟩ := h2.read (i := col) (by omega)
  refine ⟨ba, oa, rs[i].2.1, p, hs _ (List.getElem_mem hil) _ (Z0 (by omega)), fun W hg => ?_⟩
  obtain ⟨h3, -⟩ := (h.grow hg).read (List.getElem?_eq_getElem hil)
  rw [e, hL] at h3
  exact ⟨h3, hp W hg⟩
 obtain ⟨ba, oa, ca, p, za, ra⟩ := hrow a ha
 obtain ⟨bb2, ob2, cb, q, zb, rb⟩ := hrow b hb
 obtain ⟨V, hV⟩ : ∃ V, V = decide (¬ leC (rs.map (·.2.2)) col b a) := ⟨_, rfl⟩
 have hV2 : V = decide (ent (rs.map (·.2.2)) a col < ent (rs.map (·.2.2)) b col ∨ (ent (rs.map (·.2.2)) a col = ent (rs.map (·.2.2)) b col ∧ a < b)) := by
  rw [hV]
  exact decide_eq_decide.2 (B0V _ _ _ _)
 rw [← hV]
 obtain ⟨x, hx⟩ : ∃ x, x = ent (rs.map (·.2.2)) a col := ⟨_, rfl⟩
 obtain ⟨y, hy⟩ : ∃ x, x = ent (rs.map (·.2.2)) b col := ⟨_, rfl⟩
 rw [← hx] at za
 rw [← hy] at zb
 rw [← hx, ← hy] at hV2
 simp only [← hx] at ra
 simp only [← hy] at rb
 have hcm := fun W (h1 : Rz W p x) (h2 : Rz W q y) => A7G p.1 p.2 q.1 q.2 x y W h1.a h1.b h2.a h2.b (by omega)
 have hai : (a : Int) < (n : Int) := by omega
 have hbi : (b : Int) < (n : Int) := by omega
 have hci2 : (col : Int) < (Lw : Int) := by omega
 obtain ⟨P, hP⟩ : ∃ X, X = E9 x y := ⟨_, rfl⟩
 simp only [← hP] at hcm
 have Hcm := Lib.hid hcm
 have Ra := Lib.hid ra
 have Rb := Lib.hid rb
 have HP := Lib.hid hP
 have HV := Lib.hid hV2
 clear hcm ra rb hx hy za zb h hs hrl hn hrow hBz hV hV2 hP
 go_enter Tryz.func101, Tryz.ntmps101
 refine en0 ?_
 intro u hG hB hF
 refine wp_seq (rdC A6 [] [(0, 0), (0, 1), (0, 2), (0, 3), (0, 4), (0, 5), (0, 6), (0, 7), (0, 8), (0, 9), (0, 10), (0, 11), (0, 12), (0, 13), (1, 14)] hB hG fun K L hN hL => ?_)
 repeat first | refine gya ?_ | refine gyr ?_ | refine gna ?_ | refine gyb (by (rintro v ⟨hgu, hB, hG, -⟩ N hN; have r := hB.r; simp only [BxR] at r; obtain ⟨g1, -, q1, q2, q3⟩ := Ra.out v hG; obtain ⟨g2, -, y1, y2, y3⟩ := Rb.out v hG; go_simp; exact hN)) ?_
 refine gmd (C := fun v ⟨hgu, hB, hG, _⟩ => Hcm.out _ (Ra.out _ hG).2.1 (Rb.out _ hG).2.1) ?_
 refine geC hL ?_
 clear hB hG hL L
 rintro u ⟨-, hB, hG, -⟩
 refine gtT ?_
 clear hN K
 by_cases c1 : x < y
 ·have d1 : decide (P < 0) = true := decide_eq_true (by rw [HP.out]; exact A4l.2 c1)
  have hv : V = true := by rw [HV.out]; simp [c1]
  rw [hv]
  clear hv c1
  refine r0T ?_
  refine rt Tryz.results101 ?_
  exact ⟨rfl, hG⟩
 ·have d1 : decide (P < 0) = false := decide_eq_false (by rw [HP.out]; exact fun h => c1 (A4l.1 h))
  by_cases c2 : x = y
  ·have d2 : (P == 0) = true := by rw [HP.out]; simpa using A13.2 c2
   have d2n : decide (P = 0) = true := by rw [HP.out]; simpa using A13.2 c2
   by_cases c3 : a < b
   ·have d3 : decide ((a : Int) < (b : Int)) = true := by simp; omega
    have d3n : decide (a < b) = true := decide_eq_true c3
    have hv : V = true := by rw [HV.out]; simp [c2, c3]
    rw [hv]
    clear hv c1 c2 c3
    refine r0T ?_
    refine rt Tryz.results101 ?_
    exact ⟨rfl, hG⟩
   ·have d3 : decide ((a : Int) < (b : Int)) = false := by simp; omega
    have d3n : decide (a < b) = false := decide_eq_false c3
    have hv : V = false := by rw [HV.out]; simp [c2, c3, Rat.lt_irrefl]
    rw [hv]
    clear hv c1 c2 c3
    refine r0T ?_
    refine rt Tryz.results101 ?_
    exact ⟨rfl, hG⟩
  ·have d2 : (P == 0) = false := by rw [HP.out]; simpa using fun h => c2 (A13.1 h)
   have d2n : decide (P = 0) = false := by rw [HP.out]; simpa using fun h => c2 (A13.1 h)
   have hv : V = false := by rw [HV.out]; simp [c1, c2]
   rw [hv]
   clear hv c1 c2
   refine r0T ?_
   refine rt Tryz.results101 ?_
   exact ⟨rfl, hG⟩
abbrev nv (l : List Nat) : List Value := l.map fun (i : Nat) => Value.int .i64 (i : Int)
theorem A36 (l : List Nat) (k x : Nat) : (nv l).set k (.int .i64 (x : Nat)) = nv (l.set k x) := by simp [nv, List.map_set]
theorem B2U (l : List Nat) (x : Nat) : nv l ++ [.int .i64 (x : Nat)] = nv (l ++ [x]) := by simp [nv]
theorem A1D {l : List Nat} {k : Nat} (h : k < l.length) : (nv l)[k]? = some (.int .i64 (l[k] : Nat)) := by simp [nv, h]
theorem B2i {u : World} {B g cap m : Nat} {l : List Nat} (h : u.ownsRow B 3 1 (.slice (some ⟨g, 0, none⟩) m cap) m (nv l)) : Li u (some ⟨g, 0, none⟩) (F6 l) := fun hne => by
 have hl : m = l.length := by have := h.1; simp [nv] at this; omega
 refine ⟨g, 0, rfl, (h.lt g rfl).2, fun i x hx => ?_⟩
 have hil := (List.getElem?_eq_some_iff.1 hx).1
 simp only [F6, List.length_map] at hil
 simp only [F6, List.getElem?_map, List.getElem?_eq_getElem hil, Option.map_some, Option.some.injEq] at hx
 rw [Nat.zero_add, h.cellAt i (by omega), A1D hil, ← hx]
theorem A1z {u : World} {B n k : Nat} {e : TypeId} {v : Value} {xs : List Value} (h : u.ownsRow B e k v n xs) : ∃ A c, v = .slice A n c := by
 obtain ⟨_, h | ⟨g, cap, cur, rfl, _⟩⟩ := h
 ·exact ⟨none, 0, by rw [h.1, h.2]⟩
 ·exact ⟨_, cap, rfl⟩
theorem B1H {X : List (List Rat)} {c k x : Nat} {ps is : List Nat} (hp : ps.Perm is) (hs : ps.Pairwise (leC X c)) (hk : k ≤ ps.length) (h1 : ∀ j (h : j < ps.length), k ≤ j → ¬ leC X c ps[j] x) (h2 : ∀ j (h : j < ps.length), j + 1 = k → leC X c ps[j] x) :
  (F3 ps k x).Perm (is ++ [x]) ∧ (F3 ps k x).Pairwise (leC X c) := by
 refine ⟨?_, A8v (R := leC X c) (fun h1 h2 => A4y h1 h2) ps k x hk hs (fun j h hj => (A63 X c ps[j] x).resolve_left (h1 j h hj)) h2⟩
 refine (B1r ps k x).trans ?_
 exact (List.Perm.cons x hp).trans (List.perm_append_singleton x is).symm
structure GrR (w1 : World) (S : Nat → Prop) (b99 gl B : Nat) (ls : List Int) (NA : Option Addr) (NC kk : Nat) (ns : List NdT) (u : World) : Prop where
 K : KepS S w1 u
 l : Li u (some ⟨gl, 0, none⟩) ls
 gu : gl < u.heap.size
 own : u.ownsRow B 118 4 (.slice NA kk NC) kk (ns.flatMap ndL)
 len : ns.length = kk
 n9 : nbk NA ≠ some b99
 gn : nbk NA ≠ some gl
theorem GrR.grow {w1 : World} {S : Nat → Prop} {b99 gl B : Nat} {ls : List Int} {NA : Option Addr} {NC kk : Nat} {ns : List NdT} {u u' : World} (h : GrR w1 S b99 gl B ls NA NC kk ns u) (hg : A3 u u') : GrR w1 S b99 gl B ls NA NC kk ns u' :=
 ⟨h.K.grow hg, h.l.grow hg, Nat.lt_of_lt_of_le h.gu hg.size, D4 h.own hg, h.len, h.n9, h.gn⟩
theorem A9x : EI 70 118 4 32 := U7 (by kernel_rfl) (by kernel_rfl) (by omega)
def A2u (b99 n L : Nat) (RA : Option Addr) (RC : Nat) (X : List (List Rat)) (w0 : World) (m : Nat) : Prop :=
 ∀ (is : List Nat) (col : Nat) (A : Option Addr) (c : Nat) (ns : List NdT) (NA : Option Addr) (NC k : Nat) (w : World), is.length = m → 0 < m → (∀ x ∈ is, x < n) → col < L → k = ns.length → k + m ≤ 1000000 → A3 w0 w → Li w A (F6 is) →
  Blk w b99 72 #[.slice RA n RC, .slice NA k NC] → w.ownsRow w0.heap.size 118 4 (.slice NA k NC) k (ns.flatMap ndL) → nbk NA ≠ some b99 →
  Calls Tryz.prog 60 #[.pointer (some ⟨b99, 0, none⟩), .slice A m c, .int .i64 (col : Nat)] w fun e w' => e = .returned (.tuple #[]) ∧ ∃ (NA' : Option Addr) (NC' : Nat),
   Blk w' b99 72 #[.slice RA n RC, .slice NA' (k + m) NC'] ∧ w'.ownsRow w0.heap.size 118 4 (.slice NA' (k + m) NC') (k + m) ((ns ++ N0 (H9 X L is col) k).flatMap ndL) ∧
   KepS (fun k => k = b99 ∨ nbk NA = some k) w w' ∧ (∀ k, nbk NA' = some k → nbk NA = some k ∨ w.heap.size ≤ k) ∧ A3 w0 w'
theorem A4B {b99 n RC B : Nat} {RA : Option Addr} {gl k m kk NC' : Nat} {lsI : List Int} {NA NA' : Option Addr} {ns ns' T : List NdT} {w0 w1 u : World} {bl : List (Nat × TypeId × Array Value)}
  (GS : GrR w1 (fun k => (k = b99 ∨ nbk NA = some k) ∨ w1.heap.size ≤ k) b99 gl B lsI NA' NC' kk ns' u) (hB : Bx u ((b99, 72, #[.slice RA n RC, .slice NA' kk NC']) :: bl)) (hkk : kk = k + m) (hns : ns' = ns ++ T) (hnb : ∀ j, nbk NA' = some j → nbk NA = some j ∨ w1.heap.size ≤ j) (hG : A3 w0 u) :
  ∃ (NA' : Option Addr) (NC' : Nat), Blk u b99 72 #[.slice RA n RC, .slice NA' (k + m) NC'] ∧ u.ownsRow B 118 4 (.slice NA' (k + m) NC') (k + m) ((ns ++ T).flatMap ndL) ∧ KepS (fun k => k = b99 ∨ nbk NA = some k) w1 u ∧ (∀ k, nbk NA' = some k → nbk NA = some k ∨ w1.heap.size ≤ k) ∧ A3 w0 u := by
 subst hkk hns
 exact ⟨NA', NC', hB.head, GS.own, GS.K.mono (fun j hj e => e.elim id (fun h => absurd h (by omega))), hnb, hG⟩
theorem A6m (b99 ge EC n m : Nat) (R N : Ax) (ns : List NdT) (hm : ns.length = m) (hm2 : m ≤ 300) (w0 : World) (hbw : w0.heap.size ≤ b99) (hge : w0.heap.size ≤ ge) (hne : b99 ≠ ge) (hN : Le ndL 4 w0 N.1 ns) (f : Nat) : A3r b99 ge EC n m R N ns w0 f := by
 induction f with
 | zero => exact A6u b99 ge EC n m R N ns hm hm2 w0 hbw hge hne hN 0 (fun f' e => by omega)
 | succ f ih => exact A6u b99 ge EC n m R N ns hm hm2 w0 hbw hge hne hN (f + 1) (fun f' e => by cases e; exact ih)
theorem A8u (A : Option Addr) (l : List Int) (n c : Nat) (x : Int) (hn : n = l.length) (hm : n ≤ 1048576) (w : World) (h : Li w A l) :
  Calls Tryz.prog 62 #[.slice A n c, .int .i64 x] w fun e w' => e = .returned (.bool (l.any fun y => decide (y = x))) ∧ A3 w w' := by
 obtain ⟨V, hV⟩ : ∃ V, V = l.any fun y => decide (y = x) := ⟨_, rfl⟩
 rw [← hV]
 have Hn := Lib.hid hn
 have H := Lib.hid h
 have HV := Lib.hid hV
 clear hn h hV
 go_enter Tryz.func62, Tryz.ntmps62
 refine en0 ?_
 intro u hG hB hF
 refine wp_seq ?_
 refine r0T ?_
 refine wp_block ?_
 go_loopw [5] (fun s0 wr => ∃ i : Nat, i ≤ n ∧ s0 = .int .i64 i ∧ (∀ j (hj : j < l.length), j < i → l[j] ≠ x) ∧ A3 w wr) (fun s0 _ => n - (intOf s0).toNat)
 case atStart => exact ⟨0, Nat.zero_le _, rfl, fun j _ hj => absurd hj (Nat.not_lt_zero _), hG⟩
 case round =>
  clear hB hG
  obtain ⟨i, hi, rfl, hno, hG⟩ := hrel
  obtain ⟨u, rfl⟩ : ∃ x, x = wr := ⟨_, rfl⟩
  have hB := Bx.nil u
  rcases Nat.lt_or_ge i n with hlt | hge
  ·have hdec : decide ((i : Int) < (n : Int)) = true := by simp; omega
   have hini : (i : Int) < (n : Int) := by omega
   have hil : i < l.length := by rw [← Hn.out]; exact hlt
   obtain ⟨ba, oa, rfl, hrd⟩ := H.out.at hil
   rw [B0H hil] at hrd
   by_cases hx : l[i] = x
   ·rw [hx] at hrd
    have hv : V = true := by rw [HV.out]; exact List.any_eq_true.2 ⟨l[i], List.getElem_mem hil, by simp [hx]⟩
    have fe : (x == x) = true := by simp
    have fed : decide (x = x) = true := by simp
    have Hrd := Lib.hid hrd
    clear hrd hx hno fed
    rw [hv]
    refine wp_seq ?_
    refine r0T ?_
    refine wp_cond_true (rfl) ?_
    refine wp_skip ?_
    refine A4 ?_
    refine wp_seq ?_
    refine wp_block ?_
    refine wp_seq ?_
    have q1 := Hrd.out u hG
    refine r0N ?_
    refine wp_cond_true (rfl) ?_
    refine r0T ?_
    refine rt Tryz.results62 ?_
    exact ⟨rfl, hG⟩
   ·obtain ⟨y, hy⟩ : ∃ y, y = l[i] := ⟨_, rfl⟩
    rw [← hy] at hrd hx
    have fe : (y == x) = false := by simp [hx]
    have fed : decide (y = x) = false := by simp [hx]
    have hno2 : ∀ j (hj : j < l.length), j < i + 1 → l[j] ≠ x := fun j hj h => by
     rcases Nat.lt_or_ge j i with h1 | h1
     ·exact hno j hj h1
     ·obtain rfl : j = i := by omega
      rw [← hy]
      exact hx
    have Hrd := Lib.hid hrd
    have Hno := Lib.hid hno2
    clear hrd hx hno hno2 hy hil
    refine wp_seq ?_
    refine r0T ?_
    refine wp_cond_true (rfl) ?_
    refine wp_skip ?_
    refine A4 ?_
    refine wp_seq ?_
    refine wp_block ?_
    refine wp_seq ?_
    have q1 := Hrd.out u hG
    refine r0N ?_
    refine wp_cond_false (rfl) ?_
    refine wp_skip ?_
    refine D2 ?_
    refine A4 ?_
    refine r0E ?_
    refine A4 ?_
    go_roundw
    case rel => exact ⟨i + 1, by omega, by go_num, Hno.out, hG⟩
    case measure => simp [intOf]; omega
  ·obtain rfl : n = i := by omega
   have hdec : decide ((n : Int) < (n : Int)) = false := by simp
   have hv : V = false := by
    rw [HV.out, List.any_eq_false]
    intro y hy
    obtain ⟨j, hj, rfl⟩ := List.getElem_of_mem hy
    simpa using hno j hj (by rw [Hn.out]; exact hj)
   rw [hv]
   clear hno
   refine wp_seq ?_
   refine r0T ?_
   refine wp_cond_false (rfl) ?_
   refine wp_exit ?_
   refine B4 ?_
   refine B4 ?_
   refine E1 ?_
   refine A4 ?_
   refine r0T ?_
   refine rt Tryz.results62 ?_
   exact ⟨rfl, hG⟩
theorem A9W {u : World} {B g cap m : Nat} {l : List Int} (h : u.ownsRow B 3 1 (.slice (some ⟨g, 0, none⟩) m cap) m (iv l)) (hl : l.length = m) {i : Nat} (hi : i < m) : u.cell? ⟨g, i, none⟩ = some (.int .i64 (gi l i)) := by
 rw [h.cellAt i (by omega), List.getElem?_map, List.getElem?_eq_getElem (by omega)]
 simp [gi, show i < l.length by omega]
theorem B2Q (R N : Ax) (n m : Nat) (ns : List NdT) (hm : ns.length = m) (hm2 : m ≤ 300) (d : Nat) (hd : B8 ns 0 = some (m, d)) (w : World) (hN : Le ndL 4 w N.1 ns) :
  Calls Tryz.prog 33 #[E6 R n N m] w fun e w' => e = .returned (.int .i64 (d : Nat)) ∧ A3 w w' := by
 obtain ⟨RA, RC⟩ := R
 obtain ⟨NA, NC⟩ := N
 simp only at hN
 have hpt := fun (bw ge : Nat) (h1 : w.heap.size ≤ bw) (h2 : w.heap.size ≤ ge) (h3 : bw ≠ ge) => A6m bw ge m n m (RA, RC) (NA, NC) ns hm hm2 w h1 h2 h3 hN (ns.length + 1)
 have hmk := A4x m (by omega) (m : Int) rfl
 have Hpt := Lib.hid hpt
 have Hmk := Lib.hid hmk
 have Hd := Lib.hid hd
 have Hm := Lib.hid hm
 clear hpt hmk hN hd hm
 go_enter Tryz.func33, Tryz.ntmps33
 refine en1 ?_
 intro u hG b1 hB hF
 refine wp_seq ?_
 refine Code.wp_mono NoP.up ?_
 have hl1 := hB.head.lt
 have f1 := hB.head.cell 0
 have f2 := hB.head.cell 1
 simp only [List.getElem?_toArray, List.getElem?_cons_zero, List.getElem?_cons_succ] at f1 f2
 refine wp_region_held_drew (S := fun w' => w'.cell? ⟨b1, 0, none⟩ = some (.slice RA n RC) ∧ w'.cell? ⟨b1, 1, none⟩ = some (.slice NA m NC)) (by kernel_rfl) ⟨f1, f2⟩ (fun hHeld => ?_)
 refine wpAnyH_take (i := 0) (v := ?_) rfl (by kernel_rfl) (by kernel_rfl) (by kernel_rfl) (fun _ _ _ h => h) (Or.inl ⟨by rfl, ?_⟩) (by assumption) ?_
 rotate_left
 ·(intro w hSw; go_simp; (try with_reducible rfl))
 (try simp only [Act.put, List.setIfInBounds_toArray, List.set_cons_zero, List.set_cons_succ])
 refine wpAnyH_take (i := 1) (v := ?_) rfl (by kernel_rfl) (by kernel_rfl) (by kernel_rfl) (fun _ _ _ h => h) (Or.inl ⟨by rfl, ?_⟩) (by assumption) ?_
 rotate_left
 ·(intro w hSw; go_simp; (try with_reducible rfl))
 (try simp only [Act.put, List.setIfInBounds_toArray, List.set_cons_zero, List.set_cons_succ])
 refine wpAnyH_take (i := 2) (v := ?_) rfl (by kernel_rfl) (by kernel_rfl) (by kernel_rfl) (fun _ _ _ h => h) (Or.inl ⟨by rfl, ?_⟩) (by assumption) ?_
 rotate_left
 ·(intro w hSw; go_simp; (try with_reducible rfl))
 (try simp only [Act.put, List.setIfInBounds_toArray, List.set_cons_zero, List.set_cons_succ])
 refine wpAnyH_take (i := 3) (v := ?_) rfl (by kernel_rfl) (by kernel_rfl) (by kernel_rfl) (fun _ _ _ h => h) (Or.inl ⟨by rfl, ?_⟩) (by assumption) ?_
 rotate_left
 ·(intro w hSw; go_simp; (try with_reducible rfl))
 (try simp only [Act.put, List.setIfInBounds_toArray, List.set_cons_zero, List.set_cons_succ])
 refine wpAnyH_ready (rs := [4]) (by kernel_rfl) (by simp) (AllReadyH.cons rfl (fun K hK => ?_) AllReadyH.nil)
 have hmk := Hmk.out
 go_simp
 refine hK.out _ _ ?_ (fun hHeld => ?_)
 ·go_keep
 clear hK K hmk
 (try simp only [Act.put, List.setIfInBounds_toArray, List.set_cons_zero, List.set_cons_succ])
 refine wpAnyH_take (i := 5) (v := ?_) rfl (by kernel_rfl) (by kernel_rfl) (by kernel_rfl) (fun _ _ _ h => h) (Or.inl ⟨by rfl, ?_⟩) (by assumption) ?_
 rotate_left
 ·(intro w hSw; go_simp; (try with_reducible rfl))
 (try simp only [Act.put, List.setIfInBounds_toArray, List.set_cons_zero, List.set_cons_succ])
 refine wpAnyH_ready (rs := [6]) (by kernel_rfl) (by simp) (AllReadyH.cons rfl (fun K hK => ?_) AllReadyH.nil)
 go_simp
 refine hK.out _ _ ?_ (fun hHeld => ?_)
 ·go_keep
 clear hK K
 (try simp only [Act.put, List.setIfInBounds_toArray, List.set_cons_zero, List.set_cons_succ])
 refine wpAnyH_take (i := 7) (v := ?_) rfl (by kernel_rfl) (by kernel_rfl) (by kernel_rfl) (fun _ _ _ h => h) (Or.inl ⟨by rfl, ?_⟩) (by assumption) ?_
 rotate_left
 ·(intro w hSw; go_simp; (try with_reducible rfl))
 (try simp only [Act.put, List.setIfInBounds_toArray, List.set_cons_zero, List.set_cons_succ])
 refine wpAnyH_done (by kernel_rfl) ?_ _
 refine NoP.norm ?_
 simp only [List.getElem_toArray, List.getElem_cons_succ, List.getElem_cons_zero, List.set_cons_succ, List.set_cons_zero]
 clear f1 f2
 clear hHeld
 generalize hv0 : World.alloc u _ = v0
 have hrow := A5Q (B := w.heap.size) hG.sz (by omega) hv0
 have hs0 : v0.heap.size = u.heap.size + 1 := by rw [← hv0, F0]
 generalize hv1 : World.alloc v0 _ = v1
 have hbk : Blk v1 v0.heap.size 122 #[.slice RA n RC, .slice NA m NC, .slice (some ⟨u.heap.size, 0, none⟩) m m, .int .i64 0] := hv1 ▸ Blk.new v0 122 _
 have hg1 : A3 v0 v1 := hv1 ▸ A3.alloc v0 _
 have hG1 : A3 w v1 := (hG.trans (hv0 ▸ A3.alloc u _)).trans hg1
 have PW : PartW v0.heap.size u.heap.size m n m (RA, RC) (NA, NC) w.heap.size 0 (List.replicate m 0) v1 := ⟨hbk, D4 hrow hg1⟩
 have hc0 : Calls Tryz.prog 61 #[.pointer (some ⟨v0.heap.size, 0, none⟩), .int .i64 0, .int .i64 0] v1.drew _ := (Hpt.out v0.heap.size u.heap.size (by have := hG.size; omega) hG.size (by omega) 0 0 0 (List.replicate m 0) v1.drew (hG1.trans (A3.drew v1)) (by omega) (by omega) (by have := Hm.out; omega) List.length_replicate (PW.grow (A3.drew v1)))
 have hB2 : Bx v1.drew [] := Bx.nil _
 have hG2 := hG1.trans (A3.drew v1)
 have Hc := Lib.hid hc0
 clear hc0
 rw [hs0] at Hc
 generalize u.heap.size + 1 = bw at Hc ⊢
 generalize u.heap.size = ge at Hc ⊢
 clear hB hG hrow hs0 hbk hg1 hG1 PW hv0 hv1 hl1
 have hB := hB2
 have hG := hG2
 clear hB2 hG2
 generalize v1.drew = v2 at Hc hB hG ⊢
 obtain ⟨u, rfl⟩ : ∃ x, x = v2 := ⟨_, rfl⟩
 refine A4 ?_
 refine wp_seq ?_
 refine G5 ?_
 intro K hN
 go_wp2_with (go_at_call 61; refine Hc.out.mono ?_; rintro e w5 ⟨rfl, far1, es1, q0, q1, q2, q3, q4⟩)
 have q5 := (q4 m d Hd.out).1
 have hf1 : far1 = d := by omega
 rw [hf1] at q1
 have Hbk := Lib.hid (fun (W : World) (hg : A3 w5 W) => ((q1.blk.grow hg).cell 3 : W.cell? ⟨bw, 3, none⟩ = some (.int .i64 (d : Nat))))
 have hB2 : Bx w5 [] := Bx.nil _
 clear hB hG q0 q1 q2 q4 q5 hf1 Hc
 have hB := hB2
 have hG := q3
 clear hB2 q3
 refine NoK.norm (hN _ _ ?_)
 clear hN K
 obtain ⟨u, rfl⟩ : ∃ x, x = w5 := ⟨_, rfl⟩
 refine A4 ?_
 refine wp_seq ?_
 have q0 := Hbk.out u (A3.refl u)
 refine r0N ?_
 refine rt Tryz.results33 ?_
 exact ⟨rfl, hG⟩
end Go.Proofs.YtjmopgepnndckaaGreatDoor
