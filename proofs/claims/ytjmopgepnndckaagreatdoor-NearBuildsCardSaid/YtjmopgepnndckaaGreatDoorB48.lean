/-
  Contracts and laws: NearRG NearPB NearDc.
-/
import Derived.Test.YtjmopgepnndckaaGreatDoorB45
import Derived.Test.YtjmopgepnndckaaGreatDoorB47
set_option linter.unusedSimpArgs false
set_option linter.unusedVariables false
namespace Go.Proofs.YtjmopgepnndckaaGreatDoor
open Go Go.RowKit
theorem ahead_lt (X : List (List Rat)) (c a b : Nat) : (¬ leC X c b a) ↔ (ent X a c < ent X b c ∨ (ent X a c = ent X b c ∧ a < b)) := by
 unfold leC
 by_cases h1 : ent X a c < ent X b c
 ·have h2 : ¬ ent X b c < ent X a c := by grind
  have h3 : ent X b c ≠ ent X a c := by grind
  simp [h1, h2, h3]
 ·by_cases h2 : ent X b c < ent X a c
  ·have h3 : ent X a c ≠ ent X b c := by grind
   simp [h1, h2, h3]
  ·have e : ent X a c = ent X b c := by grind
   simp [e, Rat.lt_irrefl]
theorem cmpQ_neg {x y : Rat} : (cmpQ x y < 0) ↔ x < y := by
 unfold cmpQ
 by_cases h1 : x < y
 ·simp [h1]
 ·by_cases h2 : y < x <;> simp [h1, h2]
theorem cmpQ_eq {x y : Rat} : (cmpQ x y = 0) ↔ x = y := by
 unfold cmpQ
 by_cases h1 : x < y
 ·have : x ≠ y := by grind
  simp [h1, this]
 ·by_cases h2 : y < x
  ·have : x ≠ y := by grind
   simp [h1, h2, this]
  ·have : x = y := by grind
   simp [this, Rat.lt_irrefl]
set_option maxHeartbeats 2000000 in
set_option maxRecDepth 100000 in
theorem ref22_ahead (A : Option Addr) (rs : List Rq) (n Lw c col a b : Nat) (hn : rs.length = n) (hrl : ∀ r ∈ rs, r.2.2.length = Lw) (ha : a < n) (hb : b < n) (hcol : col < Lw) (s : Nat) (hs : ∀ r ∈ rs, ∀ x ∈ r.2.2, qs x ≤ s) (hBz : 2 * s + 1 ≤ BIG) (w : World) (h : Lrz w A rs) :
  Calls Tryz.prog 101 #[.slice A n c, .int .i64 (col : Nat), .int .i64 (a : Nat), .int .i64 (b : Nat)] w fun e w' => e = .returned (.bool (decide (¬ leC (rs.map (·.2.2)) col b a))) ∧ Grow w w' := by
 obtain ⟨bb, ob, rfl⟩ := h.addr (by omega)
 have hrow : ∀ i, i < n → ∃ (ba oa : Nat) (cr : Nat) (p : Az), qs (ent (rs.map (·.2.2)) i col) ≤ s ∧ ∀ W, Grow w W → W.cell? ⟨bb, ob + i, none⟩ = some (.slice (some ⟨ba, oa, none⟩) Lw cr) ∧ Rz W p (ent (rs.map (·.2.2)) i col) ∧ Cz W ba (oa + col * 3) p (ent (rs.map (·.2.2)) i col) := fun i hi => by
  have hil : i < rs.length := by omega
  have hL := hrl _ (List.getElem_mem hil)
  obtain ⟨h1, h2⟩ := h.read (List.getElem?_eq_getElem hil)
  obtain ⟨ba, oa, e⟩ := h2.addr (by omega)
  have er : ent (rs.map (·.2.2)) i col = gq rs[i].2.2 col := by
   rw [ent_gq]
   unfold rowR
   rw [List.getElem?_map, List.getElem?_eq_getElem hil]
   rfl
  rw [er]
  rw [e] at h2
  obtain ⟨p, hp⟩ := h2.read (i := col) (by omega)
  refine ⟨ba, oa, rs[i].2.1, p, hs _ (List.getElem_mem hil) _ (gq_mem (by omega)), fun W hg => ?_⟩
  obtain ⟨h3, -⟩ := (h.grow hg).read (List.getElem?_eq_getElem hil)
  rw [e, hL] at h3
  exact ⟨h3, hp W hg⟩
 obtain ⟨ba, oa, ca, p, za, ra⟩ := hrow a ha
 obtain ⟨bb2, ob2, cb, q, zb, rb⟩ := hrow b hb
 obtain ⟨V, hV⟩ : ∃ V, V = decide (¬ leC (rs.map (·.2.2)) col b a) := ⟨_, rfl⟩
 have hV2 : V = decide (ent (rs.map (·.2.2)) a col < ent (rs.map (·.2.2)) b col ∨ (ent (rs.map (·.2.2)) a col = ent (rs.map (·.2.2)) b col ∧ a < b)) := by
  rw [hV]
  exact decide_eq_decide.2 (ahead_lt _ _ _ _)
 rw [← hV]
 obtain ⟨x, hx⟩ : ∃ x, x = ent (rs.map (·.2.2)) a col := ⟨_, rfl⟩
 obtain ⟨y, hy⟩ : ∃ x, x = ent (rs.map (·.2.2)) b col := ⟨_, rfl⟩
 rw [← hx] at za
 rw [← hy] at zb
 rw [← hx, ← hy] at hV2
 simp only [← hx] at ra
 simp only [← hy] at rb
 have hcm := fun W (h1 : Rz W p x) (h2 : Rz W q y) => ref1_Cmp p.1 p.2 q.1 q.2 x y W h1.a h1.b h2.a h2.b (by omega)
 have hai : (a : Int) < (n : Int) := by omega
 have hbi : (b : Int) < (n : Int) := by omega
 have hci2 : (col : Int) < (Lw : Int) := by omega
 obtain ⟨P, hP⟩ : ∃ X, X = cmpQ x y := ⟨_, rfl⟩
 simp only [← hP] at hcm
 have Hcm := Lib.hid hcm
 have Ra := Lib.hid ra
 have Rb := Lib.hid rb
 have HP := Lib.hid hP
 have HV := Lib.hid hV2
 clear hcm ra rb hx hy za zb h hs hrl hn hrow hBz hV hV2 hP
 go_enter Tryz.func101, Tryz.ntmps101
 refine en0 ?_
 intro u hG hB hF
 refine wp_seq (rdC allocs [] [(0, 0), (0, 1), (0, 2), (0, 3), (0, 4), (0, 5), (0, 6), (0, 7), (0, 8), (0, 9), (0, 10), (0, 11), (0, 12), (0, 13), (1, 14)] hB hG fun K L hN hL => ?_)
 repeat first | refine gya ?_ | refine gyr ?_ | refine gna ?_ | refine gyb (by (rintro v ⟨hgu, hB, hG, -⟩ N hN; have r := hB.r; simp only [BxR] at r; obtain ⟨g1, -, q1, q2, q3⟩ := Ra.out v hG; obtain ⟨g2, -, y1, y2, y3⟩ := Rb.out v hG; go_simp; exact hN)) ?_
 refine gmd (C := fun v ⟨hgu, hB, hG, _⟩ => Hcm.out _ (Ra.out _ hG).2.1 (Rb.out _ hG).2.1) ?_
 refine geC hL ?_
 clear hB hG hL L
 rintro u ⟨-, hB, hG, -⟩
 refine gtT ?_
 clear hN K
 by_cases c1 : x < y
 ·have d1 : decide (P < 0) = true := decide_eq_true (by rw [HP.out]; exact cmpQ_neg.2 c1)
  have hv : V = true := by rw [HV.out]; simp [c1]
  rw [hv]
  clear hv c1
  refine r0T ?_
  refine rt Tryz.results101 ?_
  exact ⟨rfl, hG⟩
 ·have d1 : decide (P < 0) = false := decide_eq_false (by rw [HP.out]; exact fun h => c1 (cmpQ_neg.1 h))
  by_cases c2 : x = y
  ·have d2 : (P == 0) = true := by rw [HP.out]; simpa using cmpQ_eq.2 c2
   have d2n : decide (P = 0) = true := by rw [HP.out]; simpa using cmpQ_eq.2 c2
   by_cases c3 : a < b
   ·have d3 : decide ((a : Int) < (b : Int)) = true := by simp; omega
    have d3n : decide (a < b) = true := decide_eq_true c3
    have hv : V = true := by rw [HV.out]; simp [c2, c3]
    rw [hv]
    clear hv c1 c2 c3
    refine r0T ?_
    refine rt Tryz.results101 ?_
    exact ⟨rfl, hG⟩
   ·have d3 : decide ((a : Int) < (b : Int)) = false := by simp; omega
    have d3n : decide (a < b) = false := decide_eq_false c3
    have hv : V = false := by rw [HV.out]; simp [c2, c3, Rat.lt_irrefl]
    rw [hv]
    clear hv c1 c2 c3
    refine r0T ?_
    refine rt Tryz.results101 ?_
    exact ⟨rfl, hG⟩
  ·have d2 : (P == 0) = false := by rw [HP.out]; simpa using fun h => c2 (cmpQ_eq.1 h)
   have d2n : decide (P = 0) = false := by rw [HP.out]; simpa using fun h => c2 (cmpQ_eq.1 h)
   have hv : V = false := by rw [HV.out]; simp [c1, c2]
   rw [hv]
   clear hv c1 c2
   refine r0T ?_
   refine rt Tryz.results101 ?_
   exact ⟨rfl, hG⟩
/-- rows' numbers as values -/
abbrev nv (l : List Nat) : List Value := l.map fun (i : Nat) => Value.int .i64 (i : Int)
theorem nv_set (l : List Nat) (k x : Nat) : (nv l).set k (.int .i64 (x : Nat)) = nv (l.set k x) := by simp [nv, List.map_set]
theorem nv_app (l : List Nat) (x : Nat) : nv l ++ [.int .i64 (x : Nat)] = nv (l ++ [x]) := by simp [nv]
theorem nv_at {l : List Nat} {k : Nat} (h : k < l.length) : (nv l)[k]? = some (.int .i64 (l[k] : Nat)) := by simp [nv, h]
theorem li_nv {u : World} {B g cap m : Nat} {l : List Nat} (h : u.ownsRow B 3 1 (.slice (some ⟨g, 0, none⟩) m cap) m (nv l)) : Li u (some ⟨g, 0, none⟩) (ints l) := fun hne => by
 have hl : m = l.length := by have := h.1; simp [nv] at this; omega
 refine ⟨g, 0, rfl, (h.lt g rfl).2, fun i x hx => ?_⟩
 have hil := (List.getElem?_eq_some_iff.1 hx).1
 simp only [ints, List.length_map] at hil
 simp only [ints, List.getElem?_map, List.getElem?_eq_getElem hil, Option.map_some, Option.some.injEq] at hx
 rw [Nat.zero_add, h.cellAt i (by omega), nv_at hil, ← hx]
/-- the form of an own row -/
theorem own_shape {u : World} {B n k : Nat} {e : TypeId} {v : Value} {xs : List Value} (h : u.ownsRow B e k v n xs) : ∃ A c, v = .slice A n c := by
 obtain ⟨_, h | ⟨g, cap, cur, rfl, _⟩⟩ := h
 ·exact ⟨none, 0, by rw [h.1, h.2]⟩
 ·exact ⟨_, cap, rfl⟩
/-- in order up to a number more -/
theorem srtC_ins {X : List (List Rat)} {c k x : Nat} {ps is : List Nat} (hp : ps.Perm is) (hs : ps.Pairwise (leC X c)) (hk : k ≤ ps.length) (h1 : ∀ j (h : j < ps.length), k ≤ j → ¬ leC X c ps[j] x) (h2 : ∀ j (h : j < ps.length), j + 1 = k → leC X c ps[j] x) :
  (insAt ps k x).Perm (is ++ [x]) ∧ (insAt ps k x).Pairwise (leC X c) := by
 refine ⟨?_, insAt_sorted (R := leC X c) (fun h1 h2 => leC_trans h1 h2) ps k x hk hs (fun j h hj => (leC_total X c ps[j] x).resolve_left (h1 j h hj)) h2⟩
 refine (insAt_perm ps k x).trans ?_
 exact (List.Perm.cons x hp).trans (List.perm_append_singleton x is).symm
/-- what is known in the midst of the document's grow -/
structure GrR (w1 : World) (S : Nat → Prop) (b99 gl B : Nat) (ls : List Int) (NA : Option Addr) (NC kk : Nat) (ns : List NdT) (u : World) : Prop where
 K : KepS S w1 u
 l : Li u (some ⟨gl, 0, none⟩) ls
 gu : gl < u.heap.size
 own : u.ownsRow B 118 4 (.slice NA kk NC) kk (ns.flatMap ndL)
 len : ns.length = kk
 n9 : nbk NA ≠ some b99
 gn : nbk NA ≠ some gl
theorem GrR.grow {w1 : World} {S : Nat → Prop} {b99 gl B : Nat} {ls : List Int} {NA : Option Addr} {NC kk : Nat} {ns : List NdT} {u u' : World} (h : GrR w1 S b99 gl B ls NA NC kk ns u) (hg : Grow u u') : GrR w1 S b99 gl B ls NA NC kk ns u' :=
 ⟨h.K.grow hg, h.l.grow hg, Nat.lt_of_lt_of_le h.gu hg.size, own_grow' h.own hg, h.len, h.n9, h.gn⟩
theorem ei_RNode : EI 70 118 4 32 := ei_of (by kernel_rfl) (by kernel_rfl) (by omega)
/-- what the document's grow does for so many rows -/
def RGrowOK (b99 n L : Nat) (RA : Option Addr) (RC : Nat) (X : List (List Rat)) (w0 : World) (m : Nat) : Prop :=
 ∀ (is : List Nat) (col : Nat) (A : Option Addr) (c : Nat) (ns : List NdT) (NA : Option Addr) (NC k : Nat) (w : World), is.length = m → 0 < m → (∀ x ∈ is, x < n) → col < L → k = ns.length → k + m ≤ 1000000 → Grow w0 w → Li w A (ints is) →
  Blk w b99 72 #[.slice RA n RC, .slice NA k NC] → w.ownsRow w0.heap.size 118 4 (.slice NA k NC) k (ns.flatMap ndL) → nbk NA ≠ some b99 →
  Calls Tryz.prog 60 #[.pointer (some ⟨b99, 0, none⟩), .slice A m c, .int .i64 (col : Nat)] w fun e w' => e = .returned (.tuple #[]) ∧ ∃ (NA' : Option Addr) (NC' : Nat),
   Blk w' b99 72 #[.slice RA n RC, .slice NA' (k + m) NC'] ∧ w'.ownsRow w0.heap.size 118 4 (.slice NA' (k + m) NC') (k + m) ((ns ++ flatT (growT X L is col) k).flatMap ndL) ∧
   KepS (fun k => k = b99 ∨ nbk NA = some k) w w' ∧ (∀ k, nbk NA' = some k → nbk NA = some k ∨ w.heap.size ≤ k) ∧ Grow w0 w'
theorem growR_end {b99 n RC B : Nat} {RA : Option Addr} {gl k m kk NC' : Nat} {lsI : List Int} {NA NA' : Option Addr} {ns ns' T : List NdT} {w0 w1 u : World} {bl : List (Nat × TypeId × Array Value)}
  (GS : GrR w1 (fun k => (k = b99 ∨ nbk NA = some k) ∨ w1.heap.size ≤ k) b99 gl B lsI NA' NC' kk ns' u) (hB : Bx u ((b99, 72, #[.slice RA n RC, .slice NA' kk NC']) :: bl)) (hkk : kk = k + m) (hns : ns' = ns ++ T) (hnb : ∀ j, nbk NA' = some j → nbk NA = some j ∨ w1.heap.size ≤ j) (hG : Grow w0 u) :
  ∃ (NA' : Option Addr) (NC' : Nat), Blk u b99 72 #[.slice RA n RC, .slice NA' (k + m) NC'] ∧ u.ownsRow B 118 4 (.slice NA' (k + m) NC') (k + m) ((ns ++ T).flatMap ndL) ∧ KepS (fun k => k = b99 ∨ nbk NA = some k) w1 u ∧ (∀ k, nbk NA' = some k → nbk NA = some k ∨ w1.heap.size ≤ k) ∧ Grow w0 u := by
 subst hkk hns
 exact ⟨NA', NC', hB.head, GS.own, GS.K.mono (fun j hj e => e.elim id (fun h => absurd h (by omega))), hnb, hG⟩
end Go.Proofs.YtjmopgepnndckaaGreatDoor
namespace Go.Proofs.YtjmopgepnndckaaGreatDoor
open Go Go.RowKit
def KT.sh : KT → Sh
 | .none => .no
 | .node _ _ a b => .nd a.sh b.sh
theorem sh_size : ∀ t : KT, t.sh.size = t.size
 | .none => rfl
 | .node _ _ a b => by show a.sh.size + b.sh.size + 1 = a.size + b.size + 1; rw [sh_size a, sh_size b]
theorem sh_deep : ∀ t : KT, t.sh.deep = t.deep
 | .none => rfl
 | .node _ _ a b => by
  have ha := sh_deep a
  have hb := sh_deep b
  cases a <;> cases b <;> simp_all [KT.sh, Sh.deep, KT.deep]
/-- a tree's nodes lie in a list from number i on -/
def Placed (ns : List NdT) (t : KT) (i : Nat) : Prop := ∀ j, j < t.size → ns[i + j]? = (flatT t i)[j]?
theorem placed_node {ns : List NdT} {r c : Nat} {a b : KT} {i : Nat} (h : Placed ns (.node r c a b) i) : ns[i]? = some ⟨r, c, if a.size = 0 then 0 else (i + 1 : Nat), if b.size = 0 then 0 else (i + 1 + a.size : Nat)⟩ ∧ Placed ns a (i + 1) ∧ Placed ns b (i + 1 + a.size) := by
 refine ⟨?_, fun j hj => ?_, fun j hj => ?_⟩
 ·have := h 0 (Nat.succ_pos _)
  rw [Nat.add_zero] at this
  rw [this]
  rfl
 ·have := h (j + 1) (by show j + 1 < a.size + b.size + 1; omega)
  rw [show i + 1 + j = i + (j + 1) by omega, this]
  show (flatT a (i + 1) ++ flatT b (i + 1 + a.size))[j]? = _
  rw [List.getElem?_append_left (by rw [flatT_len]; exact hj)]
 ·have := h (a.size + j + 1) (by show a.size + j + 1 < a.size + b.size + 1; omega)
  rw [show i + 1 + a.size + j = i + (a.size + j + 1) by omega, this]
  show (flatT a (i + 1) ++ flatT b (i + 1 + a.size))[a.size + j]? = _
  rw [List.getElem?_append_right (by rw [flatT_len]; omega), flatT_len, Nat.add_sub_cancel_left]
theorem placed_lay {ns : List NdT} : ∀ (t : KT) (i : Nat), Placed ns t i → Lay ns t.sh i
 | .none, _, _ => trivial
 | .node r c a b, i, h => by
  obtain ⟨h1, h2, h3⟩ := placed_node h
  refine ⟨_, h1, ?_, ?_, placed_lay a _ h2, ?_⟩
  ·rw [sh_size]
  ·rw [sh_size, sh_size]
  ·rw [sh_size]; exact placed_lay b _ h3
/-- the rows of a part -/
theorem placed_rows {ns : List NdT} : ∀ (t : KT) (i : Nat), Placed ns t i → ∀ j, j < t.size → ∃ x, ns[i + j]? = some x ∧ ∃ r ∈ t.rows, x.r = (r : Nat)
 | .none, _, _, j, hj => absurd hj (Nat.not_lt_zero _)
 | .node r c a b, i, h, j, hj => by
  obtain ⟨h1, h2, h3⟩ := placed_node h
  have hs : (KT.node r c a b).size = a.size + b.size + 1 := rfl
  rw [hs] at hj
  cases j with
  | zero => exact ⟨_, h1, r, List.mem_cons_self, rfl⟩
  | succ j =>
   rcases Nat.lt_or_ge j a.size with hja | hja
   ·obtain ⟨x, hx, q, hq, e⟩ := placed_rows a (i + 1) h2 j hja
    exact ⟨x, by rw [show i + (j + 1) = i + 1 + j by omega]; exact hx, q, List.mem_cons_of_mem _ (List.mem_append_left _ hq), e⟩
   ·obtain ⟨x, hx, q, hq, e⟩ := placed_rows b (i + 1 + a.size) h3 (j - a.size) (by omega)
    exact ⟨x, by rw [show i + (j + 1) = i + 1 + a.size + (j - a.size) by omega]; exact hx, q, List.mem_cons_of_mem _ (List.mem_append_right _ hq), e⟩
theorem cmpQ_le {x y : Rat} (h : x ≤ y) : decide (0 < cmpQ x y) = false := decide_eq_false fun h1 => by
 unfold cmpQ at h1
 split at h1
 ·omega
 ·split at h1
  ·rename_i h2 h3
   exact absurd h (Rat.not_le.2 h3)
  ·omega
theorem cmpQ_ge {x y : Rat} (h : y ≤ x) : decide (cmpQ x y < 0) = false := decide_eq_false fun h1 => absurd h (Rat.not_le.2 (cmpQ_neg.1 h1))
/-- no node of a part stands on a wrong side -/
theorem wrong_flat {X : List (List Rat)} {ns : List NdT} : ∀ (t : KT) (i : Nat), Placed ns t i → t.ok X → ∀ k, i ≤ k → k < i + t.size → wrongI X ns k = false
 | .none, i, _, _, k, h1, h2 => by simp [KT.size] at h2; omega
 | .node r c a b, i, h, ⟨ha, hb, hla, hlb⟩, k, h1, h2 => by
  obtain ⟨g1, g2, g3⟩ := placed_node h
  have hs : (KT.node r c a b).size = a.size + b.size + 1 := rfl
  rw [hs] at h2
  rcases Nat.eq_or_lt_of_le h1 with rfl | h1
  ·have hlay := placed_lay _ _ h
   have hz : (KT.node r c a b).sh.size = a.size + b.size + 1 := sh_size _
   have hln := lay_len _ _ hlay (by omega)
   have hp : partN ns i = some (i + (a.size + b.size + 1), (KT.node r c a b).sh.deep) := by
    have := lay_endF ns _ i (ns.length + 1) (by omega) hlay (by omega)
    rw [hz] at this
    exact this
   refine wrong_no fun j hj1 hj2 => ?_
   rw [hp] at hj2
   have hj2 : j < i + (a.size + b.size + 1) := hj2
   have hr := rightN_at g1
   rw [hp] at hr
   have hr : rightN ns i = if (if b.size = 0 then (0 : Int) else (i + 1 + a.size : Nat)) = 0 then ((i + (a.size + b.size + 1) : Nat) : Int) else (if b.size = 0 then 0 else (i + 1 + a.size : Nat)) := hr
   rcases Nat.lt_or_ge j (i + 1 + a.size) with hja | hja
   ·obtain ⟨x, hx, q, hq, e⟩ := placed_rows a (i + 1) g2 (j - (i + 1)) (by omega)
    rw [show i + 1 + (j - (i + 1)) = j by omega] at hx
    rw [wrongN_at g1 hx]
    have hle := hla q hq
    have h3 : rightN ns i = ((i + 1 + a.size : Nat) : Int) := by
     rw [hr]
     by_cases hb0 : b.size = 0
     ·simp [hb0]; omega
     ·rw [if_neg hb0, if_neg (by omega)]
    have d1 : decide (rightN ns i ≤ (j : Int)) = false := decide_eq_false (by omega)
    rw [d1, e]
    simp only [Int.toNat_natCast]
    rw [cmpQ_le hle]
    simp
   ·have hb0 : b.size ≠ 0 := by omega
    obtain ⟨x, hx, q, hq, e⟩ := placed_rows b (i + 1 + a.size) g3 (j - (i + 1 + a.size)) (by omega)
    rw [show i + 1 + a.size + (j - (i + 1 + a.size)) = j by omega] at hx
    rw [wrongN_at g1 hx]
    have hle := hlb q hq
    have h3 : rightN ns i = ((i + 1 + a.size : Nat) : Int) := by
     rw [hr, if_neg hb0, if_neg (by omega)]
    have d1 : decide ((j : Int) < rightN ns i) = false := decide_eq_false (by omega)
    rw [d1, e]
    simp only [Int.toNat_natCast]
    rw [cmpQ_ge hle]
    simp
  ·rcases Nat.lt_or_ge k (i + 1 + a.size) with h4 | h4
   ·exact wrong_flat a (i + 1) g2 ha k (by omega) (by omega)
   ·exact wrong_flat b (i + 1 + a.size) g3 hb k (by omega) (by omega)
theorem flat_rows : ∀ (t : KT) (i : Nat), (flatT t i).map (·.r) = t.rows.map fun (r : Nat) => (r : Int)
 | .none, _ => rfl
 | .node r c a b, i => by
  show (_ :: (flatT a (i + 1) ++ flatT b (i + 1 + a.size))).map _ = (r :: (a.rows ++ b.rows)).map _
  simp [flat_rows a, flat_rows b]
theorem flat_cols {w : Nat} : ∀ (t : KT) (i : Nat), t.cols w → ∀ x ∈ flatT t i, 0 ≤ x.c ∧ x.c < (w : Int)
 | .none, _, _, x, hx => by cases hx
 | .node r c a b, i, ⟨hc, ha, hb⟩, x, hx => by
  have hx : x ∈ _ :: (flatT a (i + 1) ++ flatT b (i + 1 + a.size)) := hx
  rcases List.mem_cons.1 hx with rfl | hx
  ·exact ⟨Int.natCast_nonneg _, by show (c : Int) < w; omega⟩
  ·rcases List.mem_append.1 hx with hx | hx
   ·exact flat_cols a _ ha x hx
   ·exact flat_cols b _ hb x hx
/-- a tree with all rows, each once, each on its side, may be -/
theorem check_flat {X : List (List Rat)} {w : Nat} {t : KT} (hok : t.ok X) (hc : t.cols w) (hr : t.rows.Perm (List.range X.length)) (h0 : 0 < X.length) : checkN X w (flatT t 0) = 0 ∧ partN (flatT t 0) 0 = some (X.length, t.deep) := by
 have hpl : Placed (flatT t 0) t 0 := fun j _ => by rw [Nat.zero_add]
 have hrl : t.rows.length = t.size := by
  have h := congrArg List.length (flat_rows t 0)
  simp only [List.length_map, flatT_len] at h
  exact h.symm
 have hsz : t.size = X.length := by rw [← hrl, hr.length_eq, List.length_range]
 have hlen : (flatT t 0).length = X.length := by rw [flatT_len, hsz]
 have hlay := placed_lay _ _ hpl
 have hz := sh_size t
 have hp : partN (flatT t 0) 0 = some (X.length, t.deep) := by
  have := lay_endF (flatT t 0) t.sh 0 ((flatT t 0).length + 1) (by omega) hlay (by omega)
  rw [Nat.zero_add, hz, hsz, sh_deep] at this
  exact this
 have hnd : t.rows.Nodup := hr.nodup_iff.2 List.nodup_range
 refine ⟨checkN_ok hlen (fun h => ?_) (fun k hk => ?_) (fun i hi => ?_), hp⟩
 ·rw [hp] at h
  rcases h with h | h
  ·cases h
  ·exact h hlen.symm
 ·have hx := List.getElem?_eq_getElem hk
  rw [badN_at hx]
  have h1 := flat_cols t 0 hc _ (List.getElem_mem hk)
  have h2 : (flatT t 0)[k].r ∈ (flatT t 0).map (·.r) := List.mem_map_of_mem (f := fun x : NdT => x.r) (List.getElem_mem hk)
  rw [flat_rows] at h2
  obtain ⟨q, hq, e⟩ := List.mem_map.1 h2
  have hqn : q < X.length := List.mem_range.1 (hr.mem_iff.1 hq)
  have h3 : seenN (flatT t 0) k (flatT t 0)[k].r = false := by
   unfold seenN
   rw [List.any_eq_false]
   intro y hy he
   have he := of_decide_eq_true he
   have hnd2 : ((flatT t 0).map (·.r)).Nodup := by
    rw [flat_rows]
    refine List.Pairwise.map _ (fun a b hab h => hab (Int.ofNat.inj h)) hnd
   obtain ⟨j, hj, rfl⟩ := List.getElem_of_mem hy
   rw [List.length_take] at hj
   rw [List.getElem_take] at he
   have h4 := List.pairwise_iff_getElem.1 hnd2 j k (by simp; omega) (by simpa using hk) (by omega)
   simp only [List.getElem_map] at h4
   exact h4 he
  rw [h3, ← e]
  simp
  omega
 ·exact wrong_flat t 0 hpl hok i (Nat.zero_le _) (by rw [Nat.zero_add, ← flatT_len t 0]; exact hi)
/-- what holds of a tree that was built -/
theorem built_ok (X : List (List Rat)) (w : Nat) (hw : 0 < w) (h0 : 0 < X.length) : checkN X w (flatT (growT X w (List.range X.length) 0) 0) = 0 ∧ partN (flatT (growT X w (List.range X.length) 0) 0) 0 = some (X.length, (growT X w (List.range X.length) 0).deep) ∧ 2 ^ (growT X w (List.range X.length) 0).deep ≤ X.length := by
 obtain ⟨h1, h2⟩ := growT_ok X w hw X.length (List.range X.length) 0 List.length_range hw
 obtain ⟨h3, h4⟩ := check_flat h1 h2 (growT_rows X w X.length (List.range X.length) 0 List.length_range) h0
 exact ⟨h3, h4, growT_deep X w X.length (List.range X.length) 0 List.length_range h0⟩
end Go.Proofs.YtjmopgepnndckaaGreatDoor
namespace Go.Proofs.YtjmopgepnndckaaGreatDoor
open Go Go.RowKit
theorem ref22_part (b99 ge EC n m : Nat) (R N : Ax) (ns : List NdT) (hm : ns.length = m) (hm2 : m ≤ 300) (w0 : World) (hbw : w0.heap.size ≤ b99) (hge : w0.heap.size ≤ ge) (hne : b99 ≠ ge) (hN : Le ndL 4 w0 N.1 ns) (f : Nat) : PartOK b99 ge EC n m R N ns w0 f := by
 induction f with
 | zero => exact ref22_part_step b99 ge EC n m R N ns hm hm2 w0 hbw hge hne hN 0 (fun f' e => by omega)
 | succ f ih => exact ref22_part_step b99 ge EC n m R N ns hm hm2 w0 hbw hge hne hN (f + 1) (fun f' e => by cases e; exact ih)
set_option maxHeartbeats 4000000 in
set_option maxRecDepth 100000 in
theorem ref22_DepthOf (R N : Ax) (n m : Nat) (ns : List NdT) (hm : ns.length = m) (hm2 : m ≤ 300) (d : Nat) (hd : partN ns 0 = some (m, d)) (w : World) (hN : Le ndL 4 w N.1 ns) :
  Calls Tryz.prog 33 #[treeV R n N m] w fun e w' => e = .returned (.int .i64 (d : Nat)) ∧ Grow w w' := by
 obtain ⟨RA, RC⟩ := R
 obtain ⟨NA, NC⟩ := N
 simp only at hN
 have hpt := fun (bw ge : Nat) (h1 : w.heap.size ≤ bw) (h2 : w.heap.size ≤ ge) (h3 : bw ≠ ge) => ref22_part bw ge m n m (RA, RC) (NA, NC) ns hm hm2 w h1 h2 h3 hN (ns.length + 1)
 have hmk := make_int m (by omega) (m : Int) rfl
 have Hpt := Lib.hid hpt
 have Hmk := Lib.hid hmk
 have Hd := Lib.hid hd
 have Hm := Lib.hid hm
 clear hpt hmk hN hd hm
 go_enter Tryz.func33, Tryz.ntmps33
 refine en1 ?_
 intro u hG b1 hB hF
 refine wp_seq ?_
 refine Code.wp_mono NoP.up ?_
 have hl1 := hB.head.lt
 have f1 := hB.head.cell 0
 have f2 := hB.head.cell 1
 simp only [List.getElem?_toArray, List.getElem?_cons_zero, List.getElem?_cons_succ] at f1 f2
 refine wp_region_held_drew (S := fun w' => w'.cell? ⟨b1, 0, none⟩ = some (.slice RA n RC) ∧ w'.cell? ⟨b1, 1, none⟩ = some (.slice NA m NC)) (by kernel_rfl) ⟨f1, f2⟩ (fun hHeld => ?_)
 refine wpAnyH_take (i := 0) (v := ?_) rfl (by kernel_rfl) (by kernel_rfl) (by kernel_rfl) (fun _ _ _ h => h) (Or.inl ⟨by rfl, ?_⟩) (by assumption) ?_
 rotate_left
 ·(intro w hSw; go_simp; (try with_reducible rfl))
 (try simp only [Act.put, List.setIfInBounds_toArray, List.set_cons_zero, List.set_cons_succ])
 refine wpAnyH_take (i := 1) (v := ?_) rfl (by kernel_rfl) (by kernel_rfl) (by kernel_rfl) (fun _ _ _ h => h) (Or.inl ⟨by rfl, ?_⟩) (by assumption) ?_
 rotate_left
 ·(intro w hSw; go_simp; (try with_reducible rfl))
 (try simp only [Act.put, List.setIfInBounds_toArray, List.set_cons_zero, List.set_cons_succ])
 refine wpAnyH_take (i := 2) (v := ?_) rfl (by kernel_rfl) (by kernel_rfl) (by kernel_rfl) (fun _ _ _ h => h) (Or.inl ⟨by rfl, ?_⟩) (by assumption) ?_
 rotate_left
 ·(intro w hSw; go_simp; (try with_reducible rfl))
 (try simp only [Act.put, List.setIfInBounds_toArray, List.set_cons_zero, List.set_cons_succ])
 refine wpAnyH_take (i := 3) (v := ?_) rfl (by kernel_rfl) (by kernel_rfl) (by kernel_rfl) (fun _ _ _ h => h) (Or.inl ⟨by rfl, ?_⟩) (by assumption) ?_
 rotate_left
 ·(intro w hSw; go_simp; (try with_reducible rfl))
 (try simp only [Act.put, List.setIfInBounds_toArray, List.set_cons_zero, List.set_cons_succ])
 refine wpAnyH_ready (rs := [4]) (by kernel_rfl) (by simp) (AllReadyH.cons rfl (fun K hK => ?_) AllReadyH.nil)
 have hmk := Hmk.out
 go_simp
 refine hK.out _ _ ?_ (fun hHeld => ?_)
 ·go_keep
 clear hK K hmk
 (try simp only [Act.put, List.setIfInBounds_toArray, List.set_cons_zero, List.set_cons_succ])
 refine wpAnyH_take (i := 5) (v := ?_) rfl (by kernel_rfl) (by kernel_rfl) (by kernel_rfl) (fun _ _ _ h => h) (Or.inl ⟨by rfl, ?_⟩) (by assumption) ?_
 rotate_left
 ·(intro w hSw; go_simp; (try with_reducible rfl))
 (try simp only [Act.put, List.setIfInBounds_toArray, List.set_cons_zero, List.set_cons_succ])
 refine wpAnyH_ready (rs := [6]) (by kernel_rfl) (by simp) (AllReadyH.cons rfl (fun K hK => ?_) AllReadyH.nil)
 go_simp
 refine hK.out _ _ ?_ (fun hHeld => ?_)
 ·go_keep
 clear hK K
 (try simp only [Act.put, List.setIfInBounds_toArray, List.set_cons_zero, List.set_cons_succ])
 refine wpAnyH_take (i := 7) (v := ?_) rfl (by kernel_rfl) (by kernel_rfl) (by kernel_rfl) (fun _ _ _ h => h) (Or.inl ⟨by rfl, ?_⟩) (by assumption) ?_
 rotate_left
 ·(intro w hSw; go_simp; (try with_reducible rfl))
 (try simp only [Act.put, List.setIfInBounds_toArray, List.set_cons_zero, List.set_cons_succ])
 refine wpAnyH_done (by kernel_rfl) ?_ _
 refine NoP.norm ?_
 simp only [List.getElem_toArray, List.getElem_cons_succ, List.getElem_cons_zero, List.set_cons_succ, List.set_cons_zero]
 clear f1 f2
 clear hHeld
 generalize hv0 : World.alloc u _ = v0
 have hrow := own_made_I (B := w.heap.size) hG.sz (by omega) hv0
 have hs0 : v0.heap.size = u.heap.size + 1 := by rw [← hv0, alloc_size]
 generalize hv1 : World.alloc v0 _ = v1
 have hbk : Blk v1 v0.heap.size 122 #[.slice RA n RC, .slice NA m NC, .slice (some ⟨u.heap.size, 0, none⟩) m m, .int .i64 0] := hv1 ▸ Blk.new v0 122 _
 have hg1 : Grow v0 v1 := hv1 ▸ Grow.alloc v0 _
 have hG1 : Grow w v1 := (hG.trans (hv0 ▸ Grow.alloc u _)).trans hg1
 have PW : PartW v0.heap.size u.heap.size m n m (RA, RC) (NA, NC) w.heap.size 0 (List.replicate m 0) v1 := ⟨hbk, own_grow' hrow hg1⟩
 have hc0 : Calls Tryz.prog 61 #[.pointer (some ⟨v0.heap.size, 0, none⟩), .int .i64 0, .int .i64 0] v1.drew _ := (Hpt.out v0.heap.size u.heap.size (by have := hG.size; omega) hG.size (by omega) 0 0 0 (List.replicate m 0) v1.drew (hG1.trans (Grow.drew v1)) (by omega) (by omega) (by have := Hm.out; omega) List.length_replicate (PW.grow (Grow.drew v1)))
 have hB2 : Bx v1.drew [] := Bx.nil _
 have hG2 := hG1.trans (Grow.drew v1)
 have Hc := Lib.hid hc0
 clear hc0
 rw [hs0] at Hc
 generalize u.heap.size + 1 = bw at Hc ⊢
 generalize u.heap.size = ge at Hc ⊢
 clear hB hG hrow hs0 hbk hg1 hG1 PW hv0 hv1 hl1
 have hB := hB2
 have hG := hG2
 clear hB2 hG2
 generalize v1.drew = v2 at Hc hB hG ⊢
 obtain ⟨u, rfl⟩ : ∃ x, x = v2 := ⟨_, rfl⟩
 refine then_norm ?_
 refine wp_seq ?_
 refine wp_r0 ?_
 intro K hN
 go_wp2_with (go_at_call 61; refine Hc.out.mono ?_; rintro e w5 ⟨rfl, far1, es1, q0, q1, q2, q3, q4⟩)
 have q5 := (q4 m d Hd.out).1
 have hf1 : far1 = d := by omega
 rw [hf1] at q1
 have Hbk := Lib.hid (fun (W : World) (hg : Grow w5 W) => ((q1.blk.grow hg).cell 3 : W.cell? ⟨bw, 3, none⟩ = some (.int .i64 (d : Nat))))
 have hB2 : Bx w5 [] := Bx.nil _
 clear hB hG q0 q1 q2 q4 q5 hf1 Hc
 have hB := hB2
 have hG := q3
 clear hB2 q3
 refine NoK.norm (hN _ _ ?_)
 clear hN K
 obtain ⟨u, rfl⟩ : ∃ x, x = w5 := ⟨_, rfl⟩
 refine then_norm ?_
 refine wp_seq ?_
 have q0 := Hbk.out u (Grow.refl u)
 refine r0N ?_
 refine rt Tryz.results33 ?_
 exact ⟨rfl, hG⟩
end Go.Proofs.YtjmopgepnndckaaGreatDoor
