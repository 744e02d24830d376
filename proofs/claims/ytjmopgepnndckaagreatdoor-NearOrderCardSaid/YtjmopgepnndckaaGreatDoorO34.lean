/-
  Contracts and laws: RowB Own Apart Ins.
-/
import Derived.Test.YtjmopgepnndckaaGreatDoorO30
import Derived.Test.YtjmopgepnndckaaGreatDoorO31
import Derived.Deep.Onto
set_option linter.unusedSimpArgs false
set_option linter.unusedVariables false
namespace Go.Proofs.YtjmopgepnndckaaGreatDoor
open Go.RowKit
theorem Rz.a {u : World} {p : Az} {q : Rat} (h : Rz u p q) : Rn u p.1 q.num.natAbs := h.1
theorem Rz.b {u : World} {p : Az} {q : Rat} (h : Rz u p q) : Rn u p.2 q.den := h.2
theorem Rz.put {u u' : World} {p : Az} {q : Rat} (h : Rz u p q) {bl : List (Nat × TypeId × Array Value)} (hB : Bx u bl) (k : Nat) {b : Nat} {t : TypeId} {cs : Array Value} (hk : bl[k]? = some (b, t, cs)) (ht : t ≠ 162) (i : Nat) (vs : List Value) (hu : putAll u b i vs = u') : Rz u' p q := ⟨h.1.put hB k hk ht i vs hu, h.2.put hB k hk ht i vs hu⟩
theorem Rz.own {u w' : World} {B : Nat} {e : TypeId} {size n : Nat} {v : Value} {xs : List Value} {o : Obj} {p : Az} {q : Rat} (hl : Rz u p q) (h : u.ownsRow B e size v n xs) (ht : e ≠ 162) (hg : (u.alloc o).grownBy w' v.ownBlock) : Rz w' p q := ⟨hl.1.own h ht hg, hl.2.own h ht hg⟩
def zL (p : Az) (q : Rat) : List Value := [.bool (intNeg q.num), .slice p.1.1 (ln q.num.natAbs) p.1.2, .slice p.2.1 (ln q.den) p.2.2]
/-- the three cells of a fraction of the document's -/
def Cz (u : World) (b i : Nat) (p : Az) (q : Rat) : Prop :=
 u.cell? ⟨b, i, none⟩ = some (.bool (intNeg q.num)) ∧ u.cell? ⟨b, i + 1, none⟩ = some (.slice p.1.1 (ln q.num.natAbs) p.1.2) ∧ u.cell? ⟨b, i + 2, none⟩ = some (.slice p.2.1 (ln q.den) p.2.2)
/-- fractions of the document's that lie from the address on -/
def Lz (u : World) (A : Option Addr) (l : List Rat) : Prop :=
 l ≠ [] → ∃ b off, A = some ⟨b, off, none⟩ ∧ b < u.heap.size ∧ ∀ i, i < l.length → ∃ p : Az, Rz u p (gq l i) ∧ Cz u b (off + i * 3) p (gq l i)
theorem Cz.grow {u u' : World} {b i : Nat} {p : Az} {q : Rat} (h : Cz u b i p q) (hb : b < u.heap.size) (hg : Grow u u') : Cz u' b i p q :=
 ⟨(hg.cell (p := ⟨b, i, none⟩) hb).trans h.1, (hg.cell (p := ⟨b, i + 1, none⟩) hb).trans h.2.1, (hg.cell (p := ⟨b, i + 2, none⟩) hb).trans h.2.2⟩
theorem Lz.grow {u u' : World} {A : Option Addr} {l : List Rat} (h : Lz u A l) (hg : Grow u u') : Lz u' A l := fun hn => by
 obtain ⟨b, off, e, hb, hc⟩ := h hn
 refine ⟨b, off, e, Nat.lt_of_lt_of_le hb hg.size, fun i hi => ?_⟩
 obtain ⟨p, h1, h2⟩ := hc i hi
 exact ⟨p, h1.grow hg, h2.grow hb hg⟩
theorem Lz.nil (u : World) (A : Option Addr) : Lz u A [] := fun h => absurd rfl h
theorem Lz.addr {u : World} {A : Option Addr} {l : List Rat} (h : Lz u A l) (hl : 0 < l.length) : ∃ b off, A = some ⟨b, off, none⟩ := by
 obtain ⟨b, off, e, _⟩ := h (fun h0 => by rw [h0] at hl; cases hl)
 exact ⟨b, off, e⟩
theorem Lz.read {u : World} {b off : Nat} {l : List Rat} (h : Lz u (some ⟨b, off, none⟩) l) {i : Nat} (hi : i < l.length) : ∃ p : Az, ∀ W, Grow u W → Rz W p (gq l i) ∧ Cz W b (off + i * 3) p (gq l i) := by
 obtain ⟨b', off', e, hb, hc⟩ := h (fun h0 => by rw [h0] at hi; cases hi)
 cases e
 obtain ⟨p, h1, h2⟩ := hc i hi
 exact ⟨p, fun W hg => ⟨h1.grow hg, h2.grow hb hg⟩⟩
abbrev Zr := Az × Rat
def zrL (r : Zr) : List Value := zL r.1 r.2
def AllZ (u : World) (ps : List Zr) : Prop := ∀ r ∈ ps, Rz u r.1 r.2
theorem AllZ.nil (u : World) : AllZ u [] := fun _ h => by cases h
theorem AllZ.grow {u u' : World} {ps : List Zr} (h : AllZ u ps) (hg : Grow u u') : AllZ u' ps := fun r hr => (h r hr).grow hg
theorem AllZ.put {u u' : World} {ps : List Zr} (h : AllZ u ps) {bl : List (Nat × TypeId × Array Value)} (hB : Bx u bl) (k : Nat) {b : Nat} {t : TypeId} {cs : Array Value} (hk : bl[k]? = some (b, t, cs)) (ht : t ≠ 162) (i : Nat) (vs : List Value) (hu : putAll u b i vs = u') : AllZ u' ps := fun r hr => (h r hr).put hB k hk ht i vs hu
theorem AllZ.own {u w' : World} {B : Nat} {e : TypeId} {size n : Nat} {v : Value} {xs : List Value} {o : Obj} {ps : List Zr} (hl : AllZ u ps) (h : u.ownsRow B e size v n xs) (ht : e ≠ 162) (hg : (u.alloc o).grownBy w' v.ownBlock) : AllZ w' ps := fun r hr => (hl r hr).own h ht hg
theorem AllZ.snoc {u : World} {ps : List Zr} (h : AllZ u ps) {p : Az} {q : Rat} (h1 : Rn u p.1 q.num.natAbs) (h2 : Rn u p.2 q.den) : AllZ u (ps ++ [(p, q)]) := fun r hr => by
 rcases List.mem_append.1 hr with hr | hr
 ·exact h r hr
 ·have : r = (p, q) := by simpa using hr
  subst this
  exact ⟨h1, h2⟩
theorem zrL_len (r : Zr) : (zrL r).length = 3 := rfl
theorem flatz_get (l : List Zr) {i : Nat} {r : Zr} (hi : l[i]? = some r) {j : Nat} (hj : j < 3) : (l.flatMap zrL)[i * 3 + j]? = (zrL r)[j]? := by
 induction l generalizing i with
 | nil => simp at hi
 | cons x l ih =>
  rw [List.flatMap_cons]
  cases i with
  | zero =>
   simp at hi
   subst hi
   rw [List.getElem?_append_left (by rw [zrL_len]; omega)]
   simp
  | succ i =>
   rw [List.getElem?_append_right (by rw [zrL_len]; omega), zrL_len, show (i + 1) * 3 + j - 3 = i * 3 + j by omega]
   exact ih (by simpa using hi)
theorem flatz_len (l : List Zr) : (l.flatMap zrL).length = 3 * l.length := by
 induction l with
 | nil => rfl
 | cons x l ih => simp [List.flatMap_cons, zrL_len, ih]; omega
/-- fractions of the document's off a row of the call's own -/
theorem own_lz {u : World} {B n : Nat} {v : Value} {ps : List Zr} (h : u.ownsRow B 57 3 v n (ps.flatMap zrL)) (ha : AllZ u ps) : ∃ A c, v = .slice A n c ∧ (∀ b off, A = some ⟨b, off, none⟩ → B ≤ b) ∧ c ≤ maxLen ∧ Lz u A (ps.map (·.2)) ∧ n = ps.length := by
 have hn : n = ps.length := by have := h.1; rw [flatz_len] at this; omega
 obtain ⟨_, h | ⟨g, cap, cur, rfl, hb, hh, hn', hc, hs, ht⟩⟩ := h
 ·obtain ⟨rfl, h0⟩ := h
  exact ⟨none, 0, by rw [h0], (fun b off e => by cases e), by unfold maxLen; omega, fun hne => absurd (by rw [List.eq_nil_of_length_eq_zero (l := ps) (by omega)]; rfl) hne, hn⟩
 ·refine ⟨_, cap, rfl, (fun b off e => by cases e; exact hb), hc, fun _ => ⟨g, 0, rfl, heap_lt hh, fun i hi => ?_⟩, hn⟩
  have hil : i < ps.length := by simpa using hi
  obtain ⟨r, hr⟩ : ∃ r, ps[i]? = some r := ⟨_, List.getElem?_eq_getElem hil⟩
  have hq : gq (ps.map (·.2)) i = r.2 := by unfold gq; rw [List.getElem?_map, hr]; rfl
  rw [hq]
  refine ⟨r.1, ha r (List.mem_of_getElem? hr), ?_⟩
  have key : ∀ j v, j < 3 → (zrL r)[j]? = some v → u.cell? ⟨g, 0 + i * 3 + j, none⟩ = some v := fun j v hj hv => by
   rw [cell_of_row u g _ cur 57 (0, 0) hh, Nat.zero_add]
   have h1 : (cur.toList.take (n * 3))[i * 3 + j]? = some v := by rw [ht, flatz_get ps hr hj, hv]
   rw [List.getElem?_take, if_pos (by omega)] at h1
   simpa using h1
  exact ⟨key 0 _ (by omega) rfl, key 1 _ (by omega) rfl, key 2 _ (by omega) rfl⟩
theorem flatq_len (l : List Rat) : (l.flatMap qL).length = 5 * l.length := by
 induction l with
 | nil => rfl
 | cons x l ih => simp [List.flatMap_cons, qL, ih]; omega
theorem flatq_at (l : List Rat) {i : Nat} {q : Rat} (hi : l[i]? = some q) {j : Nat} (hj : j < 5) : (l.flatMap qL)[i * 5 + j]? = (qL q)[j]? := by
 induction l generalizing i with
 | nil => simp at hi
 | cons x l ih =>
  rw [List.flatMap_cons]
  cases i with
  | zero =>
   simp at hi
   subst hi
   rw [List.getElem?_append_left (by simp [qL]; omega)]
   simp
  | succ i =>
   rw [List.getElem?_append_right (by simp [qL]; omega), show (qL x).length = 5 from rfl, show (i + 1) * 5 + j - 5 = i * 5 + j by omega]
   exact ih (by simpa using hi)
/-- fractions off a row of the call's own -/
theorem own_lq {u : World} {B n : Nat} {v : Value} {l : List Rat} (h : u.ownsRow B 49 5 v n (l.flatMap qL)) : ∃ A c, v = .slice A n c ∧ n ≤ c ∧ c ≤ maxLen ∧ Lq u A l ∧ n = l.length := by
 have hn : n = l.length := by have := h.1; rw [flatq_len] at this; omega
 obtain ⟨_, h | ⟨g, cap, cur, rfl, hb, hh, hn', hc, hs, ht⟩⟩ := h
 ·obtain ⟨rfl, h0⟩ := h
  exact ⟨none, 0, by rw [h0], by omega, by unfold maxLen; omega, fun hne => absurd (List.eq_nil_of_length_eq_zero (by omega)) hne, hn⟩
 ·refine ⟨_, cap, rfl, hn', hc, fun _ => ⟨g, 0, rfl, heap_lt hh, fun i q hi j v hj => ?_⟩, hn⟩
  have hil : i < l.length := (List.getElem?_eq_some_iff.1 hi).1
  have hj5 : j < 5 := (List.getElem?_eq_some_iff.1 hj).1
  rw [cell_of_row u g _ cur 49 (0, 0) hh, Nat.zero_add]
  have h1 : (cur.toList.take (n * 5))[i * 5 + j]? = some v := by rw [ht, flatq_at l hi hj5, hj]
  rw [List.getElem?_take, if_pos (by omega)] at h1
  simpa using h1
--! hand_Pick = hand_PickG _ _ SIDE SIDE _
theorem hand_PickG (n m : Int) (hm : 0 < m) (hm2 : m ≤ 9223372036854775807) (w : World) : Calls Tryz.prog 14 #[.int .i64 n, .int .i64 m] w fun e w' => e = .returned (.int .i64 (pick n m)) ∧ Grow w w' :=
 (hand_Pick n m hm hm2 w).mono fun e w' ⟨h, hw⟩ => ⟨h, hw ▸ Grow.refl _⟩
def dens : Nat → Int
 | 3 => 2
 | 4 => 3
 | 5 => 4
 | _ => 1
/-- a small fraction of a raw number -/
def rawQ (n : Int) : Rat := qover (pick n 41 - 20) (dens (pick (n.tdiv 41) 6).toNat)
theorem dens_pos (j : Nat) : 0 < dens j ∧ dens j ≤ 4 := by unfold dens; split <;> omega
theorem rawQ_sz (n : Int) : qs (rawQ n) ≤ 5 := by
 have h1 := pick_range n (m := 41) (by omega)
 have h2 := dens_pos (pick (n.tdiv 41) 6).toNat
 exact over_sub 0 0 _ _ 5 (by omega) (by omega) (by omega)
theorem tdiv41 (n : Int) (h0 : -9223372036854775808 ≤ n) (h1 : n ≤ 9223372036854775807) : -9223372036854775808 ≤ n.tdiv 41 ∧ n.tdiv 41 ≤ 9223372036854775807 := by
 have h : n.tdiv 41 = n / 41 ∨ n.tdiv 41 = n / 41 + 1 := by
  rw [Int.tdiv_eq_ediv]
  split
  ·left; omega
  ·right; rfl
 omega
theorem dens_run (j : Nat) (hj : j < 6) (W : World) : (Instr.index 139 (.agg #[.int .i64 1, .int .i64 1, .int .i64 1, .int .i64 2, .int .i64 3, .int .i64 4]) (.int .i64 (j : Nat))).run Tryz.prog W = .ok (.int .i64 (dens j)) W := by
 rcases (by omega : j = 0 ∨ j = 1 ∨ j = 2 ∨ j = 3 ∨ j = 4 ∨ j = 5) with rfl | rfl | rfl | rfl | rfl | rfl <;> kernel_rfl
set_option maxHeartbeats 2000000 in
set_option maxRecDepth 100000 in
theorem hand_R (n : Int) (w : World) (h0 : -9223372036854775808 ≤ n) (h1 : n ≤ 9223372036854775807) : Calls Tryz.prog 39 #[.int .i64 n] w (Ret (ratR (rawQ n)) w) := by
 obtain ⟨t, ht⟩ : ∃ t, t = n.tdiv 41 := ⟨_, rfl⟩
 have htb : -9223372036854775808 ≤ t ∧ t ≤ 9223372036854775807 := by rw [ht]; exact tdiv41 n h0 h1
 have htw : IntKind.i64.wrap t = t := IntWalk.i64_in _ htb
 obtain ⟨r1, r2⟩ := pick_range n (m := 41) (by omega)
 obtain ⟨s1, s2⟩ := pick_range t (m := 6) (by omega)
 have hov : ∀ W, Calls Tryz.prog 74 #[.int .i64 (pick n 41 - 20), .int .i64 (dens (pick t 6).toNat)] W (Ret (ratR (rawQ n)) W) := fun W => by
  have h2 := dens_pos (pick t 6).toNat
  have := ref1_Over (pick n 41 - 20) (dens (pick t 6).toNat) (by omega) (by omega) (by omega) (by omega) (by omega) W
  rw [ht] at this ⊢
  exact this
 obtain ⟨Q, hQ⟩ : ∃ Q, Q = rawQ n := ⟨_, rfl⟩
 rw [← hQ] at hov ⊢
 obtain ⟨p, hp⟩ : ∃ p, p = pick n 41 := ⟨_, rfl⟩
 obtain ⟨j, hj⟩ : ∃ j : Nat, pick t 6 = (j : Int) := ⟨(pick t 6).toNat, by omega⟩
 have hpk1 := fun W => hand_PickG n 41 (by omega) (by omega) W
 have hpk2 := fun W => hand_PickG t 6 (by omega) (by omega) W
 rw [hj] at hpk2 hov s1 s2
 rw [← hp] at hpk1 hov r1 r2
 rw [Int.toNat_natCast] at hov
 have htd : n.tdiv 41 = t := ht.symm
 have hix := dens_run j (by omega)
 have fw : IntKind.i64.wrap (p - 20) = p - 20 := IntWalk.i64_in _ (by omega)
 obtain ⟨D, hD⟩ : ∃ D, D = dens j := ⟨_, rfl⟩
 rw [← hD] at hov
 simp only [← hD] at hix
 have Hov := Lib.hid hov
 have Hpk1 := Lib.hid hpk1
 have Hpk2 := Lib.hid hpk2
 clear ht hQ hp hj hD hov hpk1 hpk2
 go_enter Tryz.func39, Tryz.ntmps39
 refine en1 ?_
 intro u hG b2 hB hF
 refine wp_seq (rsC allocs [0, 1, 0, 0, 0, 0, 1, 0, 1] hB hG fun K L hN hL => ?_)
 refine gs ?_
 refine gmw (C := fun v => Hpk1.out _) ?_
 refine gs ?_
 refine gmw (C := fun v => Hpk2.out _) ?_
 refine gs ?_
 refine grd (ratR Q) (fun (x11 : Ax × Ax) => ?_) (C := fun v _ => Hov.out _)
 refine geC hL ?_
 clear hB hG hL L
 rintro u ⟨⟨-, hB, hG, -⟩, hx11⟩
 obtain ⟨hx11a, hx11b⟩ : Rn u x11.1 _ ∧ Rn u x11.2 _ := hx11
 refine gtT ?_
 clear hN K
 refine sv hB hF hG 0 0 [_, _, _] ?_
 intro u hu hBG
 replace hx11a := hx11a.put hB 0 rfl (by first | decide | simp) _ _ hu
 replace hx11b := hx11b.put hB 0 rfl (by first | decide | simp) _ _ hu
 clear hB hG hu
 obtain ⟨hB, hG⟩ := hBG
 refine rt Tryz.results39 ?_
 exact ⟨x11, rfl, ⟨hx11a, hx11b⟩, hG⟩
def rowAtL (l : List Int) (i : Nat) : Rat := if i < l.length then rawQ (gi l i) else qint 0
/-- a row of small fractions -/
def rowQ (l : List Int) (n : Nat) : List Rat := (List.range n).map (rowAtL l)
theorem rowQ_len (l : List Int) (n : Nat) : (rowQ l n).length = n := by unfold rowQ; simp
theorem rowQ_succ (l : List Int) (n : Nat) : rowQ l (n + 1) = rowQ l n ++ [rowAtL l n] := by unfold rowQ; rw [List.range_succ, List.map_append]; rfl
set_option maxHeartbeats 2000000 in
set_option maxRecDepth 100000 in
theorem hand_RowO (A : Option Addr) (l : List Int) (c p n : Nat) (hp : p = l.length) (hn : n ≤ 1048576) (hpm : p ≤ 9223372036854775807) (hb : ∀ x ∈ l, -9223372036854775808 ≤ x ∧ x ≤ 9223372036854775807) (w : World) (h : Li w A l) :
  Calls Tryz.prog 13 #[.slice A p c, .int .i64 n] w fun e w' => ∃ (v : Value) (ps : List Zr), e = .returned v ∧ ps.map (·.2) = rowQ l n ∧ AllZ w' ps ∧ w'.ownsRow w.heap.size 57 3 v n (ps.flatMap zrL) ∧ Grow w w' := by
 have H := Lib.hid h
 have Hp := Lib.hid hp
 have Hb := Lib.hid hb
 clear h hp hb
 go_enter Tryz.func13, Tryz.ntmps13
 refine en0 ?_
 intro u hG hB hF
 refine r0T ?_
 refine wp_seq ?_
 refine r0T ?_
 refine wp_block ?_
 clear hB hF
 go_loopw [6, 5] (fun s0 s1 wr => ∃ (i : Nat) (ps : List Zr), i ≤ n ∧ s0 = .int .i64 i ∧ ps.map (·.2) = rowQ l i ∧ AllZ wr ps ∧ wr.ownsRow w.heap.size 57 3 s1 i (ps.flatMap zrL) ∧ Grow w wr) (fun s0 _ _ => n - (intOf s0).toNat)
 case atStart => exact ⟨0, [], Nat.zero_le _, rfl, rfl, AllZ.nil _, World.ownsRow_nil _ _ _ _, hG⟩
 case round =>
  clear hG
  obtain ⟨i, ps, hi, rfl, hps, hA, ho, hG⟩ := hrel
  obtain ⟨u, rfl⟩ : ∃ x, x = wr := ⟨_, rfl⟩
  have hB := Bx.nil u
  have hF := Fr.nil w
  have Ho := Lib.hid ho
  have Hps := Lib.hid hps
  clear ho hps
  rcases Nat.lt_or_ge i n with hlt | hge
  ·have hdec : decide ((i : Int) < (n : Int)) = true := by simp; omega
   have hsu := rowQ_succ l i
   have hun : rowAtL l i = if i < l.length then rawQ (gi l i) else qint 0 := rfl
   by_cases hip : i < p
   ·have hil : i < l.length := by rw [← Hp.out]; exact hip
    obtain ⟨ba, oa, hAe, -⟩ := H.out.cell hil
    have hcl : ∀ W, Grow w W → W.cell? ⟨ba, oa + i, none⟩ = some (.int .i64 (gi l i)) := fun W hg => by
     obtain ⟨b', o', e, hc⟩ := (H.out.grow hg).cell hil
     rw [hAe] at e
     cases e
     exact hc
    obtain ⟨x1, x2⟩ := Hb.out (gi l i) (List.mem_of_getElem? (gi_eq hil))
    rw [if_pos hil] at hun
    rw [hun] at hsu
    have hr := fun W => hand_R (gi l i) W x1 x2
    obtain ⟨X, hX⟩ : ∃ X, X = gi l i := ⟨_, rfl⟩
    simp only [← hX] at hcl hr
    rw [← hX] at hsu x1 x2
    obtain ⟨Q, hQ⟩ : ∃ Q, Q = rawQ X := ⟨_, rfl⟩
    simp only [← hQ] at hr
    rw [← hQ] at hsu
    have Hsu := Lib.hid hsu
    have Hcl := Lib.hid hcl
    have Hr := Lib.hid hr
    have hdp : decide ((i : Int) < (p : Int)) = true := by simp; omega
    subst hAe
    clear hsu hcl hr hX hQ hun hil
    refine wp_seq ?_
    refine r0T ?_
    refine wp_cond_true (rfl) ?_
    refine wp_skip ?_
    refine then_norm ?_
    refine wp_seq ?_
    refine wp_block ?_
    refine r0T ?_
    refine wp_cond_true (rfl) ?_
    refine wp_rs (w := w) allocs 6 [0, 0, 0, 0, 0, 1] (by kernel_rfl) (by simp only [List.drop_succ_cons, List.drop_zero]; exact rfl) (fun _ => True) noG hB hG trivial ?_
    intro K L hN hL
    simp only [List.zip_cons_cons, List.zip_nil_left]
    repeat first | refine gya ?_ | refine gyr ?_ | refine gna ?_ | refine gyb (by (rintro v ⟨hgu, hB, hG, -⟩ N hN; have r := hB.r; simp only [BxR] at r; have hcb := Hcl.out v hG; go_simp; exact hN)) ?_
    refine grd (ratR Q) (fun (x21 : Ax × Ax) => ?_) (C := fun v _ => Hr.out _)
    refine gend ?_
    rintro v ⟨⟨hgu, hB1, hG1, -⟩, hx21⟩
    replace hA := hA.grow hgu
    obtain ⟨hx21a, hx21b⟩ : Rn v x21.1 _ ∧ Rn v x21.2 _ := hx21
    have ROWn := Lib.hid (own_grow' Ho.out hgu)
    clear Ho
    have Ho := ROWn
    clear ROWn
    clear hB hG
    have hB := hB1
    have hG := hG1
    clear hB1 hG1
    refine hL _ _ ?_
    clear hL L hgu
    obtain ⟨u, rfl⟩ : ∃ x, x = v := ⟨_, rfl⟩
    refine app_tailG ei_RQ w.heap.size _ _ _ _ (zL x21 Q) rfl rfl (bs_RQ x21.1 x21.2 Q u) rfl (fun _ => rfl) (fun _ => rfl) (fun _ _ => rfl) Ho.out (by omega) (by omega) hG.sz fun p v' w' g1 g2 g3 => ?_
    have hBn := Bx.nil w'
    have hGn := own_growth Ho.out hG g2
    replace hA := hA.own Ho.out (by decide) g2
    replace hx21a := hx21a.own Ho.out (by decide) g2
    replace hx21b := hx21b.own Ho.out (by decide) g2
    clear Ho hB hG
    have Ho := Lib.hid g1
    have hB := hBn
    have hG := hGn
    clear g1 g2 g3 hBn hGn
    obtain ⟨u, rfl⟩ : ∃ x, x = w' := ⟨_, rfl⟩
    simp only [Act.put, List.setIfInBounds_toArray, List.set_cons_succ, List.set_cons_zero]
    refine NoK.norm (hN _ _ ?_)
    clear hN K
    refine blk_norm ?_
    refine then_norm ?_
    refine r0E ?_
    refine then_norm ?_
    go_roundw
    case rel => exact ⟨i + 1, ps ++ [(x21, Q)], by omega, by go_num, by rw [List.map_append, Hps.out, Hsu.out]; rfl, hA.snoc hx21a hx21b, by have := Ho.out; rw [List.flatMap_append]; simpa [zrL] using this, hG⟩
    case measure => simp [intOf]; omega
   ·rw [if_neg (by rw [← Hp.out]; exact hip)] at hun
    rw [hun] at hsu
    have Hsu := Lib.hid hsu
    have hdp : decide ((i : Int) < (p : Int)) = false := by simp; omega
    clear hsu hun
    refine wp_seq ?_
    refine r0T ?_
    refine wp_cond_true (rfl) ?_
    refine wp_skip ?_
    refine then_norm ?_
    refine wp_seq ?_
    refine wp_block ?_
    refine r0T ?_
    refine wp_cond_false (rfl) ?_
    refine wp_rs (w := w) allocs 2 [0, 1] (by kernel_rfl) (by simp only [List.drop_succ_cons, List.drop_zero]; exact rfl) (fun _ => True) noG hB hG trivial ?_
    intro K L hN hL
    simp only [List.zip_cons_cons, List.zip_nil_left]
    refine gs ?_
    refine grd (ratR (qint 0)) (fun (x25 : Ax × Ax) => ?_) (C := fun v _ => ref1_Of 0 (by omega) (by omega) _)
    refine gend ?_
    rintro v ⟨⟨hgu, hB1, hG1, -⟩, hx25⟩
    replace hA := hA.grow hgu
    obtain ⟨hx25a, hx25b⟩ : Rn v x25.1 _ ∧ Rn v x25.2 _ := hx25
    have ROWn := Lib.hid (own_grow' Ho.out hgu)
    clear Ho
    have Ho := ROWn
    clear ROWn
    clear hB hG
    have hB := hB1
    have hG := hG1
    clear hB1 hG1
    refine hL _ _ ?_
    clear hL L hgu
    obtain ⟨u, rfl⟩ : ∃ x, x = v := ⟨_, rfl⟩
    refine app_tailG ei_RQ w.heap.size _ _ _ _ (zL x25 (qint 0)) rfl rfl (bs_RQ x25.1 x25.2 (qint 0) u) rfl (fun _ => rfl) (fun _ => rfl) (fun _ _ => rfl) Ho.out (by omega) (by omega) hG.sz fun p v' w' g1 g2 g3 => ?_
    have hBn := Bx.nil w'
    have hGn := own_growth Ho.out hG g2
    replace hA := hA.own Ho.out (by decide) g2
    replace hx25a := hx25a.own Ho.out (by decide) g2
    replace hx25b := hx25b.own Ho.out (by decide) g2
    clear Ho hB hG
    have Ho := Lib.hid g1
    have hB := hBn
    have hG := hGn
    clear g1 g2 g3 hBn hGn
    obtain ⟨u, rfl⟩ : ∃ x, x = w' := ⟨_, rfl⟩
    simp only [Act.put, List.setIfInBounds_toArray, List.set_cons_succ, List.set_cons_zero]
    refine NoK.norm (hN _ _ ?_)
    clear hN K
    refine blk_norm ?_
    refine then_norm ?_
    refine r0E ?_
    refine then_norm ?_
    go_roundw
    case rel => exact ⟨i + 1, ps ++ [(x25, qint 0)], by omega, by go_num, by rw [List.map_append, Hps.out, Hsu.out]; rfl, hA.snoc hx25a hx25b, by have := Ho.out; rw [List.flatMap_append]; simpa [zrL] using this, hG⟩
    case measure => simp [intOf]; omega
  ·obtain rfl : n = i := by omega
   have hdec : decide ((n : Int) < (n : Int)) = false := by simp
   refine wp_seq ?_
   refine r0T ?_
   refine wp_cond_false (rfl) ?_
   refine wp_exit ?_
   refine then_exit ?_
   refine then_exit ?_
   refine blk_exit ?_
   refine then_norm ?_
   refine r0T ?_
   refine rt Tryz.results13 ?_
   exact ⟨_, ps, rfl, Hps.out, hA, Ho.out, hG⟩
set_option maxHeartbeats 2000000 in
set_option maxRecDepth 100000 in
theorem hand_InRowO (A : Option Addr) (l : List Rat) (c n : Nat) (hn : n = l.length) (hm : n ≤ 1048576) (hs : ∀ x ∈ l, qs x ≤ BIG) (w : World) (h : Lz w A l) (HT : Tab w) :
  Calls Tryz.prog 17 #[.slice A n c] w fun e w' => ∃ v : Value, e = .returned v ∧ w'.ownsRow w.heap.size 49 5 v n (l.flatMap qL) ∧ Grow w w' := by
 have H := Lib.hid h
 have Hn := Lib.hid hn
 have Hs := Lib.hid hs
 clear h hn hs
 go_enter Tryz.func17, Tryz.ntmps17
 refine en0 ?_
 intro u hG hB hF
 refine r0T ?_
 refine wp_seq ?_
 refine r0T ?_
 refine wp_block ?_
 clear hB hF
 go_loopw [4, 3] (fun s0 s1 wr => ∃ (i : Nat), i ≤ n ∧ s0 = .int .i64 i ∧ wr.ownsRow w.heap.size 49 5 s1 i ((l.take i).flatMap qL) ∧ Grow w wr) (fun s0 _ _ => n - (intOf s0).toNat)
 case atStart => exact ⟨0, Nat.zero_le _, rfl, World.ownsRow_nil _ _ _ _, hG⟩
 case round =>
  clear hG
  obtain ⟨i, hi, rfl, ho, hG⟩ := hrel
  obtain ⟨u, rfl⟩ : ∃ x, x = wr := ⟨_, rfl⟩
  have hB := Bx.nil u
  have hF := Fr.nil w
  have Ho := Lib.hid ho
  clear ho
  rcases Nat.lt_or_ge i n with hlt | hge
  ·have hdec : decide ((i : Int) < (n : Int)) = true := by simp; omega
   have hil : i < l.length := by rw [← Hn.out]; exact hlt
   have hsu : l.take (i + 1) = l.take i ++ [gq l i] := by
    rw [List.take_succ_eq_append_getElem hil]
    unfold gq
    rw [List.getElem?_eq_getElem hil]
    rfl
   obtain ⟨ba, oa, rfl⟩ := H.out.addr (by omega)
   obtain ⟨p, hrd⟩ := (H.out).read hil
   have z := Hs.out _ (gq_mem hil)
   obtain ⟨Q, hQ⟩ : ∃ Q, Q = gq l i := ⟨_, rfl⟩
   rw [← hQ] at hsu z
   simp only [← hQ] at hrd
   have Hsu := Lib.hid hsu
   have Hrd := Lib.hid hrd
   clear hsu hrd hQ hil
   refine wp_seq ?_
   refine r0T ?_
   refine wp_cond_true (rfl) ?_
   refine wp_skip ?_
   refine then_norm ?_
   refine wp_seq ?_
   refine wp_block ?_
   refine wp_rs (w := w) allocs 6 [0, 0, 0, 0, 0, 1] (by kernel_rfl) (by simp only [List.drop_succ_cons, List.drop_zero]; exact rfl) (fun _ => True) noG hB hG trivial ?_
   intro K L hN hL
   simp only [List.zip_cons_cons, List.zip_nil_left]
   repeat first | refine gya ?_ | refine gyr ?_ | refine gna ?_ | refine gyb (by (rintro v ⟨hgu, hB, hG, -⟩ N hN; have r := hB.r; simp only [BxR] at r; obtain ⟨-, hc1, hc2, hc3⟩ := Hrd.out v hG; go_simp; exact hN)) ?_
   refine gmd (C := fun v ⟨hgu, hB, hG, _⟩ => hand_In p.1 p.2 Q _ (Hrd.out _ hG).1.a (Hrd.out _ hG).1.b z (HT.grow hG)) ?_
   refine gend ?_
   rintro v ⟨hgu, hB1, hG1, -⟩
   have ROWn := Lib.hid (own_grow' Ho.out hgu)
   clear Ho
   have Ho := ROWn
   clear ROWn
   clear hB hG
   have hB := hB1
   have hG := hG1
   clear hB1 hG1
   refine hL _ _ ?_
   clear hL L hgu
   obtain ⟨u, rfl⟩ : ∃ x, x = v := ⟨_, rfl⟩
   refine app_tailG ei_Q w.heap.size _ _ _ _ (qL Q) rfl rfl (bs_Q Q u) rfl (fun _ => rfl) (fun _ => rfl) (fun _ _ => rfl) Ho.out (by omega) (by omega) hG.sz fun p v' w' g1 g2 g3 => ?_
   have hBn := Bx.nil w'
   have hGn := own_growth Ho.out hG g2
   clear Ho hB hG
   have Ho := Lib.hid g1
   have hB := hBn
   have hG := hGn
   clear g1 g2 g3 hBn hGn
   obtain ⟨u, rfl⟩ : ∃ x, x = w' := ⟨_, rfl⟩
   simp only [Act.put, List.setIfInBounds_toArray, List.set_cons_succ, List.set_cons_zero]
   refine NoK.norm (hN _ _ ?_)
   clear hN K
   refine blk_norm ?_
   refine then_norm ?_
   refine r0E ?_
   refine then_norm ?_
   go_roundw
   case rel => exact ⟨i + 1, by omega, by go_num, by have := Ho.out; rw [Hsu.out, List.flatMap_append]; simpa using this, hG⟩
   case measure => simp [intOf]; omega
  ·obtain rfl : n = i := by omega
   have hdec : decide ((n : Int) < (n : Int)) = false := by simp
   have ho2 := Ho.out
   rw [List.take_of_length_le (Nat.le_of_eq Hn.out.symm)] at ho2
   have HL := Lib.hid ho2
   clear ho2
   refine wp_seq ?_
   refine r0T ?_
   refine wp_cond_false (rfl) ?_
   refine wp_exit ?_
   refine then_exit ?_
   refine then_exit ?_
   refine blk_exit ?_
   refine then_norm ?_
   refine r0T ?_
   refine rt Tryz.results17 ?_
   exact ⟨_, rfl, HL.out, hG⟩
theorem hand_InRow (A : Option Addr) (l : List Rat) (c n : Nat) (hn : n = l.length) (hm : n ≤ 1048576) (hs : ∀ x ∈ l, qs x ≤ BIG) (w : World) (h : Lz w A l) (HT : Tab w) :
  Calls Tryz.prog 17 #[.slice A n c] w fun e w' => ∃ (A' : Option Addr) (c' : Nat), e = .returned (.slice A' n c') ∧ Lq w' A' l ∧ Grow w w' :=
 (hand_InRowO A l c n hn hm hs w h HT).mono fun e w' ⟨v, he, ho, hG⟩ => by
  obtain ⟨A', cc, rfl, hcc1, hcc2, hL, hkl⟩ := own_lq ho
  exact ⟨A', cc, he, hL, hG⟩
end Go.Proofs.YtjmopgepnndckaaGreatDoor
namespace Go.Proofs.YtjmopgepnndckaaGreatDoor
open Go Go.RowKit
def setAll {V : Type} : List V → Nat → List V → List V
 | xs, _, [] => xs
 | xs, i, v :: vs => setAll (xs.set i v) (i + 1) vs
theorem setAll_mid {V : Type} : ∀ (vs ys fa fb : List V), ys.length = vs.length → setAll (fa ++ (ys ++ fb)) fa.length vs = fa ++ (vs ++ fb)
 | [], ys, fa, fb, h => by
  obtain rfl : ys = [] := List.length_eq_zero_iff.1 h
  rfl
 | v :: vs, [], fa, fb, h => by cases h
 | v :: vs, y :: ys, fa, fb, h => by
  show setAll ((fa ++ (y :: ys ++ fb)).set fa.length v) (fa.length + 1) vs = _
  have e : (fa ++ (y :: ys ++ fb)).set fa.length v = (fa ++ [v]) ++ (ys ++ fb) := by
   simp [List.set_append_right]
  rw [e, show fa.length + 1 = (fa ++ [v]).length by simp, setAll_mid vs ys _ fb (by simpa using h)]
  simp
theorem flat_lenO {V α : Type} {enc : α → List V} {size : Nat} (he : ∀ x, (enc x).length = size) : ∀ ps : List α, (ps.flatMap enc).length = ps.length * size
 | [] => by simp
 | p :: ps => by rw [List.flatMap_cons, List.length_append, flat_lenO he ps, he, List.length_cons, Nat.add_mul]; omega
theorem flat_set {V α : Type} {enc : α → List V} {size : Nat} (he : ∀ x, (enc x).length = size) (ps : List α) (k : Nat) (z : α) (hk : k < ps.length) : setAll (ps.flatMap enc) (k * size) (enc z) = (ps.set k z).flatMap enc := by
 have e : ps = ps.take k ++ (ps[k] :: ps.drop (k + 1)) := by rw [← List.drop_eq_getElem_cons hk, List.take_append_drop]
 have e2 : ps.set k z = ps.take k ++ (z :: ps.drop (k + 1)) := by
  rw [List.set_eq_take_append_cons_drop, if_pos hk]
 rw [e2]
 conv => lhs; rw [e]
 rw [List.flatMap_append, List.flatMap_cons, List.flatMap_append, List.flatMap_cons]
 have hl : ((ps.take k).flatMap enc).length = k * size := by rw [flat_lenO he, List.length_take, Nat.min_eq_left (by omega)]
 have := setAll_mid (enc z) (enc ps[k]) ((ps.take k).flatMap enc) ((ps.drop (k + 1)).flatMap enc) (by rw [he, he])
 rw [hl] at this
 exact this
theorem flat_at {V α : Type} {enc : α → List V} {size : Nat} (he : ∀ x, (enc x).length = size) (ps : List α) (k j : Nat) (hk : k < ps.length) (hj : j < size) : (ps.flatMap enc)[k * size + j]? = (enc ps[k])[j]? := by
 have e : ps = ps.take k ++ (ps[k] :: ps.drop (k + 1)) := by rw [← List.drop_eq_getElem_cons hk, List.take_append_drop]
 have hl : ((ps.take k).flatMap enc).length = k * size := by rw [flat_lenO he, List.length_take, Nat.min_eq_left (by omega)]
 conv => lhs; rw [e]
 rw [List.flatMap_append, List.flatMap_cons, List.getElem?_append_right (by omega), hl, Nat.add_sub_cancel_left, List.getElem?_append_left (by rw [he]; exact hj)]
theorem grownBy_trans {u u1 u2 : World} {r : Option Nat} (h : u.grownBy u1 r) (h' : u1.grownBy u2 r) : u.grownBy u2 r := by
 obtain ⟨a1, a2, a3, a4, a5⟩ := h
 obtain ⟨b1, b2, b3, b4, b5⟩ := h'
 exact ⟨b1.trans a1, b2.trans a2, b3.trans a3, Nat.le_trans a4 b4, fun k hk hr => (b5 k (Nat.lt_of_lt_of_le hk a4) hr).trans (a5 k hk hr)⟩
theorem own_putAll {B : Nat} {e : TypeId} {size g cap n : Nat} : ∀ (vs : List Value) (i : Nat) (u : World) (xs : List Value), u.ownsRow B e size (.slice (some ⟨g, 0, none⟩) n cap) n xs →
  (putAll u g i vs).ownsRow B e size (.slice (some ⟨g, 0, none⟩) n cap) n (setAll xs i vs) ∧ u.grownBy (putAll u g i vs) (some g)
 | [], i, u, xs, h => ⟨h, ⟨rfl, rfl, rfl, Nat.le_refl _, fun _ _ _ => rfl⟩⟩
 | v :: vs, i, u, xs, h => by
  obtain ⟨h1, h2⟩ := h.stored i v
  obtain ⟨h3, h4⟩ := own_putAll vs (i + 1) _ _ h1
  exact ⟨h3, grownBy_trans h2 h4⟩
/-- element k of an own row is written -/
theorem own_put {α : Type} {enc : α → List Value} {B : Nat} {e : TypeId} {size g cap n : Nat} (he : ∀ x, (enc x).length = size) {u : World} {ps : List α} (h : u.ownsRow B e size (.slice (some ⟨g, 0, none⟩) n cap) n (ps.flatMap enc)) (k : Nat) (z : α) (hk : k < ps.length) :
  (putAll u g (k * size) (enc z)).ownsRow B e size (.slice (some ⟨g, 0, none⟩) n cap) n ((ps.set k z).flatMap enc) ∧ u.grownBy (putAll u g (k * size) (enc z)) (some g) := by
 have := own_putAll (enc z) (k * size) u _ h
 rw [flat_set he ps k z hk] at this
 exact this
/-- element k of an own row is read -/
theorem own_get {α : Type} {enc : α → List Value} {B : Nat} {e : TypeId} {size g cap n : Nat} (he : ∀ x, (enc x).length = size) {u : World} {ps : List α} (h : u.ownsRow B e size (.slice (some ⟨g, 0, none⟩) n cap) n (ps.flatMap enc)) (hn : n = ps.length) (k j : Nat) (hk : k < ps.length) (hj : j < size) :
  u.cell? ⟨g, k * size + j, none⟩ = (enc ps[k])[j]? := by
 have hlt : k * size + j < n * size := by
  have : k * size + size ≤ ps.length * size := by rw [← Nat.succ_mul]; exact Nat.mul_le_mul_right _ hk
  rw [hn]; omega
 rw [h.cellAt (k * size + j) hlt, flat_at he ps k j hk hj]
end Go.Proofs.YtjmopgepnndckaaGreatDoor
namespace Go.Proofs.YtjmopgepnndckaaGreatDoor
open Go Go.RowKit
/-- two rows lie in two blocks -/
def Apart (v v2 : Value) : Prop := ∀ g, v.ownBlock = some g → v2.ownBlock = some g → False
theorem Apart.symm {v v2 : Value} (h : Apart v v2) : Apart v2 v := fun g h1 h2 => h g h2 h1
end Go.Proofs.YtjmopgepnndckaaGreatDoor
namespace Go.Proofs.YtjmopgepnndckaaGreatDoor
open Go Go.RowKit
/-- an element put in at place k -/
def insAt {α : Type} (ps : List α) (k : Nat) (y : α) : List α := ps.take k ++ y :: ps.drop k
theorem insAt_len {α : Type} (ps : List α) (k : Nat) (y : α) (hk : k ≤ ps.length) : (insAt ps k y).length = ps.length + 1 := by
 unfold insAt; rw [List.length_append, List.length_cons, List.length_take, List.length_drop]; omega
theorem insAt_perm {α : Type} (ps : List α) (k : Nat) (y : α) : (insAt ps k y).Perm (y :: ps) := by
 unfold insAt
 refine List.perm_middle.trans ?_
 rw [List.take_append_drop]
theorem insAt_set {α : Type} (ps : List α) (k : Nat) (y z : α) (hk : k ≤ ps.length) : (insAt ps k y).set k z = insAt ps k z := by
 unfold insAt
 have : (ps.take k).length = k := by rw [List.length_take]; omega
 rw [List.set_append_right _ _ (by omega), this, Nat.sub_self, List.set_cons_zero]
/-- where all behind are no less and the one ahead is no greater the list stays in order -/
theorem insAt_sorted {α : Type} {R : α → α → Prop} (ht : ∀ {a b c}, R a b → R b c → R a c) (ps : List α) (k : Nat) (y : α) (hk : k ≤ ps.length) (hs : ps.Pairwise R) (h1 : ∀ j (h : j < ps.length), k ≤ j → R y ps[j]) (h2 : ∀ j (h : j < ps.length), j + 1 = k → R ps[j] y) : (insAt ps k y).Pairwise R := by
 have h3 : ∀ j (h : j < ps.length), j < k → R ps[j] y := fun j h hjk => by
  by_cases e : j + 1 = k
  ·exact h2 j h e
  ·have hp := List.pairwise_iff_getElem.1 hs j (k - 1) h (by omega) (by omega)
   exact ht hp (h2 (k - 1) (by omega) (by omega))
 unfold insAt
 rw [List.pairwise_append, List.pairwise_cons]
 refine ⟨hs.take, ⟨fun x hx => ?_, hs.drop⟩, fun a ha b hb => ?_⟩
 ·obtain ⟨j, hj, rfl⟩ := List.getElem_of_mem hx
  rw [List.length_drop] at hj
  rw [List.getElem_drop]
  exact h1 _ _ (by omega)
 ·obtain ⟨i, hi, rfl⟩ := List.getElem_of_mem ha
  rw [List.length_take] at hi
  rw [List.getElem_take]
  have hi1 : i < k := by omega
  have hi2 : i < ps.length := by omega
  rcases List.mem_cons.1 hb with rfl | hb
  ·exact h3 i hi2 hi1
  ·obtain ⟨j, hj, rfl⟩ := List.getElem_of_mem hb
   rw [List.length_drop] at hj
   rw [List.getElem_drop]
   exact List.pairwise_iff_getElem.1 hs i (k + j) hi2 (by omega) (by omega)
theorem rn_kept {u w' : World} {B : Nat} {e : TypeId} {size n : Nat} {v : Value} {xs : List Value} {x : Ax} {a : Nat} (hl : Rn u x a) (h : u.ownsRow B e size v n xs) (ht : e ≠ 162) (hg : u.grownBy w' v.ownBlock) : Rn w' x a := ⟨fun hne => by
 obtain ⟨b, off, cs, fr, e1, hb, hc⟩ := hl.1 hne
 refine ⟨b, off, cs, fr, e1, ?_, hc⟩
 refine (hg.block b (heap_lt hb) fun hxe => ?_).trans hb
 obtain ⟨_, h | ⟨g, cap, cur, rfl, hb', hh, hn, hc', hs, ht2⟩⟩ := h
 ·rw [h.1] at hxe; cases hxe
 ·have h1 : b = g := Option.some.inj hxe
  rw [h1, hh] at hb
  injection hb with hb
  injection hb with _ h3 _
  exact ht h3, hl.2⟩
theorem rz_kept {u w' : World} {B : Nat} {e : TypeId} {size n : Nat} {v : Value} {xs : List Value} {p : Az} {q : Rat} (hl : Rz u p q) (h : u.ownsRow B e size v n xs) (ht : e ≠ 162) (hg : u.grownBy w' v.ownBlock) : Rz w' p q := ⟨rn_kept hl.1 h ht hg, rn_kept hl.2 h ht hg⟩
theorem allz_kept {u w' : World} {B : Nat} {e : TypeId} {size n : Nat} {v : Value} {xs : List Value} {ps : List Zr} (hl : AllZ u ps) (h : u.ownsRow B e size v n xs) (ht : e ≠ 162) (hg : u.grownBy w' v.ownBlock) : AllZ w' ps := fun r hr => rz_kept (hl r hr) h ht hg
/-- a row that is not empty has a block -/
theorem own_slice {u : World} {B : Nat} {e : TypeId} {size n : Nat} {v : Value} {xs : List Value} (h : u.ownsRow B e size v n xs) (h0 : 0 < n) : ∃ g cap, v = .slice (some ⟨g, 0, none⟩) n cap ∧ B ≤ g ∧ n ≤ cap := by
 obtain ⟨_, h | ⟨g, cap, cur, rfl, hb', hh, hn, hc', hs, ht2⟩⟩ := h
 ·omega
 ·exact ⟨g, cap, rfl, hb', hn⟩
/-- rows of two types of elements lie apart -/
theorem apart_types {u : World} {B B' : Nat} {e e' : TypeId} {s s' : Nat} {v v' : Value} {n n' : Nat} {xs xs' : List Value} (h : u.ownsRow B e s v n xs) (h' : u.ownsRow B' e' s' v' n' xs') (hne : e ≠ e') : Apart v v' := fun g h1 h2 => by
 obtain ⟨_, h | ⟨g1, cap, cur, rfl, hb, hh, hn, hc, hs, ht⟩⟩ := h
 ·rw [h.1] at h1; cases h1
 ·obtain ⟨_, h' | ⟨g2, cap', cur', rfl, hb', hh', hn', hc', hs', ht'⟩⟩ := h'
  ·rw [h'.1] at h2; cases h2
  ·have e1 : g = g1 := Option.some.inj h1.symm
   have e2 : g = g2 := Option.some.inj h2.symm
   rw [← e1] at hh
   rw [← e2, hh] at hh'
   injection hh' with hh'
   injection hh' with _ h3 _
   exact hne h3
theorem own_kgrow' {w u u' : World} {e : TypeId} {size n : Nat} {v : Value} {xs : List Value} (h : u.ownsRow w.heap.size e size v n xs) (hG : Grow w u) (hg : u.grownBy u' v.ownBlock) : Grow w u' := hG.grown hg fun k hk => (h.lt k hk).1
/-- an append of one element that lies already in a block -/
theorem app_oneG {ops : Array Oper} {a : Act} {u : World} {K : Act → World → Prop} {d2 : Option Nat} {s z : Operand} {t2 : TypeId} {p2 : String} {f2 : Array Edge} {rest : List Oper} {T e : TypeId} {size bytes : Nat} (hE : EI T e size bytes)
  (B : Nat) (v : Value) (n : Nat) (xs : List Value) (b : Nat) (ys : List Value) (hy : ys.length = size) (h1 : (ys.all fun y => y.oneCell') = true) (hblk : Blk u b e ys.toArray)
  (hs : a.eval s = v) (hz : a.eval z = .slice (some ⟨b, 0, none⟩) 1 1)
  (hown : u.ownsRow B e size v n xs) (hl : n + 1 ≤ 1099511627776) (hl2 : (n + 1) * bytes ≤ 140737488355328) (hB : B ≤ u.heap.size)
  (h : ∀ v' w', w'.ownsRow B e size v' (n + 1) (xs ++ ys) → u.grownBy w' v.ownBlock → (v'.ownBlock = v.ownBlock ∨ v'.ownBlock = some u.heap.size) → wpList Tryz.prog ops (NoK K) rest (a.put d2 v') w') :
  wpList Tryz.prog ops (NoK K) (⟨d2, .call { callee := .builtin .append, args := #[s, z], argTypes := #[T, T] }, t2, p2, f2, none⟩ :: rest) a u := by
 obtain ⟨hund, ⟨i0, z0, hi0, hz0, hz1, hz2, hz3⟩, hpos⟩ := hE
 refine wpList_append_own_at u (a := a) (Q := NoK K) rfl s z T rfl B e i0 z0 size bytes hund hi0 hz0 hz1 hz2 hz3 hpos v n xs hs hown ⟨b, 0, none⟩ 1 1 ys hz (by rw [hy]; omega) ?_ (fun y hy => List.all_eq_true.1 h1 y hy) (by unfold maxLen; omega) hl2 hB fun v' w' g1 g2 _ g4 => h v' w' g1 g2 g4
 intro j y hj
 rw [Go.WideShapes.add_plain, Nat.zero_add, Blk.cell hblk j, List.getElem?_toArray]
 exact hj
end Go.Proofs.YtjmopgepnndckaaGreatDoor
