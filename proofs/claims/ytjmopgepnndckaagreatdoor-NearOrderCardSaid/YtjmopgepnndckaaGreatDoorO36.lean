/-
  Contracts and laws: NearB.
-/
import Derived.Test.YtjmopgepnndckaaGreatDoorO33
import Derived.Test.YtjmopgepnndckaaGreatDoorO35
set_option linter.unusedSimpArgs false
set_option linter.unusedVariables false
namespace Go.Proofs.YtjmopgepnndckaaGreatDoor
open Go Go.RowKit Go.Sort Go.Shelf
theorem liN_new (w : World) (l : List Int) : Li (w.alloc (.cells (l.map fun x => Value.int .i64 x).toArray 3)) (some ⟨w.heap.size, 0, none⟩) l := fun _ =>
 ⟨w.heap.size, 0, rfl, by rw [alloc_size]; omega, fun i x hi => by
  rw [Nat.zero_add, Blk.cell (Blk.new w 3 _) i]
  simp [hi]⟩
theorem cmpI_nat (a b : Nat) : cmpI (a : Nat) (b : Nat) = cmpNr a b := by unfold cmpI cmpNr; simp
theorem orI_cmp (a b : Ht) : orI (cmpQ a.2 b.2) (cmpI (a.1 : Nat) (b.1 : Nat)) = cmpH a b := by
 unfold orI cmpH
 rw [cmpI_nat]
 by_cases h : cmpQ a.2 b.2 = 0
 ·rw [if_pos h, if_neg (by simp [h])]
 ·rw [if_neg h, if_pos h]
set_option maxHeartbeats 1000000 in
set_option maxRecDepth 100000 in
theorem near_order (a b : Ht) (w : World) (hz : qs a.2 + qs b.2 + 1 ≤ BIG) : Calls Tryz.prog 52 #[htV a.1 a.2, htV b.1 b.2] w fun e w' => e = .returned (.int .i64 (cmpH a b)) ∧ Grow w w' := by
 have hcm := fun W => frac_Cmp a.2 b.2 W hz
 have hci := fun W => cmp_Compare_int (a.1 : Nat) (b.1 : Nat) W
 rw [← orI_cmp]
 obtain ⟨X, hX⟩ : ∃ X, X = cmpQ a.2 b.2 := ⟨_, rfl⟩
 obtain ⟨Y, hY⟩ : ∃ X, X = cmpI (a.1 : Nat) (b.1 : Nat) := ⟨_, rfl⟩
 rw [← hX, ← hY]
 simp only [← hX] at hcm
 simp only [← hY] at hci
 have Hcm := Lib.hid hcm
 have Hci := Lib.hid hci
 clear hcm hci hX hY hz
 go_enter Tryz.func52, Tryz.ntmps52
 refine en2 ?_
 intro u hG b3 b2 hB hF
 refine wp_seq (rdC allocs [] [(0, 0), (0, 1), (0, 2), (0, 3), (0, 5), (0, 6), (0, 7), (0, 8), (1, 4), (1, 9), (1, 10), (1, 11)] hB hG fun K L hN hL => ?_)
 refine gs ?_
 refine gmw (C := fun v => Hcm.out _) ?_
 refine gmw (C := fun v => Hci.out _) ?_
 refine gx Nat (fun b => .slice (some ⟨b, 0, none⟩) 2 2) (fun b W => Li W (some ⟨b, 0, none⟩) [X, Y]) (fun _ _ _ hg h => h.grow hg) rfl ?_ (fun x15 => ?_)
 ·(rintro v ⟨hgu, hB, hG, -⟩ N hN; go_simp; exact hN v.heap.size _ (liN_new v [X, Y]) (Grow.alloc _ _))
 refine okf (by simp only [Act.put, List.setIfInBounds_toArray, List.set_cons_succ, List.set_cons_zero]; exact rfl) ?_
 refine gmd (C := fun v ⟨⟨hgu, hB, hG, _⟩, hx15⟩ => cmp_Or_two x15 2 X Y _ hx15) ?_
 refine geC hL ?_
 clear hB hG hL L
 rintro u ⟨⟨-, hB, hG, -⟩, hx15⟩
 refine gtT ?_
 clear hN K
 refine rt Tryz.results52 ?_
 exact ⟨rfl, hG⟩
/-- the cells of an element of an own row are there, and may be written -/
theorem own_spot6 {α : Type} {enc : α → List Value} {B : Nat} {e : TypeId} {g cap n : Nat} (he : ∀ x, (enc x).length = 6) {u : World} {ps : List α} (h : u.ownsRow B e 6 (.slice (some ⟨g, 0, none⟩) n cap) n (ps.flatMap enc)) (hn : n = ps.length) (k : Nat) (hk : k < ps.length) :
  ∃ y0 y1 y2 y3 y4 y5, u.cell? ⟨g, k * 6, none⟩ = some y0 ∧ u.cell? ⟨g, k * 6 + 1, none⟩ = some y1 ∧ u.cell? ⟨g, k * 6 + 2, none⟩ = some y2 ∧ u.cell? ⟨g, k * 6 + 3, none⟩ = some y3 ∧ u.cell? ⟨g, k * 6 + 4, none⟩ = some y4 ∧ u.cell? ⟨g, k * 6 + 5, none⟩ = some y5 ∧ ∀ j, u.frozen? ⟨g, j, none⟩ = false := by
 have hl := he ps[k]
 have h0 := own_get he h hn k 0 hk (by omega)
 have h1 := own_get he h hn k 1 hk (by omega)
 have h2 := own_get he h hn k 2 hk (by omega)
 have h3 := own_get he h hn k 3 hk (by omega)
 have h4 := own_get he h hn k 4 hk (by omega)
 have h5 := own_get he h hn k 5 hk (by omega)
 rw [List.getElem?_eq_getElem (by omega)] at h0 h1 h2 h3 h4 h5
 exact ⟨_, _, _, _, _, _, h0, h1, h2, h3, h4, h5, fun j => h.frozenAt j⟩
theorem own_spot4 {α : Type} {enc : α → List Value} {B : Nat} {e : TypeId} {g cap n : Nat} (he : ∀ x, (enc x).length = 4) {u : World} {ps : List α} (h : u.ownsRow B e 4 (.slice (some ⟨g, 0, none⟩) n cap) n (ps.flatMap enc)) (hn : n = ps.length) (k : Nat) (hk : k < ps.length) :
  ∃ y0 y1 y2 y3, u.cell? ⟨g, k * 4, none⟩ = some y0 ∧ u.cell? ⟨g, k * 4 + 1, none⟩ = some y1 ∧ u.cell? ⟨g, k * 4 + 2, none⟩ = some y2 ∧ u.cell? ⟨g, k * 4 + 3, none⟩ = some y3 ∧ ∀ j, u.frozen? ⟨g, j, none⟩ = false := by
 have hl := he ps[k]
 have h0 := own_get he h hn k 0 hk (by omega)
 have h1 := own_get he h hn k 1 hk (by omega)
 have h2 := own_get he h hn k 2 hk (by omega)
 have h3 := own_get he h hn k 3 hk (by omega)
 rw [List.getElem?_eq_getElem (by omega)] at h0 h1 h2 h3
 exact ⟨_, _, _, _, h0, h1, h2, h3, fun j => h.frozenAt j⟩
/-- hits of a bounded size -/
abbrev Bh (s : Nat) := {x : Ht // qs x.2 ≤ s + qs 0}
instance (s : Nat) : Inhabited (Bh s) := ⟨⟨(0, 0), Nat.le_add_left _ _⟩⟩
abbrev encH (s : Nat) (x : Bh s) : List Value := htL x.1
abbrev cfH (s : Nat) (x y : Bh s) : Int := cmpH x.1 y.1
theorem ltH (s : Nat) (x y : Bh s) : ltOf (cfH s) x y = decide (¬ leH y.1 x.1) := by
 unfold ltOf cfH
 have := cmpH_lt x.1 y.1
 by_cases h : leH y.1 x.1 <;> simp [h, this]
theorem swoH (s : Nat) : SWO (ltOf (cfH s)) where
 irrefl x := by rw [ltH]; exact decide_eq_false (fun h => h ((leH_total x.1 x.1).elim id id))
 trans x y z h1 h2 := by
  rw [ltH] at *
  have h1 := of_decide_eq_true h1
  have h2 := of_decide_eq_true h2
  exact decide_eq_true fun h => h2 (leH_trans h (((leH_total x.1 y.1).resolve_right h1)))
 ntrans x y z h1 h2 := by
  rw [ltH] at *
  have h1 : leH y.1 x.1 := Decidable.byContradiction fun h => of_decide_eq_false h1 h
  have h2 : leH z.1 y.1 := Decidable.byContradiction fun h => of_decide_eq_false h2 h
  exact decide_eq_false fun h => h (leH_trans h2 h1)
theorem cmpLaysH (s : Nat) (hB : s + qs 0 + (s + qs 0) + 1 ≤ BIG) (blk off size : Nat) (w : World) : CmpLays Tryz.prog 52 #[] (encH s) 6 (cfH s) blk off size w :=
 fun _ _ _ _ x y => calls_grown (near_order x.1 y.1 _ (by have := x.2; have := y.2; omega))
theorem slices_SortH (s : Nat) (hB : s + qs 0 + (s + qs 0) + 1 ≤ BIG) (blk off cap : Nat) (d : Array (Bh s)) (w : World) (hH : HoldsK (encH s) 6 w blk off d) (hblk : blk < w.heap.size) (hsz : d.size < 4611686018427387904) :
  Calls Tryz.prog 51 #[.slice (some ⟨blk, off, none⟩) d.size cap, .func (.func 52) #[] #[]] w fun e w' =>
   e = .returned (.tuple #[]) ∧ ∃ d' n os, PermIn 0 d.size d d' ∧ SortedIn (ltOf (cfH s)) 0 d.size d' ∧ w' = sortWorldK (encH s) 6 w blk off n d' os :=
 AnyQ.slices_SortFunc Tryz.sortH 6 Tryz.isAgg51 Tryz.sizeOf51 (encH s) (fun _ => rfl) (fun x v hv => by simp [encH, htL] at hv; rcases hv with rfl | rfl | rfl | rfl | rfl | rfl <;> rfl) (cfH s) (swoH s) 52 #[] blk off cap d w
  (enters_of Tryz.func52 (by kernel_rfl) rfl) (cmpLaysH s hB blk off d.size w) hH hblk hsz
/-- hits that lie from the address on -/
def Lh (u : World) (A : Option Addr) (l : List Ht) : Prop :=
 l ≠ [] → ∃ b off, A = some ⟨b, off, none⟩ ∧ b < u.heap.size ∧ ∀ i h, l[i]? = some h → ∀ j v, (htL h)[j]? = some v → u.cell? ⟨b, off + i * 6 + j, none⟩ = some v
theorem Lh.grow {u u' : World} {A : Option Addr} {l : List Ht} (h : Lh u A l) (hg : Grow u u') : Lh u' A l := fun hn => by
 obtain ⟨b, off, e, hb, hc⟩ := h hn
 exact ⟨b, off, e, Nat.lt_of_lt_of_le hb hg.size, fun i q hi j v hj => (hg.cell (p := ⟨b, off + i * 6 + j, none⟩) hb).trans (hc i q hi j v hj)⟩
theorem flath_len (l : List Ht) : (l.flatMap htL).length = l.length * 6 := flat_lenO (enc := htL) (size := 6) (fun _ => rfl) l
theorem flath_at (l : List Ht) {i : Nat} {q : Ht} (hi : l[i]? = some q) {j : Nat} (hj : j < 6) : (l.flatMap htL)[i * 6 + j]? = (htL q)[j]? := by
 have hil := (List.getElem?_eq_some_iff.1 hi).1
 rw [flat_at (enc := htL) (size := 6) (fun _ => rfl) l i j hil hj]
 have e : l[i] = q := by rw [List.getElem?_eq_getElem hil] at hi; exact Option.some.inj hi
 rw [e]
/-- hits off a row of the call's own -/
theorem own_lh {u : World} {B n : Nat} {v : Value} {l : List Ht} (h : u.ownsRow B 51 6 v n (l.flatMap htL)) : ∃ A c, v = .slice A n c ∧ n ≤ c ∧ c ≤ maxLen ∧ Lh u A l ∧ n = l.length := by
 have hn : n = l.length := by have := h.1; rw [flath_len] at this; omega
 obtain ⟨_, h | ⟨g, cap, cur, rfl, hb, hh, hn', hc, hs, ht⟩⟩ := h
 ·obtain ⟨rfl, h0⟩ := h
  exact ⟨none, 0, by rw [h0], by omega, by unfold maxLen; omega, fun hne => absurd (List.eq_nil_of_length_eq_zero (by omega)) hne, hn⟩
 ·refine ⟨_, cap, rfl, hn', hc, fun _ => ⟨g, 0, rfl, heap_lt hh, fun i q hi j v hj => ?_⟩, hn⟩
  have hil : i < l.length := (List.getElem?_eq_some_iff.1 hi).1
  have hj5 : j < 6 := (List.getElem?_eq_some_iff.1 hj).1
  rw [cell_of_row u g _ cur 51 (0, 0) hh, Nat.zero_add]
  have h1 : (cur.toList.take (n * 6))[i * 6 + j]? = some v := by rw [ht, flath_at l hi hj5, hj]
  rw [List.getElem?_take, if_pos (by omega)] at h1
  simpa using h1
theorem ei_Hit : EI 29 51 6 64 := ei_of (by kernel_rfl) (by kernel_rfl) (by omega)
/-- a list as an array of bounded hits -/
def toH (s : Nat) (l : List Ht) (h : ∀ x ∈ l, qs x.2 ≤ s) : Array (Bh s) := (l.attach.map fun x => (⟨x.1, Nat.le_trans (h x.1 x.2) (Nat.le_add_right _ _)⟩ : Bh s)).toArray
theorem toH_list (s : Nat) (l : List Ht) (h : ∀ x ∈ l, qs x.2 ≤ s) : (toH s l h).toList.map (·.1) = l := by
 unfold toH
 simp only [List.map_map]
 exact (List.map_congr_left fun a _ => rfl).trans (List.attach_map_subtype_val l)
theorem toH_size (s : Nat) (l : List Ht) (h : ∀ x ∈ l, qs x.2 ≤ s) : (toH s l h).size = l.length := by
 unfold toH; simp
theorem toH_get (s : Nat) (l : List Ht) (h : ∀ x ∈ l, qs x.2 ≤ s) {i : Nat} {q : Ht} (hi : l[i]? = some q) : ((toH s l h)[i]!).1 = q := by
 have hl : i < l.length := (List.getElem?_eq_some_iff.1 hi).1
 have e := congrArg (·[i]?) (toH_list s l h)
 simp only [List.getElem?_map, hi] at e
 rw [getElem!_pos _ i (by rw [toH_size]; exact hl)]
 rw [Array.getElem?_toList, Array.getElem?_eq_getElem (by rw [toH_size]; exact hl)] at e
 simpa using e
/-- a row of hits of the call's own holds them -/
theorem holdsH {s : Nat} {u : World} {B g cap n : Nat} {l : List Ht} (h : u.ownsRow B 51 6 (.slice (some ⟨g, 0, none⟩) n cap) n (l.flatMap htL)) (hl : l.length = n) (hs : ∀ x ∈ l, qs x.2 ≤ s) : HoldsK (encH s) 6 u g 0 (toH s l hs) := by
 intro t ht
 rw [size_flatK, toH_size] at ht
 refine ⟨?_, h.frozenAt _⟩
 rw [get_flatK _ _ _ _ (by rw [toH_size]; omega)]
 have hlt : t / 6 < l.length := by omega
 have e := toH_get s l hs (List.getElem?_eq_getElem hlt)
 have h6 : t % 6 < (encH s (toH s l hs)[t / 6]!).length := by show t % 6 < 6; omega
 rw [Nat.zero_add, h.cellAt t (by omega)]
 have h1 := flath_at l (List.getElem?_eq_getElem hlt) (j := t % 6) (by omega)
 rw [show t / 6 * 6 + t % 6 = t by omega] at h1
 have e6 : (encH s (toH s l hs)[t / 6]!)[t % 6]! = (encH s (toH s l hs)[t / 6]!)[t % 6] := getElem!_pos (encH s (toH s l hs)[t / 6]!) (t % 6) h6
 rw [h1]
 show _ = some ((encH s (toH s l hs)[t / 6]!)[t % 6]!)
 rw [e6, ← e]
 exact List.getElem?_eq_getElem h6
theorem lh_of_holds {s : Nat} {w : World} {b : Nat} {d : Array (Bh s)} (h : HoldsK (encH s) 6 w b 0 d) (hb : b < w.heap.size) : Lh w (some ⟨b, 0, none⟩) (d.toList.map (·.1)) := fun _ => by
 refine ⟨b, 0, rfl, hb, fun i q hi j v hj => ?_⟩
 rw [List.getElem?_map, Array.getElem?_toList] at hi
 have hil : i < d.size := by
  refine Decidable.byContradiction fun hh => ?_
  rw [Array.getElem?_eq_none (by omega)] at hi
  cases hi
 have hj5 : j < 6 := (List.getElem?_eq_some_iff.1 hj).1
 have ht : i * 6 + j < (flatK (encH s) 6 d).size := by rw [size_flatK]; omega
 have h1 := (h (i * 6 + j) ht).1
 rw [get_flatK _ _ _ _ (by omega), show (i * 6 + j) / 6 = i by omega, show (i * 6 + j) % 6 = j by omega, getElem!_pos d i hil] at h1
 rw [Array.getElem?_eq_getElem hil] at hi
 simp only [Option.map_some, Option.some.injEq] at hi
 rw [← hi] at hj
 rw [show 0 + i * 6 + j = 0 + (i * 6 + j) by omega, h1]
 have hjl : j < (encH s d[i]).length := hj5
 rw [getElem!_pos _ j hjl]
 rw [List.getElem?_eq_getElem hjl] at hj
 exact hj
theorem sortH_list {s : Nat} {d d' : Array (Bh s)} (hp : PermIn 0 d.size d d') (hs : SortedIn (ltOf (cfH s)) 0 d.size d') : (d'.toList.map (·.1)).Perm (d.toList.map (·.1)) ∧ (d'.toList.map (·.1)).Pairwise leH := by
 obtain ⟨h1, -, h2⟩ := hp
 constructor
 ·rw [← h1] at h2
  have e1 : d'.extract 0 d'.size = d' := by simp
  have e2 : d.extract 0 d'.size = d := by rw [h1]; simp
  rw [e1, e2] at h2
  exact h2.map _
 ·rw [List.pairwise_iff_getElem]
  intro i j hi hj hij
  simp only [List.length_map, Array.length_toList] at hi hj
  have h3 := hs i j (Nat.zero_le _) hij (by omega)
  rw [ltH, getElem!_pos d' i hi, getElem!_pos d' j hj] at h3
  simp only [List.getElem_map, Array.getElem_toList]
  exact Decidable.byContradiction fun h => of_decide_eq_false h3 h
/-- slices.SortFunc of hits that lie in a row of the call's own: the list in order -/
theorem slices_SortHX (s : Nat) (hB : s + qs 0 + (s + qs 0) + 1 ≤ BIG) (w0 w : World) (hG : Grow w0 w) (g cap n : Nat) (l : List Ht) (hl : l.length = n) (hn : n < 4611686018427387904) (hs : ∀ x ∈ l, qs x.2 ≤ s) (h : w.ownsRow w0.heap.size 51 6 (.slice (some ⟨g, 0, none⟩) n cap) n (l.flatMap htL)) :
  Calls Tryz.prog 51 #[.slice (some ⟨g, 0, none⟩) n cap, .func (.func 52) #[] #[]] w fun e w' =>
   e = .returned (.tuple #[]) ∧ g < w'.heap.size ∧ Lh w' (some ⟨g, 0, none⟩) (srt l) ∧ Grow w0 w' := by
 have hgl := h.lt g rfl
 have hH := holdsH (s := s) h hl hs
 have hd := toH_list s l hs
 have hdn : (toH s l hs).size = n := by rw [toH_size, hl]
 generalize toH s l hs = d at hH hd hdn
 subst hdn
 refine (slices_SortH s hB g 0 cap d w hH hgl.2 hn).mono ?_
 rintro e w' ⟨rfl, d', q, os, hp, hst, rfl⟩
 obtain ⟨h1, h2⟩ := sortH_list hp hst
 rw [hd] at h1
 refine ⟨rfl, Nat.lt_of_lt_of_le hgl.2 (size_sortWorldK_c _ _ _ _ _ _ _ _), ?_, grow_sortK hG hgl.1 _ _ _ _⟩
 rw [← srt_uniq h1 h2]
 exact lh_of_holds (holdsK_sortWorldK_c _ _ _ _ _ _ _ _ _ hH hgl.2 hp.1) (Nat.lt_of_lt_of_le hgl.2 (size_sortWorldK_c _ _ _ _ _ _ _ _))
/-- slices.Clone of hits -/
theorem slices_CloneH (A : Option Addr) (c n : Nat) (l : List Ht) (hn : n = l.length) (hn0 : 0 < n) (hm : n ≤ 1099511627776) (w : World) (h : Lh w A l) :
  Calls Tryz.prog 53 #[.slice A n c] w fun e w' => ∃ v, e = .returned v ∧ w'.ownsRow w.heap.size 51 6 v n (l.flatMap htL) ∧ Grow w w' := by
 obtain ⟨b, off, rfl, hb, hc⟩ := h (fun e => by rw [e] at hn; simp at hn; omega)
 obtain ⟨-, ⟨i0, z, hi, hz, h1, h2, h3⟩, -⟩ := ei_Hit
 refine (AnyE.slices_Clone Tryz.cloneH i0 z 6 64 hi hz h1 h2 h3 (by omega) Tryz.sizeOf51 b off n c (l.flatMap htL) w (by rw [flath_len]; omega) (by unfold maxLen; omega) (by omega) ?_ ?_).mono ?_
 ·intro t u hu
  have htl := (List.getElem?_eq_some_iff.1 hu).1
  rw [flath_len] at htl
  have hq : l[t / 6]? = some (l[t / 6]'(by omega)) := List.getElem?_eq_getElem (by omega)
  have h6 := flath_at l hq (j := t % 6) (by omega)
  rw [show t / 6 * 6 + t % 6 = t by omega, hu] at h6
  have h7 := hc _ _ hq _ _ h6.symm
  rwa [show off + t / 6 * 6 + t % 6 = off + t by omega] at h7
 ·intro u hu
  obtain ⟨q, -, hq⟩ := List.mem_flatMap.1 hu
  simp [htL] at hq
  rcases hq with rfl | rfl | rfl | rfl | rfl | rfl <;> rfl
 ·rintro e w' ⟨v', rfl, ho, hne, hg⟩
  exact ⟨v', rfl, ho, hg⟩
theorem info_Hit : (Tryz.prog.info? 51).map (fun i => (i.zero, i.size, i.bytes)) = some (some (.agg (htL (0, 0)).toArray), 6, 64) := by kernel_rfl
theorem cells_madeH (n : Nat) : madeCells (Value.agg (htL (0, 0)).toArray).cells (n * 6) = ((List.replicate n ((0, 0) : Ht)).flatMap htL).toArray := by
 unfold madeCells
 refine Array.ext (by simp [flath_len]) fun i h1 h2 => ?_
 have h1' : i < n * 6 := by simpa using h1
 have hg := flath_at (List.replicate n ((0, 0) : Ht)) (i := i / 6) (q := (0, 0)) (by rw [List.getElem?_replicate, if_pos (by omega)]) (j := i % 6) (by omega)
 rw [show i / 6 * 6 + i % 6 = i by omega] at hg
 have h3 : ((List.replicate n ((0, 0) : Ht)).flatMap htL)[i]? = some ((List.replicate n ((0, 0) : Ht)).flatMap htL)[i] := List.getElem?_eq_getElem _
 rw [h3] at hg
 have h4 : (htL (0, 0))[i % 6]? = some ((htL (0, 0))[i % 6]'(by show i % 6 < 6; omega)) := List.getElem?_eq_getElem _
 rw [h4] at hg
 injection hg with hg
 simp only [List.getElem_toArray, Value.cells, Array.getElem_ofFn]
 rw [hg]
 simp
 rw [h4]
 rfl
theorem make_Hit (n : Nat) (hn : n ≤ 1048576) (x : Int) (hx : x = n) (W : World) : (Instr.makeSlice 29 (.int .i64 x) (.int .i64 x)).run Tryz.prog W =
  .ok (.slice (some ⟨W.heap.size, 0, none⟩) n n) (W.alloc (.cells ((List.replicate n ((0, 0) : Ht)).flatMap htL).toArray 51)) := by
 obtain ⟨i0, hi0, hz0, hz1, hz2⟩ := info_parts info_Hit
 have hr := run_make (P := Tryz.prog) W 29 51 i0 (.agg (htL (0, 0)).toArray) Tryz.underlying29 hi0 hz0 .i64 .i64 n n (by omega) (by omega) (by rw [hz2]; omega) (by omega)
 rw [hx]
 rw [hr, hz1]
 simp only [Int.toNat_natCast]
 rw [cells_madeH]
/-- the hits of the first i rows, the others nothing -/
def fillH (f : Nat → Rat) (n i : Nat) : List Ht := (List.range n).map fun j => if j < i then (j, f j) else (0, 0)
theorem fillH_len (f : Nat → Rat) (n i : Nat) : (fillH f n i).length = n := by unfold fillH; simp
theorem fillH_start (f : Nat → Rat) (n : Nat) : fillH f n 0 = List.replicate n (0, 0) := by
 unfold fillH
 apply List.ext_getElem
 ·simp
 ·intro i h1 h2; simp
theorem fillH_end (f : Nat → Rat) (n : Nat) : fillH f n n = hitsTo f n := by
 unfold fillH hitsTo
 refine List.map_congr_left fun j hj => ?_
 rw [if_pos (List.mem_range.1 hj)]
theorem fillH_set {f : Nat → Rat} {n i : Nat} (h : i < n) : (fillH f n i).set i (i, f i) = fillH f n (i + 1) := by
 unfold fillH
 apply List.ext_getElem
 ·simp
 ·intro j h1 h2
  rw [List.getElem_set]
  simp only [List.getElem_map, List.getElem_range]
  by_cases e : i = j
  ·subst e; simp
  ·rw [if_neg e]
   by_cases hj : j < i
   ·rw [if_pos hj, if_pos (by omega)]
   ·rw [if_neg hj, if_neg (by omega)]
theorem own_made_H {u v : World} {B n : Nat} (hB : B ≤ u.heap.size) (hn : n ≤ 1048576) (hv : u.alloc (.cells ((List.replicate n ((0, 0) : Ht)).flatMap htL).toArray 51) = v) : v.ownsRow B 51 6 (.slice (some ⟨u.heap.size, 0, none⟩) n n) n ((List.replicate n ((0, 0) : Ht)).flatMap htL) := by
 subst hv
 have h := World.ownsRow_lit (base := B) (e := 51) (size := 6) u ((List.replicate n ((0, 0) : Ht)).flatMap htL).toArray n hB (by unfold maxLen; omega) (by simp [flath_len])
 simpa using h
theorem cloneX {w W : World} {f : FuncId} {args : Array Value} {n : Nat} {xs : List Value} (h : Calls Tryz.prog f args W fun e w' => ∃ v, e = .returned v ∧ w'.ownsRow W.heap.size 51 6 v n xs ∧ Grow W w') (hg : Grow w W) : Calls Tryz.prog f args W (RetY (fun x : Value => x) (fun x W' => W'.ownsRow w.heap.size 51 6 x n xs) W) :=
 h.mono fun e w' ⟨v, he, ho, hg'⟩ => ⟨v, he, ho.mono hg.size, hg'⟩
theorem lh_take {W : World} {A : Option Addr} {l : List Ht} (h : Lh W A l) (k : Nat) : Lh W A (l.take k) := fun hne => by
 obtain ⟨b, off, e, hb, hc⟩ := h (fun e => hne (by rw [e]; simp))
 refine ⟨b, off, e, hb, fun i q hi j v hj => hc i q ?_ j v hj⟩
 rw [List.getElem?_take] at hi
 split at hi
 ·exact hi
 ·cases hi
theorem slice_runH (g cap n hi : Nat) (h2 : hi ≤ cap) (W : World) : (Instr.slice 29 (.slice (some ⟨g, 0, none⟩) n cap) none (some (.int .i64 (hi : Nat))) none).run Tryz.prog W = .ok (.slice (some ⟨g, 0, none⟩) hi cap) W := by
 have h3 : (hi : Int) ≤ (cap : Int) := by omega
 go_simp
/-- a training row's numbers -/
def rowR (rs : List (List Rat)) (i : Nat) : List Rat := (rs[i]?).getD []
set_option maxHeartbeats 4000000 in
set_option maxRecDepth 100000 in
theorem near_Plain_ok (A B : Option Addr) (rs : List Rq) (n L c d k : Nat) (q : List Rat) (hn : rs.length = n) (hn1 : 1 ≤ n) (hn2 : n ≤ 300) (hL1 : 1 ≤ L) (hL2 : L ≤ 20) (hrl : ∀ r ∈ rs, r.2.2.length = L) (hq : q.length = L) (hk1 : 1 ≤ k) (hk2 : k ≤ 300) (s : Nat) (hs : ∀ r ∈ rs, ∀ x ∈ r.2.2, qs x ≤ s) (hs' : ∀ x ∈ q, qs x ≤ s) (hBz : 400 * s + 1000 ≤ BIG)
  (w : World) (h : Lrq w A rs) (h' : Lq w B q) (HT : Tab w) :
  Calls Tryz.prog 15 #[.slice A n c, .slice B L d, .int .i64 (k : Nat)] w (RetY (fun x : Ax => .tuple #[.slice x.1 (min k n) x.2, .int .i64 0]) (fun x W => Lh W x.1 (best k (hitsTo (fun i => farQ (rowR (rs.map (·.2.2)) i) q L) n))) w) := by
 obtain ⟨bb, ob, rfl⟩ := h.addr (by omega)
 obtain ⟨F, hF'⟩ : ∃ F : Nat → Rat, F = fun i => farQ (rowR (rs.map (·.2.2)) i) q L := ⟨_, rfl⟩
 have hLz : L * (4 * s + 3) ≤ 20 * (4 * s + 3) := Nat.mul_le_mul_right _ hL2
 have hro : ∀ i (hi : i < rs.length), rowR (rs.map (·.2.2)) i = rs[i].2.2 := fun i hi => by unfold rowR; rw [List.getElem?_map, List.getElem?_eq_getElem hi]; rfl
 have hrow : ∀ i, i < n → ∃ (Ar : Option Addr) (cr : Nat), (∀ W, Grow w W → W.cell? ⟨bb, ob + i, none⟩ = some (.slice Ar L cr)) ∧ ∀ W, Grow w W → Tab W → Calls Tryz.prog 50 #[.int .i64 (i : Nat), .slice Ar L cr, .slice B L d] W fun e w' => e = .returned (htV i (F i)) ∧ Grow W w' := fun i hi => by
  have hil : i < rs.length := by omega
  have hL1 := hrl _ (List.getElem_mem hil)
  refine ⟨rs[i].1, rs[i].2.1, fun W hg => ?_, fun W hg hT => ?_⟩
  ·have h3 := ((h.grow hg).read (List.getElem?_eq_getElem hil)).1
   rw [hL1] at h3
   exact h3
  ·have := near_hit i rs[i].1 B rs[i].2.2 q rs[i].2.1 d L hL1 hq (by omega) s (hs _ (List.getElem_mem hil)) hs' (by omega) W ((h.grow hg).read (List.getElem?_eq_getElem hil)).2 (h'.grow hg) hT
   rw [hF']
   simp only [hro i hil]
   exact this
 have hval : ∀ W, Grow w W → Calls Tryz.prog 49 #[.slice (some ⟨bb, ob, none⟩) n c] W fun e w' => e = .returned (.bool true) ∧ Grow W w' := fun W hg => near_valid_ok (some ⟨bb, ob, none⟩) rs n L c hn hn1 hn2 hL1 hL2 hrl W (h.grow hg)
 have hFz : ∀ x ∈ hitsTo F n, qs x.2 ≤ 100 * s + 200 := fun x hx => by
  unfold hitsTo at hx
  obtain ⟨i, hi, rfl⟩ := List.mem_map.1 hx
  have hil : i < rs.length := by have := List.mem_range.1 hi; omega
  have h1 := farQ_sz (hrl _ (List.getElem_mem hil)) hq (hs _ (List.getElem_mem hil)) hs' L (Nat.le_refl _)
  show qs (F i) ≤ _
  rw [hF']
  simp only [hro i hil]
  unfold farQ
  omega
 rw [← hF']
 have hq0 : qs 0 = qs 0 := rfl
 have hmk := make_Hit n (by omega) (n : Int) rfl
 have z0 : 100 * s + 200 + qs 0 + (100 * s + 200 + qs 0) + 1 ≤ BIG := by rw [qs_zero]; omega
 have hso := fun (w1 : World) (hG : Grow w w1) (g cap : Nat) (ho : w1.ownsRow w.heap.size 51 6 (.slice (some ⟨g, 0, none⟩) n cap) n ((hitsTo F n).flatMap htL)) => slices_SortHX (100 * s + 200) z0 w w1 hG g cap n (hitsTo F n) (by unfold hitsTo; simp) (by omega) hFz ho
 obtain ⟨kn, hkn⟩ : ∃ x, x = min k n := ⟨_, rfl⟩
 have fmin : min (k : Int) (n : Int) = (kn : Int) := by omega
 have hbl : (best k (hitsTo F n)).length = kn := by rw [best_len, hkn]; unfold hitsTo; simp
 have hcl := fun (W : World) (g cap : Nat) (hL : Lh W (some ⟨g, 0, none⟩) (best k (hitsTo F n))) => slices_CloneH (some ⟨g, 0, none⟩) cap kn (best k (hitsTo F n)) hbl.symm (by omega) (by omega) W hL
 have hsl := fun (g cap : Nat) (hc : kn ≤ cap) W => slice_runH g cap n kn hc W
 rw [← hkn]
 have hrow0 := hrow 0 (by omega)
 obtain ⟨A0, c0, hr0, -⟩ := hrow0
 rw [Nat.add_zero] at hr0
 have hkn1 : kn ≤ n := by omega
 have f1 : decide ((k : Int) < 1) = false := by simp; omega
 have f1n : decide (k < 1) = false := by simp; omega
 have f1z : decide (k = 0) = false := by simp; omega
 have f2 : decide (300 < (k : Int)) = false := by simp; omega
 have f2n : decide (300 < k) = false := by simp; omega
 have fnz : decide (n = 0) = false := by simp; omega
 have fnp : 0 < n := by omega
 have hni : (0 : Int) < (n : Int) := by omega
 have hne : ((L : Int) != (L : Int)) = false := by simp
 have Hrow := Lib.hid hrow
 have Hval := Lib.hid hval
 have Hso := Lib.hid hso
 have Hcl := Lib.hid hcl
 have Hsl := Lib.hid hsl
 have Hr0 := Lib.hid hr0
 have Hmk := Lib.hid hmk
 clear hrow hval hso hcl hsl hr0 hro hFz h h' hs hs' hrl hF' hn hq hbl hq0 z0 hLz hkn hBz hmk
 go_enter Tryz.func15, Tryz.ntmps15
 refine en0 ?_
 intro u hG hB hF
 refine wp_seq ?_
 refine r0T ?_
 refine wp_cond_false (rfl) ?_
 refine wp_skip ?_
 refine then_norm ?_
 refine wp_seq ?_
 refine wp_seq (rsE allocs [0, 1, 0, 0, 0, 0, 0, 0, 0, 0, 0, 0] hB hG fun L hL => ?_)
 refine gs ?_
 refine gmd (C := fun v ⟨hgu, hB, hG, _⟩ => Hval.out _ hG) ?_
 repeat first | refine gya ?_ | refine gyr ?_ | refine gna ?_ | refine gyb (by (rintro v ⟨hgu, hB, hG, -⟩ N hN; have r := hB.r; simp only [BxR] at r; have q0 := Hr0.out v hG; go_simp; exact hN)) ?_
 refine geT hL ?_
 clear hB hG hL L
 rintro u ⟨-, hB, hG, -⟩
 refine wp_cond_false (rfl) ?_
 refine wp_skip ?_
 refine then_norm ?_
 refine wp_seq ?_
 have hmk := Hmk.out
 refine wp_r0 ?_
 intro K hN
 go_wp2_with fail
 generalize hv : World.alloc u _ = v
 have hrow := own_made_H hG.sz (by omega) hv
 have hG2 : Grow w v := hG.trans (hv ▸ Grow.alloc u _)
 clear hv hG hB hmk
 rw [← fillH_start F n] at hrow
 generalize u.heap.size = g at hrow ⊢
 have Ho := Lib.hid hrow
 have hG := hG2
 have hB := Bx.nil v
 clear hrow hG2
 obtain ⟨u, rfl⟩ : ∃ x, x = v := ⟨_, rfl⟩
 refine NoK.norm (hN _ _ ?_)
 clear hN K
 refine then_norm ?_
 refine wp_seq ?_
 refine r0T ?_
 refine wp_block ?_
 go_loopw [34] (fun s0 wr => ∃ i : Nat, i ≤ n ∧ s0 = .int .i64 i ∧ wr.ownsRow w.heap.size 51 6 (.slice (some ⟨g, 0, none⟩) n n) n ((fillH F n i).flatMap htL) ∧ Grow w wr) (fun s0 _ => n - (intOf s0).toNat)
 case atStart => exact ⟨0, Nat.zero_le _, rfl, Ho.out, hG⟩
 case round =>
  clear hB hG Ho
  obtain ⟨i, hi, rfl, ho, hG⟩ := hrel
  obtain ⟨u, rfl⟩ : ∃ x, x = wr := ⟨_, rfl⟩
  have hB := Bx.nil u
  have Ho := Lib.hid ho
  clear ho
  rcases Nat.lt_or_ge i n with hlt | hge
  ·have hdec : decide ((i : Int) < (n : Int)) = true := by simp; omega
   have hini : (i : Int) < (n : Int) := by omega
   obtain ⟨Ar, cr, hr1, hr2⟩ := Hrow.out i hlt
   have Hr1 := Lib.hid hr1
   have Hr2 := Lib.hid hr2
   clear hr1 hr2
   refine r0T ?_
   refine wp_seq ?_
   refine wp_cond_true (rfl) ?_
   refine wp_skip ?_
   refine then_norm ?_
   refine wp_seq ?_
   refine wp_block ?_
   refine wp_seq ?_
   have q1 := Hr1.out u hG
   refine r0N ?_
   refine rsC allocs [0, 0, 0, 0, 0, 1, 0] hB hG fun K L hN hL => ?_
   refine gs ?_
   refine gmd (C := fun v ⟨hgu, hB, hG, _⟩ => Hr2.out _ hG (HT.grow hG)) ?_
   refine gs ?_
   refine geC hL ?_
   clear hB hG hL L
   rintro u ⟨hgu, hB, hG, -⟩
   have Ho2 := Lib.hid (own_grow' Ho.out hgu)
   clear Ho
   have Ho := Ho2
   clear Ho2
   obtain ⟨y0, y1, y2, y3, y4, y5, e0, e1, e2, e3, e4, e5, hfz⟩ := own_spot6 (fun _ => rfl) Ho.out (fillH_len F n i).symm i (by rw [fillH_len]; exact hlt)
   clear hgu
   refine gt ?_
   clear hN K
   clear e0 e1 e2 e3 e4 e5 hfz
   generalize hu0 : World.setCell (World.setCell (World.setCell (World.setCell (World.setCell (World.setCell u _ _) _ _) _ _) _ _) _ _) _ _ = u0
   have hu1 : putAll u g (i * 6) (htL (i, F i)) = u0 := hu0
   have hP := own_put (enc := htL) (size := 6) (ps := fillH F n i) (fun _ => rfl) Ho.out i (i, F i) (by rw [fillH_len]; exact hlt)
   rw [fillH_set hlt, hu1] at hP
   have hG2 := own_kgrow' Ho.out hG hP.2
   have Ho2 := Lib.hid hP.1
   clear hG hB Ho hP hu1 hu0
   have hG := hG2
   have Ho := Ho2
   clear hG2 Ho2
   obtain ⟨u, rfl⟩ : ∃ x, x = u0 := ⟨_, rfl⟩
   have hB := Bx.nil u
   refine blk_norm ?_
   refine then_norm ?_
   refine r0E ?_
   refine then_norm ?_
   go_roundw
   case rel => exact ⟨i + 1, by omega, by go_num, Ho.out, hG⟩
   case measure => simp [intOf]; omega
  ·obtain rfl : n = i := by omega
   have hdec : decide ((n : Int) < (n : Int)) = false := by simp
   have ho := Ho.out
   rw [fillH_end] at ho
   have hsrt := Hso.out u hG g n ho
   have Hsrt := Lib.hid hsrt
   clear Ho ho hsrt Hso
   refine r0T ?_
   refine wp_seq ?_
   refine wp_cond_false (rfl) ?_
   refine wp_exit ?_
   refine then_exit ?_
   refine then_exit ?_
   refine blk_exit ?_
   refine then_norm ?_
   refine wp_seq ?_
   refine wp_r0 ?_
   intro K hN
   go_wp2_with (go_at_call 51; refine Hsrt.out.mono ?_; rintro e w2 ⟨rfl, hgl, hL, hg2⟩)
   refine NoK.norm (hN _ _ ?_)
   clear hN K Hsrt
   have HL := Lib.hid (And.intro hgl (lh_take hL k))
   have hGn := hg2
   clear hgl hL hB hG hg2
   have hG := hGn
   clear hGn
   obtain ⟨u, rfl⟩ : ∃ x, x = w2 := ⟨_, rfl⟩
   have hB := Bx.nil u
   have hsl2 := Hsl.out g n hkn1
   refine then_norm ?_
   refine wp_seq (rsE allocs [0, 0, 0, 0, 0, 0, 1, 0, 0] hB hG fun L hL => ?_)
   refine gs ?_
   refine gxd (X := Value) (fun x : Value => x) (fun x W => W.ownsRow w.heap.size 51 6 x kn ((best k (hitsTo F n)).flatMap htL)) (fun x u u' hg h => own_grow' h hg) (fun x55 => ?_) (C := by (rintro v ⟨hgu, hB, hG, -⟩; exact cloneX (Hcl.out _ g n (Lh.grow HL.out.2 hgu)) hG))
   refine gs ?_
   refine geT hL ?_
   clear hB hG hL L
   rintro u ⟨⟨-, hB, hG, -⟩, hx55⟩
   obtain ⟨A', c', rfl, -, -, hL, -⟩ := own_lh hx55
   have HLL := Lib.hid hL
   clear hL hx55
   refine rt Tryz.results15 ?_
   exact ⟨(A', c'), rfl, HLL.out, hG⟩
end Go.Proofs.YtjmopgepnndckaaGreatDoor
