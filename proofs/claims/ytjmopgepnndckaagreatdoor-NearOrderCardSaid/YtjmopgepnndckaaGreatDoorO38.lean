/-
  Contracts and laws: SortLI NearGA NearG.
-/
import Derived.Test.YtjmopgepnndckaaGreatDoorO36
import Derived.Test.YtjmopgepnndckaaGreatDoorO37
import Derived.Shelf.SlLaysF0
import Derived.Shelf.SlLaysF
import Derived.Shelf.SlLaysE0
import Derived.Shelf.SlGeneric
import Derived.Ground.SlsfProg
import Derived.Ground.SlgnProg
import Derived.Test.YtjmopgepnndckaaGreatDoorProg
import Derived.Shelf.SlSortCmp.Whole1
import Derived.Deep.RegionHeld3
import Derived.Deep.AppendLies
set_option linter.unusedSimpArgs false
set_option linter.unusedVariables false
namespace Go.Proofs
open Go.Shelf
def Tryz.sortI_ren : Go.Shelf.Ren := ⟨fun | 6 => 106 | 15 => 90 | 14 => 146 | 28 => 135 | 29 => 136 | 20 => 169 | 21 => 170 | 22 => 171 | 23 => 172 | 24 => 173 | 25 => 174 | 26 => 175 | 27 => 176 | 46 => 193 | 47 => 161 | 48 => 162 | 49 => 194 | 50 => 195 | 57 => 210 | n => n, fun | 22 => 22 | 24 => 3 | 25 => 28 | 3 => 3 | 39 => 91 | 0 => 0 | 53 => 162 | 55 => 43 | 4 => 4 | 46 => 190 | 45 => 189 | 50 => 194 | 5 => 5 | 9 => 9 | 66 => 215 | 70 => 219 | 76 => 249 | 77 => 62 | n => n, fun | n => n⟩
theorem Tryz.sortI : Go.Proofs.SlLaysF.n6 Tryz.prog Tryz.sortI_ren := {
 mixed := by kernel_rfl
 f6 := ⟨Tryz.f106.name, by decide, Tryz.func106.trans (congrArg some (by kernel_rfl))⟩
 f14 := ⟨Tryz.f146.name, by decide, Tryz.func146.trans (congrArg some (by kernel_rfl))⟩
 f15 := Tryz.func90.trans (congrArg some (by kernel_rfl))
 f20 := ⟨Tryz.f169.name, by decide, Tryz.func169.trans (congrArg some (by kernel_rfl))⟩
 f21 := ⟨Tryz.f170.name, by decide, Tryz.func170.trans (congrArg some (by kernel_rfl))⟩
 f22 := ⟨Tryz.f171.name, by decide, Tryz.func171.trans (congrArg some (by kernel_rfl))⟩
 f23 := ⟨Tryz.f172.name, by decide, Tryz.func172.trans (congrArg some (by kernel_rfl))⟩
 f24 := ⟨Tryz.f173.name, by decide, Tryz.func173.trans (congrArg some (by kernel_rfl))⟩
 f25 := ⟨Tryz.f174.name, by decide, Tryz.func174.trans (congrArg some (by kernel_rfl))⟩
 f26 := ⟨Tryz.f175.name, by decide, Tryz.func175.trans (congrArg some (by kernel_rfl))⟩
 f27 := ⟨Tryz.f176.name, by decide, Tryz.func176.trans (congrArg some (by kernel_rfl))⟩
 f28 := Tryz.func135.trans (congrArg some (by kernel_rfl))
 f29 := Tryz.func136.trans (congrArg some (by kernel_rfl))
 f46 := ⟨Tryz.f193.name, by decide, Tryz.func193.trans (congrArg some (by kernel_rfl))⟩
 f47 := Tryz.func161.trans (congrArg some (by kernel_rfl))
 f48 := Tryz.func162.trans (congrArg some (by kernel_rfl))
 f49 := ⟨Tryz.f194.name, by decide, Tryz.func194.trans (congrArg some (by kernel_rfl))⟩
 f50 := ⟨Tryz.f195.name, by decide, Tryz.func195.trans (congrArg some (by kernel_rfl))⟩
 f57 := ⟨Tryz.f210.name, by decide, Tryz.func210.trans (congrArg some (by kernel_rfl))⟩
 t0 := Tryz.underlying0
 a0 := Tryz.isAgg0
 z0 := Tryz.sizeOf0
 v0 := Tryz.zeroValue0
 t3 := Tryz.underlying3
 a3 := Tryz.isAgg3
 z3 := Tryz.sizeOf3
 v3 := Tryz.zeroValue3
 t4 := Tryz.underlying4
 a4 := Tryz.isAgg4
 z4 := Tryz.sizeOf4
 v4 := Tryz.zeroValue4
 t5 := Tryz.underlying5
 a5 := Tryz.isAgg5
 z5 := Tryz.sizeOf5
 v5 := Tryz.zeroValue5
 t9 := Tryz.underlying9
 a9 := Tryz.isAgg9
 z9 := Tryz.sizeOf9
 v9 := Tryz.zeroValue9
 t22 := Tryz.underlying22
 a22 := Tryz.isAgg22
 z22 := Tryz.sizeOf22
 v22 := Tryz.zeroValue22
 a24 := Tryz.isAgg3
 z24 := Tryz.sizeOf3
 t25 := Tryz.underlying28
 a25 := Tryz.isAgg28
 z25 := Tryz.sizeOf28
 v25 := Tryz.zeroValue28
 t39 := Tryz.underlying91
 a39 := Tryz.isAgg91
 z39 := Tryz.sizeOf91
 v39 := Tryz.zeroValue91
 t45 := Tryz.underlying189
 a45 := Tryz.isAgg189
 z45 := Tryz.sizeOf189
 v45 := Tryz.zeroValue189
 t46 := Tryz.underlying190
 a46 := Tryz.isAgg190
 z46 := Tryz.sizeOf190
 v46 := Tryz.zeroValue190
 t50 := Tryz.underlying194
 a50 := Tryz.isAgg194
 z50 := Tryz.sizeOf194
 v50 := Tryz.zeroValue194
 t53 := Tryz.underlying162
 a53 := Tryz.isAgg162
 z53 := Tryz.sizeOf162
 v53 := Tryz.zeroValue162
 t55 := Tryz.underlying43
 a55 := Tryz.isAgg43
 z55 := Tryz.sizeOf43
 v55 := Tryz.zeroValue43
 t66 := Tryz.underlying215
 a66 := Tryz.isAgg215
 z66 := Tryz.sizeOf215
 v66 := Tryz.zeroValue215
 t70 := Tryz.underlying219
 a70 := Tryz.isAgg219
 z70 := Tryz.sizeOf219
 v70 := Tryz.zeroValue219
 t76 := Tryz.underlying249
 a76 := Tryz.isAgg249
 z76 := Tryz.sizeOf249
 v76 := Tryz.zeroValue249
 t77 := Tryz.underlying62
 a77 := Tryz.isAgg62
 z77 := Tryz.sizeOf62
 v77 := Tryz.zeroValue62 }
def Tryz.cloneI_ren : Go.Shelf.Ren := ⟨fun | 41 => 105 | n => n, fun | 22 => 22 | 23 => 3 | 4 => 4 | n => n, fun | n => n⟩
theorem Tryz.cloneI : Go.Proofs.SlLaysE0.n41 Tryz.prog Tryz.cloneI_ren := {
 mixed := by kernel_rfl
 f41 := ⟨Tryz.f105.name, by decide, Tryz.func105.trans (congrArg some (by kernel_rfl))⟩
 t4 := Tryz.underlying4
 a4 := Tryz.isAgg4
 z4 := Tryz.sizeOf4
 v4 := Tryz.zeroValue4
 t22 := Tryz.underlying22
 a22 := Tryz.isAgg22
 z22 := Tryz.sizeOf22
 v22 := Tryz.zeroValue22 }
end Go.Proofs
namespace Go.Proofs.YtjmopgepnndckaaGreatDoor
open Go Go.RowKit Go.Sort Go.Shelf
/-- two rows by a column, then by their numbers -/
def cmpC (X : List (List Rat)) (c a b : Nat) : Int := orI (cmpQ (ent X a c) (ent X b c)) (cmpI (a : Nat) (b : Nat))
theorem cmpC_lt (X : List (List Rat)) (c a b : Nat) : cmpC X c a b < 0 ↔ ¬ leC X c b a := by
 unfold cmpC orI cmpQ cmpI leC
 by_cases h1 : ent X a c < ent X b c
 ·have h2 : ¬ ent X b c < ent X a c := by grind
  have h3 : ent X b c ≠ ent X a c := by grind
  simp [h1, h2, h3]
 ·by_cases h2 : ent X b c < ent X a c
  ·simp [h1, h2]
  ·have e : ent X a c = ent X b c := by grind
   simp [e, Rat.lt_irrefl]
   by_cases h4 : a < b
   ·simp [h4]
   ·by_cases h5 : b < a <;> simp [h4, h5] <;> omega
theorem ent_gq (X : List (List Rat)) (i c : Nat) : ent X i c = gq (rowR X i) c := by unfold ent gq rowR; rw [List.getD_eq_getElem?_getD]
/-- what the comparison reads -/
structure GrC (b3 b5 bT : Nat) (RA : Option Addr) (RC n : Nat) (NV : Value) (col : Nat) (rs : List Rq) (W : World) : Prop where
 p3 : Blk W b3 169 #[.pointer (some ⟨bT, 0, none⟩)]
 p5 : Blk W b5 3 #[.int .i64 (col : Nat)]
 pT : Blk W bT 79 #[.slice RA n RC, NV]
 rows : Lrq W RA rs
theorem GrC.grow {b3 b5 bT : Nat} {RA : Option Addr} {RC n : Nat} {NV : Value} {col : Nat} {rs : List Rq} {u u' : World} (h : GrC b3 b5 bT RA RC n NV col rs u) (hg : Grow u u') : GrC b3 b5 bT RA RC n NV col rs u' := ⟨h.p3.grow hg, h.p5.grow hg, h.pT.grow hg, h.rows.grow hg⟩
set_option maxHeartbeats 1000000 in
set_option maxRecDepth 100000 in
theorem near_grow_c1 (b3 b5 bT : Nat) (RA : Option Addr) (RC n L : Nat) (NV : Value) (col : Nat) (rs : List Rq) (hn : rs.length = n) (hrl : ∀ r ∈ rs, r.2.2.length = L) (hcol : col < L) (s : Nat) (hs : ∀ r ∈ rs, ∀ x ∈ r.2.2, qs x ≤ s) (hBz : 2 * s + 1 ≤ BIG) (a b : Nat) (ha : a < n) (hb : b < n) (w : World) (h : GrC b3 b5 bT RA RC n NV col rs w) :
  Calls Tryz.prog 107 #[.int .i64 (a : Nat), .int .i64 (b : Nat), .pointer (some ⟨b3, 0, none⟩), .pointer (some ⟨b5, 0, none⟩)] w fun e w' => e = .returned (.int .i64 (cmpC (rs.map (·.2.2)) col a b)) ∧ Grow w w' := by
 obtain ⟨bb, ob, rfl⟩ := h.rows.addr (by omega)
 have hrow : ∀ i, i < n → ∃ (ba oa : Nat) (cr : Nat), qs (ent (rs.map (·.2.2)) i col) ≤ s ∧ ∀ W, Grow w W → W.cell? ⟨bb, ob + i, none⟩ = some (.slice (some ⟨ba, oa, none⟩) L cr) ∧ Cq W ba (oa + col * 5) (ent (rs.map (·.2.2)) i col) := fun i hi => by
  have hil : i < rs.length := by omega
  have hL := hrl _ (List.getElem_mem hil)
  obtain ⟨h1, h2⟩ := h.rows.read (List.getElem?_eq_getElem hil)
  obtain ⟨ba, oa, e⟩ := h2.addr (by omega)
  have er : ent (rs.map (·.2.2)) i col = gq rs[i].2.2 col := by
   rw [ent_gq]
   unfold rowR
   rw [List.getElem?_map, List.getElem?_eq_getElem hil]
   rfl
  rw [er]
  refine ⟨ba, oa, rs[i].2.1, hs _ (List.getElem_mem hil) _ (gq_mem (by omega)), fun W hg => ?_⟩
  obtain ⟨h3, h4⟩ := (h.rows.grow hg).read (List.getElem?_eq_getElem hil)
  rw [e] at h3 h4
  rw [hL] at h3
  exact ⟨h3, h4.read (by omega)⟩
 obtain ⟨ba, oa, ca, za, ra⟩ := hrow a ha
 obtain ⟨bb2, ob2, cb, zb, rb⟩ := hrow b hb
 unfold cmpC
 obtain ⟨x, hx⟩ : ∃ x, x = ent (rs.map (·.2.2)) a col := ⟨_, rfl⟩
 obtain ⟨y, hy⟩ : ∃ x, x = ent (rs.map (·.2.2)) b col := ⟨_, rfl⟩
 rw [← hx] at za ⊢
 rw [← hy] at zb ⊢
 simp only [← hx] at ra
 simp only [← hy] at rb
 have hcm := fun W => frac_Cmp x y W (by omega)
 have hci := fun W => cmp_Compare_int (a : Nat) (b : Nat) W
 have hc : ∀ W, Grow w W → W.cell? ⟨b3, 0, none⟩ = some (.pointer (some ⟨bT, 0, none⟩)) ∧ W.cell? ⟨b5, 0, none⟩ = some (.int .i64 (col : Nat)) ∧ W.cell? ⟨bT, 0, none⟩ = some (.slice (some ⟨bb, ob, none⟩) n RC) := fun W hg => ⟨(h.grow hg).p3.cell 0, (h.grow hg).p5.cell 0, (h.grow hg).pT.cell 0⟩
 have hai : (a : Int) < (n : Int) := by omega
 have hbi : (b : Int) < (n : Int) := by omega
 have hci2 : (col : Int) < (L : Int) := by omega
 obtain ⟨P, hP⟩ : ∃ X, X = cmpQ x y := ⟨_, rfl⟩
 obtain ⟨Q, hQ⟩ : ∃ X, X = cmpI (a : Nat) (b : Nat) := ⟨_, rfl⟩
 rw [← hP, ← hQ]
 simp only [← hP] at hcm
 simp only [← hQ] at hci
 have Hcm := Lib.hid hcm
 have Hci := Lib.hid hci
 have Ra := Lib.hid ra
 have Rb := Lib.hid rb
 have Hc := Lib.hid hc
 clear hcm hci ra rb hc hP hQ hx hy za zb h hs hrl hn hrow hBz
 go_enter Tryz.func107, Tryz.ntmps107
 refine en0 ?_
 intro u hG hB hF
 refine wp_seq (rdC allocs [] [(0, 0), (0, 1), (0, 2), (0, 3), (0, 4), (0, 5), (0, 6), (0, 7), (0, 8), (0, 9), (0, 10), (0, 11), (0, 12), (0, 13), (0, 14), (0, 15), (0, 16), (0, 17), (0, 18), (0, 19), (0, 21), (0, 22), (1, 20), (1, 23), (1, 24), (1, 25)] hB hG fun K L hN hL => ?_)
 repeat first | refine gya ?_ | refine gyr ?_ | refine gna ?_ | refine gyb (by (rintro v ⟨hgu, hB, hG, -⟩ N hN; have r := hB.r; simp only [BxR] at r; obtain ⟨p1, p2, p3⟩ := Hc.out v hG; obtain ⟨g1, q1, q2, q3, q4, q5⟩ := Ra.out v hG; obtain ⟨g2, y1, y2, y3, y4, y5⟩ := Rb.out v hG; go_simp; exact hN)) ?_
 refine gmw (C := fun v => Hcm.out _) ?_
 refine gmw (C := fun v => Hci.out _) ?_
 refine gx Nat (fun b => .slice (some ⟨b, 0, none⟩) 2 2) (fun b W => Li W (some ⟨b, 0, none⟩) [P, Q]) (fun _ _ _ hg h => h.grow hg) rfl ?_ (fun x31 => ?_)
 ·(rintro v ⟨hgu, hB, hG, -⟩ N hN; go_simp; exact hN v.heap.size _ (liN_new v [P, Q]) (Grow.alloc _ _))
 refine okf (by simp only [Act.put, List.setIfInBounds_toArray, List.set_cons_succ, List.set_cons_zero]; exact rfl) ?_
 refine gmd (C := fun v ⟨⟨hgu, hB, hG, _⟩, hx31⟩ => cmp_Or_two x31 2 P Q _ hx31) ?_
 refine geC hL ?_
 clear hB hG hL L
 rintro u ⟨⟨-, hB, hG, -⟩, hx31⟩
 refine gtT ?_
 clear hN K
 refine rt Tryz.results107 ?_
 exact ⟨rfl, hG⟩
abbrev cfC (X : List (List Rat)) (c : Nat) {n : Nat} (x y : Fin n) : Int := cmpC X c x.1 y.1
abbrev encF {n : Nat} (x : Fin n) : Value := .int .i64 (x.1 : Nat)
theorem ltC (X : List (List Rat)) (c : Nat) {n : Nat} (x y : Fin n) : ltOf (cfC X c) x y = decide (¬ leC X c y.1 x.1) := by
 unfold ltOf cfC
 have := cmpC_lt X c x.1 y.1
 by_cases h : leC X c y.1 x.1 <;> simp [h, this]
theorem swoC (X : List (List Rat)) (c n : Nat) : SWO (ltOf (cfC X c (n := n))) where
 irrefl x := by rw [ltC]; exact decide_eq_false (fun h => h ((leC_total X c x.1 x.1).elim id id))
 trans x y z h1 h2 := by
  rw [ltC] at *
  have h1 := of_decide_eq_true h1
  have h2 := of_decide_eq_true h2
  exact decide_eq_true fun h => h2 (leC_trans h (((leC_total X c x.1 y.1).resolve_right h1)))
 ntrans x y z h1 h2 := by
  rw [ltC] at *
  have h1 : leC X c y.1 x.1 := Decidable.byContradiction fun h => of_decide_eq_false h1 h
  have h2 : leC X c z.1 y.1 := Decidable.byContradiction fun h => of_decide_eq_false h2 h
  exact decide_eq_false fun h => h (leC_trans h2 h1)
theorem grow_sort1 {α : Type} [Inhabited α] {enc : α → Value} {w w1 : World} (h : Grow w w1) {g : Nat} (hg : w.heap.size ≤ g) (off n : Nat) (d : Array α) (os : Array Obj) : Grow w (sortWorld enc w1 g off n d os) := by
 refine Below.trans h ⟨rfl, rfl, rfl, ?_, fun j hj => ?_⟩
 ·show _ ≤ ((w1.heap.modify g _) ++ os).size
  rw [Array.size_append, Array.size_modify]
  omega
 ·show ((w1.heap.modify g _) ++ os)[j]? = _
  have := h.size
  rw [Array.getElem?_append, if_pos (by rw [Array.size_modify]; omega), Array.getElem?_modify, if_neg (by omega)]
/-- rows' numbers as the array that is sorted -/
def toF (n : Nat) (l : List Nat) (h : ∀ x ∈ l, x < n) : Array (Fin n) := (l.attach.map fun x => (⟨x.1, h x.1 x.2⟩ : Fin n)).toArray
theorem toF_list (n : Nat) (l : List Nat) (h : ∀ x ∈ l, x < n) : (toF n l h).toList.map (·.1) = l := by
 unfold toF
 simp only [List.map_map]
 exact (List.map_congr_left fun a _ => rfl).trans (List.attach_map_subtype_val l)
theorem toF_size (n : Nat) (l : List Nat) (h : ∀ x ∈ l, x < n) : (toF n l h).size = l.length := by unfold toF; simp
theorem toF_get {n : Nat} [Inhabited (Fin n)] (l : List Nat) (h : ∀ x ∈ l, x < n) {i : Nat} {q : Nat} (hi : l[i]? = some q) : ((toF n l h)[i]!).1 = q := by
 have hl : i < l.length := (List.getElem?_eq_some_iff.1 hi).1
 have e := congrArg (·[i]?) (toF_list n l h)
 simp only [List.getElem?_map, hi] at e
 rw [getElem!_pos _ i (by rw [toF_size]; exact hl)]
 rw [Array.getElem?_toList, Array.getElem?_eq_getElem (by rw [toF_size]; exact hl)] at e
 simpa using e
abbrev ints (l : List Nat) : List Int := l.map fun (i : Nat) => (i : Int)
/-- slices.SortFunc of rows' numbers with grow's comparison -/
theorem slices_SortC (b3 b5 bT : Nat) (RA : Option Addr) (RC n L : Nat) (NV : Value) (col : Nat) (rs : List Rq) (hn : rs.length = n) (hn0 : 0 < n) (hrl : ∀ r ∈ rs, r.2.2.length = L) (hcol : col < L) (s : Nat) (hs : ∀ r ∈ rs, ∀ x ∈ r.2.2, qs x ≤ s) (hBz : 2 * s + 1 ≤ BIG)
  (w0 w : World) (hP : GrC b3 b5 bT RA RC n NV col rs w0) (hG : Grow w0 w) (g cap m : Nat) (l : List Nat) (hl : l.length = m) (hln : ∀ x ∈ l, x < n) (hm : m < 4611686018427387904) (h : w.ownsRow w0.heap.size 3 1 (.slice (some ⟨g, 0, none⟩) m cap) m ((ints l).map fun x => Value.int .i64 x)) :
  Calls Tryz.prog 106 #[.slice (some ⟨g, 0, none⟩) m cap, .func (.func 107) #[] #[.pointer (some ⟨b3, 0, none⟩), .pointer (some ⟨b5, 0, none⟩)]] w fun e w' =>
   e = .returned (.tuple #[]) ∧ g < w'.heap.size ∧ Li w' (some ⟨g, 0, none⟩) (ints (sortC (rs.map (·.2.2)) col l)) ∧ Grow w0 w' := by
 haveI : Inhabited (Fin n) := ⟨⟨0, hn0⟩⟩
 obtain ⟨X, hX⟩ : ∃ X, X = rs.map (·.2.2) := ⟨_, rfl⟩
 have hgl := h.lt g rfl
 have hd := toF_list n l hln
 have hds : (toF n l hln).size = m := by rw [toF_size, hl]
 have hH : Holds encF w g 0 (toF n l hln) := by
  intro t ht
  rw [hds] at ht
  refine ⟨?_, h.frozenAt _⟩
  have hlt : t < l.length := by omega
  rw [Nat.zero_add, h.cellAt t (by omega)]
  show _ = some (Value.int .i64 (((toF n l hln)[t]!).1 : Nat))
  rw [toF_get l hln (List.getElem?_eq_getElem hlt)]
  simp [ints, hlt]
 generalize toF n l hln = d at hH hd hds
 have hc : CmpLays1 Tryz.prog 107 #[.pointer (some ⟨b3, 0, none⟩), .pointer (some ⟨b5, 0, none⟩)] encF (cfC X col (n := n)) g 0 d.size w := fun q os dk _ x y => by
  have := near_grow_c1 b3 b5 bT RA RC n L NV col rs hn hrl hcol s hs hBz x.1 y.1 x.2 y.2 _ (hP.grow (grow_sort1 (enc := encF) hG hgl.1 0 q dk os))
  rw [← hX] at this
  exact calls_grown this
 have := Any.slices_SortFunc Tryz.sortI encF (fun _ => rfl) (cfC X col (n := n)) (swoC X col n) 107 #[.pointer (some ⟨b3, 0, none⟩), .pointer (some ⟨b5, 0, none⟩)] g 0 cap d w
  (enters_of Tryz.func107 (by kernel_rfl) rfl) hc hH hgl.2 (by rw [hds]; exact hm)
 rw [hds] at this
 refine this.mono ?_
 rintro e w' ⟨he, d', q, os, hp, hst, rfl⟩
 obtain ⟨h1, -, h2⟩ := hp
 have hd' : d'.size = m := by rw [h1, hds]
 have hgs : g < (sortWorld encF w g 0 q d' os).heap.size := by
  have := hgl.2
  show g < ((w.heap.modify g _) ++ os).size
  rw [Array.size_append, Array.size_modify]
  omega
 have hperm : (d'.toList.map (·.1)).Perm l := by
  have e1 : d'.extract 0 m = d' := Array.extract_eq_self_of_le (by omega)
  have e2 : d.extract 0 m = d := Array.extract_eq_self_of_le (by omega)
  rw [e1, e2] at h2
  rw [← hd]
  exact h2.map _
 have hsort : (d'.toList.map (·.1)).Pairwise (leC X col) := by
  rw [List.pairwise_iff_getElem]
  intro i j hi hj hij
  simp only [List.length_map, Array.length_toList] at hi hj
  have h3 := hst i j (Nat.zero_le _) hij (by omega)
  rw [ltC, getElem!_pos d' i hi, getElem!_pos d' j hj] at h3
  simp only [List.getElem_map, Array.getElem_toList]
  exact Decidable.byContradiction fun h => of_decide_eq_false h3 h
 refine ⟨he, hgs, ?_, grow_sort1 hG hgl.1 0 q d' os⟩
 rw [← hX, ← sortC_uniq hperm hsort]
 intro _
 refine ⟨g, 0, rfl, hgs, fun i x hi => ?_⟩
 simp only [ints, List.map_map, List.getElem?_map, Array.getElem?_toList] at hi
 have hil : i < d'.size := by
  refine Decidable.byContradiction fun hh => ?_
  rw [Array.getElem?_eq_none (by omega)] at hi
  cases hi
 rw [Array.getElem?_eq_getElem hil] at hi
 simp only [Option.map_some, Option.some.injEq, Function.comp] at hi
 have h3 := (SW.holds (⟨q, os, rfl⟩ : SW encF w g 0 d' (sortWorld encF w g 0 q d' os)) hgl.2 hH (by rw [hd', hds]) i hil).1
 rw [h3, getElem!_pos d' i hil, ← hi]
/-- slices.Clone of integers -/
theorem slices_CloneI (A : Option Addr) (c n : Nat) (l : List Int) (hn : n = l.length) (hn0 : 0 < n) (hm : n ≤ 1099511627776) (w : World) (h : Li w A l) :
  Calls Tryz.prog 105 #[.slice A n c] w fun e w' => ∃ v, e = .returned v ∧ w'.ownsRow w.heap.size 3 1 v n (l.map fun x => Value.int .i64 x) ∧ Grow w w' := by
 obtain ⟨b, off, rfl, hb, hc⟩ := h (fun e => by rw [e] at hn; simp at hn; omega)
 obtain ⟨-, ⟨i0, z, hi, hz, h1, h2, h3⟩, -⟩ := ei_int
 refine (AnyE.slices_Clone Tryz.cloneI i0 z 1 8 hi hz h1 h2 h3 (by omega) Tryz.sizeOf3 b off n c (l.map fun x => Value.int .i64 x) w (by rw [List.length_map]; omega) (by unfold maxLen; omega) (by omega) ?_ ?_).mono ?_
 ·intro t u hu
  rw [List.getElem?_map] at hu
  obtain ⟨x, hx, rfl⟩ := Option.map_eq_some_iff.1 hu
  exact hc t x hx
 ·intro u hu
  obtain ⟨x, -, rfl⟩ := List.mem_map.1 hu
  rfl
 ·rintro e w' ⟨v', rfl, ho, hne, hg⟩
  exact ⟨v', rfl, ho, hg⟩
end Go.Proofs.YtjmopgepnndckaaGreatDoor
namespace Go.Proofs.YtjmopgepnndckaaGreatDoor
open Go Go.RowKit
/-- only certain blocks have changed -/
structure KepS (S : Nat → Prop) (u w : World) : Prop where
 os : w.os = u.os
 tape : w.tape = u.tape
 output : w.output = u.output
 size : u.heap.size ≤ w.heap.size
 block : ∀ k, k < u.heap.size → ¬ S k → w.heap[k]? = u.heap[k]?
theorem KepS.refl (S : Nat → Prop) (u : World) : KepS S u u := ⟨rfl, rfl, rfl, Nat.le_refl _, fun _ _ _ => rfl⟩
theorem KepS.trans {S : Nat → Prop} {u v w : World} (h : KepS S u v) (h' : KepS S v w) : KepS S u w :=
 ⟨h'.os.trans h.os, h'.tape.trans h.tape, h'.output.trans h.output, Nat.le_trans h.size h'.size, fun k hk hs => (h'.block k (Nat.lt_of_lt_of_le hk h.size) hs).trans (h.block k hk hs)⟩
theorem KepS.ofGrow {S : Nat → Prop} {u w : World} (h : Grow u w) : KepS S u w := ⟨h.os, h.tape, h.output, h.size, fun k hk _ => h.block k hk⟩
theorem KepS.ofGrown {S : Nat → Prop} {u w : World} {row : Option Nat} (h : u.grownBy w row) (hr : ∀ k, row = some k → S k) : KepS S u w := ⟨h.os, h.tape, h.output, h.size, fun k hk hs => h.block k hk (fun e => hs (hr k e.symm))⟩
theorem KepS.mono {S S' : Nat → Prop} {u w : World} (h : KepS S u w) (hm : ∀ k, k < u.heap.size → S k → S' k) : KepS S' u w := ⟨h.os, h.tape, h.output, h.size, fun k hk hs => h.block k hk (fun e => hs (hm k hk e))⟩
theorem KepS.grow {S : Nat → Prop} {w0 u w : World} (h : KepS S w0 u) (hg : Grow u w) : KepS S w0 w := h.trans (KepS.ofGrow hg)
theorem KepS.setCell {S : Nat → Prop} (u : World) (p : Addr) (hp : S p.block) (v : Value) : KepS S u (u.setCell p v) :=
 ⟨rfl, rfl, rfl, by simp [World.setCell], fun k _ hs => Below.heap_setCell u p v k (fun e => hs (e ▸ hp))⟩
theorem KepS.blk {S : Nat → Prop} {u w : World} {b : Nat} {t : TypeId} {cs : Array Value} (h : KepS S u w) (hb : Blk u b t cs) (hs : ¬ S b) : Blk w b t cs := (h.block b hb.lt hs).trans hb
theorem KepS.li {S : Nat → Prop} {u w : World} {g off : Nat} {l : List Int} (h : KepS S u w) (hl : Li u (some ⟨g, off, none⟩) l) (hs : ¬ S g) : Li w (some ⟨g, off, none⟩) l := fun hn => by
 obtain ⟨b, o, e, hb, hc⟩ := hl hn
 cases e
 exact ⟨g, off, rfl, Nat.lt_of_lt_of_le hb h.size, fun i x hi => (World.cell?_of_block (w := u) (a := ⟨g, off + i, none⟩) (h.block g hb hs)).trans (hc i x hi)⟩
/-- the block of an address -/
def nbk (A : Option Addr) : Option Nat := A.map (·.block)
theorem nbk_own (A : Option Addr) (n c : Nat) : (Value.slice A n c).ownBlock = nbk A := by cases A <;> rfl
theorem KepS.own {S : Nat → Prop} {u w : World} {B n c k : Nat} {e : TypeId} {A : Option Addr} {xs : List Value} (h : KepS S u w) (ho : u.ownsRow B e k (.slice A n c) n xs) (hs : ∀ b, nbk A = some b → ¬ S b) : w.ownsRow B e k (.slice A n c) n xs := by
 obtain ⟨h0, h1 | ⟨g, cap, cur, e1, hb, hh, hn, hc, hz, ht⟩⟩ := ho
 ·exact ⟨h0, .inl h1⟩
 ·refine ⟨h0, .inr ⟨g, cap, cur, e1, hb, (h.block g (heap_lt hh) (hs g ?_)).trans hh, hn, hc, hz, ht⟩⟩
  cases e1
  rfl
/-- the world without the blocks from a number on -/
def cutW (w : World) (B : Nat) : World := { w with heap := w.heap.extract 0 B }
theorem cutW_size (w : World) (B : Nat) (h : B ≤ w.heap.size) : (cutW w B).heap.size = B := by unfold cutW; simp; omega
theorem cutW_grow (w : World) (B : Nat) : Grow (cutW w B) w := by
 refine ⟨rfl, rfl, rfl, ?_, fun k hk => ?_⟩
 ·unfold cutW; simp; omega
 ·unfold cutW at hk ⊢
  simp only [Array.size_extract] at hk
  rw [Array.getElem?_extract]
  rw [if_pos (by omega), Nat.zero_add]
/-- what was there between two blocks is there -/
def AgD (b99 D : Nat) (w0 W : World) : Prop := D ≤ W.heap.size ∧ ∀ k, b99 < k → k < D → W.heap[k]? = w0.heap[k]?
theorem AgD.kep {S : Nat → Prop} {b99 D : Nat} {w0 u w : World} (h : AgD b99 D w0 u) (hk : KepS S u w) (hs : ∀ k, b99 < k → k < D → ¬ S k) : AgD b99 D w0 w :=
 ⟨Nat.le_trans h.1 hk.size, fun k h1 h2 => (hk.block k (Nat.lt_of_lt_of_le h2 h.1) (hs k h1 h2)).trans (h.2 k h1 h2)⟩
/-- a node's cells -/
abbrev ndL (x : NdT) : List Value := [.int .i64 x.r, .int .i64 x.c, .int .i64 x.l, .int .i64 x.t]
theorem nd_setL : ∀ (l : List NdT) (k : Nat) (v : Int) (hk : k < l.length), (l.flatMap ndL).set (k * 4 + 2) (.int .i64 v) = (l.set k ⟨l[k].r, l[k].c, v, l[k].t⟩).flatMap ndL
 | x :: l, 0, v, _ => rfl
 | x :: l, k + 1, v, hk => by
  have := nd_setL l k v (by simpa using hk)
  rw [show (k + 1) * 4 + 2 = k * 4 + 2 + 4 by omega]
  show _ :: _ :: _ :: _ :: (l.flatMap ndL).set (k * 4 + 2) _ = _
  rw [this]
  rfl
theorem nd_setT : ∀ (l : List NdT) (k : Nat) (v : Int) (hk : k < l.length), (l.flatMap ndL).set (k * 4 + 3) (.int .i64 v) = (l.set k ⟨l[k].r, l[k].c, l[k].l, v⟩).flatMap ndL
 | x :: l, 0, v, _ => rfl
 | x :: l, k + 1, v, hk => by
  have := nd_setT l k v (by simpa using hk)
  rw [show (k + 1) * 4 + 3 = k * 4 + 3 + 4 by omega]
  show _ :: _ :: _ :: _ :: (l.flatMap ndL).set (k * 4 + 3) _ = _
  rw [this]
  rfl
/-- the nodes of some rows: the middle one, then the two halves -/
theorem flat_grow (X : List (List Rat)) (w col k m h : Nat) (is : List Nat) (hm : is.length = m) (hm0 : 0 < m) (hh : m / 2 = h) :
  flatT (growT X w is col) k = ⟨((sortC X col is).getD h 0 : Nat), (col : Nat), if h = 0 then 0 else (k + 1 : Nat), if m ≤ h + 1 then 0 else (k + 1 + h : Nat)⟩ :: (flatT (growT X w ((sortC X col is).take h) ((col + 1) % w)) (k + 1) ++ flatT (growT X w ((sortC X col is).drop (h + 1)) ((col + 1) % w)) (k + 1 + h)) := by
 rw [growT, dif_neg (by omega), hm, hh]
 have e1 : (growT X w ((sortC X col is).take h) ((col + 1) % w)).size = h := by rw [growT_size, List.length_take, sortC_len]; omega
 have e2 : (growT X w ((sortC X col is).drop (h + 1)) ((col + 1) % w)).size = m - (h + 1) := by rw [growT_size, List.length_drop, sortC_len]; omega
 show NdT.mk _ _ _ _ :: _ = _
 rw [e1, e2]
 congr 1
 ·congr 1
  by_cases h1 : m ≤ h + 1
  ·rw [if_pos h1, if_pos (by omega)]
  ·rw [if_neg h1, if_neg (by omega)]
theorem growT_nil (X : List (List Rat)) (w c : Nat) : growT X w [] c = .none := by rw [growT]; rfl
/-- what is known in the midst of grow -/
structure GrS (w1 : World) (S : Nat → Prop) (b3 b5 gl D : Nat) (ls : List Int) (NA : Option Addr) (NC kk : Nat) (ns : List NdT) (u : World) : Prop where
 K : KepS S w1 u
 l : Li u (some ⟨gl, 0, none⟩) ls
 gu : gl < u.heap.size
 own : u.ownsRow D 88 4 (.slice NA kk NC) kk (ns.flatMap ndL)
 len : ns.length = kk
 s5 : S b5
 g5 : gl ≠ b5
 n5 : nbk NA ≠ some b5
 n3 : nbk NA ≠ some b3
 gn : nbk NA ≠ some gl
theorem GrS.grow {w1 : World} {S : Nat → Prop} {b3 b5 gl D : Nat} {ls : List Int} {NA : Option Addr} {NC kk : Nat} {ns : List NdT} {u u' : World} (h : GrS w1 S b3 b5 gl D ls NA NC kk ns u) (hg : Grow u u') : GrS w1 S b3 b5 gl D ls NA NC kk ns u' :=
 ⟨h.K.grow hg, h.l.grow hg, Nat.lt_of_lt_of_le h.gu hg.size, own_grow' h.own hg, h.len, h.s5, h.g5, h.n5, h.n3, h.gn⟩
theorem putAll_kep {S : Nat → Prop} {b : Nat} (hb : S b) : ∀ (vs : List Value) (i : Nat) (u : World), KepS S u (putAll u b i vs)
 | [], _, u => KepS.refl S u
 | v :: vs, i, u => (KepS.setCell u ⟨b, i, none⟩ hb v).trans (putAll_kep hb vs (i + 1) _)
theorem GrS.put {w1 : World} {S : Nat → Prop} {b3 b5 gl D : Nat} {ls : List Int} {NA : Option Addr} {NC kk : Nat} {ns : List NdT} {u u' : World} (h : GrS w1 S b3 b5 gl D ls NA NC kk ns u) {bl : List (Nat × TypeId × Array Value)} (hB : Bx u bl) (k : Nat) {b : Nat} {t : TypeId} {cs : Array Value} (hk : bl[k]? = some (b, t, cs)) (ht : b = b5) (i : Nat) (vs : List Value) (hu : putAll u b i vs = u') : GrS w1 S b3 b5 gl D ls NA NC kk ns u' := by
 subst ht hu
 have h1 : KepS (fun k => k = b) u (putAll u b i vs) := putAll_kep (S := fun k => k = b) rfl vs i u
 exact ⟨h.K.trans (putAll_kep h.s5 vs i u), h1.li h.l (fun e => h.g5 e), Nat.lt_of_lt_of_le h.gu h1.size, h1.own h.own (fun x hx e => h.n5 (by rw [hx, e])), h.len, h.s5, h.g5, h.n5, h.n3, h.gn⟩
theorem cut_take (g cap n hi : Nat) (h2 : hi ≤ cap) (W : World) : (Instr.slice 22 (.slice (some ⟨g, 0, none⟩) n cap) none (some (.int .i64 (hi : Nat))) none).run Tryz.prog W = .ok (.slice (some ⟨g, 0, none⟩) hi cap) W := by
 have h3 : (hi : Int) ≤ (cap : Int) := by omega
 go_simp
theorem cut_drop (g cap n lo : Nat) (h1 : lo ≤ n) (h2 : lo < cap) (h4 : n ≤ cap) (W : World) : (Instr.slice 22 (.slice (some ⟨g, 0, none⟩) n cap) (some (.int .i64 (lo : Nat))) none none).run Tryz.prog W = .ok (.slice (some ⟨g, lo, none⟩) (n - lo) (cap - lo)) W := by
 have h3 : (lo : Int) ≤ (n : Int) := by omega
 have h5 : ¬ (cap : Int) = (lo : Int) := by omega
 have h6 : ¬ cap = lo := by omega
 go_simp
theorem li_take {W : World} {g off : Nat} {l : List Int} (h : Li W (some ⟨g, off, none⟩) l) (k : Nat) : Li W (some ⟨g, off, none⟩) (l.take k) := fun hne => by
 obtain ⟨b, o, e, hb, hc⟩ := h (fun e => hne (by rw [e]; simp))
 refine ⟨b, o, e, hb, fun i q hi => hc i q ?_⟩
 rw [List.getElem?_take] at hi
 split at hi
 ·exact hi
 ·cases hi
theorem li_drop {W : World} {g : Nat} {l : List Int} (h : Li W (some ⟨g, 0, none⟩) l) (k : Nat) : Li W (some ⟨g, k, none⟩) (l.drop k) := fun hne => by
 obtain ⟨b, o, e, hb, hc⟩ := h (fun e => hne (by rw [e]; simp))
 cases e
 refine ⟨g, k, rfl, hb, fun i q hi => ?_⟩
 rw [List.getElem?_drop] at hi
 have := hc (k + i) q hi
 rwa [Nat.zero_add] at this
theorem info_Node : (Tryz.prog.info? 88).map (fun i => (i.zero, i.size, i.bytes)) = some (some (.agg #[.int .i64 0, .int .i64 0, .int .i64 0, .int .i64 0]), 4, 32) := by kernel_rfl
/-- a function without results ends -/
theorem end_b {P : Program} {fn : Func} {R : Ending → World → Prop} {a : Act} {w : World} (hd : a.defers = []) (hr : (results fn a.tmps).run P w = .ok (.tuple #[]) w) (h : R (.returned (.tuple #[])) w) : bodyPost P fn R .normal a w := bodyPost_end hr hd h
/-- what grow does for so many rows -/
def GrowOK (b99 D n L : Nat) (RA : Option Addr) (RC : Nat) (X : List (List Rat)) (w0 : World) (m : Nat) : Prop :=
 ∀ (is : List Nat) (col : Nat) (A : Option Addr) (c : Nat) (ns : List NdT) (NA : Option Addr) (NC k : Nat) (w : World), is.length = m → 0 < m → (∀ x ∈ is, x < n) → col < L → k = ns.length → k + m ≤ 1000000 → b99 < w.heap.size → AgD b99 D w0 w → Li w A (ints is) →
  Blk w b99 79 #[.slice RA n RC, .slice NA k NC] → w.ownsRow D 88 4 (.slice NA k NC) k (ns.flatMap ndL) →
  Calls Tryz.prog 66 #[.pointer (some ⟨b99, 0, none⟩), .slice A m c, .int .i64 (col : Nat)] w fun e w' => e = .returned (.tuple #[]) ∧ ∃ (NA' : Option Addr) (NC' : Nat),
   Blk w' b99 79 #[.slice RA n RC, .slice NA' (k + m) NC'] ∧ w'.ownsRow D 88 4 (.slice NA' (k + m) NC') (k + m) ((ns ++ flatT (growT X L is col) k).flatMap ndL) ∧
   KepS (fun k => k = b99 ∨ nbk NA = some k) w w' ∧ ∀ k, nbk NA' = some k → nbk NA = some k ∨ w.heap.size ≤ k
theorem flat_nil (X : List (List Rat)) (w c i : Nat) {l : List Nat} (h : l = []) : flatT (growT X w l c) i = [] := by rw [h, growT_nil]; rfl
/-- the end of grow -/
theorem grow_end {b99 D n RC : Nat} {RA : Option Addr} {b3 b5 gl k m kk NC' : Nat} {lsI : List Int} {NA NA' : Option Addr} {ns ns' T : List NdT} {w1 u : World} {bl : List (Nat × TypeId × Array Value)}
  (GS : GrS w1 (fun k => (k = b99 ∨ nbk NA = some k) ∨ w1.heap.size ≤ k) b3 b5 gl D lsI NA' NC' kk ns' u) (hB : Bx u ((b99, 79, #[.slice RA n RC, .slice NA' kk NC']) :: bl)) (hkk : kk = k + m) (hns : ns' = ns ++ T) (hnb : ∀ j, nbk NA' = some j → nbk NA = some j ∨ w1.heap.size ≤ j) :
  ∃ (NA' : Option Addr) (NC' : Nat), Blk u b99 79 #[.slice RA n RC, .slice NA' (k + m) NC'] ∧ u.ownsRow D 88 4 (.slice NA' (k + m) NC') (k + m) ((ns ++ T).flatMap ndL) ∧ KepS (fun k => k = b99 ∨ nbk NA = some k) w1 u ∧ ∀ k, nbk NA' = some k → nbk NA = some k ∨ w1.heap.size ≤ k := by
 subst hkk hns
 exact ⟨NA', NC', hB.head, GS.own, GS.K.mono (fun j hj e => e.elim id (fun h => absurd h (by omega))), hnb⟩
end Go.Proofs.YtjmopgepnndckaaGreatDoor
