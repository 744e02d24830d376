/-
  Contracts and laws: SortL SortQ.
-/
import Derived.Test.YtimjnkfcnpfoeaaGreatDoorL18
import Derived.Test.YtimjnkfcnpfoeaaGreatDoorL44
import Derived.Shelf.SlLaysF0
import Derived.Shelf.SlLaysF
import Derived.Shelf.SlLaysE0
import Derived.Test.YtimjnkfcnpfoeaaGreatDoorProg
import Derived.Shelf.SlSortCmp.WholeK
import Derived.Shelf.SlicesE.Clone
set_option linter.unusedSimpArgs false
set_option linter.unusedVariables false
namespace Go.Proofs
open Go.Shelf
def Tryz.sortQ_ren : Go.Shelf.Ren := ⟨fun | 6 => 149 | 15 => 147 | 14 => 186 | 28 => 185 | 29 => 152 | 20 => 202 | 21 => 203 | 22 => 204 | 23 => 205 | 24 => 206 | 25 => 207 | 26 => 208 | 27 => 209 | 46 => 213 | 47 => 198 | 48 => 199 | 49 => 214 | 50 => 215 | 57 => 216 | n => n, fun | 22 => 67 | 24 => 32 | 25 => 187 | 3 => 3 | 39 => 177 | 0 => 0 | 53 => 157 | 55 => 26 | 4 => 4 | 46 => 218 | 45 => 217 | 50 => 222 | 5 => 5 | 9 => 9 | 66 => 230 | 70 => 234 | 76 => 245 | 77 => 246 | n => n, fun | n => n⟩
theorem Tryz.sortQ : Go.Proofs.SlLaysF0.n6 Tryz.prog Tryz.sortQ_ren := {
 mixed := by kernel_rfl
 f6 := ⟨Tryz.f149.name, by decide, Tryz.func149.trans (congrArg some (by kernel_rfl))⟩
 f14 := ⟨Tryz.f186.name, by decide, Tryz.func186.trans (congrArg some (by kernel_rfl))⟩
 f15 := Tryz.func147.trans (congrArg some (by kernel_rfl))
 f20 := ⟨Tryz.f202.name, by decide, Tryz.func202.trans (congrArg some (by kernel_rfl))⟩
 f21 := ⟨Tryz.f203.name, by decide, Tryz.func203.trans (congrArg some (by kernel_rfl))⟩
 f22 := ⟨Tryz.f204.name, by decide, Tryz.func204.trans (congrArg some (by kernel_rfl))⟩
 f23 := ⟨Tryz.f205.name, by decide, Tryz.func205.trans (congrArg some (by kernel_rfl))⟩
 f24 := ⟨Tryz.f206.name, by decide, Tryz.func206.trans (congrArg some (by kernel_rfl))⟩
 f25 := ⟨Tryz.f207.name, by decide, Tryz.func207.trans (congrArg some (by kernel_rfl))⟩
 f26 := ⟨Tryz.f208.name, by decide, Tryz.func208.trans (congrArg some (by kernel_rfl))⟩
 f27 := ⟨Tryz.f209.name, by decide, Tryz.func209.trans (congrArg some (by kernel_rfl))⟩
 f28 := Tryz.func185.trans (congrArg some (by kernel_rfl))
 f29 := Tryz.func152.trans (congrArg some (by kernel_rfl))
 f46 := ⟨Tryz.f213.name, by decide, Tryz.func213.trans (congrArg some (by kernel_rfl))⟩
 f47 := Tryz.func198.trans (congrArg some (by kernel_rfl))
 f48 := Tryz.func199.trans (congrArg some (by kernel_rfl))
 f49 := ⟨Tryz.f214.name, by decide, Tryz.func214.trans (congrArg some (by kernel_rfl))⟩
 f50 := ⟨Tryz.f215.name, by decide, Tryz.func215.trans (congrArg some (by kernel_rfl))⟩
 f57 := ⟨Tryz.f216.name, by decide, Tryz.func216.trans (congrArg some (by kernel_rfl))⟩
 t0 := Tryz.underlying0
 a0 := Tryz.isAgg0
 z0 := Tryz.sizeOf0
 v0 := Tryz.zeroValue0
 t3 := Tryz.underlying3
 a3 := Tryz.isAgg3
 z3 := Tryz.sizeOf3
 v3 := Tryz.zeroValue3
 t4 := Tryz.underlying4
 a4 := Tryz.isAgg4
 z4 := Tryz.sizeOf4
 v4 := Tryz.zeroValue4
 t5 := Tryz.underlying5
 a5 := Tryz.isAgg5
 z5 := Tryz.sizeOf5
 v5 := Tryz.zeroValue5
 t9 := Tryz.underlying9
 a9 := Tryz.isAgg9
 z9 := Tryz.sizeOf9
 v9 := Tryz.zeroValue9
 t22 := Tryz.underlying67
 a22 := Tryz.isAgg67
 z22 := Tryz.sizeOf67
 v22 := Tryz.zeroValue67
 t25 := Tryz.underlying187
 a25 := Tryz.isAgg187
 z25 := Tryz.sizeOf187
 v25 := Tryz.zeroValue187
 t39 := Tryz.underlying177
 a39 := Tryz.isAgg177
 z39 := Tryz.sizeOf177
 v39 := Tryz.zeroValue177
 t45 := Tryz.underlying217
 a45 := Tryz.isAgg217
 z45 := Tryz.sizeOf217
 v45 := Tryz.zeroValue217
 t46 := Tryz.underlying218
 a46 := Tryz.isAgg218
 z46 := Tryz.sizeOf218
 v46 := Tryz.zeroValue218
 t50 := Tryz.underlying222
 a50 := Tryz.isAgg222
 z50 := Tryz.sizeOf222
 v50 := Tryz.zeroValue222
 t53 := Tryz.underlying157
 a53 := Tryz.isAgg157
 z53 := Tryz.sizeOf157
 v53 := Tryz.zeroValue157
 t55 := Tryz.underlying26
 a55 := Tryz.isAgg26
 z55 := Tryz.sizeOf26
 v55 := Tryz.zeroValue26
 t66 := Tryz.underlying230
 a66 := Tryz.isAgg230
 z66 := Tryz.sizeOf230
 v66 := Tryz.zeroValue230
 t70 := Tryz.underlying234
 a70 := Tryz.isAgg234
 z70 := Tryz.sizeOf234
 v70 := Tryz.zeroValue234
 t76 := Tryz.underlying245
 a76 := Tryz.isAgg245
 z76 := Tryz.sizeOf245
 v76 := Tryz.zeroValue245
 t77 := Tryz.underlying246
 a77 := Tryz.isAgg246
 z77 := Tryz.sizeOf246
 v77 := Tryz.zeroValue246 }
def Tryz.cloneQ_ren : Go.Shelf.Ren := ⟨fun | 41 => 148 | n => n, fun | 22 => 67 | 23 => 32 | 4 => 4 | n => n, fun | n => n⟩
theorem Tryz.cloneQ : Go.Proofs.SlLaysE0.n41 Tryz.prog Tryz.cloneQ_ren := {
 mixed := by kernel_rfl
 f41 := ⟨Tryz.f148.name, by decide, Tryz.func148.trans (congrArg some (by kernel_rfl))⟩
 t4 := Tryz.underlying4
 a4 := Tryz.isAgg4
 z4 := Tryz.sizeOf4
 v4 := Tryz.zeroValue4
 t22 := Tryz.underlying67
 a22 := Tryz.isAgg67
 z22 := Tryz.sizeOf67
 v22 := Tryz.zeroValue67 }
end Go.Proofs
namespace Go.Proofs.YtimjnkfcnpfoeaaGreatDoor
open Go Go.RowKit Go.Sort Go.Shelf
/-- rationals of a bounded size -/
abbrev Bq (s : Nat) := {x : Rat // qs x ≤ s + qs 0}
instance (s : Nat) : Inhabited (Bq s) := ⟨⟨0, Nat.le_add_left _ _⟩⟩
abbrev encB (s : Nat) (x : Bq s) : List Value := qL x.1
abbrev cfB (s : Nat) (x y : Bq s) : Int := cmpQ x.1 y.1
theorem ltB (s : Nat) (x y : Bq s) : ltOf (cfB s) x y = decide (x.1 < y.1) := by
 unfold ltOf cfB cmpQ
 by_cases h1 : x.1 < y.1
 ·simp [h1]
 ·by_cases h2 : y.1 < x.1 <;> simp [h1, h2]
theorem swoB (s : Nat) : SWO (ltOf (cfB s)) where
 irrefl x := by rw [ltB]; exact decide_eq_false (Rat.not_lt.2 Rat.le_refl)
 trans x y z h1 h2 := by
  rw [ltB] at *
  exact decide_eq_true (Decidable.byContradiction fun h => Rat.not_lt.2 (Rat.le_trans (Rat.le_of_lt (of_decide_eq_true h2)) (Rat.not_lt.1 h)) (of_decide_eq_true h1))
 ntrans x y z h1 h2 := by
  rw [ltB] at *
  exact decide_eq_false (Rat.not_lt.2 (Rat.le_trans (Rat.not_lt.1 (of_decide_eq_false h2)) (Rat.not_lt.1 (of_decide_eq_false h1))))
theorem cmpLaysB (s : Nat) (hB : s + qs 0 + (s + qs 0) + 1 ≤ BIG) (blk off size : Nat) (w : World) : CmpLays Tryz.prog 25 #[] (encB s) 5 (cfB s) blk off size w :=
 fun _ _ _ _ x y => calls_grown (frac_Cmp x.1 y.1 _ (by have := x.2; have := y.2; omega))
theorem slices_SortQ (s : Nat) (hB : s + qs 0 + (s + qs 0) + 1 ≤ BIG) (blk off cap : Nat) (d : Array (Bq s)) (w : World) (hH : HoldsK (encB s) 5 w blk off d) (hblk : blk < w.heap.size) (hsz : d.size < 4611686018427387904) :
  Calls Tryz.prog 149 #[.slice (some ⟨blk, off, none⟩) d.size cap, .func (.func 25) #[] #[]] w fun e w' =>
   e = .returned (.tuple #[]) ∧ ∃ d' n os, PermIn 0 d.size d d' ∧ SortedIn (ltOf (cfB s)) 0 d.size d' ∧ w' = sortWorldK (encB s) 5 w blk off n d' os :=
 AnyQ.slices_SortFunc Tryz.sortQ 5 Tryz.isAgg32 Tryz.sizeOf32 (encB s) (fun _ => rfl) (fun x v hv => by simp [encB, qL] at hv; rcases hv with rfl | rfl | rfl | rfl | rfl <;> rfl) (cfB s) (swoB s) 25 #[] blk off cap d w
  (enters_of Tryz.func25 (by kernel_rfl) rfl) (cmpLaysB s hB blk off d.size w) hH hblk hsz
/-- a list as an array of bounded rationals -/
def toB (s : Nat) (l : List Rat) (h : ∀ x ∈ l, qs x ≤ s) : Array (Bq s) := (l.attach.map fun x => (⟨x.1, Nat.le_trans (h x.1 x.2) (Nat.le_add_right _ _)⟩ : Bq s)).toArray
theorem toB_list (s : Nat) (l : List Rat) (h : ∀ x ∈ l, qs x ≤ s) : (toB s l h).toList.map (·.1) = l := by
 unfold toB
 simp only [List.map_map]
 exact (List.map_congr_left fun a _ => rfl).trans (List.attach_map_subtype_val l)
theorem toB_size (s : Nat) (l : List Rat) (h : ∀ x ∈ l, qs x ≤ s) : (toB s l h).size = l.length := by
 unfold toB; simp
theorem toB_get (s : Nat) (l : List Rat) (h : ∀ x ∈ l, qs x ≤ s) {i : Nat} {q : Rat} (hi : l[i]? = some q) : ((toB s l h)[i]!).1 = q := by
 have hl : i < l.length := (List.getElem?_eq_some_iff.1 hi).1
 have e := congrArg (·[i]?) (toB_list s l h)
 simp only [List.getElem?_map, hi] at e
 rw [getElem!_pos _ i (by rw [toB_size]; exact hl)]
 rw [Array.getElem?_toList, Array.getElem?_eq_getElem (by rw [toB_size]; exact hl)] at e
 simpa using e
/-- the cells of a row of bounded rationals -/
theorem holdsB {s : Nat} {w : World} {b : Nat} {d : Array (Bq s)} (hc : ∀ i, i < d.size → ∀ j v, (qL (d[i]!).1)[j]? = some v → w.cell? ⟨b, 0 + i * 5 + j, none⟩ = some v) (hf : ∀ i, w.frozen? ⟨b, i, none⟩ = false) : HoldsK (encB s) 5 w b 0 d := by
 intro t ht
 rw [size_flatK] at ht
 refine ⟨?_, hf _⟩
 rw [get_flatK _ _ _ _ ht]
 have hlt : t / 5 < d.size := by omega
 have h5 : t % 5 < (encB s d[t / 5]!).length := by show t % 5 < 5; omega
 have := hc (t / 5) hlt (t % 5) _ (List.getElem?_eq_getElem h5)
 rw [show 0 + t / 5 * 5 + t % 5 = 0 + t by omega] at this
 rw [this]
 exact congrArg some (getElem!_pos (encB s d[t / 5]!) (t % 5) h5).symm
theorem lq_of_holds {s : Nat} {w : World} {b : Nat} {d : Array (Bq s)} (h : HoldsK (encB s) 5 w b 0 d) (hb : b < w.heap.size) : Lq w (some ⟨b, 0, none⟩) (d.toList.map (·.1)) := fun _ => by
 refine ⟨b, 0, rfl, hb, fun i q hi j v hj => ?_⟩
 rw [List.getElem?_map, Array.getElem?_toList] at hi
 have hil : i < d.size := by
  refine Decidable.byContradiction fun hh => ?_
  rw [Array.getElem?_eq_none (by omega)] at hi
  cases hi
 have hj5 : j < 5 := (List.getElem?_eq_some_iff.1 hj).1
 have ht : i * 5 + j < (flatK (encB s) 5 d).size := by rw [size_flatK]; omega
 have h1 := (h (i * 5 + j) ht).1
 rw [get_flatK _ _ _ _ (by omega), show (i * 5 + j) / 5 = i by omega, show (i * 5 + j) % 5 = j by omega, getElem!_pos d i hil] at h1
 rw [Array.getElem?_eq_getElem hil] at hi
 simp only [Option.map_some, Option.some.injEq] at hi
 rw [← hi] at hj
 rw [show 0 + i * 5 + j = 0 + (i * 5 + j) by omega, h1]
 have hjl : j < (encB s d[i]).length := hj5
 rw [getElem!_pos _ j hjl]
 rw [List.getElem?_eq_getElem hjl] at hj
 exact hj
theorem slices_CloneQ (s : Nat) (A : Option Addr) (c n : Nat) (l : List Rat) (hn : n = l.length) (hn0 : 0 < n) (hm : n ≤ 1099511627776) (hs : ∀ x ∈ l, qs x ≤ s) (w : World) (h : Lq w A l) :
  Calls Tryz.prog 148 #[.slice A n c] w fun e w' => ∃ g cap, e = .returned (.slice (some ⟨g, 0, none⟩) n cap) ∧ w.heap.size ≤ g ∧ g < w'.heap.size ∧ n ≤ cap ∧ HoldsK (encB s) 5 w' g 0 (toB s l hs) ∧ Grow w w' := by
 obtain ⟨b, off, rfl, hb, hc⟩ := h (fun e => by rw [e] at hn; simp at hn; omega)
 obtain ⟨-, ⟨i0, z, hi, hz, h1, h2, h3⟩, -⟩ := ei_Q
 refine (AnyE.slices_Clone Tryz.cloneQ i0 z 5 56 hi hz h1 h2 h3 (by omega) Tryz.sizeOf32 b off n c (l.flatMap qL) w (by rw [flatq_len]; omega) (by unfold maxLen; omega) (by omega) ?_ ?_).mono ?_
 ·intro t u hu
  have htl := (List.getElem?_eq_some_iff.1 hu).1
  rw [flatq_len] at htl
  have hq : l[t / 5]? = some (l[t / 5]'(by omega)) := List.getElem?_eq_getElem (by omega)
  have h6 := flatq_at l hq (j := t % 5) (by omega)
  rw [show t / 5 * 5 + t % 5 = t by omega, hu] at h6
  have h7 := hc _ _ hq _ _ h6.symm
  rwa [show off + t / 5 * 5 + t % 5 = off + t by omega] at h7
 ·intro u hu
  obtain ⟨q, -, hq⟩ := List.mem_flatMap.1 hu
  simp [qL] at hq
  rcases hq with rfl | rfl | rfl | rfl | rfl <;> rfl
 ·rintro e w' ⟨v', rfl, ho, hne, hg⟩
  obtain ⟨_, h | ⟨g, cap, cur, rfl, hb', hh, hn', hc', hs', ht⟩⟩ := ho
  ·omega
  ·refine ⟨g, cap, rfl, hb', heap_lt hh, hn', holdsB (fun i hi j v hj => ?_) (fun i => ?_), hg⟩
   ·rw [toB_size] at hi
    have hil : l[i]? = some l[i] := List.getElem?_eq_getElem hi
    rw [toB_get s l hs hil] at hj
    have hj5 : j < 5 := (List.getElem?_eq_some_iff.1 hj).1
    rw [cell_of_row w' g _ cur 32 (0, 0) hh, Nat.zero_add]
    have h1 : (cur.toList.take (n * 5))[i * 5 + j]? = some v := by rw [ht, flatq_at l hil hj5, hj]
    rw [List.getElem?_take, if_pos (by omega)] at h1
    simpa using h1
   ·unfold World.frozen?
    rw [hh]
    simp
theorem grow_sortK {α : Type} [Inhabited α] {enc : α → List Value} {k : Nat} {w w1 : World} (h : Grow w w1) {g : Nat} (hg : w.heap.size ≤ g) (off n : Nat) (d : Array α) (os : Array Obj) : Grow w (sortWorldK enc k w1 g off n d os) := by
 refine Below.trans h ⟨rfl, rfl, rfl, ?_, fun j hj => ?_⟩
 ·show _ ≤ ((w1.heap.modify g _) ++ os).size
  rw [Array.size_append, Array.size_modify]
  omega
 ·show ((w1.heap.modify g _) ++ os)[j]? = _
  have := h.size
  rw [Array.getElem?_append, if_pos (by rw [Array.size_modify]; omega), Array.getElem?_modify, if_neg (by omega)]
theorem sortB_list {s : Nat} {d d' : Array (Bq s)} (hp : PermIn 0 d.size d d') (hs : SortedIn (ltOf (cfB s)) 0 d.size d') : (d'.toList.map (·.1)).Perm (d.toList.map (·.1)) ∧ (d'.toList.map (·.1)).Pairwise (· ≤ ·) := by
 obtain ⟨h1, -, h2⟩ := hp
 constructor
 ·rw [← h1] at h2
  have e1 : d'.extract 0 d'.size = d' := by simp
  have e2 : d.extract 0 d'.size = d := by rw [h1]; simp
  rw [e1, e2] at h2
  exact h2.map _
 ·rw [List.pairwise_iff_getElem]
  intro i j hi hj hij
  simp only [List.length_map, Array.length_toList] at hi hj
  have h3 := hs i j (Nat.zero_le _) hij (by omega)
  rw [ltB, getElem!_pos d' i hi, getElem!_pos d' j hj] at h3
  simp only [List.getElem_map, Array.getElem_toList]
  exact Rat.not_lt.1 (of_decide_eq_false h3)
theorem frac_Sort (A : Option Addr) (l : List Rat) (c n : Nat) (hn : n = l.length) (hn0 : 0 < n) (hm : n ≤ 1099511627776) (s : Nat) (hs : ∀ x ∈ l, qs x ≤ s) (hB : s + qs 0 + (s + qs 0) + 1 ≤ BIG) (w : World) (h : Lq w A l) :
  Calls Tryz.prog 112 #[.slice A n c] w fun e w' => ∃ g cap l', e = .returned (.slice (some ⟨g, 0, none⟩) n cap) ∧ n ≤ cap ∧ l'.Perm l ∧ l'.Pairwise (· ≤ ·) ∧ Lq w' (some ⟨g, 0, none⟩) l' ∧ Grow w w' := by
 have hcl := slices_CloneQ s A c n l hn hn0 hm hs w h
 have hd := toB_list s l hs
 have hdn : (toB s l hs).size = n := by rw [toB_size]; omega
 generalize toB s l hs = d at hcl hd hdn
 have hso : ∀ g cap w1, HoldsK (encB s) 5 w1 g 0 d → g < w1.heap.size → Calls Tryz.prog 149 #[.slice (some ⟨g, 0, none⟩) n cap, .func (.func 25) #[] #[]] w1 fun e w' =>
   e = .returned (.tuple #[]) ∧ ∃ d' q os, PermIn 0 d.size d d' ∧ SortedIn (ltOf (cfB s)) 0 d.size d' ∧ w' = sortWorldK (encB s) 5 w1 g 0 q d' os := fun g cap w1 hH hb => by
  have := slices_SortQ s hB g 0 cap d w1 hH hb (by omega)
  rw [hdn] at this ⊢
  exact this
 have Hd := Lib.hid hd
 clear hd hdn hs h hn
 go_enter Tryz.func112, Tryz.ntmps112
 go_wp2_with (first
  | (go_at_call 148; refine hcl.mono ?_; rintro e w1 ⟨g, cap, rfl, hg, hgs, hcap, hH, hG⟩)
  | (go_at_call 149; refine (hso g cap w1 hH hgs).mono ?_; rintro e w2 ⟨rfl, d', q, os, hp, hst, rfl⟩))
 go_ret
 obtain ⟨h1, h2⟩ := sortB_list hp hst
 rw [Hd.out] at h1
 exact ⟨g, cap, _, rfl, hcap, h1, h2, lq_of_holds (holdsK_sortWorldK_c _ _ _ _ _ _ _ _ _ hH hgs hp.1) (Nat.lt_of_lt_of_le hgs (size_sortWorldK_c _ _ _ _ _ _ _ _)), grow_sortK hG hg _ _ _ _⟩
/-- the list from the least on -/
def rsort (l : List Rat) : List Rat := l.mergeSort fun a b => decide (a ≤ b)
theorem rsort_perm (l : List Rat) : (rsort l).Perm l := List.mergeSort_perm l _
theorem rsort_sorted (l : List Rat) : (rsort l).Pairwise (· ≤ ·) := by
 have h := List.pairwise_mergeSort (le := fun a b : Rat => decide (a ≤ b)) (fun a b c h1 h2 => decide_eq_true (Rat.le_trans (of_decide_eq_true h1) (of_decide_eq_true h2))) (fun a b => by
  by_cases h : a ≤ b
  ·simp [h]
  ·simp [Rat.le_of_lt (Rat.not_le.1 h)]) l
 exact h.imp fun h => of_decide_eq_true h
theorem rsort_uniq {l l' : List Rat} (h1 : l'.Perm l) (h2 : l'.Pairwise (· ≤ ·)) : l' = rsort l :=
 List.Perm.eq_of_pairwise (le := fun a b : Rat => a ≤ b) (fun a b _ _ h1 h2 => Rat.le_antisymm h1 h2) h2 (rsort_sorted l) (h1.trans (rsort_perm l).symm)
theorem rsort_len (l : List Rat) : (rsort l).length = l.length := (rsort_perm l).length_eq
theorem rsort_mem {l : List Rat} {x : Rat} (h : x ∈ rsort l) : x ∈ l := (rsort_perm l).mem_iff.1 h
theorem frac_SortX (A : Option Addr) (l : List Rat) (c n : Nat) (hn : n = l.length) (hn0 : 0 < n) (hm : n ≤ 1099511627776) (s : Nat) (hs : ∀ x ∈ l, qs x ≤ s) (hB : s + qs 0 + (s + qs 0) + 1 ≤ BIG) (w : World) (h : Lq w A l) :
  Calls Tryz.prog 112 #[.slice A n c] w (RetY (fun x : Nat × Nat => .slice (some ⟨x.1, 0, none⟩) n x.2) (fun x W => n ≤ x.2 ∧ Lq W (some ⟨x.1, 0, none⟩) (rsort l)) w) :=
 (frac_Sort A l c n hn hn0 hm s hs hB w h).mono fun e w' ⟨g, cap, l', he, hc, hp, hs, hl, hg⟩ => ⟨(g, cap), he, ⟨hc, rsort_uniq hp hs ▸ hl⟩, hg⟩
end Go.Proofs.YtimjnkfcnpfoeaaGreatDoor
