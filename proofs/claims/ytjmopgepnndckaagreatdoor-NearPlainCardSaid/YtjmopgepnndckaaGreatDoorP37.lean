/-
  Contracts and laws: HandA ScoreA ScoreB ScoreC.
-/
import Derived.Test.YtjmopgepnndckaaGreatDoorP36
set_option linter.unusedSimpArgs false
set_option linter.unusedVariables false
namespace Go.Proofs.YtjmopgepnndckaaGreatDoor
open Go.RowKit
def LIM : Nat := 1099511627760
theorem allocs2 : ∀ t ∈ [45, 47, 49, 55, 57], AllocT Tryz.prog t := by
 intro t ht
 simp only [List.mem_cons, List.not_mem_nil, or_false] at ht
 rcases ht with rfl | rfl | rfl | rfl | rfl
 ·exact fun _ _ _ _ _ _ => by rw [newObj_Nat]; kernel_rfl
 ·exact fun _ _ _ _ _ _ => by rw [newObj_Int]; kernel_rfl
 ·exact fun _ _ _ _ _ _ => by rw [newObj_Q]; kernel_rfl
 ·exact fun _ _ _ _ _ _ => by rw [newObj_RInt]; kernel_rfl
 ·exact fun _ _ _ _ _ _ => by rw [newObj_RQ]; kernel_rfl
set_option maxHeartbeats 400000 in
theorem hand_OutNat (a : Nat) (ha : bl a ≤ LIM) (w : World) : Calls Tryz.prog 100 #[natV a] w (Ret (natR a) w) := by
 unfold LIM at ha
 have hby : ∀ W, Calls Tryz.prog 143 #[natV a] W fun e w' => ∃ A, e = .returned (.slice A (byt a).length (byt a).length) ∧ By w' A (byt a).reverse ∧ Grow W w' := fun W => nat_Bytes a ha W
 have hfr : ∀ A W, By W A (byt a).reverse → Calls Tryz.prog 142 #[.slice A (byt a).length (byt a).length] W (Ret (natR a) W) := fun A W h => ref1_NatFrom A a W ha h
 obtain ⟨n, hn⟩ : ∃ n, n = (byt a).length := ⟨_, rfl⟩
 rw [← hn] at hby hfr
 have Hby := Lib.hid hby
 have Hfr := Lib.hid hfr
 clear hby hfr hn
 go_enter Tryz.func100, Tryz.ntmps100
 go_wp2_with (first
  | (go_at_call 143; ((with_reducible refine (Hby.out _).mono ?_); rintro e w1 ⟨A, rfl, hA, hg1⟩))
  | (go_at_call 142; ((with_reducible refine (Hfr.out _ _ hA).mono ?_); rintro e w2 ⟨x, rfl, hx, hg2⟩)))
 go_ret
 exact ⟨x, rfl, hx, (Grow.alloc _ _).trans (hg1.trans hg2)⟩
set_option maxHeartbeats 400000 in
set_option maxRecDepth 100000 in
theorem hand_OutInt (z : Int) (ha : bl z.natAbs ≤ LIM) (w : World) : Calls Tryz.prog 98 #[intV z] w (Ret (intR z) w) := by
 have ha' : bl z.natAbs ≤ 1099511627776 := by unfold LIM at ha; omega
 go_enter Tryz.func98, Tryz.ntmps98
 refine en2 ?_
 intro u hG b2 b1 hB hF
 refine wp_seq (rdC allocs [] [(0, 0), (0, 3), (1, 1), (0, 2), (1, 4), (1, 5), (1, 6)] hB hG fun K L hN hL => ?_)
 refine gs ?_
 refine gmw (C := fun v => whole_Sign _ (by assumption) _) ?_
 refine gs ?_
 refine gmw (C := fun v => whole_Abs _ _) ?_
 refine grd (natR z.natAbs) (fun (x8 : Ax) => ?_) (C := fun v _ => hand_OutNat z.natAbs ha _)
 refine gmd (C := by (rintro v ⟨⟨hgu, hB, hG, -⟩, hx8⟩; have hx8 : Rn v x8 _ := hx8; exact ref1_I x8 _ z.natAbs _)) ?_
 refine geC hL ?_
 clear hB hG hL L
 rintro u ⟨⟨-, hB, hG, -⟩, hx8⟩
 replace hx8 : Rn u x8 _ := hx8
 refine gtT ?_
 clear hN K
 refine sv hB hF hG 1 0 [_, _] ?_
 intro u hu hBG
 replace hx8 := hx8.put hB 1 rfl (by first | decide | simp) _ _ hu
 clear hB hG hu
 obtain ⟨hB, hG⟩ := hBG
 refine rt Tryz.results98 ?_
 exact ⟨x8, congrArg (fun y : Int => Ending.returned (riV x8 y)) (sgn_self z), hx8, hG⟩
set_option maxHeartbeats 400000 in
set_option maxRecDepth 100000 in
theorem hand_Out (q : Rat) (ha : qs q ≤ LIM) (w : World) : Calls Tryz.prog 58 #[qV q] w (Ret (ratR q) w) := by
 have h1 : bl q.num.natAbs ≤ LIM := Nat.le_trans (qs_num q) ha
 have h2 : bl q.den ≤ LIM := Nat.le_trans (qs_den q) ha
 have h3 : bl q.den ≤ 1099511627776 := by unfold LIM at h2; omega
 go_enter Tryz.func58, Tryz.ntmps58
 refine en2 ?_
 intro u hG b2 b1 hB hF
 refine wp_seq (rdC allocs [] [(0, 0), (0, 3), (1, 1), (1, 2), (1, 4), (1, 5), (0, 6)] hB hG fun K L hN hL => ?_)
 refine gs ?_
 refine gmw (C := fun v => frac_Num _ _) ?_
 refine grd (intR q.num) (fun (x5 : Ax) => ?_) (C := fun v _ => hand_OutInt q.num h1 _)
 refine gmd (C := by (rintro v ⟨⟨hgu, hB, hG, -⟩, hx5⟩; have hx5 : Rn v x5 _ := hx5; exact frac_Den _ (by assumption) _)) ?_
 refine grd (natR q.den) (fun (x8 : Ax) => ?_) (C := by (rintro v ⟨⟨hgu, hB, hG, -⟩, hx5⟩; have hx5 : Rn v x5 _ := hx5; exact hand_OutNat q.den h2 _))
 refine gs ?_
 refine geC hL ?_
 clear hB hG hL L
 rintro u ⟨⟨⟨-, hB, hG, -⟩, hx5⟩, hx8⟩
 replace hx5 : Rn u x5 _ := hx5
 replace hx8 : Rn u x8 _ := hx8
 refine gtT ?_
 clear hN K
 refine sv hB hF hG 1 0 [_, _, _] ?_
 intro u hu hBG
 replace hx5 := hx5.put hB 1 rfl (by first | decide | simp) _ _ hu
 replace hx8 := hx8.put hB 1 rfl (by first | decide | simp) _ _ hu
 clear hB hG hu
 obtain ⟨hB, hG⟩ := hBG
 refine rt Tryz.results58 ?_
 exact ⟨(x5, x8), rfl, ⟨hx5, hx8⟩, hG⟩
theorem NatCmp_same (x y : Ax) (a : Nat) (w : World) (hx : Rn w x a) (hy : Rn w y a) : Calls Tryz.prog 59 #[nvV x a, nvV y a] w fun e w' => e = .returned (.int .i64 0) ∧ Grow w w' := by
 have := ref1_NatCmp x y a a w hx hy
 rw [cmpN_eq rfl] at this
 exact this
set_option maxHeartbeats 1000000 in
set_option maxRecDepth 100000 in
theorem hand_Same (q : Rat) (x y : Ax) (ha : qs q ≤ LIM) (w : World) (hx : Rn w x q.num.natAbs) (hy : Rn w y q.den) : Calls Tryz.prog 26 #[qV q, rqV x y q] w fun e w' => e = .returned (.bool true) ∧ Grow w w' := by
 have hl : 0 < ln q.den := ln_pos.2 q.den_nz
 have hlb : ((ln q.den : Int) == 0) = false := by simp; omega
 go_enter Tryz.func26, Tryz.ntmps26
 refine en2 ?_
 intro u hG b3 b2 hB hF
 replace hx := hx.grow hG
 replace hy := hy.grow hG
 refine wp_seq (rsC allocs2 [0, 1, 2] hB hG fun K L hN hL => ?_)
 refine gs ?_
 refine grd (ratR q) (fun (x7 : Ax × Ax) => ?_) (C := fun v _ => hand_Out q ha _)
 refine gaa (newObj_RQ _ _ _ _ _) fun b5 hb5 hn5 => ?_
 replace hF := hF.n1 [] hB hG hb5 hn5
 refine geC hL ?_
 clear hB hG hL L
 rintro u ⟨⟨⟨hgu, hB, hG, -⟩, hx7⟩, h5⟩
 replace hB := hB.cons' h5
 clear h5
 replace hx := hx.grow hgu
 replace hy := hy.grow hgu
 obtain ⟨hx7a, hx7b⟩ : Rn u x7.1 _ ∧ Rn u x7.2 _ := hx7
 clear hb5 hn5
 clear hgu
 refine gtT ?_
 clear hN K
 refine sv hB hF hG 0 0 [_, _, _] ?_
 intro u hu hBG
 replace hx := hx.put hB 0 rfl (by first | decide | simp) _ _ hu
 replace hy := hy.put hB 0 rfl (by first | decide | simp) _ _ hu
 replace hx7a := hx7a.put hB 0 rfl (by first | decide | simp) _ _ hu
 replace hx7b := hx7b.put hB 0 rfl (by first | decide | simp) _ _ hu
 clear hB hG hu
 obtain ⟨hB, hG⟩ := hBG
 refine wp_seq ?_
 refine r0T ?_
 refine wp_cond_false (rfl) ?_
 refine wp_skip ?_
 refine then_norm ?_
 refine wp_seq (rsE allocs2 [0, 0, 0, 0, 0, 0, 1, 0, 0, 0, 0, 0, 0, 0, 0, 0, 0, 0, 0, 0, 0, 0, 1, 0, 0, 0] hB hG fun L hL => ?_)
 refine gs ?_
 refine gmd (C := fun v ⟨hgu, hB, hG, _⟩ => NatCmp_same x7.1 x q.num.natAbs _ (hx7a.grow hgu) (hx.grow hgu)) ?_
 refine gs ?_
 first | refine gmd (C := fun v ⟨hgu, hB, hG, _⟩ => NatCmp_same x7.2 y q.den _ (hx7b.grow hgu) (hy.grow hgu)) ?_ | refine gmna ?_
 refine gs ?_
 refine geT hL ?_
 clear hB hG hL L
 rintro u ⟨hgu, hB, hG, -⟩
 replace hx := hx.grow hgu
 replace hy := hy.grow hgu
 replace hx7a := hx7a.grow hgu
 replace hx7b := hx7b.grow hgu
 clear hgu
 refine rt Tryz.results26 ?_
 exact ⟨rfl, hG⟩
set_option maxHeartbeats 400000 in
set_option maxRecDepth 100000 in
theorem hand_Is (n d : Int) (h0 : -9223372036854775808 ≤ n) (h1 : n ≤ 9223372036854775807) (h2 : -9223372036854775808 ≤ d) (h3 : d ≤ 9223372036854775807) (hd : d ≠ 0) (ha : qs (qover n d) ≤ LIM) (w : World) : Calls Tryz.prog 46 #[qV (qover n d), .int .i64 n, .int .i64 d] w fun e w' => e = .returned (.bool true) ∧ Grow w w' := by
 go_enter Tryz.func46, Tryz.ntmps46
 refine en1 ?_
 intro u hG b3 hB hF
 refine wp_seq (rdC allocs [] [(0, 0), (0, 1), (0, 2), (1, 3), (1, 4)] hB hG fun K L hN hL => ?_)
 refine gs ?_
 refine grd (ratR (qover n d)) (fun (x10 : Ax × Ax) => ?_) (C := fun v _ => ref1_Over n d h0 h1 h2 h3 hd _)
 refine gmd (C := by (rintro v ⟨⟨hgu, hB, hG, -⟩, hx10⟩; obtain ⟨hx10a, hx10b⟩ : Rn v x10.1 _ ∧ Rn v x10.2 _ := hx10; exact hand_Same (qover n d) x10.1 x10.2 ha _ hx10a hx10b)) ?_
 refine geC hL ?_
 clear hB hG hL L
 rintro u ⟨⟨-, hB, hG, -⟩, hx10⟩
 obtain ⟨hx10a, hx10b⟩ : Rn u x10.1 _ ∧ Rn u x10.2 _ := hx10
 refine gtT ?_
 clear hN K
 refine rt Tryz.results46 ?_
 exact ⟨rfl, hG⟩
/-- any number as one of 0 to m - 1 -/
def pick (n m : Int) : Int := n % m
theorem pick_range (n : Int) {m : Int} (h : 0 < m) : 0 ≤ pick n m ∧ pick n m < m := ⟨Int.emod_nonneg _ (by omega), Int.emod_lt_of_pos _ h⟩
set_option maxHeartbeats 400000 in
theorem hand_Pick (n m : Int) (hm : 0 < m) (hm2 : m ≤ 9223372036854775807) (w : World) : Calls Tryz.prog 14 #[.int .i64 n, .int .i64 m] w fun e w' => e = .returned (.int .i64 (pick n m)) ∧ w = w' := by
 have h0 : ¬ m = 0 := by omega
 obtain ⟨t, ht⟩ : ∃ t, t = n.tmod m := ⟨_, rfl⟩
 have hp : pick n m = if t < 0 then t + m else t := by
  rw [ht]
  unfold pick
  have h1 := Int.emod_nonneg n (show m ≠ 0 by omega)
  have h2 := Int.emod_lt_of_pos n hm
  rw [Int.tmod_eq_emod]
  split <;> split <;> omega
 have hb : -m < t ∧ t < m := by
  rw [ht]
  have h1 := Int.emod_nonneg n (show m ≠ 0 by omega)
  have h2 := Int.emod_lt_of_pos n hm
  rw [Int.tmod_eq_emod]
  split <;> omega
 have htm : n.tmod m = t := ht.symm
 have hw1 : IntKind.i64.wrap t = t := IntWalk.i64_in _ (by omega)
 clear ht
 by_cases hneg : t < 0
 ·rw [if_pos hneg] at hp
  have hw2 : IntKind.i64.wrap (t + m) = t + m := IntWalk.i64_in _ (by omega)
  have Hp := Lib.hid hp
  clear hp
  go_enter Tryz.func14, Tryz.ntmps14
  go_wp2_with fail
  go_ret
  exact ⟨ret_i64 Hp.out.symm, rfl⟩
 ·rw [if_neg hneg] at hp
  have Hp := Lib.hid hp
  clear hp
  go_enter Tryz.func14, Tryz.ntmps14
  go_wp2_with fail
  go_ret
  exact ⟨ret_i64 Hp.out.symm, rfl⟩
end Go.Proofs.YtjmopgepnndckaaGreatDoor
namespace Go.Proofs.YtjmopgepnndckaaGreatDoor
open Go.RowKit
/-- these integers lie from the address on -/
def Li (u : World) (A : Option Addr) (l : List Int) : Prop :=
 l ≠ [] → ∃ b off, A = some ⟨b, off, none⟩ ∧ b < u.heap.size ∧ ∀ i x, l[i]? = some x → u.cell? ⟨b, off + i, none⟩ = some (.int .i64 x)
theorem Li.nil (u : World) (A : Option Addr) : Li u A [] := fun h => absurd rfl h
theorem Li.grow {u u' : World} {A : Option Addr} {l : List Int} (h : Li u A l) (hg : Grow u u') : Li u' A l := fun hn => by
 obtain ⟨b, off, e, hb, hc⟩ := h hn
 exact ⟨b, off, e, Nat.lt_of_lt_of_le hb hg.size, fun i x hi => (hg.cell (p := ⟨b, off + i, none⟩) hb).trans (hc i x hi)⟩
def gi (l : List Int) (i : Nat) : Int := (l[i]?).getD 0
theorem gi_eq {l : List Int} {i : Nat} (h : i < l.length) : l[i]? = some (gi l i) := by
 unfold gi; rw [List.getElem?_eq_getElem h]; rfl
theorem Li.cell {u : World} {A : Option Addr} {l : List Int} (h : Li u A l) {i : Nat} (hi : i < l.length) : ∃ b off, A = some ⟨b, off, none⟩ ∧ u.cell? ⟨b, off + i, none⟩ = some (.int .i64 (gi l i)) := by
 obtain ⟨b, off, e, hb, hc⟩ := h (fun h0 => by rw [h0] at hi; cases hi)
 exact ⟨b, off, e, hc i _ (gi_eq hi)⟩
/-- how many of the first n fit -/
def cnt (t : Nat → Bool) : Nat → Nat
 | 0 => 0
 | n + 1 => cnt t n + (if t n then 1 else 0)
/-- what the closure of Right reads -/
def TwoLi (b2 b3 : Nat) (A B : Option Addr) (m c d : Nat) (l l' : List Int) (W : World) : Prop :=
 Blk W b2 22 #[.slice A m c] ∧ Blk W b3 22 #[.slice B m d] ∧ Li W A l ∧ Li W B l'
theorem TwoLi.mk {b2 b3 : Nat} {A B : Option Addr} {m c d : Nat} {l l' : List Int} {u : World} (h1 : Blk u b2 22 #[.slice A m c]) (h2 : Blk u b3 22 #[.slice B m d]) (h3 : Li u A l) (h4 : Li u B l') : TwoLi b2 b3 A B m c d l l' u := ⟨h1, h2, h3, h4⟩
theorem TwoLi.grow {b2 b3 : Nat} {A B : Option Addr} {m c d : Nat} {l l' : List Int} {u u' : World} (hg : Grow u u') (h : TwoLi b2 b3 A B m c d l l' u) : TwoLi b2 b3 A B m c d l l' u' := ⟨h.1.grow hg, h.2.1.grow hg, h.2.2.1.grow hg, h.2.2.2.grow hg⟩
def hits (l l' : List Int) (m : Nat) : Nat := cnt (fun i => gi l i == gi l' i) m
end Go.Proofs.YtjmopgepnndckaaGreatDoor
namespace Go.Proofs.YtjmopgepnndckaaGreatDoor
open Go.RowKit
abbrev Rw := Option Addr × Nat × List Int
/-- slices of integers that lie from the address on -/
def Lrows (u : World) (A : Option Addr) (rs : List Rw) : Prop :=
 rs ≠ [] → ∃ b off, A = some ⟨b, off, none⟩ ∧ b < u.heap.size ∧ ∀ i r, rs[i]? = some r → u.cell? ⟨b, off + i, none⟩ = some (.slice r.1 r.2.2.length r.2.1) ∧ Li u r.1 r.2.2
theorem Lrows.grow {u u' : World} {A : Option Addr} {rs : List Rw} (h : Lrows u A rs) (hg : Grow u u') : Lrows u' A rs := fun hn => by
 obtain ⟨b, off, e, hb, hc⟩ := h hn
 exact ⟨b, off, e, Nat.lt_of_lt_of_le hb hg.size, fun i r hi => ⟨(hg.cell (p := ⟨b, off + i, none⟩) hb).trans (hc i r hi).1, (hc i r hi).2.grow hg⟩⟩
def cellsI (l : List Int) : Array Value := (l.map fun x => Value.int .i64 x).toArray
theorem cellsI_get (l : List Int) (i : Nat) : (cellsI l)[i]? = (l[i]?).map fun x => Value.int .i64 x := by
 unfold cellsI; simp
theorem cellsI_set (l : List Int) (i : Nat) (y : Int) : (cellsI l).setIfInBounds i (.int .i64 y) = cellsI (l.set i y) := by
 unfold cellsI
 rw [List.setIfInBounds_toArray, List.map_set]
theorem li_blk {u : World} {b : Nat} {l : List Int} (h : Blk u b 3 (cellsI l)) : Li u (some ⟨b, 0, none⟩) l := fun _ =>
 ⟨b, 0, rfl, h.lt, fun i x hi => by rw [Nat.zero_add, h.cell, cellsI_get, hi]; rfl⟩
def cellsS (l : List Value) : Array Value := l.toArray
/-- the table's entry after r rows -/
def tabAt (l l' : List Int) (r i j : Nat) : Int := (cnt (fun s => gi l s == (i : Int) && gi l' s == (j : Int)) r : Nat)
def tabRow (l l' : List Int) (r k i : Nat) : List Int := (List.range k).map (tabAt l l' r i)
theorem tabAt_succ (l l' : List Int) (r i j : Nat) : tabAt l l' (r + 1) i j = tabAt l l' r i j + if gi l r = (i : Int) ∧ gi l' r = (j : Int) then 1 else 0 := by
 unfold tabAt
 simp only [cnt]
 by_cases h : gi l r = (i : Int) ∧ gi l' r = (j : Int)
 ·rw [if_pos h, if_pos (by simp [h.1, h.2])]; omega
 ·rw [if_neg h, if_neg (by simpa using h)]; omega
theorem tabRow_hit (l l' : List Int) (r k i j : Nat) (h1 : gi l r = (i : Int)) (h2 : gi l' r = (j : Int)) : (tabRow l l' r k i).set j (tabAt l l' r i j + 1) = tabRow l l' (r + 1) k i := by
 unfold tabRow
 refine List.ext_getElem (by simp) fun t g1 g2 => ?_
 rw [List.getElem_set]
 simp only [List.getElem_map, List.getElem_range, tabAt_succ, h1, h2, true_and]
 by_cases e : j = t
 ·subst e; simp
 ·rw [if_neg e, if_neg (by omega)]; omega
theorem tabRow_miss (l l' : List Int) (r k i : Nat) (h1 : gi l r ≠ (i : Int)) : tabRow l l' r k i = tabRow l l' (r + 1) k i := by
 unfold tabRow
 refine List.map_congr_left fun t _ => ?_
 rw [tabAt_succ, if_neg (fun h => h1 h.1)]
 omega
end Go.Proofs.YtjmopgepnndckaaGreatDoor
namespace Go.Proofs.YtjmopgepnndckaaGreatDoor
open Go.RowKit
def rowPtr (B0 k i : Nat) : Value := .slice (some ⟨B0 + 1 + i, 0, none⟩) k k
def outTo (B0 k i : Nat) : List Value := (List.range i).map (rowPtr B0 k) ++ List.replicate (k - i) (.slice none 0 0)
theorem outTo_set (B0 k : Nat) {i : Nat} (h : i < k) : (outTo B0 k i).set i (rowPtr B0 k i) = outTo B0 k (i + 1) := by
 unfold outTo
 rw [List.set_append_right _ _ (by simp), List.length_map, List.length_range, Nat.sub_self]
 obtain ⟨m, hm⟩ : ∃ m, k - i = m + 1 := ⟨k - i - 1, by omega⟩
 rw [hm, show k - (i + 1) = m by omega, List.range_succ, List.map_append, List.append_assoc]
 rfl
theorem outTo_full (B0 k : Nat) {i : Nat} (h : i < k) : (outTo B0 k k)[i]? = some (rowPtr B0 k i) := by
 unfold outTo; simp [h]
theorem cellsS_get (l : List Value) (i : Nat) : (cellsS l)[i]? = l[i]? := by unfold cellsS; simp
theorem cellsS_set (l : List Value) (i : Nat) (v : Value) : (cellsS l).setIfInBounds i v = cellsS (l.set i v) := by
 unfold cellsS; rw [List.setIfInBounds_toArray]
/-- the table's rows while it is made -/
def Made (B0 k i : Nat) (wr : World) : Prop := wr.heap.size = B0 + 1 + i ∧ Blk wr B0 22 (cellsS (outTo B0 k i)) ∧ ∀ j, j < i → Blk wr (B0 + 1 + j) 3 (cellsI (List.replicate k 0))
def Tabd (B0 k : Nat) (l l' : List Int) (r : Nat) (wr : World) : Prop := Blk wr B0 22 (cellsS (outTo B0 k k)) ∧ ∀ j, j < k → Blk wr (B0 + 1 + j) 3 (cellsI (tabRow l l' r k j))
theorem setCell_size (u : World) (p : Addr) (v : Value) : (u.setCell p v).heap.size = u.heap.size := by simp [World.setCell]
theorem Made.next {B0 k i : Nat} {wr : World} (h : Made B0 k i wr) (hi : i < k) : Made B0 k (i + 1) ((wr.setCell ⟨B0, i, none⟩ (.slice (some ⟨wr.heap.size, 0, none⟩) k k)).alloc (.cells (cellsI (List.replicate k 0)) 3)) := by
 obtain ⟨h1, h2, h3⟩ := h
 refine ⟨by rw [alloc_size, setCell_size, h1]; omega, ?_, fun j hj => ?_⟩
 ·have := h2.set_ i (.slice (some ⟨wr.heap.size, 0, none⟩) k k)
  rw [cellsS_set, h1, show (Value.slice (some ⟨B0 + 1 + i, 0, none⟩) k k) = rowPtr B0 k i from rfl, outTo_set B0 k hi] at this
  rw [h1]
  exact this.grow (Grow.alloc _ _)
 ·rcases Nat.lt_or_ge j i with hlt | hge
  ·exact ((h3 j hlt).far (p := ⟨B0, i, none⟩) (by show B0 + 1 + j ≠ B0; omega) _).grow (Grow.alloc _ _)
  ·obtain rfl : j = i := by omega
   have := Blk.new (wr.setCell ⟨B0, j, none⟩ (.slice (some ⟨wr.heap.size, 0, none⟩) k k)) 3 (cellsI (List.replicate k 0))
   rw [setCell_size, h1] at this
   rw [h1]
   exact this
theorem Tabd.next {B0 k : Nat} {l l' : List Int} {r : Nat} {wr : World} (h : Tabd B0 k l l' r wr) {p q : Nat} (hp : gi l r = (p : Int)) (hq : gi l' r = (q : Int)) (hpk : p < k) :
  Tabd B0 k l l' (r + 1) (wr.setCell ⟨B0 + 1 + p, q, none⟩ (.int .i64 (tabAt l l' r p q + 1))) := by
 refine ⟨h.1.far (p := ⟨B0 + 1 + p, q, none⟩) (by show B0 ≠ B0 + 1 + p; omega) _, fun j hj => ?_⟩
 by_cases e : j = p
 ·subst e
  have := (h.2 j hj).set_ q (.int .i64 (tabAt l l' r j q + 1))
  rw [cellsI_set, tabRow_hit l l' r k j q hp hq] at this
  exact this
 ·rw [← tabRow_miss l l' r k j (by rw [hp]; omega)]
  exact (h.2 j hj).far (p := ⟨B0 + 1 + p, q, none⟩) (by show B0 + 1 + j ≠ B0 + 1 + p; omega) _
def tabRows (B0 k : Nat) (l l' : List Int) (m : Nat) : List Rw := (List.range k).map fun i => (some ⟨B0 + 1 + i, 0, none⟩, k, tabRow l l' m k i)
theorem Tabd.rows {B0 k : Nat} {l l' : List Int} {m : Nat} {wr : World} (h : Tabd B0 k l l' m wr) : Lrows wr (some ⟨B0, 0, none⟩) (tabRows B0 k l l' m) := fun _ =>
 ⟨B0, 0, rfl, h.1.lt, fun i r hi => by
  unfold tabRows at hi
  rw [List.getElem?_map, Option.map_eq_some_iff] at hi
  obtain ⟨j, hj, rfl⟩ := hi
  rw [List.getElem?_eq_some_iff] at hj
  obtain ⟨hj1, hj2⟩ := hj
  simp only [List.length_range] at hj1
  simp only [List.getElem_range] at hj2
  subst hj2
  refine ⟨?_, li_blk (h.2 i hj1)⟩
  rw [Nat.zero_add, h.1.cell, cellsS_get, outTo_full B0 k hj1]
  simp [rowPtr, tabRow]⟩
end Go.Proofs.YtjmopgepnndckaaGreatDoor
