/-
  Contracts and laws: Law ScoreD ScoreF ScoreG NearP NearV LawC.
-/
import Derived.Test.YtjmopgepnndckaaGreatDoorV37
import Derived.Test.YtjmopgepnndckaaGreatDoorCards
import Derived.Test.YtjmopgepnndckaaGreatDoorTie
import Derived.WalkKit
import Derived.ProofKit
import Derived.OpenShut
import Derived.Carry
import Derived.ChangeOld
import Derived.ChangeSlices
import Derived.Deep.DeepHandedRow
import Derived.Lib.LaidTab
import Derived.Deep.Grids
set_option linter.unusedSimpArgs false
set_option linter.unusedVariables false
namespace Go.Proofs.YtjmopgepnndckaaGreatDoor
open Go.ChangeShapes Go.WideShapes Go.ChangeAt Go.RowKit
theorem ownK : ownKnob Tryz.prog.godebug = none := by kernel_rfl
theorem laidOutP : laidOutB Tryz.prog = true := by kernel_rfl
theorem cellsT_int : Tryz.prog.cellsOf 3 = 1 := by kernel_rfl
theorem trodAll_below {H : Type} {enc : TypeId × Value → H} {W W' : World} (hb : Below W.heap.size W W') : ∀ {ts : List TypeId} {vs : List Value} {ds : List (DataW H)} {ps : List MemPlace}, (∀ t ∈ ts, Tryz.prog.readableRec t = true ∧ t < Tryz.prog.types.size) → (∀ x ∈ ps, x.block < W.heap.size) →
  DataW.TrodAll enc Tryz.prog W 0 (fun _ => true) true ts vs ds ps → DataW.TrodAll enc Tryz.prog W' 0 (fun b => decide (b < W.heap.size)) true ts vs ds ps
 | [], vs, ds, ps, _, _, h => by
  obtain ⟨rfl, rfl, rfl⟩ := trodAll_nil h
  exact trodAll_mk0
 | t :: ts, vs, ds, ps, ht, hlt, h => by
  obtain ⟨v, vs1, d, ds1, a, b, rfl, rfl, rfl, h1, h2⟩ := trodAll_cons h
  obtain ⟨r1, r2⟩ := ht t (by simp)
  exact ⟨a, b, Below.trod laidOutP r1 r2 h1 hb (fun x hx => hlt x (by simp [hx])), trodAll_below hb (fun t ht' => ht t (by simp [ht'])) (fun x hx => hlt x (by simp [hx])) h2, rfl⟩
/-- what a law owes behind its call -/
theorem law_post {H : Type} {enc : TypeId × Value → H} {f : Func} {s : ChangeSpec} {apart : Bool} {W W' : World} {args : Array Value} {ds gs : List (DataW H)} {before : List MemPlace}
  (hW : DataW.Whole enc Tryz.prog f.params.toList s.vars apart W args.toList ds gs before) (hv : s.vars = []) (hf1 : (s.fn H (ds ++ gs)).results = [.lit (.bool true)]) (hf2 : (s.fn H (ds ++ gs)).args = ds) (hf3 : (s.fn H (ds ++ gs)).vars = []) (hr : f.resultTypes = #[4])
  (hp : ∀ t ∈ f.params.toList, Tryz.prog.readableRec t = true ∧ t < Tryz.prog.types.size) (hb : Below W.heap.size W W') : s.post enc Tryz.prog f apart true false false W args (.bool true) W' := by
 have hlt := hW.lt
 have hW2 := hW
 obtain ⟨p, q, hA, hV, rfl, hz, hn⟩ := hW
 refine ⟨ds, gs, p ++ q, [], p, [], hW2, ?_, ?_, ?_, ?_, fun h => by cases h⟩
 ·rw [hf1, hr]
  exact trodAll_cons_mk (shut_bool Tryz.underlying4 _) trodAll_mk0
 ·rw [hf2]
  exact trodAll_below hb hp (fun x hx => hlt x (by simp [hx])) hA
 ·rw [hf3, hv]
  rfl
 ·exact hb.frame _
set_option maxRecDepth 100000 in
/-- an argument that is a slice of integers -/
theorem arg_ints {H : Type} {enc : TypeId × Value → H} {W : World} {base : Nat} {v : Value} {d : DataW H} {p : List MemPlace} (hval : Value.okWide Tryz.prog W .any base 22 v) (h : DataW.Trod enc Tryz.prog W 0 (fun _ => true) true 22 v d p) :
  ∃ (A : Option Addr) (l : List Int) (c : Nat), v = .slice A l.length c ∧ Li W A l ∧ l.length ≤ 9223372036854775807 ∧ ∀ x ∈ l, -9223372036854775808 ≤ x ∧ x ≤ 9223372036854775807 := by
 obtain ⟨a0, len, cap, rfl⟩ := okWide_slice Tryz.underlying22 hval
 obtain ⟨fuel, hf⟩ := h
 rcases open_ints Tryz.underlying22 Tryz.underlying3 cellsT_int hf with ⟨hcs, hx⟩ | ⟨a, len', cap', zs, hcs, _, hl, hm, hz, hx, hcell, hwz⟩
 ·simp [Value.cells] at hcs
  obtain ⟨rfl, rfl, rfl⟩ := hcs
  exact ⟨none, [], 0, rfl, Li.nil _ _, by simp, fun x hx => by cases hx⟩
 ·simp [Value.cells] at hcs
  obtain ⟨rfl, rfl, rfl⟩ := hcs
  simp only [if_true] at hz
  have hlen : (zs.take len).length = len := by simp; omega
  refine ⟨some a, zs.take len, cap, by rw [hlen], fun hne => ?_, by rw [hlen]; unfold maxLen at hm; omega, fun x hx => bounds_i64 (hwz x (List.mem_of_mem_take hx))⟩
  have h0 : 0 < zs.length := by
   have : 0 < (zs.take len).length := List.length_pos_iff.2 hne
   omega
  obtain ⟨b, off, rfl, hc⟩ := ints_at hcell h0
  have hb : b < W.heap.size := World.block_lt_of_cell? W _ (hc 0 h0)
  refine ⟨b, off, rfl, hb, fun i x hi => ?_⟩
  have hi2 : i < (zs.take len).length := (List.getElem?_eq_some_iff.1 hi).1
  have hi3 : zs[i]? = some x := by
   rw [List.getElem?_take] at hi
   split at hi
   ·exact hi
   ·cases hi
  rw [hc i (by rw [hlen] at hi2; omega)]
  simp [List.getD, hi3]
/-- the table of the program's bits -/
def tab64L : List Int := [0, 1, 56, 2, 57, 49, 28, 3, 61, 58, 42, 50, 38, 29, 17, 4, 62, 47, 59, 36, 45, 43, 51, 22, 53, 39, 33, 30, 24, 18, 12, 5, 63, 55, 48, 27, 60, 41, 37, 16, 46, 35, 44, 21, 52, 32, 23, 11, 54, 26, 40, 15, 34, 20, 31, 10, 25, 14, 19, 9, 13, 8, 7, 6]
theorem tab64_same : ∀ j, j < 64 → tab64L.getD j 0 = ((Lib.deBruijn64tab.getD j 0 : Nat) : Int) := by decide
theorem tab64_type : (Tryz.prog.globals[2]?).map (·.type) = some 270 := by kernel_rfl
theorem tab64_cells : Tryz.prog.cellsOf 270 = 64 := by kernel_rfl
theorem tab64_cell : Tryz.prog.cellsOf 5 = 1 := by kernel_rfl
/-- the row's list gives the table -/
theorem tab_laid {W : World} {name : String} (hg : Tryz.prog.globalNamed name = some 2) (h : laidMetH Tryz.prog [(name, Lib.tabData .u8 tab64L)] W) : Tab W := fun j hj => by
 have h1 := (Lib.tabIs_of_head (rest := []) hg tab64_type Tryz.underlying270 Tryz.underlying5 tab64_cell tab64_cells h).cell hg j (by show j < 64; exact hj)
 rw [tab64_same j hj] at h1
 exact h1
/-- the settled world, the table holding what its initialiser lays -/
noncomputable def laidWorld (os : Os) : World :=
 { World.holding Tryz.prog os ⟨#[], #[], []⟩ with heap := (World.holding Tryz.prog os ⟨#[], #[], []⟩).heap.modify 2 fun
   | .cells _ t frozen => .cells (tab64L.map fun x => Value.int .u8 x).toArray t frozen
   | o => o }
end Go.Proofs.YtjmopgepnndckaaGreatDoor
namespace Go.Proofs.YtjmopgepnndckaaGreatDoor
open Go.RowKit
/-- what the closures of Squares and Sizes read -/
def TwoLq (b2 b3 : Nat) (A B : Option Addr) (m c d : Nat) (l l' : List Rat) (W : World) : Prop :=
 Blk W b2 35 #[.slice A m c] ∧ Blk W b3 35 #[.slice B m d] ∧ Lq W A l ∧ Lq W B l'
theorem TwoLq.mk {b2 b3 : Nat} {A B : Option Addr} {m c d : Nat} {l l' : List Rat} {u : World} (h1 : Blk u b2 35 #[.slice A m c]) (h2 : Blk u b3 35 #[.slice B m d]) (h3 : Lq u A l) (h4 : Lq u B l') : TwoLq b2 b3 A B m c d l l' u := ⟨h1, h2, h3, h4⟩
theorem TwoLq.grow {b2 b3 : Nat} {A B : Option Addr} {m c d : Nat} {l l' : List Rat} {u u' : World} (hg : Grow u u') (h : TwoLq b2 b3 A B m c d l l' u) : TwoLq b2 b3 A B m c d l l' u' := ⟨h.1.grow hg, h.2.1.grow hg, h.2.2.1.grow hg, h.2.2.2.grow hg⟩
theorem TwoLq.cells {b2 b3 ba oa bb ob : Nat} {m c d : Nat} {l l' : List Rat} {W : World} (h : TwoLq b2 b3 (some ⟨ba, oa, none⟩) (some ⟨bb, ob, none⟩) m c d l l' W) {i : Nat} (h1 : i < l.length) (h2 : i < l'.length) :
  (W.cell? ⟨b2, 0, none⟩ = some (.slice (some ⟨ba, oa, none⟩) m c) ∧ W.cell? ⟨b3, 0, none⟩ = some (.slice (some ⟨bb, ob, none⟩) m d)) ∧ Cq W ba (oa + i * 5) (gq l i) ∧ Cq W bb (ob + i * 5) (gq l' i) :=
 ⟨⟨h.1.cell 0, h.2.1.cell 0⟩, h.2.2.1.read h1, h.2.2.2.read h2⟩
set_option maxHeartbeats 1000000 in
set_option maxRecDepth 100000 in
theorem frac_Sum (A : Option Addr) (l : List Rat) (c n : Nat) (hn : n = l.length) (hm : n ≤ 1099511627776) (s M : Nat) (hs : ∀ x ∈ l, qs x ≤ s) (hM : ∀ j, j ≤ n → qs (qsum (gq l) j) ≤ M) (hB : M + s + 100 ≤ BIG) (w : World) (h : Lq w A l) (HT : Tab w) :
  Calls Tryz.prog 94 #[.slice A n c] w fun e w' => e = .returned (qV (qsum (gq l) n)) ∧ Grow w w' := by
 have H := Lib.hid h
 have Hs := Lib.hid hs
 have HM := Lib.hid hM
 have Hn := Lib.hid hn
 clear h hs hM hn
 go_enter Tryz.func94, Tryz.ntmps94
 refine en1 ?_
 intro u hG b2 hB hF
 refine wp_seq (rsE allocs [2] hB hG fun L hL => ?_)
 refine gaa (newObj_Q _ _ _ _ _) fun b3 hb3 hn3 => ?_
 replace hF := hF.n1 [] hB hG hb3 hn3
 refine geT hL ?_
 clear hB hG hL L
 rintro u ⟨⟨-, hB, hG, -⟩, h3⟩
 replace hB := hB.cons' h3
 clear h3
 clear hb3 hn3
 refine wp_seq ?_
 refine r0T ?_
 refine wp_block ?_
 go_loopw [8] (fun s0 wr => ∃ (j : Nat) (S : Rat), j ≤ n ∧ s0 = .int .i64 j ∧ (S = qsum (gq l) j) ∧ Bx wr [(b3, 49, #[.bool (intNeg S.num), .int .u64 (natLo S.num.natAbs), .string (natMo S.num.natAbs), .int .u64 (natLo (keptDen S.den)), .string (natMo (keptDen S.den))]), (b2, 49, #[.bool false, .int .u64 0, .string ⟨#[]⟩, .int .u64 0, .string ⟨#[]⟩])] ∧ Grow w wr) (fun s0 _ => n - (intOf s0).toNat)
 case atStart => exact ⟨0, 0, Nat.zero_le _, rfl, rfl, hB, hG⟩
 case round =>
  clear hB hG
  obtain ⟨j, S, hj, rfl, hrel0, hB, hG⟩ := hrel
  obtain ⟨u, rfl⟩ : ∃ x, x = wr := ⟨_, rfl⟩
  have H0 := Lib.hid hrel0
  clear hrel0
  rcases Nat.lt_or_ge j n with hlt0 | hge0
  ·have hdec : decide ((j : Int) < (n : Int)) = true := by simp; omega
   have hjl : j < l.length := by rw [← Hn.out]; exact hlt0
   have z1 := HM.out j (by omega)
   have z2 := Hs.out _ (gq_mem hjl)
   have hnx : qsum (gq l) (j + 1) = qadd (qsum (gq l) j) (gq l j) := rfl
   rw [← H0.out] at z1 hnx
   obtain ⟨ba, oa, rfl⟩ := H.out.addr (by omega)
   have hcl : ∀ W, Grow w W → Cq W ba (oa + j * 5) (gq l j) := fun W hg => (H.out.grow hg).read hjl
   obtain ⟨F, hFj⟩ : ∃ F, F = gq l j := ⟨_, rfl⟩
   rw [← hFj] at z2 hnx
   simp only [← hFj] at hcl
   have Hcl := Lib.hid hcl
   have Hnx := Lib.hid hnx
   clear hcl hnx hFj hjl
   refine r0T ?_
   refine wp_seq ?_
   refine wp_cond_true (rfl) ?_
   refine wp_skip ?_
   refine then_norm ?_
   refine wp_seq ?_
   refine wp_block ?_
   refine wp_seq (rsC allocs [0, 0, 2] hB hG fun K L hN hL => ?_)
   repeat first | refine gya ?_ | refine gyr ?_ | refine gna ?_ | refine gyb (by (rintro v ⟨hgu, hB, hG, -⟩ N hN; have r := hB.r; simp only [BxR] at r; obtain ⟨q1, q2, q3, q4, q5⟩ := Hcl.out v hG; go_simp; exact hN)) ?_
   refine gaa (newObj_Q _ _ _ _ _) fun b5 hb5 hn5 => ?_
   replace hF := hF.n1 [] hB hG hb5 hn5
   refine geC hL ?_
   clear hB hG hL L
   rintro u ⟨⟨-, hB, hG, -⟩, h5⟩
   replace hB := hB.cons' h5
   clear h5
   clear hb5 hn5
   refine gtT ?_
   clear hN K
   refine st hB hF hG 0 0 [_, _, _, _, _] ?_
   clear hB hG
   intro u hB hG
   refine rsC allocs [0, 0, 1] hB hG fun K L hN hL => ?_
   repeat first | refine gya ?_ | refine gyr ?_ | refine gna ?_ | refine gyb (by (rintro v ⟨hgu, hB, hG, -⟩ N hN; have r := hB.r; simp only [BxR] at r; obtain ⟨q1, q2, q3, q4, q5⟩ := Hcl.out v hG; go_simp; exact hN)) ?_
   refine gmd (C := fun v ⟨hgu, hB, hG, _⟩ => frac_Add _ _ _ (by omega) (HT.grow hG)) ?_
   refine geC hL ?_
   clear hB hG hL L
   rintro u ⟨-, hB, hG, -⟩
   refine gt ?_
   clear hN K
   refine st hB hF hG 1 0 [_, _, _, _, _] ?_
   clear hB hG
   intro u hB hG
   refine blk_norm ?_
   refine then_norm ?_
   refine r0E ?_
   refine then_norm ?_
   go_roundw
   case rel => exact ⟨j + 1, qadd S F, by omega, by go_num, Hnx.out.symm, hB.tail, hG⟩
   case measure => simp [intOf]; omega
  ·obtain rfl : n = j := by omega
   have hdec : decide ((n : Int) < (n : Int)) = false := by simp
   skip
   refine r0T ?_
   refine wp_seq ?_
   refine wp_cond_false (rfl) ?_
   refine wp_exit ?_
   refine then_exit ?_
   refine then_exit ?_
   refine blk_exit ?_
   refine then_norm ?_
   refine r0T ?_
   refine st hB hF hG 1 0 [_, _, _, _, _] ?_
   clear hB hG
   intro u hB hG
   refine rt Tryz.results94 ?_
   exact ⟨ret_qV (by rw [H0.out]), hG⟩
def qMean (l : List Rat) (n : Nat) : Rat := qdiv (qsum (gq l) n) (qint n)
set_option maxHeartbeats 1000000 in
set_option maxRecDepth 100000 in
theorem frac_Mean (A : Option Addr) (l : List Rat) (c n : Nat) (hn : n = l.length) (hn0 : 0 < n) (hm : n ≤ 1099511627776) (s : Nat) (hs : ∀ x ∈ l, qs x ≤ s) (hB : n * (s + 1) + s + 200 ≤ BIG) (w : World) (h : Lq w A l) (HT : Tab w) :
  Calls Tryz.prog 56 #[.slice A n c] w fun e w' => e = .returned (.tuple #[qV (qMean l n), .bool true]) ∧ Grow w w' := by
 have hsz := qsum_size (gq l) s n (fun i hi => hs _ (gq_mem (by omega)))
 have hsz2 : ∀ j, j ≤ n → qs (qsum (gq l) j) ≤ n * (s + 1) + 1 := fun j hj => Nat.le_trans (hsz j hj) (Nat.add_le_add_right (Nat.mul_le_mul_right _ hj) 1)
 have hsum : ∀ W, Grow w W → Calls Tryz.prog 94 #[.slice A n c] W fun e w' => e = .returned (qV (qsum (gq l) n)) ∧ Grow W w' := fun W hg => frac_Sum A l c n hn hm s (n * (s + 1) + 1) hs hsz2 (by omega) W (h.grow hg) (HT.grow hg)
 have z1 := hsz2 n (Nat.le_refl _)
 have z2 := qint_sz n hm
 have hnz : nzq (qint (n : Nat)) = true := decide_eq_true (fun h0 => by
  have h1 := qint_num (n : Int)
  rw [h0] at h1
  have : (0 : Rat).num = 0 := rfl
  omega)
 obtain ⟨S, hS⟩ : ∃ S, S = qsum (gq l) n := ⟨_, rfl⟩
 have hqm : qMean l n = qdiv S (qint n) := by rw [hS]; rfl
 rw [← hS] at hsum z1
 rw [hqm, ← hnz]
 have Hsum := Lib.hid hsum
 clear hsum hsz hsz2 hS hqm hs h hn hnz
 go_enter Tryz.func56, Tryz.ntmps56
 refine en1 ?_
 intro u hG b2 hB hF
 refine wp_seq (rsC allocs [0, 1, 0, 0, 1, 1, 0, 0] hB hG fun K L hN hL => ?_)
 refine gs ?_
 refine gmd (C := fun v ⟨hgu, hB, hG, _⟩ => Hsum.out _ hG) ?_
 refine gs ?_
 refine gmw (C := fun v => frac_Of _ (by omega) (by omega) _) ?_
 refine gmd (C := fun v ⟨hgu, hB, hG, _⟩ => frac_Div _ _ _ (by omega) (HT.grow hG)) ?_
 refine gs ?_
 refine geC hL ?_
 clear hB hG hL L
 rintro u ⟨-, hB, hG, -⟩
 refine gtT ?_
 clear hN K
 refine st hB hF hG 0 0 [_, _, _, _, _] ?_
 clear hB hG
 intro u hB hG
 refine rt Tryz.results56 ?_
 exact ⟨rfl, hG⟩
end Go.Proofs.YtjmopgepnndckaaGreatDoor
namespace Go.Proofs.YtjmopgepnndckaaGreatDoor
open Go.RowKit
/-- these truth values lie from the address on -/
def Lb (u : World) (A : Option Addr) (l : List Bool) : Prop :=
 l ≠ [] → ∃ b off, A = some ⟨b, off, none⟩ ∧ b < u.heap.size ∧ ∀ i x, l[i]? = some x → u.cell? ⟨b, off + i, none⟩ = some (.bool x)
theorem Lb.nil (u : World) (A : Option Addr) : Lb u A [] := fun h => absurd rfl h
theorem Lb.grow {u u' : World} {A : Option Addr} {l : List Bool} (h : Lb u A l) (hg : Grow u u') : Lb u' A l := fun hn => by
 obtain ⟨b, off, e, hb, hc⟩ := h hn
 exact ⟨b, off, e, Nat.lt_of_lt_of_le hb hg.size, fun i x hi => (hg.cell (p := ⟨b, off + i, none⟩) hb).trans (hc i x hi)⟩
def gb (l : List Bool) (i : Nat) : Bool := (l[i]?).getD false
theorem gb_eq {l : List Bool} {i : Nat} (h : i < l.length) : l[i]? = some (gb l i) := by
 unfold gb; rw [List.getElem?_eq_getElem h]; rfl
theorem Lb.addr {u : World} {A : Option Addr} {l : List Bool} (h : Lb u A l) (hl : 0 < l.length) : ∃ b off, A = some ⟨b, off, none⟩ := by
 obtain ⟨b, off, e, _⟩ := h (fun h0 => by rw [h0] at hl; cases hl)
 exact ⟨b, off, e⟩
theorem Lb.read {u : World} {b off : Nat} {l : List Bool} (h : Lb u (some ⟨b, off, none⟩) l) {i : Nat} (hi : i < l.length) : u.cell? ⟨b, off + i, none⟩ = some (.bool (gb l i)) := by
 obtain ⟨b', off', e, _, hc⟩ := h (fun h0 => by rw [h0] at hi; cases hi)
 cases e
 exact hc i _ (gb_eq hi)
def OneLb (b2 : Nat) (A : Option Addr) (m c : Nat) (l : List Bool) (W : World) : Prop := Blk W b2 127 #[.slice A m c] ∧ Lb W A l
theorem OneLb.mk {b2 : Nat} {A : Option Addr} {m c : Nat} {l : List Bool} {u : World} (h1 : Blk u b2 127 #[.slice A m c]) (h2 : Lb u A l) : OneLb b2 A m c l u := ⟨h1, h2⟩
theorem OneLb.grow {b2 : Nat} {A : Option Addr} {m c : Nat} {l : List Bool} {u u' : World} (hg : Grow u u') (h : OneLb b2 A m c l u) : OneLb b2 A m c l u' := ⟨h.1.grow hg, h.2.grow hg⟩
/-- what one pair adds -/
def hv (is : List Bool) (l : List Rat) (i j : Nat) : Int := if gb is i && !gb is j then cmpQ (gq l i) (gq l j) + 1 else 0
def halves (is : List Bool) (l : List Rat) (m : Nat) : Int := sumTo (fun a => sumTo (hv is l a) m) m
abbrev zCells : Array Value := #[.bool false, .int .u64 0, .string ⟨#[]⟩, .int .u64 0, .string ⟨#[]⟩]
end Go.Proofs.YtjmopgepnndckaaGreatDoor
namespace Go.Proofs.YtjmopgepnndckaaGreatDoor
open Go.RowKit
abbrev Rq := Option Addr × Nat × List Rat
/-- slices of fractions that lie from the address on -/
def Lrq (u : World) (A : Option Addr) (rs : List Rq) : Prop :=
 rs ≠ [] → ∃ b off, A = some ⟨b, off, none⟩ ∧ b < u.heap.size ∧ ∀ i r, rs[i]? = some r → u.cell? ⟨b, off + i, none⟩ = some (.slice r.1 r.2.2.length r.2.1) ∧ Lq u r.1 r.2.2
theorem Lrq.grow {u u' : World} {A : Option Addr} {rs : List Rq} (h : Lrq u A rs) (hg : Grow u u') : Lrq u' A rs := fun hn => by
 obtain ⟨b, off, e, hb, hc⟩ := h hn
 exact ⟨b, off, e, Nat.lt_of_lt_of_le hb hg.size, fun i r hi => ⟨(hg.cell (p := ⟨b, off + i, none⟩) hb).trans (hc i r hi).1, (hc i r hi).2.grow hg⟩⟩
theorem Lrq.addr {u : World} {A : Option Addr} {rs : List Rq} (h : Lrq u A rs) (hl : 0 < rs.length) : ∃ b off, A = some ⟨b, off, none⟩ := by
 obtain ⟨b, off, e, _⟩ := h (fun h0 => by rw [h0] at hl; cases hl)
 exact ⟨b, off, e⟩
theorem Lrq.read {u : World} {b off : Nat} {rs : List Rq} (h : Lrq u (some ⟨b, off, none⟩) rs) {i : Nat} {r : Rq} (hi : rs[i]? = some r) : u.cell? ⟨b, off + i, none⟩ = some (.slice r.1 r.2.2.length r.2.1) ∧ Lq u r.1 r.2.2 := by
 obtain ⟨b', off', e, _, hc⟩ := h (fun h0 => by rw [h0] at hi; simp at hi)
 cases e
 exact hc i r hi
end Go.Proofs.YtjmopgepnndckaaGreatDoor
namespace Go.Proofs.YtjmopgepnndckaaGreatDoor
def cmpI (a b : Int) : Int := if a < b then -1 else if b < a then 1 else 0
/-- a hit: the row's number, how far it is -/
abbrev Ht := Nat × Rat
/-- two hits, by how far, then by their numbers -/
def cmpNr (a b : Nat) : Int := if a < b then -1 else if b < a then 1 else 0
def cmpH (a b : Ht) : Int := if cmpQ a.2 b.2 ≠ 0 then cmpQ a.2 b.2 else cmpNr a.1 b.1
def leH (a b : Ht) : Prop := a.2 < b.2 ∨ (a.2 = b.2 ∧ a.1 ≤ b.1)
theorem leH_trans {a b c : Ht} (h1 : leH a b) (h2 : leH b c) : leH a c := by
 unfold leH at *
 rcases h1 with h1 | ⟨h1, h3⟩ <;> rcases h2 with h2 | ⟨h2, h4⟩
 ·left; grind
 ·left; grind
 ·left; grind
 ·right; exact ⟨h1.trans h2, Nat.le_trans h3 h4⟩
theorem leH_total (a b : Ht) : leH a b ∨ leH b a := by
 unfold leH
 by_cases h1 : a.2 < b.2
 ·exact .inl (.inl h1)
 ·by_cases h2 : b.2 < a.2
  ·exact .inr (.inl h2)
  ·have e : a.2 = b.2 := by grind
   rcases Nat.le_total a.1 b.1 with h | h
   ·exact .inl (.inr ⟨e, h⟩)
   ·exact .inr (.inr ⟨e.symm, h⟩)
theorem leH_anti {a b : Ht} (h1 : leH a b) (h2 : leH b a) : a = b := by
 unfold leH at *
 rcases h1 with h1 | ⟨h1, h3⟩ <;> rcases h2 with h2 | ⟨h2, h4⟩
 ·exact absurd h1 (by grind)
 ·exact absurd h1 (by grind)
 ·exact absurd h2 (by grind)
 ·exact Prod.ext (Nat.le_antisymm h3 h4) h1
theorem hits_uniq {l l' : List Ht} (hp : l.Perm l') (h1 : l.Pairwise leH) (h2 : l'.Pairwise leH) : l = l' :=
 List.Perm.eq_of_pairwise (le := leH) (fun a b _ _ h1 h2 => leH_anti h1 h2) h1 h2 hp
/-- all rows' hits -/
def hitsTo (f : Nat → Rat) (n : Nat) : List Ht := (List.range n).map fun i => (i, f i)
theorem cmpH_lt (a b : Ht) : cmpH a b < 0 ↔ ¬ leH b a := by
 unfold cmpH cmpQ cmpNr leH
 by_cases h1 : a.2 < b.2
 ·have h2 : ¬ b.2 < a.2 := by grind
  have h3 : b.2 ≠ a.2 := by grind
  simp [h1, h2, h3]
 ·by_cases h2 : b.2 < a.2
  ·simp [h1, h2]
  ·have e : a.2 = b.2 := by grind
   simp [e, Rat.lt_irrefl]
   by_cases h4 : a.1 < b.1
   ·simp [h4]
   ·by_cases h5 : b.1 < a.1 <;> simp [h4, h5] <;> omega
instance (a b : Ht) : Decidable (leH a b) := by unfold leH; infer_instance
/-- hits in order -/
def srt (l : List Ht) : List Ht := l.mergeSort fun a b => decide (leH a b)
theorem srt_perm (l : List Ht) : (srt l).Perm l := List.mergeSort_perm l _
theorem srt_sorted (l : List Ht) : (srt l).Pairwise leH := by
 have h := List.pairwise_mergeSort (le := fun a b : Ht => decide (leH a b)) (fun a b c h1 h2 => decide_eq_true (leH_trans (of_decide_eq_true h1) (of_decide_eq_true h2))) (fun a b => by
  rcases leH_total a b with h | h <;> simp [h]) l
 exact h.imp fun h => of_decide_eq_true h
theorem srt_uniq {l l' : List Ht} (hp : l'.Perm l) (hs : l'.Pairwise leH) : l' = srt l := hits_uniq (hp.trans (srt_perm l).symm) hs (srt_sorted l)
/-- the k best -/
def best (k : Nat) (l : List Ht) : List Ht := (srt l).take k
theorem best_len (k : Nat) (l : List Ht) : (best k l).length = min k l.length := by
 unfold best
 rw [List.length_take, (srt_perm l).length_eq]
/-- a tree: nothing, or a row, the column that divides, what is below -/
inductive KT where
 | none : KT
 | node (row col : Nat) (l r : KT) : KT
def KT.size : KT → Nat
 | .none => 0
 | .node _ _ l r => l.size + r.size + 1
def KT.rows : KT → List Nat
 | .none => []
 | .node r _ a b => r :: (a.rows ++ b.rows)
def KT.deep : KT → Nat
 | .none => 0
 | .node _ _ .none .none => 0
 | .node _ _ .none b => b.deep + 1
 | .node _ _ a .none => a.deep + 1
 | .node _ _ a b => max (a.deep + 1) (b.deep + 1)
/-- rows' entries -/
def ent (X : List (List Rat)) (i c : Nat) : Rat := ((X[i]?).getD []).getD c 0
/-- each row stands on its side of each node above it -/
def KT.ok (X : List (List Rat)) : KT → Prop
 | .none => True
 | .node r c a b => a.ok X ∧ b.ok X ∧ (∀ i ∈ a.rows, ent X i c ≤ ent X r c) ∧ ∀ i ∈ b.rows, ent X r c ≤ ent X i c
/-- how far a row is -/
def farI (X : List (List Rat)) (q : List Rat) (w i : Nat) : Rat := qsum (fun c => qmul (qsub (ent X i c) (q.getD c 0)) (qsub (ent X i c) (q.getD c 0))) w
def hitI (X : List (List Rat)) (q : List Rat) (w i : Nat) : Ht := (i, farI X q w i)
def KT.hits (X : List (List Rat)) (q : List Rat) (w : Nat) (t : KT) : List Ht := t.rows.map (hitI X q w)
/-- two rows by a column, then by their numbers -/
def leC (X : List (List Rat)) (c : Nat) (a b : Nat) : Prop := ent X a c < ent X b c ∨ (ent X a c = ent X b c ∧ a ≤ b)
instance (X : List (List Rat)) (c a b : Nat) : Decidable (leC X c a b) := by unfold leC; infer_instance
/-- a tree's shape -/
inductive Sh where
 | no : Sh
 | nd (a b : Sh) : Sh
def Sh.size : Sh → Nat
 | .no => 0
 | .nd a b => a.size + b.size + 1
def Sh.deep : Sh → Nat
 | .no => 0
 | .nd .no .no => 0
 | .nd .no b => b.deep + 1
 | .nd a .no => a.deep + 1
 | .nd a b => max (a.deep + 1) (b.deep + 1)
/-- how far below a child's part ends -/
def Sh.under (s : Sh) (d : Nat) : Nat := if s.size = 0 then d else max d (s.deep + 1)
theorem nodup_range : ∀ (n : Nat) (l : List Nat), l.Nodup → (∀ x ∈ l, x < n) → l.length ≤ n ∧ (l.length = n → l.Perm (List.range n))
 | 0, [], _, _ => ⟨Nat.le_refl _, fun _ => List.Perm.refl _⟩
 | 0, x :: l, _, h => absurd (h x List.mem_cons_self) (Nat.not_lt_zero _)
 | n + 1, l, hd, h => by
  by_cases hm : n ∈ l
  ·have hp := List.perm_cons_erase hm
   have hl := hp.length_eq
   rw [List.length_cons] at hl
   obtain ⟨i1, i2⟩ := nodup_range n (l.erase n) (hd.erase n) fun x hx => by
    have := (hd.mem_erase_iff).1 hx
    have := h x this.2
    omega
   refine ⟨by omega, fun e => ?_⟩
   rw [List.range_succ]
   refine hp.trans (((i2 (by omega)).cons n).trans ?_)
   exact (List.perm_append_singleton n _).symm
  ·obtain ⟨i1, _⟩ := nodup_range n l hd fun x hx => by
    have := h x hx
    have : x ≠ n := fun e => hm (e ▸ hx)
    omega
   exact ⟨by omega, fun e => by omega⟩
end Go.Proofs.YtjmopgepnndckaaGreatDoor
namespace Go.Proofs.YtjmopgepnndckaaGreatDoor
/-- a hit's row has no label that may be -/
def badV (ls : List Int) (r : Int) : Bool := decide (r < 0) || decide ((ls.length : Int) ≤ r) || decide (gi ls r.toNat < 0) || decide (12 ≤ gi ls r.toNat)
/-- how many of the first hits have the label -/
def cntV (hs ls : List Int) : Nat → Nat → Nat
 | 0, _ => 0
 | j + 1, k => cntV hs ls j k + if gi ls (gi hs j).toNat = k then 1 else 0
theorem cntV_le (hs ls : List Int) (k : Nat) : ∀ j, cntV hs ls j k ≤ j
 | 0 => Nat.le_refl _
 | j + 1 => by
  have := cntV_le hs ls k j
  unfold cntV
  split <;> omega
/-- the counts, one by one -/
def cntL (hs ls : List Int) (j : Nat) : List Int := (List.range 12).map fun k => (cntV hs ls j k : Int)
theorem cntL_len (hs ls : List Int) (j : Nat) : (cntL hs ls j).length = 12 := by unfold cntL; simp
theorem cntL_zero (hs ls : List Int) : cntL hs ls 0 = List.replicate 12 0 := by rfl
theorem cntL_succ (hs ls : List Int) (j k : Nat) (h : gi ls (gi hs j).toNat = (k : Int)) (hk : k < 12) : (cntL hs ls j).set k ((cntV hs ls j k : Int) + 1) = cntL hs ls (j + 1) := by
 unfold cntL
 apply List.ext_getElem
 ·simp
 ·intro i h1 h2
  rw [List.getElem_set]
  simp only [List.getElem_map, List.getElem_range]
  by_cases e : k = i
  ·subst e
   rw [if_pos rfl]
   simp only [cntV, h, if_true]
   omega
  ·rw [if_neg e]
   have : ¬ (k : Int) = (i : Int) := by omega
   simp only [cntV, h, if_neg this]
   omega
/-- the first place of the greatest of the first n -/
def topV (c : Nat → Nat) : Nat → Nat
 | 0 => 0
 | n + 1 => if c (topV c n) < c n then n else topV c n
theorem topV_lt (c : Nat → Nat) : ∀ n, 0 < n → topV c n < n
 | 0, h => absurd h (by omega)
 | n + 1, _ => by
  unfold topV
  split
  ·omega
  ·rcases Nat.eq_zero_or_pos n with rfl | h
   ·show topV c 0 < 1
    unfold topV
    omega
   ·have := topV_lt c n h
    omega
theorem topV_one (c : Nat → Nat) : topV c 1 = 0 := by
 show (if c (topV c 0) < c 0 then 0 else topV c 0) = 0
 split <;> rfl
/-- the answer, an error -/
def voteV (hs ls : List Int) : Nat × Nat := if hs = [] then (0, 5) else if hs.any (badV ls) then (0, 1) else (topV (cntV hs ls hs.length) 12, 0)
theorem gi_mem {l : List Int} {j : Nat} (h : j < l.length) : gi l j ∈ l := by
 unfold gi
 rw [List.getElem?_eq_getElem h]
 exact List.getElem_mem h
theorem voteV_bad {hs ls : List Int} {j : Nat} (h : j < hs.length) (hb : badV ls (gi hs j) = true) : voteV hs ls = (0, 1) := by
 unfold voteV
 rw [if_neg (by intro e; rw [e] at h; simp at h), if_pos (List.any_eq_true.2 ⟨_, gi_mem h, hb⟩)]
theorem voteV_ok {hs ls : List Int} (h0 : hs ≠ []) (h : ∀ j, j < hs.length → badV ls (gi hs j) = false) : voteV hs ls = (topV (cntV hs ls hs.length) 12, 0) := by
 unfold voteV
 rw [if_neg h0, if_neg]
 intro hh
 obtain ⟨x, hx, hb⟩ := List.any_eq_true.1 hh
 obtain ⟨j, hj, rfl⟩ := List.getElem_of_mem hx
 have h1 := h j hj
 unfold gi at h1
 rw [List.getElem?_eq_getElem hj] at h1
 rw [show (some hs[j]).getD 0 = hs[j] from rfl, hb] at h1
 cases h1
/-- a hit's row has no value -/
def badM (n : Nat) (r : Int) : Bool := decide (r < 0) || decide ((n : Int) ≤ r)
/-- the hits' values -/
def valsM (hs : List Int) (vs : List Rat) (j : Nat) : List Rat := (List.range j).map fun i => gq vs (gi hs i).toNat
theorem valsM_len (hs : List Int) (vs : List Rat) (j : Nat) : (valsM hs vs j).length = j := by unfold valsM; simp
theorem valsM_succ (hs : List Int) (vs : List Rat) (j : Nat) : valsM hs vs (j + 1) = valsM hs vs j ++ [gq vs (gi hs j).toNat] := by unfold valsM; rw [List.range_succ, List.map_append]; rfl
def meanV (hs : List Int) (vs : List Rat) : Rat × Nat := if hs.any (badM vs.length) then (0, 1) else if hs = [] then (0, 5) else (qMean (valsM hs vs hs.length) hs.length, 0)
theorem meanV_nil (vs : List Rat) : meanV [] vs = (0, 5) := rfl
theorem meanV_bad {hs : List Int} {vs : List Rat} {j : Nat} (h : j < hs.length) (hb : badM vs.length (gi hs j) = true) : meanV hs vs = (0, 1) := by
 unfold meanV
 rw [if_pos (List.any_eq_true.2 ⟨_, gi_mem h, hb⟩)]
theorem meanV_ok {hs : List Int} {vs : List Rat} (h0 : hs ≠ []) (h : ∀ j, j < hs.length → badM vs.length (gi hs j) = false) : meanV hs vs = (qMean (valsM hs vs hs.length) hs.length, 0) := by
 unfold meanV
 rw [if_neg, if_neg h0]
 intro hh
 obtain ⟨x, hx, hb⟩ := List.any_eq_true.1 hh
 obtain ⟨j, hj, rfl⟩ := List.getElem_of_mem hx
 have h1 := h j hj
 unfold gi at h1
 rw [List.getElem?_eq_getElem hj] at h1
 rw [show (some hs[j]).getD 0 = hs[j] from rfl, hb] at h1
 cases h1
end Go.Proofs.YtjmopgepnndckaaGreatDoor
namespace Go.Proofs.YtjmopgepnndckaaGreatDoor
open Go.ChangeShapes Go.WideShapes Go.ChangeAt Go.RowKit
end Go.Proofs.YtjmopgepnndckaaGreatDoor
