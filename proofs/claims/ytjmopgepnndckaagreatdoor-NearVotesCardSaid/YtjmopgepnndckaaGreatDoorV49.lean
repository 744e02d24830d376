/-
  Contracts and laws: NearVM.
-/
import Derived.Test.YtjmopgepnndckaaGreatDoorV48
set_option linter.unusedSimpArgs false
set_option linter.unusedVariables false
namespace Go.Proofs.YtjmopgepnndckaaGreatDoor
open Go Go.RowKit
theorem info_Qv : (Tryz.prog.info? 49).map (fun i => (i.zero, i.size, i.bytes)) = some (some (.agg (qL 0).toArray), 5, 56) := by kernel_rfl
theorem cells_madeQ (n : Nat) : madeCells (Value.agg (qL 0).toArray).cells (n * 5) = ((List.replicate n (0 : Rat)).flatMap qL).toArray := by
 unfold madeCells
 refine Array.ext (by simp [flatq_len, show (qL 0).length = 5 from rfl]) fun i h1 h2 => ?_
 have h1' : i < n * 5 := by simpa using h1
 have hg := flatq_at (List.replicate n (0 : Rat)) (i := i / 5) (q := 0) (by rw [List.getElem?_replicate, if_pos (by omega)]) (j := i % 5) (by omega)
 rw [show i / 5 * 5 + i % 5 = i by omega] at hg
 have h3 : ((List.replicate n (0 : Rat)).flatMap qL)[i]? = some ((List.replicate n (0 : Rat)).flatMap qL)[i] := List.getElem?_eq_getElem _
 rw [h3] at hg
 have h4 : (qL 0)[i % 5]? = some ((qL 0)[i % 5]'(by show i % 5 < 5; omega)) := List.getElem?_eq_getElem _
 rw [h4] at hg
 injection hg with hg
 simp only [List.getElem_toArray, Value.cells, Array.getElem_ofFn]
 rw [hg]
 simp [show (qL 0).length = 5 from rfl]
 rw [h4]
 rfl
theorem make_Q (n : Nat) (hn : n ≤ 1048576) (x : Int) (hx : x = n) (W : World) : (Instr.makeSlice 35 (.int .i64 x) (.int .i64 x)).run Tryz.prog W =
  .ok (.slice (some ⟨W.heap.size, 0, none⟩) n n) (W.alloc (.cells ((List.replicate n (0 : Rat)).flatMap qL).toArray 49)) := by
 obtain ⟨i0, hi0, hz0, hz1, hz2⟩ := info_parts info_Qv
 have hr := run_make (P := Tryz.prog) W 35 49 i0 (.agg (qL 0).toArray) Tryz.underlying35 hi0 hz0 .i64 .i64 n n (by omega) (by omega) (by rw [hz2]; omega) (by omega)
 rw [hx]
 rw [hr, hz1]
 simp only [Int.toNat_natCast]
 rw [cells_madeQ]
theorem own_made_Q {u v : World} {B n : Nat} (hB : B ≤ u.heap.size) (hn : n ≤ 1048576) (hv : u.alloc (.cells ((List.replicate n (0 : Rat)).flatMap qL).toArray 49) = v) : v.ownsRow B 49 5 (.slice (some ⟨u.heap.size, 0, none⟩) n n) n ((List.replicate n (0 : Rat)).flatMap qL) := by
 subst hv
 have h := World.ownsRow_lit (base := B) (e := 49) (size := 5) u ((List.replicate n (0 : Rat)).flatMap qL).toArray n hB (by unfold maxLen; omega) (by simp [flatq_len, show (qL 0).length = 5 from rfl])
 simpa using h
/-- the values of the first hits, the others nothing -/
def valsF (hs : List Int) (vs : List Rat) (n i : Nat) : List Rat := (List.range n).map fun t => if t < i then gq vs (gi hs t).toNat else 0
theorem valsF_len (hs : List Int) (vs : List Rat) (n i : Nat) : (valsF hs vs n i).length = n := by unfold valsF; simp
theorem valsF_start (hs : List Int) (vs : List Rat) (n : Nat) : valsF hs vs n 0 = List.replicate n 0 := by
 unfold valsF
 apply List.ext_getElem
 ·simp
 ·intro i h1 h2; simp
theorem valsF_end (hs : List Int) (vs : List Rat) (n : Nat) : valsF hs vs n n = valsM hs vs n := by
 unfold valsF valsM
 refine List.map_congr_left fun j hj => ?_
 rw [if_pos (List.mem_range.1 hj)]
theorem valsF_set {hs : List Int} {vs : List Rat} {n i : Nat} (h : i < n) : (valsF hs vs n i).set i (gq vs (gi hs i).toNat) = valsF hs vs n (i + 1) := by
 unfold valsF
 apply List.ext_getElem
 ·simp
 ·intro j h1 h2
  rw [List.getElem_set]
  simp only [List.getElem_map, List.getElem_range]
  by_cases e : i = j
  ·subst e; simp
  ·rw [if_neg e]
   by_cases hj : j < i
   ·rw [if_pos hj, if_pos (by omega)]
   ·rw [if_neg hj, if_neg (by omega)]
theorem badM_cases (m : Nat) (R : Int) : (R < 0 ∧ badM m R = true) ∨ (∃ r : Nat, R = r ∧ m ≤ r ∧ badM m R = true) ∨ ∃ r : Nat, R = r ∧ r < m ∧ badM m R = false := by
 by_cases h1 : R < 0
 ·exact .inl ⟨h1, by unfold badM; simp [h1]⟩
 ·obtain ⟨r, rfl⟩ : ∃ r : Nat, R = r := ⟨R.toNat, by omega⟩
  by_cases h2 : m ≤ r
  ·exact .inr (.inl ⟨r, rfl, h2, by unfold badM; simp [h2]⟩)
  ·refine .inr (.inr ⟨r, rfl, by omega, ?_⟩)
   unfold badM
   simp only [Bool.or_eq_false_iff, decide_eq_false_iff_not]
   omega
theorem valsM_sz {hs : List Int} {vs : List Rat} {n : Nat} (h : ∀ x ∈ vs, qs x ≤ 50) : ∀ x ∈ valsM hs vs n, qs x ≤ 50 := fun x hx => by
 unfold valsM at hx
 obtain ⟨i, -, rfl⟩ := List.mem_map.1 hx
 unfold gq
 cases hg : vs[(gi hs i).toNat]? with
 | none => show qs 0 ≤ 50; rw [qs_zero]; omega
 | some q => exact h q (List.mem_of_getElem? hg)
set_option maxHeartbeats 1000000 in
theorem near_Mean_none (A B : Option Addr) (m c d : Nat) (w : World) : Calls Tryz.prog 24 #[.slice A 0 c, .slice B m d] w fun e w' => e = .returned (.tuple #[qV 0, .int .i64 5]) ∧ Grow w w' := by
 go_enter Tryz.func24, Tryz.ntmps24
 refine en1 ?_
 intro u hG b4 hB hF
 refine wp_seq ?_
 refine r0T ?_
 refine wp_cond_true (rfl) ?_
 refine r0T ?_
 refine st hB hF hG 0 0 [_, _, _, _, _] ?_
 clear hB hG
 intro u hB hG
 refine rt Tryz.results24 ?_
 exact ⟨rfl, hG⟩
set_option maxHeartbeats 8000000 in
set_option maxRecDepth 100000 in
theorem near_Mean_some (A B : Option Addr) (hs : List Int) (vs : List Rat) (n m c d : Nat) (hn : n = hs.length) (hn0 : 0 < n) (hm : m = vs.length) (hnm : n ≤ 1000) (hz : ∀ x ∈ vs, qs x ≤ 50) (w : World) (h : Le hvL 6 w A hs) (h' : Lq w B vs) (HT : Tab w) :
  Calls Tryz.prog 24 #[.slice A n c, .slice B m d] w fun e w' => e = .returned (.tuple #[qV (meanV hs vs).1, .int .i64 ((meanV hs vs).2 : Nat)]) ∧ Grow w w' := by
 have hBB : 100000 ≤ BIG := by unfold BIG; omega
 have hMe := fun (W : World) (A' : Option Addr) (c' : Nat) (hX : Lq W A' (valsM hs vs n)) (hT : Tab W) => frac_Mean A' (valsM hs vs n) c' n (valsM_len hs vs n).symm hn0 (by omega) 50 (valsM_sz hz) (by omega) W hX hT
 have hmk := make_Q n (by omega) (n : Int) rfl
 have H := Lib.hid h
 have H' := Lib.hid h'
 have Hn := Lib.hid hn
 have Hm := Lib.hid hm
 have HMe := Lib.hid hMe
 have Hmk := Lib.hid hmk
 have fn : ((n : Int) == 0) = false := by simp; omega
 have fnd : decide (n = 0) = false := by simp; omega
 clear h h' hn hm hMe hmk hz
 go_enter Tryz.func24, Tryz.ntmps24
 refine en1 ?_
 intro u hG b4 hB hF
 refine wp_seq ?_
 refine r0T ?_
 refine wp_cond_false (rfl) ?_
 refine wp_skip ?_
 refine then_norm ?_
 refine wp_seq ?_
 have hmk := Hmk.out
 refine wp_r0 ?_
 intro K hN
 go_wp2_with fail
 generalize hv : World.alloc u _ = v
 have hrow := own_made_Q hG.sz (by omega) hv
 have hgv : Grow u v := hv ▸ Grow.alloc u _
 have hG2 := hG.trans hgv
 have hB2 := hB.grow hgv
 have hg4 : u.heap.size ≠ b4 := Nat.ne_of_gt hB.head.lt
 clear hv hG hB hmk hgv
 rw [← valsF_start hs vs n] at hrow
 generalize u.heap.size = g at hrow hg4 ⊢
 have Ho := Lib.hid hrow
 have hG := hG2
 have hB := hB2
 clear hrow hG2 hB2
 obtain ⟨u, rfl⟩ : ∃ x, x = v := ⟨_, rfl⟩
 refine NoK.norm (hN _ _ ?_)
 clear hN K
 refine then_norm ?_
 refine wp_seq ?_
 refine r0T ?_
 refine wp_block ?_
 go_loopw [20] (fun s0 wr => ∃ j : Nat, j ≤ n ∧ s0 = .int .i64 j ∧ (∀ i, i < j → badM m (gi hs i) = false) ∧ wr.ownsRow w.heap.size 49 5 (.slice (some ⟨g, 0, none⟩) n n) n ((valsF hs vs n j).flatMap qL) ∧ Bx wr [(b4, 49, zCells)] ∧ Grow w wr) (fun s0 _ => n - (intOf s0).toNat)
 case atStart => exact ⟨0, Nat.zero_le _, rfl, (fun i hi => absurd hi (by omega)), Ho.out, hB, hG⟩
 case round =>
  clear hB hG Ho
  obtain ⟨j, hj, rfl, hbad, ho, hB, hG⟩ := hrel
  obtain ⟨u, rfl⟩ : ∃ x, x = wr := ⟨_, rfl⟩
  have Ho := Lib.hid ho
  clear ho
  rcases Nat.lt_or_ge j n with hlt | hge
  ·have hdec : decide ((j : Int) < (n : Int)) = true := by simp; omega
   have hji : (j : Int) < (n : Int) := by omega
   have hjl : j < hs.length := by rw [← Hn.out]; exact hlt
   obtain ⟨ba, oa, rfl, hrd⟩ := H.out.at hjl
   rw [← gi_get hjl] at hrd
   have hv1 := fun hb => meanV_bad (vs := vs) hjl hb
   have hb0 := fun (hb : badM m (gi hs j) = false) (i : Nat) (hi : i < j + 1) => (if e : i = j then by rw [e]; exact hb else hbad i (by omega) : badM m (gi hs i) = false)
   have hst := valsF_set (hs := hs) (vs := vs) hlt
   rw [← Hm.out] at hv1
   obtain ⟨R, hR⟩ : ∃ R, R = gi hs j := ⟨_, rfl⟩
   rw [← hR] at hrd hv1 hb0 hst
   have Hrd := Lib.hid hrd
   clear hrd hbad hR
   rcases badM_cases m R with ⟨e1, e2⟩ | ⟨r, rfl, e1, e2⟩ | ⟨r, rfl, e1, e2⟩
   ·have d1 : decide (R < 0) = true := decide_eq_true e1
    rw [hv1 e2]
    clear hv1 hb0 hst e1 e2
    refine r0T ?_
    refine wp_seq ?_
    refine wp_cond_true (rfl) ?_
    refine wp_skip ?_
    refine then_norm ?_
    refine wp_seq ?_
    refine wp_block ?_
    refine wp_seq (rsC allocsV [0, 0, 0, 2, 0] hB hG fun K L hN hL => ?_)
    repeat first | refine gya ?_ | refine gyr ?_ | refine gna ?_ | refine gyb (by (rintro v ⟨hgu, hB, hG, -⟩ N hN; have r := hB.r; simp only [BxR] at r; have q0 := Hrd.out v hG 0 _ rfl; have q1 := Hrd.out v hG 1 _ rfl; have q2 := Hrd.out v hG 2 _ rfl; have q3 := Hrd.out v hG 3 _ rfl; have q4 := Hrd.out v hG 4 _ rfl; have q5 := Hrd.out v hG 5 _ rfl; simp only [Nat.add_zero] at q0; go_simp; exact hN)) ?_
    refine gaa (newObj_Hit _ _ _ _ _) fun b8 hb8 hn8 => ?_
    refine gs ?_
    replace hF := hF.n1 [] hB hG hb8 hn8
    refine geC hL ?_
    clear hB hG hL L
    rintro u ⟨⟨hgu, hB, hG, -⟩, h8⟩
    replace hB := hB.cons' h8
    clear h8
    have g8 : g ≠ b8 := by
     have := (Ho.out.lt g rfl).2
     omega
    have Ho2 := Lib.hid (own_grow' Ho.out hgu)
    clear Ho
    have Ho := Ho2
    clear Ho2
    clear hb8 hn8
    clear hgu
    refine gtT ?_
    clear hN K
    refine sv hB hF hG 0 0 [_, _, _, _, _, _] ?_
    intro u hu hBG
    have Ho2 := Lib.hid (own_over Ho.out (fun e => g8 (Option.some.inj e)) hu)
    clear Ho
    have Ho := Ho2
    clear Ho2
    clear hB hG hu
    obtain ⟨hB, hG⟩ := hBG
    refine wp_seq ?_
    refine wp_seq ?_
    have q0 := Hrd.out u hG 0 _ rfl; have q1 := Hrd.out u hG 1 _ rfl; have q2 := Hrd.out u hG 2 _ rfl; have q3 := Hrd.out u hG 3 _ rfl; have q4 := Hrd.out u hG 4 _ rfl; have q5 := Hrd.out u hG 5 _ rfl; simp only [Nat.add_zero] at q0
    refine r0N ?_
    refine wp_cond_true (rfl) ?_
    refine wp_seq ?_
    have q0 := Hrd.out u hG 0 _ rfl; have q1 := Hrd.out u hG 1 _ rfl; have q2 := Hrd.out u hG 2 _ rfl; have q3 := Hrd.out u hG 3 _ rfl; have q4 := Hrd.out u hG 4 _ rfl; have q5 := Hrd.out u hG 5 _ rfl; simp only [Nat.add_zero] at q0
    refine r0N ?_
    refine st hB hF hG 1 0 [_, _, _, _, _] ?_
    clear hB hG
    intro u hB hG
    refine rt Tryz.results24 ?_
    exact ⟨rfl, hG⟩
   ·have d2 : decide ((m : Int) ≤ (r : Int)) = true := by simp; omega
    have d3 : decide (m ≤ r) = true := by simp; omega
    rw [hv1 e2]
    clear hv1 hb0 hst e2
    refine r0T ?_
    refine wp_seq ?_
    refine wp_cond_true (rfl) ?_
    refine wp_skip ?_
    refine then_norm ?_
    refine wp_seq ?_
    refine wp_block ?_
    refine wp_seq (rsC allocsV [0, 0, 0, 2, 0] hB hG fun K L hN hL => ?_)
    repeat first | refine gya ?_ | refine gyr ?_ | refine gna ?_ | refine gyb (by (rintro v ⟨hgu, hB, hG, -⟩ N hN; have r := hB.r; simp only [BxR] at r; have q0 := Hrd.out v hG 0 _ rfl; have q1 := Hrd.out v hG 1 _ rfl; have q2 := Hrd.out v hG 2 _ rfl; have q3 := Hrd.out v hG 3 _ rfl; have q4 := Hrd.out v hG 4 _ rfl; have q5 := Hrd.out v hG 5 _ rfl; simp only [Nat.add_zero] at q0; go_simp; exact hN)) ?_
    refine gaa (newObj_Hit _ _ _ _ _) fun b8 hb8 hn8 => ?_
    refine gs ?_
    replace hF := hF.n1 [] hB hG hb8 hn8
    refine geC hL ?_
    clear hB hG hL L
    rintro u ⟨⟨hgu, hB, hG, -⟩, h8⟩
    replace hB := hB.cons' h8
    clear h8
    have g8 : g ≠ b8 := by
     have := (Ho.out.lt g rfl).2
     omega
    have Ho2 := Lib.hid (own_grow' Ho.out hgu)
    clear Ho
    have Ho := Ho2
    clear Ho2
    clear hb8 hn8
    clear hgu
    refine gtT ?_
    clear hN K
    refine sv hB hF hG 0 0 [_, _, _, _, _, _] ?_
    intro u hu hBG
    have Ho2 := Lib.hid (own_over Ho.out (fun e => g8 (Option.some.inj e)) hu)
    clear Ho
    have Ho := Ho2
    clear Ho2
    clear hB hG hu
    obtain ⟨hB, hG⟩ := hBG
    refine wp_seq ?_
    refine wp_seq ?_
    have q0 := Hrd.out u hG 0 _ rfl; have q1 := Hrd.out u hG 1 _ rfl; have q2 := Hrd.out u hG 2 _ rfl; have q3 := Hrd.out u hG 3 _ rfl; have q4 := Hrd.out u hG 4 _ rfl; have q5 := Hrd.out u hG 5 _ rfl; simp only [Nat.add_zero] at q0
    refine r0N ?_
    refine wp_cond_true (rfl) ?_
    refine wp_seq ?_
    have q0 := Hrd.out u hG 0 _ rfl; have q1 := Hrd.out u hG 1 _ rfl; have q2 := Hrd.out u hG 2 _ rfl; have q3 := Hrd.out u hG 3 _ rfl; have q4 := Hrd.out u hG 4 _ rfl; have q5 := Hrd.out u hG 5 _ rfl; simp only [Nat.add_zero] at q0
    refine r0N ?_
    refine st hB hF hG 1 0 [_, _, _, _, _] ?_
    clear hB hG
    intro u hB hG
    refine rt Tryz.results24 ?_
    exact ⟨rfl, hG⟩
   ·have hrl : r < vs.length := by rw [← Hm.out]; exact e1
    obtain ⟨bb, ob, rfl⟩ := H'.out.addr (by omega)
    have hlb : ∀ W, Grow w W → Cq W bb (ob + r * 5) (gq vs r) := fun W hg => (H'.out.grow hg).read hrl
    have d2 : decide ((m : Int) ≤ (r : Int)) = false := by simp; omega
    have d3 : decide (m ≤ r) = false := by simp; omega
    have hri : (r : Int) < (m : Int) := by omega
    simp only [Int.toNat_natCast] at hst
    obtain ⟨X, hX⟩ : ∃ X, X = gq vs r := ⟨_, rfl⟩
    rw [← hX] at hst
    simp only [← hX] at hlb
    have Hlb := Lib.hid hlb
    have Hst := Lib.hid hst
    have Hb0 := Lib.hid (hb0 e2)
    clear hv1 hb0 e2 hlb hst hX hrl
    refine r0T ?_
    refine wp_seq ?_
    refine wp_cond_true (rfl) ?_
    refine wp_skip ?_
    refine then_norm ?_
    refine wp_seq ?_
    refine wp_block ?_
    refine wp_seq (rsC allocsV [0, 0, 0, 2, 0] hB hG fun K L hN hL => ?_)
    repeat first | refine gya ?_ | refine gyr ?_ | refine gna ?_ | refine gyb (by (rintro v ⟨hgu, hB, hG, -⟩ N hN; have r := hB.r; simp only [BxR] at r; have q0 := Hrd.out v hG 0 _ rfl; have q1 := Hrd.out v hG 1 _ rfl; have q2 := Hrd.out v hG 2 _ rfl; have q3 := Hrd.out v hG 3 _ rfl; have q4 := Hrd.out v hG 4 _ rfl; have q5 := Hrd.out v hG 5 _ rfl; simp only [Nat.add_zero] at q0; go_simp; exact hN)) ?_
    refine gaa (newObj_Hit _ _ _ _ _) fun b8 hb8 hn8 => ?_
    refine gs ?_
    replace hF := hF.n1 [] hB hG hb8 hn8
    refine geC hL ?_
    clear hB hG hL L
    rintro u ⟨⟨hgu, hB, hG, -⟩, h8⟩
    replace hB := hB.cons' h8
    clear h8
    have g8 : g ≠ b8 := by
     have := (Ho.out.lt g rfl).2
     omega
    have Ho2 := Lib.hid (own_grow' Ho.out hgu)
    clear Ho
    have Ho := Ho2
    clear Ho2
    clear hb8 hn8
    clear hgu
    refine gtT ?_
    clear hN K
    refine sv hB hF hG 0 0 [_, _, _, _, _, _] ?_
    intro u hu hBG
    have Ho2 := Lib.hid (own_over Ho.out (fun e => g8 (Option.some.inj e)) hu)
    clear Ho
    have Ho := Ho2
    clear Ho2
    clear hB hG hu
    obtain ⟨hB, hG⟩ := hBG
    refine wp_seq ?_
    refine wp_seq ?_
    have q0 := Hrd.out u hG 0 _ rfl; have q1 := Hrd.out u hG 1 _ rfl; have q2 := Hrd.out u hG 2 _ rfl; have q3 := Hrd.out u hG 3 _ rfl; have q4 := Hrd.out u hG 4 _ rfl; have q5 := Hrd.out u hG 5 _ rfl; simp only [Nat.add_zero] at q0; obtain ⟨y1, y2, y3, y4, y5⟩ := Hlb.out u hG
    refine r0N ?_
    refine wp_cond_false (rfl) ?_
    refine wp_skip ?_
    refine then_norm ?_
    obtain ⟨z0, z1, z2, z3, z4, o0, o1, o2, o3, o4, hfz⟩ := own_spot5 (enc := qL) (fun _ => rfl) Ho.out (valsF_len hs vs n j).symm j (by rw [valsF_len]; exact hlt)
    have q0 := Hrd.out u hG 0 _ rfl; have q1 := Hrd.out u hG 1 _ rfl; have q2 := Hrd.out u hG 2 _ rfl; have q3 := Hrd.out u hG 3 _ rfl; have q4 := Hrd.out u hG 4 _ rfl; have q5 := Hrd.out u hG 5 _ rfl; simp only [Nat.add_zero] at q0; obtain ⟨y1, y2, y3, y4, y5⟩ := Hlb.out u hG
    refine r0E ?_
    clear o0 o1 o2 o3 o4 hfz
    generalize hu0 : World.setCell (World.setCell (World.setCell (World.setCell (World.setCell u _ _) _ _) _ _) _ _) _ _ = u0
    have hu1 : putAll u g (j * 5) (qL X) = u0 := hu0
    have hP := own_put (enc := qL) (size := 5) (ps := valsF hs vs n j) (fun _ => rfl) Ho.out j X (by rw [valsF_len]; exact hlt)
    rw [Hst.out, hu1] at hP
    have hG2 := own_kgrow' Ho.out hG hP.2
    have hB2 := hB.tail.grown_ hP.2 (fun e he hxe => by
     have e1 : e = _ := List.mem_singleton.1 he
     subst e1
     exact hg4 (Option.some.inj hxe).symm)
    have Ho2 := Lib.hid hP.1
    clear hG hB Ho hP hu1 hu0
    have hG := hG2
    have hB := hB2
    have Ho := Ho2
    clear hG2 hB2 Ho2
    obtain ⟨u, rfl⟩ : ∃ x, x = u0 := ⟨_, rfl⟩
    refine blk_norm ?_
    refine then_norm ?_
    refine r0E ?_
    refine then_norm ?_
    go_roundw
    case rel => exact ⟨j + 1, by omega, by go_num, Hb0.out, Ho.out, hB, hG⟩
    case measure => simp [intOf]; omega
  ·obtain rfl : n = j := by omega
   have hdec : decide ((n : Int) < (n : Int)) = false := by simp
   have hne : hs ≠ [] := fun e => by
    have := Hn.out
    rw [e] at this
    simp at this
    omega
   have hv : meanV hs vs = (qMean (valsM hs vs n) n, 0) := by
    have h1 := meanV_ok (vs := vs) hne (by rw [← Hn.out, ← Hm.out]; exact hbad)
    rw [h1, ← Hn.out]
   rw [hv]
   have ho := Ho.out
   rw [valsF_end] at ho
   obtain ⟨A9, c9, e9, -, -, hL, -⟩ := own_lq ho
   cases e9
   have HL := Lib.hid hL
   clear hv hne hbad ho hL Ho
   refine r0T ?_
   refine wp_seq ?_
   refine wp_cond_false (rfl) ?_
   refine wp_exit ?_
   refine then_exit ?_
   refine then_exit ?_
   refine blk_exit ?_
   refine then_norm ?_
   refine wp_seq (rsC allocsV [0, 1, 0, 0, 0, 2] hB hG fun K L hN hL => ?_)
   refine gs ?_
   refine gmd (C := fun v ⟨hgu, hB, hG, _⟩ => HMe.out _ _ _ (HL.out.grow hgu) (HT.grow hG)) ?_
   refine gs ?_
   refine gaa (newObj_Q _ _ _ _ _) fun b9 hb9 hn9 => ?_
   replace hF := hF.n1 [] hB hG hb9 hn9
   refine geC hL ?_
   clear hB hG hL L
   rintro u ⟨⟨-, hB, hG, -⟩, h9⟩
   replace hB := hB.cons' h9
   clear h9
   clear hb9 hn9
   refine gtT ?_
   clear hN K
   refine st hB hF hG 0 0 [_, _, _, _, _] ?_
   clear hB hG
   intro u hB hG
   refine r0T ?_
   refine st hB hF hG 1 0 [_, _, _, _, _] ?_
   clear hB hG
   intro u hB hG
   refine rt Tryz.results24 ?_
   exact ⟨rfl, hG⟩
theorem near_Mean (A B : Option Addr) (hs : List Int) (vs : List Rat) (n m c d : Nat) (hn : n = hs.length) (hm : m = vs.length) (hnm : n ≤ 1000) (hz : ∀ x ∈ vs, qs x ≤ 50) (w : World) (h : Le hvL 6 w A hs) (h' : Lq w B vs) (HT : Tab w) :
  Calls Tryz.prog 24 #[.slice A n c, .slice B m d] w fun e w' => e = .returned (.tuple #[qV (meanV hs vs).1, .int .i64 ((meanV hs vs).2 : Nat)]) ∧ Grow w w' := by
 rcases Nat.eq_zero_or_pos n with h0 | h0
 ·obtain rfl : hs = [] := List.eq_nil_of_length_eq_zero (by omega)
  subst h0
  exact near_Mean_none A B m c d w
 ·exact near_Mean_some A B hs vs n m c d hn h0 hm hnm hz w h h' HT
set_option maxHeartbeats 8000000 in
set_option maxRecDepth 100000 in
theorem ref22_MeanOf (A B : Option Addr) (hs : List Int) (vs : List Rat) (n m c d : Nat) (hn : n = hs.length) (hm : m = vs.length) (hnm : n ≤ 1000) (hz : ∀ x ∈ vs, qs x ≤ 50) (w : World) (h : Le hwL 4 w A hs) (h' : Lz w B vs) :
  Calls Tryz.prog 25 #[.slice A n c, .slice B m d] w (RetY (fun p : Az => .tuple #[rzV p (meanV hs vs).1, .int .i64 ((meanV hs vs).2 : Nat)]) (fun p W => Rz W p (meanV hs vs).1) w) := by
 have hBB : 100000 ≤ BIG := by unfold BIG; omega
 have hMe := fun (hn0 : 0 < n) (W : World) (A' : Option Addr) (c' : Nat) (hX : Lz W A' (valsM hs vs n)) => ref1_Mean A' (valsM hs vs n) c' n (valsM_len hs vs n).symm hn0 (by omega) 50 (valsM_sz hz) (by omega) W hX
 have H := Lib.hid h
 have H' := Lib.hid h'
 have Hn := Lib.hid hn
 have Hm := Lib.hid hm
 have HMe := Lib.hid hMe
 clear h h' hn hm hMe hz
 go_enter Tryz.func25, Tryz.ntmps25
 refine en1 ?_
 intro u hG b4 hB hF
 refine r0T ?_
 refine wp_seq ?_
 refine r0T ?_
 refine wp_block ?_
 go_loopw [7, 6] (fun s0 s1 wr => ∃ (j : Nat) (ps : List Zr), j ≤ n ∧ s0 = .int .i64 j ∧ (∀ i, i < j → badM m (gi hs i) = false) ∧ ps.map (·.2) = valsM hs vs j ∧ AllZ wr ps ∧ wr.ownsRow w.heap.size 57 3 s1 j (ps.flatMap zrL) ∧ s1.ownBlock ≠ some b4 ∧ Bx wr [(b4, 57, zNone)] ∧ Grow w wr) (fun s0 _ _ => n - (intOf s0).toNat)
 case atStart => exact ⟨0, [], Nat.zero_le _, rfl, (fun i hi => absurd hi (by omega)), rfl, AllZ.nil _, World.ownsRow_nil _ _ _ _, (fun e => by cases e), hB, hG⟩
 case round =>
  clear hB hG
  obtain ⟨j, ps, hj, rfl, hbad, hps, hA, ho, hnb, hB, hG⟩ := hrel
  obtain ⟨u, rfl⟩ : ∃ x, x = wr := ⟨_, rfl⟩
  have Ho := Lib.hid ho
  clear ho
  rcases Nat.lt_or_ge j n with hlt | hge
  ·have hdec : decide ((j : Int) < (n : Int)) = true := by simp; omega
   have hji : (j : Int) < (n : Int) := by omega
   have hjl : j < hs.length := by rw [← Hn.out]; exact hlt
   obtain ⟨ba, oa, rfl, hrd⟩ := H.out.at hjl
   rw [← gi_get hjl] at hrd
   have hv1 := fun hb => meanV_bad (vs := vs) hjl hb
   have hb0 := fun (hb : badM m (gi hs j) = false) (i : Nat) (hi : i < j + 1) => (if e : i = j then by rw [e]; exact hb else hbad i (by omega) : badM m (gi hs i) = false)
   have hst := valsM_succ hs vs j
   rw [← hps] at hst
   rw [← Hm.out] at hv1
   obtain ⟨R, hR⟩ : ∃ R, R = gi hs j := ⟨_, rfl⟩
   rw [← hR] at hrd hv1 hb0 hst
   have Hrd := Lib.hid fun W hg => hrd W hg 0 _ rfl
   simp only [Nat.add_zero] at Hrd
   clear hrd hbad hR hps
   rcases badM_cases m R with ⟨e1, e2⟩ | ⟨r, rfl, e1, e2⟩ | ⟨r, rfl, e1, e2⟩
   ·have d1 : decide (R < 0) = true := decide_eq_true e1
    rw [hv1 e2]
    clear hv1 hb0 hst e1 e2 hA Ho
    refine wp_seq ?_
    refine r0T ?_
    refine wp_cond_true (rfl) ?_
    refine wp_skip ?_
    refine then_norm ?_
    refine wp_seq ?_
    refine wp_block ?_
    refine wp_seq ?_
    refine wp_seq ?_
    have q0 := Hrd.out u hG
    refine r0N ?_
    refine wp_cond_true (rfl) ?_
    refine wp_seq (rsC allocsV [1] hB hG fun K L hN hL => ?_)
    refine grd (ratR (qint 0)) (fun (x30 : Ax × Ax) => ?_) (C := fun v _ => ref1_Of 0 (by omega) (by omega) _)
    refine geC hL ?_
    clear hB hG hL L
    rintro u ⟨⟨-, hB, hG, -⟩, hx30⟩
    obtain ⟨hx30a, hx30b⟩ : Rn u x30.1 _ ∧ Rn u x30.2 _ := hx30
    refine gtT ?_
    clear hN K
    refine sv hB hF hG 0 0 [_, _, _] ?_
    intro u hu hBG
    replace hx30a := hx30a.put hB 0 rfl (by first | decide | simp) _ _ hu
    replace hx30b := hx30b.put hB 0 rfl (by first | decide | simp) _ _ hu
    clear hB hG hu
    obtain ⟨hB, hG⟩ := hBG
    refine rt Tryz.results25 ?_
    exact ⟨x30, rfl, ⟨hx30a, hx30b⟩, hG⟩
   ·have d2 : decide ((m : Int) ≤ (r : Int)) = true := by simp; omega
    have d3 : decide (m ≤ r) = true := by simp; omega
    rw [hv1 e2]
    clear hv1 hb0 hst e2 hA Ho
    refine wp_seq ?_
    refine r0T ?_
    refine wp_cond_true (rfl) ?_
    refine wp_skip ?_
    refine then_norm ?_
    refine wp_seq ?_
    refine wp_block ?_
    refine wp_seq ?_
    refine wp_seq ?_
    have q0 := Hrd.out u hG
    refine r0N ?_
    refine wp_cond_true (rfl) ?_
    refine wp_seq (rsC allocsV [1] hB hG fun K L hN hL => ?_)
    refine grd (ratR (qint 0)) (fun (x30 : Ax × Ax) => ?_) (C := fun v _ => ref1_Of 0 (by omega) (by omega) _)
    refine geC hL ?_
    clear hB hG hL L
    rintro u ⟨⟨-, hB, hG, -⟩, hx30⟩
    obtain ⟨hx30a, hx30b⟩ : Rn u x30.1 _ ∧ Rn u x30.2 _ := hx30
    refine gtT ?_
    clear hN K
    refine sv hB hF hG 0 0 [_, _, _] ?_
    intro u hu hBG
    replace hx30a := hx30a.put hB 0 rfl (by first | decide | simp) _ _ hu
    replace hx30b := hx30b.put hB 0 rfl (by first | decide | simp) _ _ hu
    clear hB hG hu
    obtain ⟨hB, hG⟩ := hBG
    refine rt Tryz.results25 ?_
    exact ⟨x30, rfl, ⟨hx30a, hx30b⟩, hG⟩
   ·have hrl : r < vs.length := by rw [← Hm.out]; exact e1
    obtain ⟨bb, ob, rfl⟩ := H'.out.addr (by omega)
    obtain ⟨pz, hlb⟩ := H'.out.read hrl
    have d2 : decide ((m : Int) ≤ (r : Int)) = false := by simp; omega
    have d3 : decide (m ≤ r) = false := by simp; omega
    have hri : (r : Int) < (m : Int) := by omega
    simp only [Int.toNat_natCast] at hst
    obtain ⟨X, hX⟩ : ∃ X, X = gq vs r := ⟨_, rfl⟩
    rw [← hX] at hst
    simp only [← hX] at hlb
    have hXz : Rz u pz X := (hlb u hG).1
    have Hlb := Lib.hid hlb
    have Hst := Lib.hid hst
    have Hb0 := Lib.hid (hb0 e2)
    clear hv1 hb0 e2 hlb hst hX hrl
    refine wp_seq ?_
    refine r0T ?_
    refine wp_cond_true (rfl) ?_
    refine wp_skip ?_
    refine then_norm ?_
    refine wp_seq ?_
    refine wp_block ?_
    refine wp_seq ?_
    refine wp_seq ?_
    have q0 := Hrd.out u hG; obtain ⟨-, y1, y2, y3⟩ := Hlb.out u hG
    refine r0N ?_
    refine wp_cond_false (rfl) ?_
    refine wp_skip ?_
    refine then_norm ?_
    refine wp_rs (w := w) allocsV 9 [0, 0, 0, 0, 0, 0, 0, 0, 0] (by kernel_rfl) (by simp only [List.drop_succ_cons, List.drop_zero]; exact rfl) (fun _ => True) noG hB hG trivial ?_
    intro K L hN hL
    simp only [List.zip_cons_cons, List.zip_nil_left]
    repeat first | refine gya ?_ | refine gyr ?_ | refine gna ?_ | refine gyb (by (rintro v ⟨hgu, hB, hG, -⟩ N hN; have r := hB.r; simp only [BxR] at r; have q0 := Hrd.out v hG; obtain ⟨-, y1, y2, y3⟩ := Hlb.out v hG; go_simp; exact hN)) ?_
    refine gend ?_
    rintro v ⟨hgu, hB1, hG1, -⟩
    replace hA := hA.grow hgu
    replace hXz := hXz.grow hgu
    have ROWn := Lib.hid (own_grow' Ho.out hgu)
    clear Ho
    have Ho := ROWn
    clear ROWn
    clear hB hG
    have hB := hB1
    have hG := hG1
    clear hB1 hG1
    refine hL _ _ ?_
    clear hL L hgu
    obtain ⟨u, rfl⟩ : ∃ x, x = v := ⟨_, rfl⟩
    refine app_tailG ei_RQ w.heap.size _ _ _ _ (zL pz X) rfl rfl (bs_RQ pz.1 pz.2 X u) rfl (fun _ => rfl) (fun _ => rfl) (fun _ _ => rfl) Ho.out (by omega) (by omega) hG.sz fun p v' w' g1 g2 g3 => ?_
    have hb4l := hB.head.lt
    have hBn := Bx.grown_ (hB.grow (Grow.alloc u _)) g2 (fun e he hxe => by
     have e1 : e = _ := List.mem_singleton.1 he
     subst e1
     exact hnb hxe.symm)
    have hnb2 : v'.ownBlock ≠ some b4 := fun e => by
     rcases g3 with h | h
     ·exact hnb (h.symm.trans e)
     ·have := Option.some.inj (h.symm.trans e)
      omega
    have hGn := own_growth Ho.out hG g2
    replace hA := hA.own Ho.out (by decide) g2
    replace hXz := hXz.own Ho.out (by decide) g2
    clear Ho hB hG
    have Ho := Lib.hid g1
    have hB := hBn
    have hG := hGn
    clear g1 g2 g3 hBn hGn
    obtain ⟨u, rfl⟩ : ∃ x, x = w' := ⟨_, rfl⟩
    simp only [Act.put, List.setIfInBounds_toArray, List.set_cons_succ, List.set_cons_zero]
    refine NoK.norm (hN _ _ ?_)
    clear hN K
    refine blk_norm ?_
    refine then_norm ?_
    refine r0E ?_
    refine then_norm ?_
    go_roundw
    case rel => exact ⟨j + 1, ps ++ [(pz, X)], by omega, by go_num, Hb0.out, by rw [List.map_append, Hst.out]; rfl, hA.snoc hXz.a hXz.b, by rw [List.flatMap_append]; simpa [zrL] using Ho.out, hnb2, hB, hG⟩
    case measure => simp [intOf]; omega
  ·obtain rfl : n = j := by omega
   have hdec : decide ((n : Int) < (n : Int)) = false := by simp
   obtain ⟨A9, c9, rfl, -, -, hL, -⟩ := own_lz Ho.out hA
   rw [hps] at hL
   rcases Nat.eq_zero_or_pos n with hn0 | hn0
   ·obtain rfl := hn0
    obtain rfl : hs = [] := List.eq_nil_of_length_eq_zero (by rw [← Hn.out])
    rw [meanV_nil]
    clear hbad hps hA Ho hL
    refine wp_seq ?_
    refine r0T ?_
    refine wp_cond_false (rfl) ?_
    refine wp_exit ?_
    refine then_exit ?_
    refine then_exit ?_
    refine blk_exit ?_
    refine then_norm ?_
    refine wp_seq ?_
    refine r0T ?_
    refine wp_cond_true (rfl) ?_
    refine wp_seq (rsC allocsV [1] hB hG fun K L hN hL => ?_)
    refine grd (ratR (qint 0)) (fun (x45 : Ax × Ax) => ?_) (C := fun v _ => ref1_Of 0 (by omega) (by omega) _)
    refine geC hL ?_
    clear hB hG hL L
    rintro u ⟨⟨-, hB, hG, -⟩, hx45⟩
    obtain ⟨hx45a, hx45b⟩ : Rn u x45.1 _ ∧ Rn u x45.2 _ := hx45
    refine gtT ?_
    clear hN K
    refine sv hB hF hG 0 0 [_, _, _] ?_
    intro u hu hBG
    replace hx45a := hx45a.put hB 0 rfl (by first | decide | simp) _ _ hu
    replace hx45b := hx45b.put hB 0 rfl (by first | decide | simp) _ _ hu
    clear hB hG hu
    obtain ⟨hB, hG⟩ := hBG
    refine rt Tryz.results25 ?_
    exact ⟨x45, rfl, ⟨hx45a, hx45b⟩, hG⟩
   ·have hne : hs ≠ [] := fun e => by
     have := Hn.out
     rw [e] at this
     simp at this
     omega
    have hv : meanV hs vs = (qMean (valsM hs vs n) n, 0) := by
     have h1 := meanV_ok (vs := vs) hne (by rw [← Hn.out, ← Hm.out]; exact hbad)
     rw [h1, ← Hn.out]
    rw [hv]
    have HL := Lib.hid hL
    have fn : ((n : Int) == 0) = false := by simp; omega
    have fnd : decide (n = 0) = false := by simp; omega
    clear hv hne hbad hL Ho hps hA
    refine wp_seq ?_
    refine r0T ?_
    refine wp_cond_false (rfl) ?_
    refine wp_exit ?_
    refine then_exit ?_
    refine then_exit ?_
    refine blk_exit ?_
    refine then_norm ?_
    refine wp_seq ?_
    refine r0T ?_
    refine wp_cond_false (rfl) ?_
    refine wp_skip ?_
    refine then_norm ?_
    refine wp_seq (rsC allocsV [0, 1] hB hG fun K L hN hL => ?_)
    refine gs ?_
    refine grd (ratR (qMean (valsM hs vs n) n)) (fun (x47 : Ax × Ax) => ?_) (C := by (rintro v ⟨hgu, hB, hG, -⟩; exact HMe.out hn0 _ _ _ (HL.out.grow hgu)))
    refine geC hL ?_
    clear hB hG hL L
    rintro u ⟨⟨-, hB, hG, -⟩, hx47⟩
    obtain ⟨hx47a, hx47b⟩ : Rn u x47.1 _ ∧ Rn u x47.2 _ := hx47
    refine gtT ?_
    clear hN K
    refine sv hB hF hG 0 0 [_, _, _] ?_
    intro u hu hBG
    replace hx47a := hx47a.put hB 0 rfl (by first | decide | simp) _ _ hu
    replace hx47b := hx47b.put hB 0 rfl (by first | decide | simp) _ _ hu
    clear hB hG hu
    obtain ⟨hB, hG⟩ := hBG
    refine rt Tryz.results25 ?_
    exact ⟨x47, rfl, ⟨hx47a, hx47b⟩, hG⟩
end Go.Proofs.YtjmopgepnndckaaGreatDoor
