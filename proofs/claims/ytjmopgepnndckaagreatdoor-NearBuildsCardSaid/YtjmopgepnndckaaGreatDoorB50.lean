/-
  The claim's theorem: Law NearRB NearPlain NearBw LawC NearBuildsZ.
-/
import Derived.Test.YtjmopgepnndckaaGreatDoorB46
import Derived.Test.YtjmopgepnndckaaGreatDoorB49
import Derived.Test.YtjmopgepnndckaaGreatDoorCards
import Derived.Test.YtjmopgepnndckaaGreatDoorTie
import Derived.WalkKit
import Derived.ProofKit
import Derived.OpenShut
import Derived.Carry
import Derived.ChangeOld
import Derived.ChangeSlices
import Derived.Deep.DeepHandedRow
import Derived.Lib.LaidTab
import Derived.Deep.Grids
set_option linter.unusedSimpArgs false
set_option linter.unusedVariables false
namespace Go.Proofs.YtjmopgepnndckaaGreatDoor
open Go.ChangeShapes Go.WideShapes Go.ChangeAt Go.RowKit
theorem ownK : ownKnob Tryz.prog.godebug = none := by kernel_rfl
theorem laidOutP : laidOutB Tryz.prog = true := by kernel_rfl
theorem cellsT_int : Tryz.prog.cellsOf 3 = 1 := by kernel_rfl
theorem trodAll_below {H : Type} {enc : TypeId × Value → H} {W W' : World} (hb : Below W.heap.size W W') : ∀ {ts : List TypeId} {vs : List Value} {ds : List (DataW H)} {ps : List MemPlace}, (∀ t ∈ ts, Tryz.prog.readableRec t = true ∧ t < Tryz.prog.types.size) → (∀ x ∈ ps, x.block < W.heap.size) →
  DataW.TrodAll enc Tryz.prog W 0 (fun _ => true) true ts vs ds ps → DataW.TrodAll enc Tryz.prog W' 0 (fun b => decide (b < W.heap.size)) true ts vs ds ps
 | [], vs, ds, ps, _, _, h => by
  obtain ⟨rfl, rfl, rfl⟩ := trodAll_nil h
  exact trodAll_mk0
 | t :: ts, vs, ds, ps, ht, hlt, h => by
  obtain ⟨v, vs1, d, ds1, a, b, rfl, rfl, rfl, h1, h2⟩ := trodAll_cons h
  obtain ⟨r1, r2⟩ := ht t (by simp)
  exact ⟨a, b, Below.trod laidOutP r1 r2 h1 hb (fun x hx => hlt x (by simp [hx])), trodAll_below hb (fun t ht' => ht t (by simp [ht'])) (fun x hx => hlt x (by simp [hx])) h2, rfl⟩
/-- what a law owes behind its call -/
theorem law_post {H : Type} {enc : TypeId × Value → H} {f : Func} {s : ChangeSpec} {apart : Bool} {W W' : World} {args : Array Value} {ds gs : List (DataW H)} {before : List MemPlace}
  (hW : DataW.Whole enc Tryz.prog f.params.toList s.vars apart W args.toList ds gs before) (hv : s.vars = []) (hf1 : (s.fn H (ds ++ gs)).results = [.lit (.bool true)]) (hf2 : (s.fn H (ds ++ gs)).args = ds) (hf3 : (s.fn H (ds ++ gs)).vars = []) (hr : f.resultTypes = #[4])
  (hp : ∀ t ∈ f.params.toList, Tryz.prog.readableRec t = true ∧ t < Tryz.prog.types.size) (hb : Below W.heap.size W W') : s.post enc Tryz.prog f apart true false false W args (.bool true) W' := by
 have hlt := hW.lt
 have hW2 := hW
 obtain ⟨p, q, hA, hV, rfl, hz, hn⟩ := hW
 refine ⟨ds, gs, p ++ q, [], p, [], hW2, ?_, ?_, ?_, ?_, fun h => by cases h⟩
 ·rw [hf1, hr]
  exact trodAll_cons_mk (shut_bool Tryz.underlying4 _) trodAll_mk0
 ·rw [hf2]
  exact trodAll_below hb hp (fun x hx => hlt x (by simp [hx])) hA
 ·rw [hf3, hv]
  rfl
 ·exact hb.frame _
/-- the table of the program's bits -/
def tab64L : List Int := [0, 1, 56, 2, 57, 49, 28, 3, 61, 58, 42, 50, 38, 29, 17, 4, 62, 47, 59, 36, 45, 43, 51, 22, 53, 39, 33, 30, 24, 18, 12, 5, 63, 55, 48, 27, 60, 41, 37, 16, 46, 35, 44, 21, 52, 32, 23, 11, 54, 26, 40, 15, 34, 20, 31, 10, 25, 14, 19, 9, 13, 8, 7, 6]
theorem tab64_same : ∀ j, j < 64 → tab64L.getD j 0 = ((Lib.deBruijn64tab.getD j 0 : Nat) : Int) := by decide
theorem tab64_type : (Tryz.prog.globals[2]?).map (·.type) = some 270 := by kernel_rfl
theorem tab64_cells : Tryz.prog.cellsOf 270 = 64 := by kernel_rfl
theorem tab64_cell : Tryz.prog.cellsOf 5 = 1 := by kernel_rfl
/-- the row's list gives the table -/
theorem tab_laid {W : World} {name : String} (hg : Tryz.prog.globalNamed name = some 2) (h : laidMetH Tryz.prog [(name, Lib.tabData .u8 tab64L)] W) : Tab W := fun j hj => by
 have h1 := (Lib.tabIs_of_head (rest := []) hg tab64_type Tryz.underlying270 Tryz.underlying5 tab64_cell tab64_cells h).cell hg j (by show j < 64; exact hj)
 rw [tab64_same j hj] at h1
 exact h1
/-- the settled world, the table holding what its initialiser lays -/
noncomputable def laidWorld (os : Os) : World :=
 { World.holding Tryz.prog os ⟨#[], #[], []⟩ with heap := (World.holding Tryz.prog os ⟨#[], #[], []⟩).heap.modify 2 fun
   | .cells _ t frozen => .cells (tab64L.map fun x => Value.int .u8 x).toArray t frozen
   | o => o }
end Go.Proofs.YtjmopgepnndckaaGreatDoor
namespace Go.Proofs.YtjmopgepnndckaaGreatDoor
open Go Go.RowKit
theorem ref22_grow (b99 n L : Nat) (RA : Option Addr) (RC : Nat) (rs : List Rq) (w0 : World) (hbw : w0.heap.size ≤ b99) (hn : rs.length = n) (hn0 : 0 < n) (hn2 : n ≤ 100000) (hL1 : 1 ≤ L) (hL2 : L ≤ 100000) (hrl : ∀ r ∈ rs, r.2.2.length = L) (s : Nat) (hs : ∀ r ∈ rs, ∀ x ∈ r.2.2, qs x ≤ s) (hBz : 2 * s + 1 ≤ BIG) (hX : Lrz w0 RA rs) (m : Nat) : RGrowOK b99 n L RA RC (rs.map (·.2.2)) w0 m := by
 induction m using Nat.strongRecOn with
 | ind m ih => exact ref22_grow_step b99 n L RA RC rs w0 hbw hn hn0 hn2 hL1 hL2 hrl s hs hBz hX m ih
theorem range_succ_ints (i : Nat) : ints (List.range (i + 1)) = ints (List.range i) ++ [(i : Int)] := by
 unfold ints
 rw [List.range_succ, List.map_append]
 rfl
set_option maxHeartbeats 4000000 in
set_option maxRecDepth 100000 in
theorem ref22_Build (A : Option Addr) (rs : List Rq) (n Lw c : Nat) (hn : rs.length = n) (hn1 : 1 ≤ n) (hn2 : n ≤ 300) (hL1 : 1 ≤ Lw) (hL2 : Lw ≤ 20) (hrl : ∀ r ∈ rs, r.2.2.length = Lw) (s : Nat) (hs : ∀ r ∈ rs, ∀ x ∈ r.2.2, qs x ≤ s) (hBz : 2 * s + 1 ≤ BIG) (w : World) (h : Lrz w A rs) :
  Calls Tryz.prog 28 #[.slice A n c] w (RetY (fun x : Ax => treeV (A, c) n x n) (fun x W => W.ownsRow w.heap.size 118 4 (.slice x.1 n x.2) n ((flatT (growT (rs.map (·.2.2)) Lw (List.range n) 0) 0).flatMap ndL)) w) := by
 have hgr := fun (b99 : Nat) (h1 : w.heap.size ≤ b99) => ref22_grow b99 n Lw A c rs w h1 hn hn1 (by omega) hL1 (by omega) hrl s hs hBz h n
 obtain ⟨X, hXe⟩ : ∃ X, X = rs.map (·.2.2) := ⟨_, rfl⟩
 rw [← hXe]
 simp only [← hXe] at hgr
 have Hgr := Lib.hid hgr
 clear hgr h hs hrl hBz hn hXe
 go_enter Tryz.func28, Tryz.ntmps28
 refine en1 ?_
 intro u hG b2 hB hF
 refine wp_seq (rsC allocsT [0, 0, 2] hB hG fun K L hN hL => ?_)
 refine gs ?_
 refine gaa (newObj_RTree _ _ _ _ _) fun b3 hb3 hn3 => ?_
 replace hF := hF.n1 [] hB hG hb3 hn3
 have hl2 := hB.head.lt
 refine geC hL ?_
 clear hB hG hL L
 rintro u ⟨⟨hgu, hB, hG, -⟩, h3⟩
 replace hB := hB.cons' h3
 clear h3
 have hb23 : b2 < b3 := by omega
 clear hl2
 clear hb3 hn3
 clear hgu
 refine gtT ?_
 clear hN K
 refine st hB hF hG 0 0 [_, _] ?_
 clear hB hG
 intro u hB hG
 refine r0T ?_
 refine wp_seq ?_
 refine r0T ?_
 refine wp_block ?_
 have Hb23 := Lib.hid hb23
 clear hb23
 go_loopw [5, 4] (fun s0 s1 wr => ∃ i : Nat, i ≤ n ∧ s0 = .int .i64 i ∧ wr.ownsRow w.heap.size 3 1 s1 i (intL (ints (List.range i))) ∧ Bx wr [(b3, 72, #[.slice A n c, .slice none 0 0]), (b2, 72, #[.slice none 0 0, .slice none 0 0])] ∧ Grow w wr) (fun s0 _ _ => n - (intOf s0).toNat)
 case atStart => exact ⟨0, Nat.zero_le _, rfl, World.ownsRow_nil _ _ _ _, hB, hG⟩
 case round =>
  clear hB hG
  obtain ⟨i, hi, rfl, ho, hB, hG⟩ := hrel
  obtain ⟨u, rfl⟩ : ∃ x, x = wr := ⟨_, rfl⟩
  obtain ⟨A', cc, rfl⟩ := own_shape ho
  rcases Nat.lt_or_ge i n with hlt | hge
  ·have hdec : decide ((i : Int) < (n : Int)) = true := by simp; omega
   have Ho := Lib.hid ho
   clear ho
   refine wp_seq ?_
   refine r0T ?_
   refine wp_cond_true (rfl) ?_
   refine wp_skip ?_
   refine then_norm ?_
   refine wp_seq ?_
   refine wp_block ?_
   refine wp_rs (w := w) allocsT 2 [0, 0] (by kernel_rfl) (by simp only [List.drop_succ_cons, List.drop_zero]; exact rfl) (fun _ => True) noG hB hG trivial ?_
   intro K L hN hL
   simp only [List.zip_cons_cons, List.zip_nil_left]
   refine gs ?_
   refine gend ?_
   rintro v ⟨hgu, hB1, hG1, -⟩
   have ROWn := Lib.hid (own_grow' Ho.out hgu)
   clear Ho
   have Ho := ROWn
   clear ROWn
   clear hB hG
   have hB := hB1
   have hG := hG1
   clear hB1 hG1
   refine hL _ _ ?_
   clear hL L hgu
   obtain ⟨u, rfl⟩ : ∃ x, x = v := ⟨_, rfl⟩
   refine app_tailG ei_int w.heap.size _ _ _ _ [Value.int .i64 (i : Nat)] rfl rfl (bs_int (i : Nat) u) rfl (fun _ => rfl) (fun _ => rfl) (fun _ _ => rfl) Ho.out (by omega) (by omega) hG.sz fun p v' w' g1 g2 g3 => ?_
   have hBn := own_boxes Ho.out hB (by simp) g2
   have hGn := own_growth Ho.out hG g2
   clear Ho hB hG
   have Ho := Lib.hid g1
   have hB := hBn
   have hG := hGn
   clear g1 g2 g3 hBn hGn
   obtain ⟨u, rfl⟩ : ∃ x, x = w' := ⟨_, rfl⟩
   simp only [Act.put, List.setIfInBounds_toArray, List.set_cons_succ, List.set_cons_zero]
   refine NoK.norm (hN _ _ ?_)
   clear hN K
   refine blk_norm ?_
   refine then_norm ?_
   refine r0E ?_
   refine then_norm ?_
   go_roundw
   case rel => exact ⟨i + 1, by omega, by go_num, by have := Ho.out; rw [range_succ_ints]; simpa [intL] using this, hB, hG⟩
   case measure => simp [intOf]; omega
  ·obtain rfl : n = i := by omega
   obtain ⟨A2, c2, e9, -, hLi⟩ := own_li ho (by simp [ints])
   cases e9
   have HLi := Lib.hid hLi
   clear ho hLi hge hi
   have hdec : decide ((n : Int) < (n : Int)) = false := by simp
   refine wp_seq ?_
   refine r0T ?_
   refine wp_cond_false (rfl) ?_
   refine wp_exit ?_
   refine then_exit ?_
   refine then_exit ?_
   refine blk_exit ?_
   refine then_norm ?_
   refine wp_seq ?_
   have l3 := hB.head.lt
   have hw3 := hF.1 b3 (by simp)
   refine wp_r0 ?_
   intro K hN
   go_wp2_with (go_at_call 60; refine (Hgr.out b3 hw3 (List.range n) 0 A' cc [] none 0 0 u List.length_range hn1 (fun x hx => List.mem_range.1 hx) hL1 rfl (by omega) hG HLi.out hB.head (World.ownsRow_nil _ _ _ _) (by simp [nbk])).mono ?_; rintro e w5 ⟨rfl, NA', NC', q1, q2, q3, q4, q5⟩)
   refine NoK.norm (hN _ _ ?_)
   clear hN K
   rw [Nat.zero_add] at q1 q2
   rw [List.nil_append] at q2
   have hb23 := Hb23.out
   have hB2 : Bx w5 [(b3, 72, #[.slice A n c, .slice NA' n NC']), (b2, 72, #[.slice none 0 0, .slice none 0 0])] := Bx.cons q1 (Bx.cons (q3.blk hB.tail.head (fun e => e.elim (fun e => by omega) (fun e => by cases e))) (Bx.nil _))
   have l2 := hB.tail.head.lt
   have Hnb := Lib.hid (show (Value.slice NA' n NC').ownBlock ≠ some b2 from fun e => by
    rw [nbk_own] at e
    rcases q4 _ e with h | h
    ·cases h
    ·omega)
   have Ho := Lib.hid q2
   clear l2 hB hG q1 q2 q3 q4 hb23 l3 hw3 HLi
   have hB := hB2
   have hG := q5
   clear hB2 q5
   obtain ⟨u, rfl⟩ : ∃ x, x = w5 := ⟨_, rfl⟩
   refine then_norm ?_
   refine r0T ?_
   refine sv hB hF hG 1 0 [_, _] ?_
   intro u hu hBG
   have Ho2 := Lib.hid (own_over Ho.out Hnb.out hu)
   clear Ho hB hG hu
   have Ho := Ho2
   clear Ho2
   obtain ⟨hB, hG⟩ := hBG
   refine rt Tryz.results28 ?_
   exact ⟨(NA', NC'), rfl, Ho.out, hG⟩
end Go.Proofs.YtjmopgepnndckaaGreatDoor
namespace Go.Proofs.YtjmopgepnndckaaGreatDoor
open Go Go.RowKit
theorem rowsOk_of {N L : Nat} {rs rs' : List Rq} (h : RowsOk N L rs) (he : rs'.map (·.2.2) = rs.map (·.2.2)) : RowsOk N L rs' := by
 refine ⟨by have := congrArg List.length he; rw [List.length_map, List.length_map] at this; rw [this]; exact h.1, fun r hr => ?_⟩
 have h1 : r.2.2 ∈ rs.map (·.2.2) := by rw [← he]; exact List.mem_map_of_mem (f := fun r : Rq => r.2.2) hr
 obtain ⟨z, hz, e⟩ := List.mem_map.1 h1
 rw [← e]
 exact h.2 z hz
end Go.Proofs.YtjmopgepnndckaaGreatDoor
namespace Go.Proofs.YtjmopgepnndckaaGreatDoor
open Go Go.RowKit
theorem TreeO.parts {B n : Nat} {R N : Ax} {rs : List Rq} {ns : List NdT} {W : World} (h : TreeO B n R N rs ns W) : Lrq W R.1 rs ∧ Le ndL 4 W N.1 ns := by
 obtain ⟨A, c, e, -, hL, -⟩ := own_lrq h.row h.rows
 obtain ⟨A2, c2, e2, -, hN, -⟩ := own_le (enc := ndL) (k := 4) (fun _ => rfl) (by omega) h.nodes
 cases e
 cases e2
 exact ⟨hL, hN⟩
/-- a block of another type is not a row's -/
theorem own_blk_ne {u : World} {B n b k : Nat} {e t : TypeId} {v : Value} {xs : List Value} {cs : Array Value} (h : u.ownsRow B e k v n xs) (hb : Blk u b t cs) (ht : e ≠ t) : v.ownBlock ≠ some b := fun e1 => by
 obtain ⟨_, h | ⟨g, cap, cur, rfl, _, hh, _⟩⟩ := h
 ·rw [h.1] at e1; cases e1
 ·have e2 : g = b := Option.some.inj e1
  subst e2
  have hb' : u.heap[g]? = _ := hb
  rw [hh] at hb'
  cases hb'
  exact ht rfl
theorem own_put_ne {u u' : World} {B n b k i : Nat} {e t : TypeId} {v : Value} {xs vs : List Value} {cs : Array Value} (h : u.ownsRow B e k v n xs) (hb : Blk u b t cs) (ht : e ≠ t) (hu : putAll u b i vs = u') : u'.ownsRow B e k v n xs := own_over h (own_blk_ne h hb ht) hu
theorem TreeO.put {B n b i : Nat} {R N : Ax} {rs : List Rq} {ns : List NdT} {W W' : World} {t : TypeId} {cs : Array Value} {vs : List Value} (h : TreeO B n R N rs ns W) (hb : Blk W b t cs) (h1 : 35 ≠ t) (h2 : 49 ≠ t) (h3 : 88 ≠ t) (hu : putAll W b i vs = W') : TreeO B n R N rs ns W' :=
 ⟨fun r hr => own_put_ne (h.rows r hr) hb h2 hu, own_put_ne h.row hb h1 hu, own_put_ne h.nodes hb h3 hu⟩
theorem own_rle {u : World} {B n : Nat} {N : Ax} {ns : List NdT} (h : u.ownsRow B 118 4 (.slice N.1 n N.2) n (ns.flatMap ndL)) : Le ndL 4 u N.1 ns := by
 obtain ⟨A2, c2, e2, -, hN, -⟩ := own_le (enc := ndL) (k := 4) (fun _ => rfl) (by omega) h
 cases e2
 exact hN
set_option maxHeartbeats 16000000 in
set_option maxRecDepth 100000 in
theorem law23_NearBuilds (A : Option Addr) (la : List Int) (ca : Nat) (n wd same : Int) (hla : la.length ≤ 9223372036854775807) (hac : la.length ≤ ca) (hba : ∀ x ∈ la, -9223372036854775808 ≤ x ∧ x ≤ 9223372036854775807) (lo2 : -9223372036854775808 ≤ n) (hi2 : n ≤ 9223372036854775807) (lo3 : -9223372036854775808 ≤ wd) (hi3 : wd ≤ 9223372036854775807) (lo4 : -9223372036854775808 ≤ same) (hi4 : same ≤ 9223372036854775807)
  (w : World) (h1 : Li w A la) (HT : Tab w) :
  Calls Tryz.prog 7 #[.slice A la.length ca, .int .i64 n, .int .i64 wd, .int .i64 same] w fun e w' => e = .returned (.bool true) ∧ Grow w w' := by
 clear lo2 hi2 lo3 hi3 lo4 hi4
 obtain ⟨pa, hpa⟩ : ∃ p, p = la.length := ⟨_, rfl⟩
 rw [← hpa] at hac ⊢
 have hBB : 100000 ≤ BIG := by unfold BIG; omega
 have hLIM : LIM = 1099511627760 := rfl
 have rN := pick_range n (m := 12) (by omega)
 have rL := pick_range wd (m := 3) (by omega)
 obtain ⟨N, hN⟩ : ∃ N : Nat, pick n 12 = (N : Int) := ⟨(pick n 12).toNat, by omega⟩
 obtain ⟨Lw, hLw⟩ : ∃ Lw : Nat, pick wd 3 + 1 = (Lw : Int) := ⟨(pick wd 3 + 1).toNat, by omega⟩
 have hN11 : N ≤ 11 := by omega
 have hL1 : 1 ≤ Lw := by omega
 have hL3 : Lw ≤ 3 := by omega
 have hr : ∀ W, Grow w W → Calls Tryz.prog 12 #[.slice A pa ca, .int .i64 n, .int .i64 wd, .int .i64 same] W (RetY (fun x : Ax × List Rq => .slice x.1.1 N x.1.2) (fun x W => RowsOk N Lw x.2 ∧ Lrz W x.1.1 x.2) W) := fun W hg => law23_rows A la ca pa N Lw n wd same hpa hac hN hLw (by omega) hba W (h1.grow hg)
 have hir : ∀ (W : World) (X : Ax) (rs : List Rq), RowsOk N Lw rs → Lrz W X.1 rs → Tab W → Calls Tryz.prog 16 #[.slice X.1 N X.2] W (RetY (fun x : Ax × List Rq => .slice x.1.1 N x.1.2) (fun x W' => x.2.map (·.2.2) = rs.map (·.2.2) ∧ Lrq W' x.1.1 x.2) W) := fun W X rs hk hX hT =>
  (hand_InRows X.1 rs X.2 N hk.1.symm (by omega) (fun r hr => ⟨by have := (hk.2 r hr).1; omega, fun x hx => Nat.le_trans ((hk.2 r hr).2 x hx) (by omega)⟩) W hX hT).mono fun e w' ⟨v, rs', he, e1, e2, e3, hg'⟩ => by
   obtain ⟨A2, c2, rfl, -, hLw, -⟩ := own_lrq e3 e2
   exact ⟨((A2, c2), rs'), he, ⟨e1, hLw⟩, hg'⟩
 have Hr := Lib.hid hr
 have Hir := Lib.hid hir
 clear hLw hr hir h1 hba hpa hla hac rN rL hN
 go_enter Tryz.func7, Tryz.ntmps7
 refine en0 ?_
 intro u hG hB hF
 refine wp_seq (rsE allocsT [0, 0, 0, 0, 1, 0] hB hG fun L hL => ?_)
 refine gs ?_
 refine gxd (X := (Ax × List Rq)) (fun x : Ax × List Rq => .slice x.1.1 N x.1.2) (fun x W => RowsOk N Lw x.2 ∧ Lrz W x.1.1 x.2) (fun x u u' hg h => ⟨h.1, h.2.grow hg⟩) (fun x17 => ?_) (C := by (rintro v ⟨hgu, hB, hG, -⟩; exact Hr.out _ hG))
 refine gs ?_
 refine geT hL ?_
 clear hB hG hL L
 rintro u ⟨⟨hgu, hB, hG, -⟩, hx17⟩
 have HX := Lib.hid hx17
 clear hx17
 clear hgu
 have HG0 := Lib.hid hG
 clear hB hF hG
 obtain ⟨w0, rfl⟩ : ∃ x, x = w := ⟨_, rfl⟩
 obtain ⟨w, hwu⟩ : ∃ x, x = u := ⟨_, rfl⟩
 rw [← hwu] at HG0 HX
 have hB := Bx.nil u
 have hF := Fr.nil w
 have hG : Grow w u := hwu ▸ Grow.refl u
 clear hwu
 obtain ⟨⟨RA, RC⟩, rs⟩ := x17
 obtain ⟨hok, hLx⟩ := HX.out
 simp only at hok hLx
 have HT' := HT.grow HG0.out
 have HRZ := Lib.hid hLx
 have Hok := Lib.hid hok
 clear HT HX Hr hLx hok
 have HT := HT'
 clear HT'
 have Hi2 := Lib.hid (fun W (hg : Grow w W) hT => Hir.out W (RA, RC) rs Hok.out (HRZ.out.grow hg) hT)
 clear Hir
 rcases Nat.eq_zero_or_pos N with hN0 | hN0
 ·subst hN0
  have Hnb := Lib.hid (fun W (X : Ax) => near_Build_no X.1 X.2 W)
  have Hle := Lib.hid (fun W => ref10_Learn_no RA RC W)
  refine wp_seq (rsC allocsT [0, 1, 1, 0, 0, 0, 2] hB hG fun K L hN hL => ?_)
  refine gs ?_
  refine gxd (X := (Ax × List Rq)) (fun x : Ax × List Rq => .slice x.1.1 0 x.1.2) (fun x W => x.2.map (·.2.2) = rs.map (·.2.2) ∧ Lrq W x.1.1 x.2) (fun x u u' hg h => ⟨h.1, h.2.grow hg⟩) (fun x20 => ?_) (C := by (rintro v ⟨hgu, hB, hG, -⟩; exact Hi2.out _ hG (HT.grow hG)))
  refine gmw (C := fun v => Hnb.out _ x20.1) ?_
  refine gs ?_
  refine gaa (newObj_Tree _ _ _ _ _) fun b10 hb10 hn10 => ?_
  replace hF := hF.n1 [] hB hG hb10 hn10
  refine geC hL ?_
  clear hB hG hL L
  rintro u ⟨⟨⟨-, hB, hG, -⟩, hx20⟩, h10⟩
  replace hB := hB.cons' h10
  clear h10
  clear hb10 hn10
  refine gtT ?_
  clear hN K
  refine st hB hF hG 0 0 [_, _] ?_
  clear hB hG
  intro u hB hG
  refine wp_seq ?_
  refine wp_seq (rsE allocsT [0, 1, 0] hB hG fun L hL => ?_)
  refine gs ?_
  refine gmw (C := fun v => Hle.out _) ?_
  refine gs ?_
  refine geT hL ?_
  clear hB hG hL L
  rintro u ⟨-, hB, hG, -⟩
  refine wp_cond_true (rfl) ?_
  refine wp_seq (rsE allocsT [1, 0, 0, 0, 0, 0, 0, 0, 0, 0, 0, 0, 0, 0, 0, 0, 0, 0] hB hG fun L hL => ?_)
  refine gmd (C := fun v ⟨hgu, hB, hG, _⟩ => law23_known _ (HT.grow hG)) ?_
  refine gs ?_
  refine geT hL ?_
  clear hB hG hL L
  rintro u ⟨-, hB, hG, -⟩
  refine rt Tryz.results7 ?_
  exact ⟨rfl, HG0.out.trans hG⟩
 ·have hok := Hok.out
  have hNi : (0 : Int) < (N : Int) := by omega
  obtain ⟨X, hXe⟩ : ∃ X, X = rs.map (·.2.2) := ⟨_, rfl⟩
  have hXl : X.length = N := by rw [hXe, List.length_map]; exact hok.1
  obtain ⟨b1, b2, b3⟩ := built_ok X Lw (by omega) (by omega)
  rw [hXl] at b1 b2 b3
  obtain ⟨D, hD⟩ : ∃ D, D = (growT X Lw (List.range N) 0).deep := ⟨_, rfl⟩
  rw [← hD] at b2 b3
  have hfl : (flatT (growT X Lw (List.range N) 0) 0).length = N := by rw [flatT_len, growT_size, List.length_range]
  obtain ⟨ns, hns⟩ : ∃ l, l = flatT (growT X Lw (List.range N) 0) 0 := ⟨_, rfl⟩
  rw [← hns] at b1 b2 hfl
  have hle := fun W (hg : Grow w W) => ref10_Learn_ok RA rs N Lw RC hok.1 hN0 (by omega) hL1 (by omega) (fun r hr => (hok.2 r hr).1) W (HRZ.out.grow hg)
  have hnb : ∀ W (Y : Ax) (rs' : List Rq), Grow w W → rs'.map (·.2.2) = X → Lrq W Y.1 rs' → Calls Tryz.prog 34 #[.slice Y.1 N Y.2] W (RetY (fun x : (Ax × Ax) × List Rq => .tuple #[.agg #[.slice x.1.1.1 N x.1.1.2, .slice x.1.2.1 N x.1.2.2], .int .i64 0]) (fun x W => TreeO w.heap.size N x.1.1 x.1.2 x.2 ns W ∧ x.2.map (·.2.2) = X) W) := fun W Y rs' hg he hY => by
   have hk := rowsOk_of hok (rs' := rs') (he.trans hXe)
   have h := near_Build_ok Y.1 rs' N Lw Y.2 hk.1 hN0 (by omega) hL1 (by omega) (fun r hr => (hk.2 r hr).1) 50 (fun r hr => (hk.2 r hr).2) (by omega) W hY
   rw [he, ← hns] at h
   exact h.mono fun e w' ⟨x, h1, h2, h3⟩ => ⟨x, h1, ⟨h2.1.mono hg.size, h2.2⟩, h3⟩
  have hrb : ∀ W, Grow w W → Calls Tryz.prog 28 #[.slice RA N RC] W (RetY (fun x : Ax => treeV (RA, RC) N x N) (fun x W => W.ownsRow w.heap.size 118 4 (.slice x.1 N x.2) N (ns.flatMap ndL)) W) := fun W hg => by
   have h := ref22_Build RA rs N Lw RC hok.1 hN0 (by omega) hL1 (by omega) (fun r hr => (hok.2 r hr).1) 50 (fun r hr => (hok.2 r hr).2) (by omega) W (HRZ.out.grow hg)
   rw [← hXe, ← hns] at h
   exact h.mono fun e w' ⟨x, h1, h2, h3⟩ => ⟨x, h1, h2.mono hg.size, h3⟩
  have hst : ∀ W (R1 N1 N2 : Ax) (rs' : List Rq), Grow w W → rs'.map (·.2.2) = X → Lrq W R1.1 rs' → Le ndL 4 W N1.1 ns → Le ndL 4 W N2.1 ns → Calls Tryz.prog 37 #[treeV R1 N N1 N, treeV (RA, RC) N N2 N] W fun e w' => e = .returned (.bool true) ∧ Grow W w' := fun W R1 N1 N2 rs' hg he h1 h2 h3 => by
   have hk := rowsOk_of hok (rs' := rs') (he.trans hXe)
   exact law23_sameTree R1 N1 (RA, RC) N2 rs' rs N Lw N ns hk.1 (by rw [he, hXe]) (by omega) (by omega) (fun r hr => (hk.2 r hr).1) (fun r hr x hx => Nat.le_trans ((hk.2 r hr).2 x hx) (by omega)) hfl (by omega) W h1 (HRZ.out.grow hg) h2 h3
  have hck : ∀ W (R1 N1 : Ax) (rs' : List Rq), rs'.map (·.2.2) = X → Lrq W R1.1 rs' → Le ndL 4 W N1.1 ns → Calls Tryz.prog 32 #[treeV R1 N N1 N] W fun e w' => e = .returned (.int .i64 0) ∧ Grow W w' := fun W R1 N1 rs' he h1 h2 => by
   have hk := rowsOk_of hok (rs' := rs') (he.trans hXe)
   have h := near_Check R1 N1 rs' N Lw N ns hk.1 hN0 (by omega) hL1 (by omega) (fun r hr => (hk.2 r hr).1) hfl (by omega) 50 (fun r hr => (hk.2 r hr).2) (by omega) W h1 h2
   rw [he, b1] at h
   exact h
  have hdp : ∀ W (R1 N1 : Ax) (rs' : List Rq), rs'.map (·.2.2) = X → Lrq W R1.1 rs' → Le ndL 4 W N1.1 ns → Calls Tryz.prog 30 #[treeV R1 N N1 N] W fun e w' => e = .returned (.int .i64 (D : Nat)) ∧ Grow W w' := fun W R1 N1 rs' he h1 h2 => by
   have hk := rowsOk_of hok (rs' := rs') (he.trans hXe)
   have h := near_Depth R1 N1 rs' N Lw N ns hk.1 hN0 (by omega) hL1 (by omega) (fun r hr => (hk.2 r hr).1) hfl (by omega) 50 (fun r hr => (hk.2 r hr).2) (by omega) W h1 h2
   rw [he, b1, if_pos rfl, b2] at h
   exact h
  have hdo : ∀ W (N2 : Ax), Le ndL 4 W N2.1 ns → Calls Tryz.prog 33 #[treeV (RA, RC) N N2 N] W fun e w' => e = .returned (.int .i64 (D : Nat)) ∧ Grow W w' := fun W N2 h => ref22_DepthOf (RA, RC) N2 N N ns hfl (by omega) D b2 W h
  rw [← hXe] at Hi2
  have Hnb := Lib.hid hnb
  have Hle := Lib.hid hle
  have Hrb := Lib.hid hrb
  have Hst := Lib.hid hst
  have Hck := Lib.hid hck
  have Hdp := Lib.hid hdp
  have Hdo := Lib.hid hdo
  have hD3 : D ≤ 3 := by
   rcases Nat.lt_or_ge 3 D with h | h
   ·have := Nat.pow_le_pow_right (n := 2) (by omega) h
    omega
   ·exact h
  have HD := Lib.hid (And.intro b3 hD3)
  clear hnb hle hrb hst hck hdp hdo b1 b2 b3 hD3 hD hns hfl hXe hXl hok
  refine wp_seq (rsC allocsT [0, 1, 1, 0, 0, 0, 2] hB hG fun K L hN hL => ?_)
  refine gs ?_
  refine gxd (X := (Ax × List Rq)) (fun x : Ax × List Rq => .slice x.1.1 N x.1.2) (fun x W => x.2.map (·.2.2) = X ∧ Lrq W x.1.1 x.2) (fun x u u' hg h => ⟨h.1, h.2.grow hg⟩) (fun x20 => ?_) (C := by (rintro v ⟨hgu, hB, hG, -⟩; exact Hi2.out _ hG (HT.grow hG)))
  refine gxd (X := ((Ax × Ax) × List Rq)) (fun x : (Ax × Ax) × List Rq => .tuple #[.agg #[.slice x.1.1.1 N x.1.1.2, .slice x.1.2.1 N x.1.2.2], .int .i64 0]) (fun x W => TreeO w.heap.size N x.1.1 x.1.2 x.2 ns W ∧ x.2.map (·.2.2) = X) (fun x u u' hg h => ⟨h.1.grow hg, h.2⟩) (fun x21 => ?_) (C := by (rintro v ⟨⟨hgu, hB, hG, -⟩, hx20⟩; exact Hnb.out _ x20.1 x20.2 hG hx20.1 hx20.2))
  refine gs ?_
  refine gaa (newObj_Tree _ _ _ _ _) fun b10 hb10 hn10 => ?_
  replace hF := hF.n1 [] hB hG hb10 hn10
  refine geC hL ?_
  clear hB hG hL L
  rintro u ⟨⟨⟨⟨hgu, hB, hG, -⟩, hx20⟩, hx21⟩, h10⟩
  replace hB := hB.cons' h10
  clear h10
  obtain ⟨⟨⟨R1, R1c⟩, ⟨N1, N1c⟩⟩, rs'⟩ := x21
  obtain ⟨ht1, ht2⟩ := hx21
  simp only at ht1 ht2
  clear hb10 hn10
  clear hgu
  refine gtT ?_
  clear hN K
  refine sv hB hF hG 0 0 [_, _] ?_
  intro u hu hBG
  have ht3 := TreeO.put ht1 hB.head (by decide) (by decide) (by decide) hu
  clear ht1 hB hG hu hx20
  have ht1 := Lib.hid ht3
  have Ht2 := Lib.hid ht2
  clear ht3 ht2
  obtain ⟨hB, hG⟩ := hBG
  refine wp_seq ?_
  refine wp_seq (rsE allocsT [0, 1, 0] hB hG fun L hL => ?_)
  refine gs ?_
  refine gmd (C := fun v ⟨hgu, hB, hG, _⟩ => Hle.out _ hG) ?_
  refine gs ?_
  refine geT hL ?_
  clear hB hG hL L
  rintro u ⟨hgu, hB, hG, -⟩
  have ht3 := Lib.hid (ht1.out.grow hgu)
  clear ht1
  have ht1 := ht3
  clear ht3
  clear hgu
  refine wp_cond_false (rfl) ?_
  refine wp_skip ?_
  refine then_norm ?_
  refine wp_seq (rsC allocsT [0, 1, 2] hB hG fun K L hN hL => ?_)
  refine gs ?_
  refine gxd (X := Ax) (fun x : Ax => treeV (RA, RC) N x N) (fun x W => W.ownsRow w.heap.size 118 4 (.slice x.1 N x.2) N (ns.flatMap ndL)) (fun x u u' hg h => own_grow' h hg) (fun x45 => ?_) (C := by (rintro v ⟨hgu, hB, hG, -⟩; exact Hrb.out _ hG))
  refine gaa (newObj_RTree _ _ _ _ _) fun b12 hb12 hn12 => ?_
  replace hF := hF.n1 [] hB hG hb12 hn12
  refine geC hL ?_
  clear hB hG hL L
  rintro u ⟨⟨⟨hgu, hB, hG, -⟩, hx45⟩, h12⟩
  replace hB := hB.cons' h12
  clear h12
  have ht3 := Lib.hid (ht1.out.grow hgu)
  clear ht1
  have ht1 := ht3
  clear ht3
  clear hb12 hn12
  clear hgu
  refine gtT ?_
  clear hN K
  refine sv hB hF hG 0 0 [_, _] ?_
  intro u hu hBG
  have ht3 := Lib.hid (TreeO.put ht1.out hB.head (by decide) (by decide) (by decide) hu)
  have ho3 := own_put_ne hx45 hB.head (by decide) hu
  clear ht1 hB hG hu hx45
  have ht1 := ht3
  have Ho := Lib.hid ho3
  clear ht3 ho3
  obtain ⟨hB, hG⟩ := hBG
  have hp := ht1.out.parts
  simp only at hp
  obtain ⟨hp1, hp2⟩ := hp
  have hp3 := own_rle Ho.out
  obtain ⟨N2, N2c⟩ := x45
  simp only at hp3
  have H1 := Lib.hid hp1
  have H2 := Lib.hid hp2
  have H3 := Lib.hid hp3
  clear hp1 hp2 hp3 Ho ht1
  have fDD : ((D : Int) == (D : Int)) = true := by simp
  have fDn : decide (D = D) = true := by simp
  clear fDn
  refine wp_seq (rdC allocsT [] [(1, 0), (0, 1), (0, 2), (0, 3), (0, 4), (0, 5), (0, 6), (0, 7), (1, 8), (0, 9), (0, 10), (0, 11), (1, 12), (0, 13), (0, 14), (0, 15), (0, 16), (0, 18), (1, 17), (1, 19), (0, 20), (0, 21), (0, 22), (0, 23), (0, 27), (0, 28), (1, 24), (0, 25), (0, 26), (0, 29), (0, 30)] hB hG (hs := growF_of [0, 1, 3, 7, 15, 31, 63, 63, 255, 511, 1023, 2047, 4095, 8191, 16383, 32767, 65535, 131071, 65535, 524287, 1048575, 2097151, 4194303, 8388607, 16777215, 33554431, 67108863, 8388607, 142606335, 536870911, 1073741823, 2147483647] (by kernel_rfl)) fun K L hN hL => ?_)
  refine gmd (C := fun v ⟨hgu, hB, hG, _⟩ => law23_known _ (HT.grow hG)) ?_
  refine gs ?_
  first | refine gmd (C := fun v ⟨hgu, hB, hG, _⟩ => Hst.out _ (R1, R1c) (N1, N1c) (N2, N2c) rs' hG Ht2.out (H1.out.grow hgu) (H2.out.grow hgu) (H3.out.grow hgu)) ?_ | refine gmna ?_
  refine gs ?_
  first | refine gmd (C := fun v ⟨hgu, hB, hG, _⟩ => Hck.out _ (R1, R1c) (N1, N1c) rs' Ht2.out (H1.out.grow hgu) (H2.out.grow hgu)) ?_ | refine gmna ?_
  refine gs ?_
  first | refine gmd (C := fun v ⟨hgu, hB, hG, _⟩ => Hdp.out _ (R1, R1c) (N1, N1c) rs' Ht2.out (H1.out.grow hgu) (H2.out.grow hgu)) ?_ | refine gmna ?_
  first | refine gmd (C := fun v ⟨hgu, hB, hG, _⟩ => Hdo.out _ (N2, N2c) (H3.out.grow hgu)) ?_ | refine gmna ?_
  refine gs ?_
  first | refine gmd (C := fun v ⟨hgu, hB, hG, _⟩ => Hdp.out _ (R1, R1c) (N1, N1c) rs' Ht2.out (H1.out.grow hgu) (H2.out.grow hgu)) ?_ | refine gmna ?_
  refine gs ?_
  refine geC hL ?_
  clear hB hG hL L
  rintro u ⟨-, hB, hG, -⟩
  refine gtT ?_
  clear hN K
  refine rt Tryz.results7 ?_
  refine ⟨congrArg (fun b => Ending.returned (.bool b)) (decide_eq_true ?_), HG0.out.trans hG⟩
  obtain ⟨hb3, hD3⟩ := HD.out
  rcases (show D = 0 ∨ D = 1 ∨ D = 2 ∨ D = 3 by omega) with rfl | rfl | rfl | rfl
  all_goals exact Int.le_trans (Int.le_of_eq (by kernel_rfl)) (Int.ofNat_le.2 hb3)
end Go.Proofs.YtjmopgepnndckaaGreatDoor
namespace Go.Proofs.YtjmopgepnndckaaGreatDoor
open Go.ChangeShapes Go.WideShapes Go.ChangeAt Go.RowKit
set_option maxRecDepth 100000 in
theorem arg_intsC {H : Type} {enc : TypeId × Value → H} {W : World} {base : Nat} {v : Value} {d : DataW H} {p : List MemPlace} (hval : Value.okWide Tryz.prog W .any base 22 v) (h : DataW.Trod enc Tryz.prog W 0 (fun _ => true) true 22 v d p) :
  ∃ (A : Option Addr) (l : List Int) (c : Nat), v = .slice A l.length c ∧ Li W A l ∧ l.length ≤ 9223372036854775807 ∧ (∀ x ∈ l, -9223372036854775808 ≤ x ∧ x ≤ 9223372036854775807) ∧ l.length ≤ c := by
 obtain ⟨a0, len, cap, rfl⟩ := okWide_slice Tryz.underlying22 hval
 obtain ⟨fuel, hf⟩ := h
 rcases open_ints Tryz.underlying22 Tryz.underlying3 cellsT_int hf with ⟨hcs, hx⟩ | ⟨a, len', cap', zs, hcs, _, hl, hm, hz, hx, hcell, hwz⟩
 ·simp [Value.cells] at hcs
  obtain ⟨rfl, rfl, rfl⟩ := hcs
  exact ⟨none, [], 0, rfl, Li.nil _ _, by simp, (fun x hx => by cases hx), by simp⟩
 ·simp [Value.cells] at hcs
  obtain ⟨rfl, rfl, rfl⟩ := hcs
  simp only [if_true] at hz
  have hlen : (zs.take len).length = len := by simp; omega
  refine ⟨some a, zs.take len, cap, by rw [hlen], fun hne => ?_, by rw [hlen]; unfold maxLen at hm; omega, (fun x hx => bounds_i64 (hwz x (List.mem_of_mem_take hx))), by rw [hlen]; exact hl⟩
  have h0 : 0 < zs.length := by
   have : 0 < (zs.take len).length := List.length_pos_iff.2 hne
   omega
  obtain ⟨b, off, rfl, hc⟩ := ints_at hcell h0
  have hb : b < W.heap.size := World.block_lt_of_cell? W _ (hc 0 h0)
  refine ⟨b, off, rfl, hb, fun i x hi => ?_⟩
  have hi2 : i < (zs.take len).length := (List.getElem?_eq_some_iff.1 hi).1
  have hi3 : zs[i]? = some x := by
   rw [List.getElem?_take] at hi
   split at hi
   ·exact hi
   ·cases hi
  rw [hc i (by rw [hlen] at hi2; omega)]
  simp [List.getD, hi3]
end Go.Proofs.YtjmopgepnndckaaGreatDoor
namespace Go.Proofs.YtjmopgepnndckaaGreatDoor.nearBuilds
open Go.ChangeShapes Go.WideShapes Go.ChangeAt Go.RowKit
theorem params_ok : ∀ t ∈ Tryz.f7.params.toList, Tryz.prog.readableRec t = true ∧ t < Tryz.prog.types.size := by
 have h : (Tryz.f7.params.toList.all fun t => Tryz.prog.readableRec t && decide (t < Tryz.prog.types.size)) = true := by kernel_rfl
 intro t ht
 have := List.all_eq_true.1 h t ht
 simpa using this
set_option maxRecDepth 100000 in
theorem contract (H : Type) (enc : TypeId × Value → H) (W : World) (base : Nat) (args : Array Value) (ds gs : List (DataW H)) (before : List MemPlace)
  (hval : ∀ (j : Nat) t v, Tryz.f7.params[j]? = some t → args[j]? = some v → Value.okWide Tryz.prog W .any base t v)
  (hW : DataW.Whole enc Tryz.prog Tryz.f7.params.toList Rows.nearBuildsSpec.vars false W args.toList ds gs before) (hL : laidMetH Tryz.prog Rows.nearBuildsRow.laid W) :
  Calls Tryz.prog 7 args W fun e W' => ∃ v, e = .returned v ∧ Rows.nearBuildsSpec.post enc Tryz.prog Tryz.f7 false true false false W args v W' := by
 have hW' := hW
 obtain ⟨p, q, hA0, hV, rfl, hfz, hnd⟩ := hW
 have hA : DataW.TrodAll enc Tryz.prog W 0 (fun _ => true) true Tryz.f7.params.toList args.toList ds p := hA0
 rw [Tryz.params7] at hA hval
 obtain ⟨v0, vs0, d0, ds0, p0, q0, ha0, rfl, rfl, h0, hA1⟩ := trodAll_cons hA
 obtain ⟨v1, vs1, d1, ds1, p1, q1, rfl, rfl, rfl, h1, hA2⟩ := trodAll_cons hA1
 obtain ⟨v2, vs2, d2, ds2, p2, q2, rfl, rfl, rfl, h2, hA3⟩ := trodAll_cons hA2
 obtain ⟨v3, vs3, d3, ds3, p3, q3, rfl, rfl, rfl, h3, hA4⟩ := trodAll_cons hA3
 obtain ⟨rfl, rfl, rfl⟩ := trodAll_nil hA4
 obtain rfl : args = #[v0, v1, v2, v3] := by
  cases args
  simp_all
 obtain ⟨rfl, rfl⟩ := trodVars_none hV
 obtain ⟨A0, l0, c0, rfl, hl0, hn0, hb0, hc0⟩ := arg_intsC (hval 0 22 v0 rfl rfl) h0
 obtain ⟨n1, rfl, rfl, rfl, w1⟩ := open_int Tryz.underlying3 (hval 1 3 v1 rfl rfl) h1
 obtain ⟨lo1, hi1⟩ := bounds_i64 w1
 obtain ⟨n2, rfl, rfl, rfl, w2⟩ := open_int Tryz.underlying3 (hval 2 3 v2 rfl rfl) h2
 obtain ⟨lo2, hi2⟩ := bounds_i64 w2
 obtain ⟨n3, rfl, rfl, rfl, w3⟩ := open_int Tryz.underlying3 (hval 3 3 v3 rfl rfl) h3
 obtain ⟨lo3, hi3⟩ := bounds_i64 w3
 refine (law23_NearBuilds A0 l0 c0 n1 n2 n3 hn0 hc0 hb0 lo1 hi1 lo2 hi2 lo3 hi3 W hl0 (tab_laid (by kernel_rfl) hL)).mono fun e W' ⟨he, hg⟩ => ?_
 exact ⟨_, he, law_post hW' rfl rfl rfl rfl (by kernel_rfl) params_ok hg⟩
def wit : Array Value := #[.slice none 0 0, .int .i64 0, .int .i64 0, .int .i64 0]
theorem laid_met (os : Os) : laidMet Tryz.prog Rows.nearBuildsRow.laid ((laidWorld os).forCall (fun _ _ => 0) ⟨#[], wit, []⟩).memory :=
 laidMet_of_run' 8 (by kernel_rfl) (by kernel_rfl)
theorem reads (os : Os) {H : Type} (enc : TypeId × Value → H) : ∃ places, DataW.whole enc Tryz.prog ((laidWorld os).forCall (fun _ _ => 0) ⟨#[], wit, []⟩).memory Tryz.f7.params.toList Rows.nearBuildsSpec.vars false wit.toList 8 = some ([.nil, .lit (.int .i64 0), .lit (.int .i64 0), .lit (.int .i64 0)], [], places) :=
 ⟨[], by kernel_rfl⟩
set_option maxRecDepth 100000 in
theorem lifted (os : Os) (started : os.Started) (H : Type) (enc : TypeId × Value → H) (F : Stop.Interp) :
  ReturnsInHanded {} Tryz.checked os 7 .any ((OpenSpec.ofChange Rows.nearBuildsSpec).preRow enc Tryz.prog Tryz.f7 Rows.nearBuildsRow.domain false Rows.nearBuildsRow.laid) (((OpenSpec.ofChange Rows.nearBuildsSpec).at F).post enc Tryz.prog Tryz.f7 false true false false) := by
 obtain ⟨places, hx⟩ := reads os enc
 refine returnsInHanded_of_row (C := Tryz.checked) (s := OpenSpec.ofChange Rows.nearBuildsSpec) ownK started (by kernel_rfl) Tryz.func7
  (witness_row_at (enc := enc) (C := Tryz.checked) false (laidWorld os) wit rfl (by kernel_rfl) (by kernel_rfl) (by kernel_rfl)
   (OpenSpec.preRow_of_cond 8 hx (by kernel_rfl) (fun k hk => by cases hk) (by kernel_rfl) (laid_met os))) ?_
 intro W base args ds gs before hval hW _ _ _ hL _ _
 exact contract H enc W base args ds gs before hval hW hL
theorem said : Rows.NearBuildsSaid :=
 OpenClaim.holds_of_cond 7 Tryz.f7 rfl rfl rfl rfl rfl rfl rfl ⟨rfl, rfl, rfl, rfl, rfl⟩ rfl rfl rfl rfl rfl (by kernel_rfl) Tryz.func7 (by kernel_rfl)
  (of_decide_eq_true (by kernel_rfl)) (by unfold Func.isWrapper; first | (rw [if_pos (by decide +kernel)]; kernel_rfl) | (rw [if_neg (by decide +kernel)]; exact ⟨rfl, rfl⟩))
  (fun os started H enc _ F => by rw [OpenClaim.pre_eq_preRow]; exact lifted os started H enc F)
theorem plain (f : FuncId) (fn : Func) (hf : Tryz.pinned.checked.prog.funcNamed Rows.nearBuildsRow.func = some f) (hfn : Tryz.pinned.checked.prog.funcs[f]? = some fn) :
  false = Tryz.pinned.checked.prog.looks [] ∧ ∀ (j : Nat) t, fn.params[j]? = some t → Tryz.pinned.checked.prog.wantsStandIn t = false := by
 obtain rfl : f = 7 := Option.some.inj ((show Tryz.prog.funcNamed Rows.nearBuildsRow.func = some 7 by kernel_rfl).symm.trans hf) |>.symm
 obtain rfl : fn = Tryz.f7 := (Option.some.inj (Tryz.func7.symm.trans hfn)).symm
 refine ⟨by kernel_rfl, fun j t ht => ?_⟩
 have h : (Tryz.f7.params.toList.all fun t => !Tryz.prog.wantsStandIn t) = true := by kernel_rfl
 have := List.all_eq_true.1 h t (Array.mem_toList_iff.2 (Array.mem_of_getElem? ht))
 have h2 : Tryz.prog.wantsStandIn t = false := by simpa using this
 exact h2
theorem card : Rows.NearBuildsCardSaid :=
 Claim7.holds_tied_plain_at .later [] _ _ _ _ said (fun _ h => by cases h) (by kernel_rfl) (fun _ h => by cases h) nearBuilds_row_tie rfl ⟨rfl, rfl⟩ (by kernel_rfl) rfl plain (by kernel_rfl)
end Go.Proofs.YtjmopgepnndckaaGreatDoor.nearBuilds
namespace Go.Proofs.YtjmopgepnndckaaGreatDoor
theorem nearBuilds_holds : Rows.NearBuildsCardSaid := nearBuilds.card
#print axioms nearBuilds_holds
end Go.Proofs.YtjmopgepnndckaaGreatDoor
