/-
  Contracts and laws: NearBu.
-/
import Derived.Test.YtjmopgepnndckaaGreatDoorO39
import Derived.Test.YtjmopgepnndckaaGreatDoorO40
set_option linter.unusedSimpArgs false
set_option linter.unusedVariables false
namespace Go.Proofs.YtjmopgepnndckaaGreatDoor
open Go Go.RowKit Go.Shelf
theorem near_grow (b99 D n L : Nat) (RA : Option Addr) (RC : Nat) (rs : List Rq) (w0 : World) (hbD : b99 < D) (hn : rs.length = n) (hn0 : 0 < n) (hn2 : n ≤ 100000) (hL1 : 1 ≤ L) (hL2 : L ≤ 100000) (hrl : ∀ r ∈ rs, r.2.2.length = L) (s : Nat) (hs : ∀ r ∈ rs, ∀ x ∈ r.2.2, qs x ≤ s) (hBz : 2 * s + 1 ≤ BIG) (hX : ∀ W, AgD b99 D w0 W → Lrq W RA rs)
  (m : Nat) : GrowOK b99 D n L RA RC (rs.map (·.2.2)) w0 m := by
 induction m using Nat.strongRecOn with
 | ind m ih => exact near_grow_step b99 D n L RA RC rs w0 hbD hn hn0 hn2 hL1 hL2 hrl s hs hBz hX m ih
theorem newObj_Tree (d : Option Tmp) (ty : TypeId) (pos : String) (af : Array Edge) (gd : Option (Nat × Bool)) : newObj Tryz.prog ⟨d, .alloc 79, ty, pos, af, gd⟩ = .cells #[.slice none 0 0, .slice none 0 0] 79 := by kernel_rfl
theorem newObj_RTree (d : Option Tmp) (ty : TypeId) (pos : String) (af : Array Edge) (gd : Option (Nat × Bool)) : newObj Tryz.prog ⟨d, .alloc 72, ty, pos, af, gd⟩ = .cells #[.slice none 0 0, .slice none 0 0] 72 := by kernel_rfl
theorem newObj_Node (d : Option Tmp) (ty : TypeId) (pos : String) (af : Array Edge) (gd : Option (Nat × Bool)) : newObj Tryz.prog ⟨d, .alloc 88, ty, pos, af, gd⟩ = .cells #[.int .i64 0, .int .i64 0, .int .i64 0, .int .i64 0] 88 := by kernel_rfl
theorem newObj_RNode (d : Option Tmp) (ty : TypeId) (pos : String) (af : Array Edge) (gd : Option (Nat × Bool)) : newObj Tryz.prog ⟨d, .alloc 118, ty, pos, af, gd⟩ = .cells #[.int .i64 0, .int .i64 0, .int .i64 0, .int .i64 0] 118 := by kernel_rfl
theorem allocsT : ∀ t ∈ [45, 47, 49, 79, 72, 88, 118], AllocT Tryz.prog t := by
 intro t ht
 simp only [List.mem_cons, List.not_mem_nil, or_false] at ht
 rcases ht with rfl | rfl | rfl | rfl | rfl | rfl | rfl
 ·exact fun _ _ _ _ _ _ => by rw [newObj_Nat]; kernel_rfl
 ·exact fun _ _ _ _ _ _ => by rw [newObj_Int]; kernel_rfl
 ·exact fun _ _ _ _ _ _ => by rw [newObj_Q]; kernel_rfl
 ·exact fun _ _ _ _ _ _ => by rw [newObj_Tree]; kernel_rfl
 ·exact fun _ _ _ _ _ _ => by rw [newObj_RTree]; kernel_rfl
 ·exact fun _ _ _ _ _ _ => by rw [newObj_Node]; kernel_rfl
 ·exact fun _ _ _ _ _ _ => by rw [newObj_RNode]; kernel_rfl
/-- slices.Clone of fractions: a row of the call's own -/
theorem slices_CloneQO (A : Option Addr) (c n : Nat) (l : List Rat) (hn : n = l.length) (hn0 : 0 < n) (hm : n ≤ 1099511627776) (w : World) (h : Lq w A l) :
  Calls Tryz.prog 65 #[.slice A n c] w fun e w' => ∃ v, e = .returned v ∧ w'.ownsRow w.heap.size 49 5 v n (l.flatMap qL) ∧ Grow w w' := by
 obtain ⟨b, off, rfl, hb, hc⟩ := h (fun e => by rw [e] at hn; simp at hn; omega)
 obtain ⟨-, ⟨i0, z, hi, hz, h1, h2, h3⟩, -⟩ := ei_Q
 refine (AnyE.slices_Clone Tryz.cloneQ i0 z 5 56 hi hz h1 h2 h3 (by omega) Tryz.sizeOf49 b off n c (l.flatMap qL) w (by rw [flatq_len]; omega) (by unfold maxLen; omega) (by omega) ?_ ?_).mono ?_
 ·intro t u hu
  have htl := (List.getElem?_eq_some_iff.1 hu).1
  rw [flatq_len] at htl
  have hq : l[t / 5]? = some (l[t / 5]'(by omega)) := List.getElem?_eq_getElem (by omega)
  have h6 := flatq_at l hq (j := t % 5) (by omega)
  rw [show t / 5 * 5 + t % 5 = t by omega, hu] at h6
  have h7 := hc _ _ hq _ _ h6.symm
  rwa [show off + t / 5 * 5 + t % 5 = off + t by omega] at h7
 ·intro u hu
  obtain ⟨q, -, hq⟩ := List.mem_flatMap.1 hu
  simp [qL] at hq
  rcases hq with rfl | rfl | rfl | rfl | rfl <;> rfl
 ·rintro e w' ⟨v', rfl, ho, hne, hg⟩
  exact ⟨v', rfl, ho, hg⟩
theorem RowsQ.kept' {B0 : Nat} {u w' : World} {B : Nat} {e : TypeId} {size n : Nat} {v : Value} {xs : List Value} {rs : List Rq} (hl : RowsQ B0 u rs) (h : u.ownsRow B e size v n xs) (ht : e ≠ 49) (hg : u.grownBy w' v.ownBlock) : RowsQ B0 w' rs := fun r hr => by
 have h2 := hl r hr
 refine h2.kept hg ?_
 cases hb : (rqRow r).ownBlock with
 | none => exact .inl rfl
 | some g => exact .inr fun e1 => apart_types h h2 ht g e1.symm hb
/-- rows of two types: the one is kept where the other is written -/
theorem own_other {u w' : World} {B B0 : Nat} {e e0 : TypeId} {size size0 n n0 : Nat} {v v0 : Value} {xs xs0 : List Value} (h0 : u.ownsRow B0 e0 size0 v0 n0 xs0) (h : u.ownsRow B e size v n xs) (ht : e ≠ e0) (hg : u.grownBy w' v.ownBlock) : w'.ownsRow B0 e0 size0 v0 n0 xs0 := by
 refine h0.kept hg ?_
 cases hb : v0.ownBlock with
 | none => exact .inl rfl
 | some g => exact .inr fun e1 => apart_types h h0 ht g e1.symm hb
theorem RowsQ.over {B0 b i : Nat} {u u' : World} {vs : List Value} {rs : List Rq} (hl : RowsQ B0 u rs) (hb : b < B0) (hu : putAll u b i vs = u') : RowsQ B0 u' rs := fun r hr => own_over (hl r hr) (fun e => by have := ((hl r hr).lt b e).1; omega) hu
theorem own_agd {b99 : Nat} {e : TypeId} {size n : Nat} {v : Value} {xs : List Value} {u W : World} (h : u.ownsRow (b99 + 1) e size v n xs) (hA : AgD b99 u.heap.size u W) : W.ownsRow (b99 + 1) e size v n xs := by
 obtain ⟨h0, h1 | ⟨g, cap, cur, e1, hb, hh, hn, hc, hz, ht⟩⟩ := h
 ·exact ⟨h0, .inl h1⟩
 ·exact ⟨h0, .inr ⟨g, cap, cur, e1, hb, (hA.2 g hb (heap_lt hh)).trans hh, hn, hc, hz, ht⟩⟩
theorem lrq_agd {b99 n RC : Nat} {RA : Option Addr} {rs : List Rq} {u W : World} (hr : RowsQ (b99 + 1) u rs) (ho : u.ownsRow (b99 + 1) 35 1 (.slice RA n RC) n (rs.map rqRow)) (hA : AgD b99 u.heap.size u W) : Lrq W RA rs := by
 obtain ⟨A, c, e, -, hL, -⟩ := own_lrq (own_agd ho hA) (fun r h => own_agd (hr r h) hA)
 cases e
 exact hL
theorem kep_own {S : Nat → Prop} {u w : World} {B n k : Nat} {e : TypeId} {v : Value} {xs : List Value} (h : KepS S u w) (ho : u.ownsRow B e k v n xs) (hs : ∀ b, v.ownBlock = some b → ¬ S b) : w.ownsRow B e k v n xs := by
 obtain ⟨h0, h1 | ⟨g, cap, cur, e1, hb, hh, hn, hc, hz, ht⟩⟩ := ho
 ·exact ⟨h0, .inl h1⟩
 ·refine ⟨h0, .inr ⟨g, cap, cur, e1, hb, (h.block g (heap_lt hh) (hs g ?_)).trans hh, hn, hc, hz, ht⟩⟩
  rw [e1]
  rfl
/-- a tree of a call's own -/
structure TreeO (B n : Nat) (R N : Ax) (rs : List Rq) (ns : List NdT) (W : World) : Prop where
 rows : RowsQ B W rs
 row : W.ownsRow B 35 1 (.slice R.1 n R.2) n (rs.map rqRow)
 nodes : W.ownsRow B 88 4 (.slice N.1 n N.2) n (ns.flatMap ndL)
theorem TreeO.grow {B n : Nat} {R N : Ax} {rs : List Rq} {ns : List NdT} {W W' : World} (h : TreeO B n R N rs ns W) (hg : Grow W W') : TreeO B n R N rs ns W' := ⟨h.rows.grow hg, own_grow' h.row hg, own_grow' h.nodes hg⟩
theorem TreeO.mono {B B' n : Nat} {R N : Ax} {rs : List Rq} {ns : List NdT} {W : World} (h : TreeO B n R N rs ns W) (hb : B' ≤ B) : TreeO B' n R N rs ns W := ⟨fun r hr => (h.rows r hr).mono hb, h.row.mono hb, h.nodes.mono hb⟩
theorem TreeO.over {B n b i : Nat} {R N : Ax} {rs : List Rq} {ns : List NdT} {W W' : World} {vs : List Value} (h : TreeO B n R N rs ns W) (hb : b < B) (hu : putAll W b i vs = W') : TreeO B n R N rs ns W' :=
 ⟨h.rows.over hb hu, own_over h.row (fun e => by have := (h.row.lt b e).1; omega) hu, own_over h.nodes (fun e => by have := (h.nodes.lt b e).1; omega) hu⟩
theorem TreeO.kep {B n : Nat} {R N : Ax} {rs : List Rq} {ns : List NdT} {S : Nat → Prop} {W W' : World} (h : TreeO B n R N rs ns W) (hk : KepS S W W') (hs : ∀ b, B ≤ b → ¬ S b) : TreeO B n R N rs ns W' :=
 ⟨fun r hr => kep_own hk (h.rows r hr) (fun b hb => hs b ((h.rows r hr).lt b hb).1), kep_own hk h.row (fun b hb => hs b (h.row.lt b hb).1), kep_own hk h.nodes (fun b hb => hs b (h.nodes.lt b hb).1)⟩
/-- the first numbers, the others nothing -/
def fillI (n i : Nat) : List Int := (List.range n).map fun j => if j < i then (j : Int) else 0
theorem fillI_len (n i : Nat) : (fillI n i).length = n := by unfold fillI; simp
theorem fillI_start (n : Nat) : fillI n 0 = List.replicate n 0 := by
 unfold fillI
 apply List.ext_getElem
 ·simp
 ·intro i h1 h2; simp
theorem fillI_end (n : Nat) : fillI n n = ints (List.range n) := by
 unfold fillI ints
 refine List.map_congr_left fun j hj => ?_
 rw [if_pos (List.mem_range.1 hj)]
theorem fillI_set {n i : Nat} (h : i < n) : (fillI n i).set i (i : Int) = fillI n (i + 1) := by
 unfold fillI
 apply List.ext_getElem
 ·simp
 ·intro j h1 h2
  rw [List.getElem_set]
  simp only [List.getElem_map, List.getElem_range]
  by_cases e : i = j
  ·subst e; simp
  ·rw [if_neg e]
   by_cases hj : j < i
   ·rw [if_pos hj, if_pos (by omega)]
   ·rw [if_neg hj, if_neg (by omega)]
abbrev iv (l : List Int) : List Value := l.map fun x => Value.int .i64 x
theorem own_made_I {u v : World} {B n : Nat} (hB : B ≤ u.heap.size) (hn : n ≤ 1048576) (hv : u.alloc (.cells (cellsI (List.replicate n 0)) 3) = v) : v.ownsRow B 3 1 (.slice (some ⟨u.heap.size, 0, none⟩) n n) n (iv (List.replicate n 0)) := by
 subst hv
 have h := World.ownsRow_lit (base := B) (e := 3) (size := 1) u (cellsI (List.replicate n 0)) n hB (by unfold maxLen; omega) (by simp [cellsI])
 simpa [cellsI] using h
set_option maxHeartbeats 8000000 in
set_option maxRecDepth 100000 in
theorem near_Build_ok (A : Option Addr) (rs : List Rq) (n Lw c : Nat) (hn : rs.length = n) (hn1 : 1 ≤ n) (hn2 : n ≤ 300) (hL1 : 1 ≤ Lw) (hL2 : Lw ≤ 20) (hrl : ∀ r ∈ rs, r.2.2.length = Lw) (s : Nat) (hs : ∀ r ∈ rs, ∀ x ∈ r.2.2, qs x ≤ s) (hBz : 2 * s + 1 ≤ BIG) (w : World) (h : Lrq w A rs) :
  Calls Tryz.prog 34 #[.slice A n c] w (RetY (fun x : (Ax × Ax) × List Rq => .tuple #[.agg #[.slice x.1.1.1 n x.1.1.2, .slice x.1.2.1 n x.1.2.2], .int .i64 0])
   (fun x W => TreeO w.heap.size n x.1.1 x.1.2 x.2 (flatT (growT (rs.map (·.2.2)) Lw (List.range n) 0) 0) W ∧ x.2.map (·.2.2) = rs.map (·.2.2)) w) := by
 obtain ⟨bb, ob, rfl⟩ := h.addr (by omega)
 have hval : ∀ W, Grow w W → Calls Tryz.prog 49 #[.slice (some ⟨bb, ob, none⟩) n c] W fun e w' => e = .returned (.bool true) ∧ Grow W w' := fun W hg => near_valid_ok (some ⟨bb, ob, none⟩) rs n Lw c hn hn1 hn2 hL1 hL2 hrl W (h.grow hg)
 have hrow : ∀ i, i < n → ∃ (r : Rq), rs[i]? = some r ∧ r.2.2.length = Lw ∧ (∀ W, Grow w W → W.cell? ⟨bb, ob + i, none⟩ = some (.slice r.1 Lw r.2.1) ∧ Lq W r.1 r.2.2) := fun i hi => by
  have hil : i < rs.length := by omega
  refine ⟨rs[i], List.getElem?_eq_getElem hil, hrl _ (List.getElem_mem hil), fun W hg => ?_⟩
  have h3 := (h.grow hg).read (List.getElem?_eq_getElem hil)
  rw [hrl _ (List.getElem_mem hil)] at h3
  exact h3
 have hgr := fun (b99 D RC : Nat) (RA : Option Addr) (rs' : List Rq) (u : World) (hbD : b99 < D) (he : rs'.map (·.2.2) = rs.map (·.2.2)) (hX : ∀ W, AgD b99 D u W → Lrq W RA rs') => near_grow b99 D n Lw RA RC rs' u hbD (by have := congrArg List.length he; rw [List.length_map, List.length_map] at this; rw [this, hn]) hn1 (by omega) hL1 (by omega) (fun r hr => by
  have h1 : r.2.2 ∈ rs.map (·.2.2) := by rw [← he]; exact List.mem_map_of_mem (f := fun r : Rq => r.2.2) hr
  obtain ⟨z, hz, e⟩ := List.mem_map.1 h1
  rw [← e]
  exact hrl z hz) s (fun r hr => by
  have h1 : r.2.2 ∈ rs.map (·.2.2) := by rw [← he]; exact List.mem_map_of_mem (f := fun r : Rq => r.2.2) hr
  obtain ⟨z, hz, e⟩ := List.mem_map.1 h1
  rw [← e]
  exact hs z hz) hBz hX n
 have hni : (0 : Int) < (n : Int) := by omega
 have hmk := make_int n (by omega) (n : Int) rfl
 obtain ⟨X, hXe⟩ : ∃ X, X = rs.map (·.2.2) := ⟨_, rfl⟩
 rw [← hXe]
 simp only [← hXe] at hgr
 have Hval := Lib.hid hval
 have Hrow := Lib.hid hrow
 have Hgr := Lib.hid hgr
 have Hmk := Lib.hid hmk
 have HXe := Lib.hid hXe
 have Hn := Lib.hid hn
 clear hval hrow hgr hmk h hs hrl hBz hn hXe
 go_enter Tryz.func34, Tryz.ntmps34
 refine en1 ?_
 intro u hG b2 hB hF
 refine wp_seq ?_
 refine wp_seq (rsE allocsT [0, 1, 0] hB hG fun L hL => ?_)
 refine gs ?_
 refine gmd (C := fun v ⟨hgu, hB, hG, _⟩ => Hval.out _ hG) ?_
 refine gs ?_
 refine geT hL ?_
 clear hB hG hL L
 rintro u ⟨-, hB, hG, -⟩
 refine wp_cond_false (rfl) ?_
 refine wp_skip ?_
 refine then_norm ?_
 refine wp_seq (rsE allocsT [2] hB hG fun L hL => ?_)
 refine gaa (newObj_Tree _ _ _ _ _) fun b4 hb4 hn4 => ?_
 replace hF := hF.n1 [] hB hG hb4 hn4
 have hl2 := hB.head.lt
 refine geT hL ?_
 clear hB hG hL L
 rintro u ⟨⟨hgu, hB, hG, -⟩, h4⟩
 replace hB := hB.cons' h4
 clear h4
 have hb42 : b2 < b4 := by omega
 clear hl2
 clear hb4 hn4
 clear hgu
 refine wp_seq ?_
 have hmk := Hmk.out
 have l4 := hB.head.lt
 refine wp_r0 ?_
 intro K hN
 go_wp2_with fail
 generalize hv : World.alloc u _ = v
 have hrow := own_made_I (B := b4 + 1) l4 (by omega) hv
 have hgv : Grow u v := hv ▸ Grow.alloc u _
 have hG2 := hG.trans hgv
 have hB2 := hB.grow hgv
 clear hv hG hB hmk hgv
 rw [← fillI_start n] at hrow
 have hb5 := l4
 generalize u.heap.size = g5 at hrow hb5 ⊢
 have Hb2 := Lib.hid (And.intro hb42 hb5)
 clear hb42 hb5
 have HI := Lib.hid hrow
 have hG := hG2
 have hB := hB2
 clear hrow hG2 hB2 l4
 obtain ⟨u, rfl⟩ : ∃ x, x = v := ⟨_, rfl⟩
 refine NoK.norm (hN _ _ ?_)
 clear hN K
 refine then_norm ?_
 refine wp_seq ?_
 refine r0T ?_
 refine wp_block ?_
 go_loopw [17] (fun s0 wr => ∃ (i : Nat) (rs' : List Rq) (RA : Option Addr) (RC : Nat), i ≤ n ∧ s0 = .int .i64 i ∧ rs'.map (·.2.2) = X.take i ∧ RowsQ (b4 + 1) wr rs' ∧ wr.ownsRow (b4 + 1) 35 1 (.slice RA i RC) i (rs'.map rqRow) ∧ wr.ownsRow (b4 + 1) 3 1 (.slice (some ⟨g5, 0, none⟩) n n) n (iv (fillI n i)) ∧ Bx wr [(b4, 79, #[.slice RA i RC, .slice none 0 0]), (b2, 79, #[.slice none 0 0, .slice none 0 0])] ∧ Grow w wr) (fun s0 _ => n - (intOf s0).toNat)
 case atStart => exact ⟨0, [], none, 0, Nat.zero_le _, rfl, rfl, RowsQ.nil _ _, World.ownsRow_nil _ _ _ _, HI.out, hB, hG⟩
 case round =>
  clear hB hG HI
  obtain ⟨i, rs', RA, RC, hi, rfl, hrs, hR, ho, hI, hB, hG⟩ := hrel
  obtain ⟨u, rfl⟩ : ∃ x, x = wr := ⟨_, rfl⟩
  have HR := Lib.hid hR
  have Ho := Lib.hid ho
  have HI := Lib.hid hI
  have Hrs := Lib.hid hrs
  clear hR ho hI hrs
  rcases Nat.lt_or_ge i n with hlt | hge
  ·have hdec : decide ((i : Int) < (n : Int)) = true := by simp; omega
   have hini : (i : Int) < (n : Int) := by omega
   obtain ⟨⟨Ar, cr, q⟩, hri, hql, hrd⟩ := Hrow.out i hlt
   simp only at hql hrd
   have hxs : X.take (i + 1) = X.take i ++ [q] := by
    rw [HXe.out, List.take_add_one, List.getElem?_map, hri]
    rfl
   have hclq : ∀ W, Grow w W → b4 + 1 ≤ W.heap.size → Calls Tryz.prog 65 #[.slice Ar Lw cr] W (RetY (fun x : Ax => .slice x.1 Lw x.2) (fun x W' => RowQ1 (b4 + 1) Lw q x W') W) := fun W hg hb =>
    (slices_CloneQO Ar cr Lw q hql.symm (by omega) (by omega) W (hrd W hg).2).mono fun e w' ⟨v, he, hv, hg'⟩ => by
     obtain ⟨g, cap, e9, -, -⟩ := own_slice hv (by omega)
     subst e9
     exact ⟨(some ⟨g, 0, none⟩, cap), he, ⟨hql, hv.mono hb⟩, hg'⟩
   have Hrd := Lib.hid (fun W hg => (hrd W hg).1)
   have Hxs := Lib.hid hxs
   have Hclq := Lib.hid hclq
   have Hfs := Lib.hid (fillI_set hlt)
   clear hri hql hrd hxs hclq
   refine r0T ?_
   refine wp_seq ?_
   refine wp_cond_true (rfl) ?_
   refine wp_skip ?_
   refine then_norm ?_
   refine wp_seq ?_
   refine wp_block ?_
   refine wp_seq ?_
   have q1 := Hrd.out u hG
   refine r0N ?_
   refine wp_seq ?_
   have c9 := HI.out.cellAt i (by omega)
   rw [List.getElem?_map, List.getElem?_eq_getElem (by rw [fillI_len]; exact hlt)] at c9
   have f9 := fun j => HI.out.frozenAt j
   have q1 := Hrd.out u hG
   refine r0N ?_
   clear c9 f9
   generalize hu0 : World.setCell u ⟨g5, i, none⟩ _ = u0
   obtain ⟨p1, p2⟩ := HI.out.stored i (.int .i64 (i : Nat))
   rw [hu0] at p1 p2
   have q9 : (iv (fillI n i)).set i (.int .i64 (i : Nat)) = iv (fillI n (i + 1)) := by
    rw [← Hfs.out]
    simp [iv, List.map_set]
   rw [q9] at p1
   have hb42 := Hb2.out
   have hB2 := Bx.grown_ hB p2 (fun e he hxe => by
    have e1 := Option.some.inj hxe
    simp only [List.mem_cons, List.not_mem_nil, or_false] at he
    rcases he with rfl | rfl
    ·simp only at e1; omega
    ·simp only at e1; omega)
   have hG2 : Grow w u0 := hG.grown p2 (fun j e => by have := Option.some.inj e; have := hF.1 b4 (by simp); omega)
   have HR2 := Lib.hid (RowsQ.kept' HR.out HI.out (by decide) p2)
   have Ho2 := Lib.hid (own_other Ho.out HI.out (by decide) p2)
   clear hB hG HR Ho HI p2 hu0 q9 hb42
   have hB := hB2
   have hG := hG2
   have HR := HR2
   have Ho := Ho2
   have HI := Lib.hid p1
   clear hB2 hG2 HR2 Ho2 p1
   obtain ⟨u, rfl⟩ : ∃ x, x = u0 := ⟨_, rfl⟩
   refine wp_rd (w := w) allocsT 5 [] [(0, 0), (0, 1), (0, 2), (1, 3), (1, 4)] (by kernel_rfl) (by kernel_rfl) (by simp only [List.drop_succ_cons, List.drop_zero]; exact rfl) (fun _ => True) noG hB hG trivial ?_
   intro K L hN hL
   simp only [pickOps, List.getElem?_toArray, List.getElem?_cons_zero, List.getElem?_cons_succ]
   refine gs ?_
   refine gxd (X := Ax) (fun x : Ax => .slice x.1 Lw x.2) (fun x W' => RowQ1 (b4 + 1) Lw q x W') (fun x u u' hg h => RowQ1.grow hg h) (fun x29 => ?_) (C := by (rintro v ⟨hgu, hB, hG, -⟩; exact Hclq.out _ hG (by have := hB.head.lt; omega)))
   refine gx Nat (fun b => .slice (some ⟨b, 0, none⟩) 1 1) (fun b W => Blk W b 35 #[.slice x29.1 Lw x29.2]) (fun b u u' hg h => h.grow hg) rfl ?_ (fun x30 => ?_)
   ·(rintro v ⟨⟨hgu, hB, hG, -⟩, hx29⟩ N hN; go_simp; exact hN v.heap.size _ (Blk.new v 35 #[.slice x29.1 Lw x29.2]) (Grow.alloc _ _))
   refine okf (by simp only [Act.put, List.setIfInBounds_toArray, List.set_cons_succ, List.set_cons_zero]; exact rfl) ?_
   refine gend ?_
   rintro v ⟨⟨⟨hgu, hB1, hG1, -⟩, hx29⟩, hx30⟩
   have HR2 := Lib.hid (RowsQ.grow HR.out hgu)
   have Ho2 := Lib.hid (own_grow' Ho.out hgu)
   have HI2 := Lib.hid (own_grow' HI.out hgu)
   clear HR Ho HI
   have HR := HR2
   have Ho := Ho2
   have HI := HI2
   clear HR2 Ho2 HI2
   clear hB hG
   have hB := hB1
   have hG := hG1
   clear hB1 hG1
   refine hL _ _ ?_
   clear hL L hgu
   obtain ⟨u, rfl⟩ : ∃ x, x = v := ⟨_, rfl⟩
   have r := hB.r
   simp only [BxR] at r
   have hl4 := hB.head.lt
   refine app_oneG ei_SSQ (b4 + 1) (.slice RA i RC) i (rs'.map rqRow) x30 [.slice x29.1 Lw x29.2] rfl rfl hx30 rfl rfl Ho.out (by omega) (by omega) hl4 fun v' w' g1 g2 g3 => ?_
   have HR2 := Lib.hid (RowsQ.snoc (RowsQ.kept' HR.out Ho.out (by decide) g2) ⟨hx29.1, own_other hx29.2 Ho.out (by decide) g2⟩)
   have HI2 := Lib.hid (own_other HI.out Ho.out (by decide) g2)
   have hB2 := Bx.grown_ hB g2 (fun e he hxe => by
    have e1 := (Ho.out.lt _ hxe.symm).1
    simp only [List.mem_cons, List.not_mem_nil, or_false] at he
    have hb42 := Hb2.out
    rcases he with rfl | rfl
    ·simp only at e1; omega
    ·simp only at e1; omega)
   have hG2 : Grow w w' := hG.grown g2 (fun j e => by have := (Ho.out.lt _ e).1; have := hF.1 b4 (by simp); omega)
   clear hB hG HR HI Ho g2 g3 hx30
   obtain ⟨gA, gC, e9, -, -⟩ := own_slice g1 (by omega)
   subst e9
   have hB := hB2
   have hG := hG2
   have HR := HR2
   have HI := HI2
   have Ho := Lib.hid g1
   clear hB2 hG2 HR2 HI2 g1
   have r := hB.r
   simp only [BxR] at r
   simp only [Act.put, List.setIfInBounds_toArray, List.set_cons_succ, List.set_cons_zero]
   go_wp2_with fail
   clear r
   generalize hu0 : World.setCell w' ⟨b4, 0, none⟩ _ = u0
   have hBG := over_n hB hF hG 0 rfl 0 [_] hu0
   have HR2 := Lib.hid (RowsQ.over (i := 0) (vs := [_]) HR.out (Nat.lt_succ_self b4) hu0)
   have HI2 := Lib.hid (own_over (i := 0) (vs := [_]) HI.out (fun e => by have := (HI.out.lt _ e).1; omega) hu0)
   have Ho2 := Lib.hid (own_over (i := 0) (vs := [_]) Ho.out (fun e => by have := (Ho.out.lt _ e).1; omega) hu0)
   clear hB hG HR HI Ho hu0
   obtain ⟨hB, hG⟩ := hBG
   have HR := HR2
   have HI := HI2
   have Ho := Ho2
   clear HR2 HI2 Ho2 w'
   obtain ⟨u, rfl⟩ : ∃ x, x = u0 := ⟨_, rfl⟩
   clear r
   skip
   refine NoK.norm (hN _ _ ?_)
   clear hN K
   refine blk_norm ?_
   refine then_norm ?_
   refine r0E ?_
   refine then_norm ?_
   go_roundw
   case rel => exact ⟨i + 1, rs' ++ [(x29.1, x29.2, q)], some ⟨gA, 0, none⟩, gC, by omega, by go_num, by rw [List.map_append, Hrs.out, Hxs.out]; rfl, HR.out, by have := Ho.out; rw [List.map_append]; simpa [rqRow, hx29.1] using this, HI.out, hB, hG⟩
   case measure => simp [intOf]; omega
  ·obtain rfl : n = i := by omega
   have hdec : decide ((n : Int) < (n : Int)) = false := by simp
   have hX2 : rs'.map (·.2.2) = X := by
    rw [Hrs.out]
    exact List.take_of_length_le (by rw [HXe.out, List.length_map, Hn.out]; exact Nat.le_refl _)
   have HX2 := Lib.hid hX2
   clear hX2
   refine r0T ?_
   refine wp_seq ?_
   refine wp_cond_false (rfl) ?_
   refine wp_exit ?_
   refine then_exit ?_
   refine then_exit ?_
   refine blk_exit ?_
   refine then_norm ?_
   refine wp_seq ?_
   have l4 := hB.head.lt
   have hLi : Li u (some ⟨g5, 0, none⟩) (ints (List.range n)) := by
    have h := HI.out
    rw [fillI_end] at h
    refine fun _ => ⟨g5, 0, rfl, (h.lt g5 rfl).2, fun i x hx => ?_⟩
    have hil := (List.getElem?_eq_some_iff.1 hx).1
    rw [Nat.zero_add, h.cellAt i (by simp at hil; omega), List.getElem?_map, hx]
    rfl
   refine wp_r0 ?_
   intro K hN
   go_wp2_with (go_at_call 66; refine (Hgr.out b4 u.heap.size RC RA rs' u l4 HX2.out (fun W hA => lrq_agd HR.out Ho.out hA) (List.range n) 0 (some ⟨g5, 0, none⟩) n [] none 0 0 u List.length_range hn1 (fun x hx => List.mem_range.1 hx) hL1 rfl (by omega) l4 ⟨Nat.le_refl _, fun k _ _ => rfl⟩ hLi hB.head (World.ownsRow_nil _ _ _ _)).mono ?_; rintro e w5 ⟨rfl, NA', NC', q1, q2, q3, q4⟩)
   refine NoK.norm (hN _ _ ?_)
   clear hN K
   rw [Nat.zero_add] at q1 q2
   rw [List.nil_append, HX2.out] at q2
   have hb42 := Hb2.out
   have hw4 := hF.1 b4 (by simp)
   have hS : ∀ b, b4 + 1 ≤ b → ¬ (b = b4 ∨ nbk none = some b) := fun b hb e => e.elim (fun e => by omega) (fun e => by cases e)
   have hTr : TreeO (b4 + 1) n (RA, RC) (NA', NC') rs' (flatT (growT X Lw (List.range n) 0) 0) w5 := ⟨fun r hr => kep_own q3 (HR.out r hr) (fun b hb => hS b ((HR.out r hr).lt b hb).1), kep_own q3 Ho.out (fun b hb => hS b (Ho.out.lt b hb).1), q2.mono l4⟩
   have hB2 : Bx w5 [(b4, 79, #[.slice RA n RC, .slice NA' n NC']), (b2, 79, #[.slice none 0 0, .slice none 0 0])] := Bx.cons q1 (Bx.cons (q3.blk hB.tail.head (fun e => e.elim (fun e => by omega) (fun e => by cases e))) (Bx.nil _))
   have hG2 : Grow w w5 := Below.trans hG ⟨q3.os, q3.tape, q3.output, q3.size, fun j hj => q3.block j (by have := hG.size; omega) (fun e => e.elim (fun e => by omega) (fun e => by cases e))⟩
   have HTr := Lib.hid hTr
   clear hB hG q1 q2 q3 q4 HR Ho HI hTr hLi l4 hS hb42
   have hB := hB2
   have hG := hG2
   clear hB2 hG2
   obtain ⟨u, rfl⟩ : ∃ x, x = w5 := ⟨_, rfl⟩
   refine then_norm ?_
   refine r0T ?_
   refine sv hB hF hG 1 0 [_, _] ?_
   intro u hu hBG
   have HTr2 := Lib.hid (TreeO.over HTr.out (by have := Hb2.out; omega) hu)
   clear HTr
   have HTr := HTr2
   clear HTr2
   clear hB hG hu
   obtain ⟨hB, hG⟩ := hBG
   refine rt Tryz.results34 ?_
   exact ⟨(((RA, RC), (NA', NC')), rs'), rfl, ⟨HTr.out.mono (by omega), HX2.out⟩, hG⟩
end Go.Proofs.YtjmopgepnndckaaGreatDoor
