/-
  Contracts and laws: NearSx NearSw.
-/
import Derived.Test.YtjmopgepnndckaaGreatDoorS48
set_option linter.unusedSimpArgs false
set_option linter.unusedVariables false
namespace Go.Proofs.YtjmopgepnndckaaGreatDoor
open Go Go.RowKit
/-- a block of a tree's own -/
def OwnT (n : Nat) (R N : Ax) (rs : List Rq) (g : Nat) : Prop := (Value.slice R.1 n R.2).ownBlock = some g ∨ (Value.slice N.1 n N.2).ownBlock = some g ∨ ∃ r, r ∈ rs ∧ (rqRow r).ownBlock = some g
theorem TreeO.lt' {B n : Nat} {R N : Ax} {rs : List Rq} {ns : List NdT} {W : World} (h : TreeO B n R N rs ns W) {g : Nat} (hg : OwnT n R N rs g) : B ≤ g ∧ g < W.heap.size := by
 rcases hg with e | e | ⟨r, hr, e⟩
 ·exact h.row.lt g e
 ·exact h.nodes.lt g e
 ·exact (h.rows r hr).lt g e
theorem TreeO.away {B n b i : Nat} {R N : Ax} {rs : List Rq} {ns : List NdT} {W W' : World} {vs : List Value} (h : TreeO B n R N rs ns W) (hb : ¬ OwnT n R N rs b) (hu : putAll W b i vs = W') : TreeO B n R N rs ns W' :=
 ⟨fun r hr => own_over (h.rows r hr) (fun e => hb (.inr (.inr ⟨r, hr, e⟩))) hu, own_over h.row (fun e => hb (.inl e)) hu, own_over h.nodes (fun e => hb (.inr (.inl e))) hu⟩
theorem own_has {u : World} {B g n cap k : Nat} {e : TypeId} {xs : List Value} (h : u.ownsRow B e k (.slice (some ⟨g, 0, none⟩) n cap) n xs) : ∃ cs, Blk u g e cs := by
 obtain ⟨_, h | ⟨g', cap', cur, e1, _, hh, _⟩⟩ := h
 ·exact absurd h.1 (by simp)
 ·cases e1
  exact ⟨cur, hh⟩
/-- the rows behind a write of x over the first fraction of the row at block g -/
def rowsP (g : Nat) (x : Rat) (rs : List Rq) : List Rq := rs.map fun r => if (rqRow r).ownBlock = some g then (r.1, r.2.1, r.2.2.set 0 x) else r
theorem rowsP_len (g : Nat) (x : Rat) (rs : List Rq) : (rowsP g x rs).length = rs.length := by unfold rowsP; rw [List.length_map]
theorem rowsP_row (g : Nat) (x : Rat) (rs : List Rq) : (rowsP g x rs).map rqRow = rs.map rqRow := by
 unfold rowsP
 rw [List.map_map]
 refine List.map_congr_left fun r _ => ?_
 show rqRow (if (rqRow r).ownBlock = some g then (r.1, r.2.1, r.2.2.set 0 x) else r) = rqRow r
 split
 ·show Value.slice r.1 (r.2.2.set 0 x).length r.2.1 = _
  rw [List.length_set]
 ·rfl
theorem rowsP_mem {g : Nat} {x : Rat} {rs : List Rq} {r' : Rq} (h : r' ∈ rowsP g x rs) : ∃ r, r ∈ rs ∧ r'.2.2.length = r.2.2.length ∧ ∀ y, y ∈ r'.2.2 → y = x ∨ y ∈ r.2.2 := by
 obtain ⟨r, hr, e⟩ := List.mem_map.1 h
 subst e
 refine ⟨r, hr, ?_⟩
 split
 ·exact ⟨List.length_set .., fun y hy => (List.mem_or_eq_of_mem_set hy).symm⟩
 ·exact ⟨rfl, fun y hy => .inr hy⟩
theorem RowsQ.putP {B g : Nat} {x : Rat} {rs : List Rq} {u : World} (h : RowsQ B u rs) (hL : ∀ r, r ∈ rs → 0 < r.2.2.length) : RowsQ B (putAll u g 0 (qL x)) (rowsP g x rs) := by
 intro r' hr'
 obtain ⟨r, hr, e⟩ := List.mem_map.1 hr'
 subst e
 have ho := h r hr
 split
 ·rename_i e
  obtain ⟨g', cap, e2, -, hc⟩ := own_slice ho (hL r hr)
  have e3 : g' = g := by
   rw [e2] at e
   exact Option.some.inj e
  subst e3
  have ho2 := ho
  rw [e2] at ho2
  have h3 := (own_put (enc := qL) (size := 5) (ps := r.2.2) (fun _ => rfl) ho2 0 x (hL r hr)).1
  rw [Nat.zero_mul, ← e2] at h3
  show World.ownsRow _ B 49 5 (.slice r.1 (r.2.2.set 0 x).length r.2.1) (r.2.2.set 0 x).length ((r.2.2.set 0 x).flatMap qL)
  rw [List.length_set]
  exact h3
 ·rename_i e
  exact own_over ho e rfl
theorem TreeO.putP {B n g : Nat} {x : Rat} {R N : Ax} {rs : List Rq} {ns : List NdT} {W W' : World} {cs : Array Value} (h : TreeO B n R N rs ns W) (hb : Blk W g 49 cs) (hL : ∀ r, r ∈ rs → 0 < r.2.2.length) (hu : putAll W g 0 (qL x) = W') : TreeO B n R N (rowsP g x rs) ns W' :=
 ⟨by subst hu; exact h.rows.putP hL, by rw [rowsP_row]; exact own_put_ne h.row hb (by decide) hu, own_put_ne h.nodes hb (by decide) hu⟩
/-- the first node's column is written -/
theorem TreeO.putC {B n g cap : Nat} {R : Ax} {rs : List Rq} {ns : List NdT} {W W' : World} (h : TreeO B n R (some ⟨g, 0, none⟩, cap) rs ns W) (hm : ns.length = n) (h0 : 0 < n) (v : Int) (hu : W.setCell ⟨g, 1, none⟩ (.int .i64 v) = W') :
  W.grownBy W' (some g) ∧ ∃ ns', ns'.length = n ∧ (ns'[0]?.map (·.c)) = some v ∧ TreeO B n R (some ⟨g, 0, none⟩, cap) rs ns' W' := by
 subst hu
 obtain ⟨cs, hb⟩ := own_has h.nodes
 obtain ⟨p1, p2⟩ := h.nodes.stored 1 (.int .i64 v)
 cases ns with
 | nil => exact absurd hm (by simp; omega)
 | cons x l =>
  exact ⟨p2, ⟨x.r, v, x.l, x.t⟩ :: l, hm, rfl, fun r hr => own_put_ne (vs := [.int .i64 v]) (i := 1) (h.rows r hr) hb (by decide) rfl, own_put_ne (vs := [.int .i64 v]) (i := 1) h.row hb (by decide) rfl, p1⟩
/-- where the first row lies -/
theorem rows_first {B N Lw : Nat} {W : World} {A : Option Addr} {rs : List Rq} (h : RowsQ B W rs) (hl : Lrq W A rs) (hN : rs.length = N) (h0 : 0 < N) (hL : ∀ r, r ∈ rs → r.2.2.length = Lw) (hL0 : 0 < Lw) :
  ∃ (ba oa g cap : Nat) (l : List Rat), A = some ⟨ba, oa, none⟩ ∧ l.length = Lw ∧ W.ownsRow B 49 5 (.slice (some ⟨g, 0, none⟩) Lw cap) Lw (l.flatMap qL) ∧ (∃ r, r ∈ rs ∧ (rqRow r).ownBlock = some g) ∧ ∀ W', Lrq W' A rs → W'.cell? ⟨ba, oa, none⟩ = some (.slice (some ⟨g, 0, none⟩) Lw cap) := by
 have hi : 0 < rs.length := by omega
 obtain ⟨ba, oa, e⟩ := hl.addr hi
 have hm := List.getElem_mem hi
 have hl1 := hL _ hm
 have ho := h _ hm
 obtain ⟨g, cap, e2, -, -⟩ := own_slice ho (by omega)
 subst e
 refine ⟨ba, oa, g, cap, rs[0].2.2, rfl, hl1, ?_, ⟨rs[0], hm, by rw [e2]; rfl⟩, fun W' hl' => ?_⟩
 ·rw [e2, hl1] at ho
  exact ho
 ·have h3 := (hl'.read (List.getElem?_eq_getElem hi)).1
  rw [Nat.add_zero] at h3
  rw [h3]
  have e4 : Value.slice rs[0].1 rs[0].2.2.length rs[0].2.1 = Value.slice (some ⟨g, 0, none⟩) rs[0].2.2.length cap := e2
  rw [hl1] at e4 ⊢
  rw [e4]
end Go.Proofs.YtjmopgepnndckaaGreatDoor
namespace Go.Proofs.YtjmopgepnndckaaGreatDoor
open Go Go.RowKit
theorem qs_98 : qs (qint 98) ≤ 1000 := by decide
theorem in_lrq {B n : Nat} {W : World} {R : Option Addr} {c : Nat} {rs : List Rq} (h : RowsQ B W rs) (h' : W.ownsRow B 35 1 (.slice R n c) n (rs.map rqRow)) : Lrq W R rs := by
 obtain ⟨A, c2, e, -, hL, -⟩ := own_lrq h' h
 cases e
 exact hL
set_option maxHeartbeats 16000000 in
set_option maxRecDepth 100000 in
theorem law23_NearStays (A : Option Addr) (la : List Int) (ca : Nat) (n wd same : Int) (hla : la.length ≤ 9223372036854775807) (hac : la.length ≤ ca) (hba : ∀ x ∈ la, -9223372036854775808 ≤ x ∧ x ≤ 9223372036854775807) (lo2 : -9223372036854775808 ≤ n) (hi2 : n ≤ 9223372036854775807) (lo3 : -9223372036854775808 ≤ wd) (hi3 : wd ≤ 9223372036854775807) (lo4 : -9223372036854775808 ≤ same) (hi4 : same ≤ 9223372036854775807)
  (w : World) (h1 : Li w A la) (HT : Tab w) :
  Calls Tryz.prog 6 #[.slice A la.length ca, .int .i64 n, .int .i64 wd, .int .i64 same] w fun e w' => e = .returned (.bool true) ∧ Grow w w' := by
 clear lo2 hi2 lo3 hi3 lo4 hi4
 obtain ⟨pa, hpa⟩ : ∃ p, p = la.length := ⟨_, rfl⟩
 rw [← hpa] at hac ⊢
 have hBB : 100000 ≤ BIG := by unfold BIG; omega
 have hLIM : LIM = 1099511627760 := rfl
 have rN := pick_range n (m := 12) (by omega)
 have rL := pick_range wd (m := 3) (by omega)
 obtain ⟨N, hN⟩ : ∃ N : Nat, pick n 12 = (N : Int) := ⟨(pick n 12).toNat, by omega⟩
 obtain ⟨Lw, hLw⟩ : ∃ Lw : Nat, pick wd 3 + 1 = (Lw : Int) := ⟨(pick wd 3 + 1).toNat, by omega⟩
 have hN11 : N ≤ 11 := by omega
 have hL1 : 1 ≤ Lw := by omega
 have hL3 : Lw ≤ 3 := by omega
 have hr : ∀ W, Grow w W → Calls Tryz.prog 12 #[.slice A pa ca, .int .i64 n, .int .i64 wd, .int .i64 same] W (RetY (fun x : Ax × List Rq => .slice x.1.1 N x.1.2) (fun x W => RowsOk N Lw x.2 ∧ Lrz W x.1.1 x.2) W) := fun W hg => law23_rows A la ca pa N Lw n wd same hpa hac hN hLw (by omega) hba W (h1.grow hg)
 have hir : ∀ (W : World) (X : Ax) (rs : List Rq), RowsOk N Lw rs → Lrz W X.1 rs → Tab W → Calls Tryz.prog 16 #[.slice X.1 N X.2] W (RetY (fun x : Ax × List Rq => .slice x.1.1 N x.1.2) (fun x W' => x.2.map (·.2.2) = rs.map (·.2.2) ∧ RowsQ W.heap.size W' x.2 ∧ W'.ownsRow W.heap.size 35 1 (.slice x.1.1 N x.1.2) N (x.2.map rqRow)) W) := fun W X rs hk hX hT =>
  (hand_InRows X.1 rs X.2 N hk.1.symm (by omega) (fun r hr => ⟨by have := (hk.2 r hr).1; omega, fun x hx => Nat.le_trans ((hk.2 r hr).2 x hx) (by omega)⟩) W hX hT).mono fun e w' ⟨v, rs', he, e1, e2, e3, hg'⟩ => by
   obtain ⟨A2, c2, rfl, -, -, -⟩ := own_lrq e3 e2
   exact ⟨((A2, c2), rs'), he, ⟨e1, e2, e3⟩, hg'⟩
 have Hr := Lib.hid hr
 have Hir := Lib.hid hir
 clear hLw hr hir h1 hba hpa hla hac rN rL hN
 go_enter Tryz.func6, Tryz.ntmps6
 refine en0 ?_
 intro u hG hB hF
 refine wp_seq (rsE allocsT [0, 0, 0, 0, 1, 0] hB hG fun L hL => ?_)
 refine gs ?_
 refine gxd (X := (Ax × List Rq)) (fun x : Ax × List Rq => .slice x.1.1 N x.1.2) (fun x W => RowsOk N Lw x.2 ∧ Lrz W x.1.1 x.2) (fun x u u' hg h => ⟨h.1, h.2.grow hg⟩) (fun x19 => ?_) (C := by (rintro v ⟨hgu, hB, hG, -⟩; exact Hr.out _ hG))
 refine gs ?_
 refine geT hL ?_
 clear hB hG hL L
 rintro u ⟨⟨hgu, hB, hG, -⟩, hx19⟩
 have HX := Lib.hid hx19
 clear hx19
 clear hgu
 have HG0 := Lib.hid hG
 clear hB hF hG
 obtain ⟨w0, rfl⟩ : ∃ x, x = w := ⟨_, rfl⟩
 obtain ⟨w, hwu⟩ : ∃ x, x = u := ⟨_, rfl⟩
 rw [← hwu] at HG0 HX
 have hB := Bx.nil u
 have hF := Fr.nil w
 have hG : Grow w u := hwu ▸ Grow.refl u
 clear hwu
 obtain ⟨⟨RA, RC⟩, rs⟩ := x19
 obtain ⟨hok, hLx⟩ := HX.out
 simp only at hok hLx
 have HT' := HT.grow HG0.out
 have HRZ := Lib.hid hLx
 have Hok := Lib.hid hok
 clear HT HX Hr hLx hok
 have HT := HT'
 clear HT'
 refine wp_seq ?_
 have Hi2 := Lib.hid (fun W (hg : Grow w W) hT => Hir.out W (RA, RC) rs Hok.out (HRZ.out.grow hg) hT)
 clear Hir
 rcases Nat.eq_zero_or_pos N with hN0 | hN0
 ·subst hN0
  have Hle := Lib.hid (fun W => ref10_Learn_no RA RC W)
  refine wp_seq (rsE allocsT [0, 1, 0] hB hG fun L hL => ?_)
  refine gs ?_
  refine gmw (C := fun v => Hle.out _) ?_
  refine gs ?_
  refine geT hL ?_
  clear hB hG hL L
  rintro u ⟨-, hB, hG, -⟩
  refine wp_cond_true (rfl) ?_
  refine wp_seq (rsE allocsT [1, 0] hB hG fun L hL => ?_)
  refine gmd (C := fun v ⟨hgu, hB, hG, _⟩ => law23_known _ (HT.grow hG)) ?_
  refine gs ?_
  refine geT hL ?_
  clear hB hG hL L
  rintro u ⟨-, hB, hG, -⟩
  refine rt Tryz.results6 ?_
  exact ⟨rfl, HG0.out.trans hG⟩
 ·have hok := Hok.out
  have hNi : (0 : Int) < (N : Int) := by omega
  have hLi : (0 : Int) < (Lw : Int) := by omega
  have hL0 : 0 < Lw := by omega
  have hLd : decide (0 < Lw) = true := by simp; omega
  have fNN : ((N : Int) != (N : Int)) = false := by simp
  obtain ⟨X, hXe⟩ : ∃ X, X = rs.map (·.2.2) := ⟨_, rfl⟩
  have hXl : X.length = N := by rw [hXe, List.length_map]; exact hok.1
  have b1 := (built_ok X Lw (by omega) (by omega)).1
  rw [hXl] at b1
  have hfl : (flatT (growT X Lw (List.range N) 0) 0).length = N := by rw [flatT_len, growT_size, List.length_range]
  obtain ⟨ns, hns⟩ : ∃ l, l = flatT (growT X Lw (List.range N) 0) 0 := ⟨_, rfl⟩
  rw [← hns] at b1 hfl
  have hcol : (ns[0]?.map (·.c)) ≠ some 7 := fun h => by
   obtain ⟨nd, e1, e2⟩ := Option.map_eq_some_iff.1 h
   have := (check_fine b1).1 nd (List.mem_of_getElem? e1)
   omega
  have hle := fun W (hg : Grow w W) => ref10_Learn_ok RA rs N Lw RC hok.1 hN0 (by omega) hL1 (by omega) (fun r hr => (hok.2 r hr).1) W (HRZ.out.grow hg)
  have hnb : ∀ W (Y : Ax) (rs' : List Rq), rs'.map (·.2.2) = X → Lrq W Y.1 rs' → Calls Tryz.prog 34 #[.slice Y.1 N Y.2] W (RetY (fun x : (Ax × Ax) × List Rq => .tuple #[.agg #[.slice x.1.1.1 N x.1.1.2, .slice x.1.2.1 N x.1.2.2], .int .i64 0]) (fun x W' => TreeO W.heap.size N x.1.1 x.1.2 x.2 ns W' ∧ x.2.map (·.2.2) = X) W) := fun W Y rs' he hY => by
   have hk := rowsOk_of hok (rs' := rs') (he.trans hXe)
   have h := near_Build_ok Y.1 rs' N Lw Y.2 hk.1 hN0 (by omega) hL1 (by omega) (fun r hr => (hk.2 r hr).1) 50 (fun r hr => (hk.2 r hr).2) (by omega) W hY
   rw [he, ← hns] at h
   exact h
  have hrb : ∀ W, Grow w W → Calls Tryz.prog 28 #[.slice RA N RC] W (RetY (fun x : Ax => treeV (RA, RC) N x N) (fun x W => W.ownsRow w.heap.size 118 4 (.slice x.1 N x.2) N (ns.flatMap ndL)) W) := fun W hg => by
   have h := ref22_Build RA rs N Lw RC hok.1 hN0 (by omega) hL1 (by omega) (fun r hr => (hok.2 r hr).1) 50 (fun r hr => (hok.2 r hr).2) (by omega) W (HRZ.out.grow hg)
   rw [← hXe, ← hns] at h
   exact h.mono fun e w' ⟨x, h1, h2, h3⟩ => ⟨x, h1, h2.mono hg.size, h3⟩
  have hst : ∀ W (R1 N1 N2 : Ax) (rs' : List Rq), Grow w W → rs'.map (·.2.2) = X → Lrq W R1.1 rs' → Le ndL 4 W N1.1 ns → Le ndL 4 W N2.1 ns → Calls Tryz.prog 37 #[treeV R1 N N1 N, treeV (RA, RC) N N2 N] W fun e w' => e = .returned (.bool true) ∧ Grow W w' := fun W R1 N1 N2 rs' hg he h1 h2 h3 => by
   have hk := rowsOk_of hok (rs' := rs') (he.trans hXe)
   exact law23_sameTree R1 N1 (RA, RC) N2 rs' rs N Lw N ns hk.1 (by rw [he, hXe]) (by omega) (by omega) (fun r hr => (hk.2 r hr).1) (fun r hr x hx => Nat.le_trans ((hk.2 r hr).2 x hx) (by omega)) hfl (by omega) W h1 (HRZ.out.grow hg) h2 h3
  have hsm : ∀ W (Ra Na Rb Nb : Ax) (rsa rsb : List Rq) (nsb : List NdT), rsa.map (·.2.2) = X → rsb.length = N → nsb.length = N → (∀ r, r ∈ rsb → r.2.2.length = Lw) → (∀ r, r ∈ rsb → ∀ x, x ∈ r.2.2 → qs x ≤ 1000) → Lrq W Ra.1 rsa → Lrq W Rb.1 rsb → Le ndL 4 W Na.1 ns → Le ndL 4 W Nb.1 nsb → Calls Tryz.prog 36 #[treeV Ra N Na N, treeV Rb N Nb N] W fun e w' => e = .returned (.bool (decide (X = rsb.map (·.2.2)) && decide (ns = nsb))) ∧ Grow W w' := fun W Ra Na Rb Nb rsa rsb nsb he h1 h2 h3 h4 g1 g2 g3 g4 => by
   have hk := rowsOk_of hok (rs' := rsa) (he.trans hXe)
   rw [← he]
   exact near_Same Ra Na Rb Nb rsa rsb ns nsb N Lw hk.1 h1 hfl h2 (by omega) (fun r hr => (hk.2 r hr).1) h3 (by omega) 1000 (fun r hr x hx => Nat.le_trans ((hk.2 r hr).2 x hx) (by omega)) h4 (by omega) W g1 g2 g3 g4
  have hkr : ∀ rs' : List Rq, rs'.map (·.2.2) = X → rs'.length = N ∧ (∀ r, r ∈ rs' → r.2.2.length = Lw) ∧ ∀ r, r ∈ rs' → ∀ x, x ∈ r.2.2 → qs x ≤ 1000 := fun rs' he => by
   have hk := rowsOk_of hok (rs' := rs') (he.trans hXe)
   exact ⟨hk.1, fun r hr => (hk.2 r hr).1, fun r hr x hx => Nat.le_trans ((hk.2 r hr).2 x hx) (by omega)⟩
  rw [← hXe] at Hi2
  have Hnb := Lib.hid hnb
  have Hle := Lib.hid hle
  have Hrb := Lib.hid hrb
  have Hst := Lib.hid hst
  have Hsm := Lib.hid hsm
  have Hkr := Lib.hid hkr
  have Hcol := Lib.hid hcol
  have Hfl := Lib.hid hfl
  clear hnb hle hrb hst hsm hkr hcol b1 hns hfl hXe hXl hok
  refine wp_seq (rsE allocsT [0, 1, 0] hB hG fun L hL => ?_)
  refine gs ?_
  refine gmd (C := fun v ⟨hgu, hB, hG, _⟩ => Hle.out _ hG) ?_
  refine gs ?_
  refine geT hL ?_
  clear hB hG hL L
  rintro u ⟨-, hB, hG, -⟩
  refine wp_cond_false (rfl) ?_
  refine wp_skip ?_
  refine then_norm ?_
  refine wp_seq (rsE allocsT [0, 1, 0] hB hG fun L hL => ?_)
  refine gs ?_
  refine gxd (X := (Ax × List Rq)) (fun x : Ax × List Rq => .slice x.1.1 N x.1.2) (fun x W => x.2.map (·.2.2) = X ∧ RowsQ w.heap.size W x.2 ∧ W.ownsRow w.heap.size 35 1 (.slice x.1.1 N x.1.2) N (x.2.map rqRow)) (fun x u u' hg h => ⟨h.1, h.2.1.grow hg, own_grow' h.2.2 hg⟩) (fun x25 => ?_) (C := by (rintro v ⟨hgu, hB, hG, -⟩; exact (Hi2.out _ hG (HT.grow hG)).mono (fun e w' ⟨x, h1, ⟨h2, h3, h4⟩, h5⟩ => ⟨x, h1, ⟨h2, fun r hr => (h3 r hr).mono hG.size, h4.mono hG.size⟩, h5⟩)))
  refine gs ?_
  refine geT hL ?_
  clear hB hG hL L
  rintro u ⟨⟨hgu, hB, hG, -⟩, hx25⟩
  obtain ⟨⟨RI, RIc⟩, rsI⟩ := x25
  obtain ⟨hi1, hi2, hi3⟩ := hx25
  simp only at hi1 hi2 hi3
  obtain ⟨k1, k2, k3⟩ := Hkr.out rsI hi1
  obtain ⟨A9, c9, e9, -, hL9, -⟩ := own_lrq hi3 hi2
  cases e9
  obtain ⟨bI, oI, gI, cI, lI, e9, hlI, hoI, -, hrdI⟩ := rows_first hi2 hL9 k1 hN0 k2 (by omega)
  subst e9
  have HI := Lib.hid (And.intro hi2 hi3)
  have Hi1 := Lib.hid hi1
  have HgI := Lib.hid ((hoI.lt gI rfl).1)
  have HoI := Lib.hid hoI
  have HlI := Lib.hid hlI
  have HrI := Lib.hid hrdI
  clear hi1 hi2 hi3 k1 k2 k3 hL9 hoI hlI hrdI
  clear hgu
  refine wp_seq (rsC allocsT [0, 1, 0, 0, 0, 2] hB hG fun K L hN hL => ?_)
  refine gs ?_
  refine gxd (X := ((Ax × Ax) × List Rq)) (fun x : (Ax × Ax) × List Rq => .tuple #[.agg #[.slice x.1.1.1 N x.1.1.2, .slice x.1.2.1 N x.1.2.2], .int .i64 0]) (fun x W => (∃ B, gI < B ∧ TreeO B N x.1.1 x.1.2 x.2 ns W) ∧ x.2.map (·.2.2) = X) (fun x u u' hg h => ⟨h.1.elim fun B hB => ⟨B, hB.1, hB.2.grow hg⟩, h.2⟩) (fun x28 => ?_) (C := by (rintro v ⟨hgu, hB, hG, -⟩; exact (Hnb.out _ (some ⟨bI, oI, none⟩, RIc) rsI Hi1.out ((in_lrq HI.out.1 HI.out.2).grow hgu)).mono (fun e w' ⟨x, h1, ⟨h2, h3⟩, h4⟩ => ⟨x, h1, ⟨⟨_, ((own_grow' HoI.out hgu).lt gI rfl).2, h2⟩, h3⟩, h4⟩)))
  refine gs ?_
  refine gaa (newObj_Tree _ _ _ _ _) fun b11 hb11 hn11 => ?_
  replace hF := hF.n1 [] hB hG hb11 hn11
  refine geC hL ?_
  clear hB hG hL L
  rintro u ⟨⟨⟨hgu, hB, hG, -⟩, hx28⟩, h11⟩
  replace hB := hB.cons' h11
  clear h11
  obtain ⟨⟨⟨Ra, Rac⟩, ⟨Na, Nac⟩⟩, rsa⟩ := x28
  obtain ⟨⟨Ba, hBa, ht1⟩, ht2⟩ := hx28
  simp only at ht1 ht2
  have hi2 := HI.out.1.grow hgu
  have hi3 := own_grow' HI.out.2 hgu
  have ho2 := own_grow' HoI.out hgu
  clear HI HoI
  clear hb11 hn11
  clear hgu
  refine gtT ?_
  clear hN K
  refine sv hB hF hG 0 0 [_, _] ?_
  intro u hu hBG
  have ht3 := TreeO.put ht1 hB.head (by decide) (by decide) (by decide) hu
  have hi4 : RowsQ _ u rsI := fun r hr => own_put_ne (hi2 r hr) hB.head (by decide) hu
  have hi5 := own_put_ne hi3 hB.head (by decide) hu
  have ho3 := own_put_ne ho2 hB.head (by decide) hu
  clear ht1 hB hG hu hi2 hi3 ho2
  have Ha := Lib.hid ht3
  have HaX := Lib.hid ht2
  have HBa := Lib.hid hBa
  have HI := Lib.hid (And.intro hi4 hi5)
  have HoI := Lib.hid ho3
  clear ht3 ht2 hBa hi4 hi5 ho3
  obtain ⟨hB, hG⟩ := hBG
  refine wp_seq (rsC allocsT [0, 1, 0, 0, 0, 2] hB hG fun K L hN hL => ?_)
  refine gs ?_
  refine gxd (X := ((Ax × Ax) × List Rq)) (fun x : (Ax × Ax) × List Rq => .tuple #[.agg #[.slice x.1.1.1 N x.1.1.2, .slice x.1.2.1 N x.1.2.2], .int .i64 0]) (fun x W => (∃ B, gI < B ∧ (∀ g, OwnT N (Ra, Rac) (Na, Nac) rsa g → g < B) ∧ TreeO B N x.1.1 x.1.2 x.2 ns W) ∧ x.2.map (·.2.2) = X) (fun x u u' hg h => ⟨h.1.elim fun B hB => ⟨B, hB.1, hB.2.1, hB.2.2.grow hg⟩, h.2⟩) (fun x33 => ?_) (C := by (rintro v ⟨hgu, hB, hG, -⟩; exact (Hnb.out _ (some ⟨bI, oI, none⟩, RIc) rsI Hi1.out ((in_lrq HI.out.1 HI.out.2).grow hgu)).mono (fun e w' ⟨x, h1, ⟨h2, h3⟩, h4⟩ => ⟨x, h1, ⟨⟨_, ((own_grow' HoI.out hgu).lt gI rfl).2, fun g hg => ((Ha.out.grow hgu).lt' hg).2, h2⟩, h3⟩, h4⟩)))
  refine gs ?_
  refine gaa (newObj_Tree _ _ _ _ _) fun b13 hb13 hn13 => ?_
  replace hF := hF.n1 [] hB hG hb13 hn13
  refine geC hL ?_
  clear hB hG hL L
  rintro u ⟨⟨⟨hgu, hB, hG, -⟩, hx33⟩, h13⟩
  replace hB := hB.cons' h13
  clear h13
  obtain ⟨⟨⟨Rb, Rbc⟩, ⟨Nb, Nbc⟩⟩, rsb⟩ := x33
  obtain ⟨⟨Bb, hBb, hab, ht1⟩, ht2⟩ := hx33
  simp only at ht1 ht2
  have ha2 := Ha.out.grow hgu
  have hi2 := HI.out.1.grow hgu
  have hi3 := own_grow' HI.out.2 hgu
  have ho2 := own_grow' HoI.out hgu
  clear HI HoI Ha
  clear hb13 hn13
  clear hgu
  refine gtT ?_
  clear hN K
  refine sv hB hF hG 0 0 [_, _] ?_
  intro u hu hBG
  have ht3 := TreeO.put ht1 hB.head (by decide) (by decide) (by decide) hu
  have ha3 := TreeO.put ha2 hB.head (by decide) (by decide) (by decide) hu
  have hi4 : RowsQ _ u rsI := fun r hr => own_put_ne (hi2 r hr) hB.head (by decide) hu
  have hi5 := own_put_ne hi3 hB.head (by decide) hu
  have ho3 := own_put_ne ho2 hB.head (by decide) hu
  clear ht1 hB hG hu hi2 hi3 ho2 ha2
  obtain ⟨k1, k2, k3⟩ := Hkr.out rsb ht2
  have Hb := Lib.hid ht3
  have HbX := Lib.hid (And.intro ht2 (And.intro k1 (And.intro k2 k3)))
  have Ha := Lib.hid ha3
  have Hab := Lib.hid (And.intro hBb hab)
  have HI := Lib.hid (And.intro hi4 hi5)
  have HoI := Lib.hid ho3
  clear ht3 ht2 k1 k2 k3 ha3 hBb hab hi4 hi5 ho3
  obtain ⟨hB, hG⟩ := hBG
  refine wp_seq (rdC allocsT [] [(0, 0), (0, 1), (0, 2), (1, 3), (0, 4)] hB hG fun K L hN hL => ?_)
  repeat first | refine gya ?_ | refine gyr ?_ | refine gna ?_ | refine gyb (by (rintro v ⟨hgu, hB, hG, -⟩ N hN; have r := hB.r; simp only [BxR] at r; (first | have q0 := HrI.out v ((in_lrq HI.out.1 HI.out.2).grow hgu) | have q0 := HrR.out v (Hb.out.parts.1.grow hgu) | skip); go_simp; exact hN)) ?_
  refine gmw (C := fun v => frac_Of 99 (by omega) (by omega) _) ?_
  refine gs ?_
  refine geC hL ?_
  clear hB hG hL L
  rintro u ⟨hgu, hB, hG, -⟩
  have ho2 := own_grow' HoI.out hgu
  have ha2 := Ha.out.grow hgu
  have hb2 := Hb.out.grow hgu
  clear Ha Hb
  clear HI HoI
  obtain ⟨z0, z1, z2, z3, z4, o0, o1, o2, o3, o4, hfz⟩ := own_spot5 (enc := qL) (fun _ => rfl) ho2 (by exact HlI.out.symm) 0 (by rw [HlI.out]; omega)
  simp only [Nat.zero_mul, Nat.zero_add] at o0 o1 o2 o3 o4
  clear hgu
  refine gtT ?_
  clear hN K
  clear o0 o1 o2 o3 o4 hfz
  generalize hu0 : World.setCell (World.setCell (World.setCell (World.setCell (World.setCell u _ _) _ _) _ _) _ _) _ _ = u0
  have hu1 : putAll u gI 0 (qL (qint 99)) = u0 := hu0
  have hgr : u.grownBy u0 (some gI) := hu1 ▸ grown_putAll gI _ 0 u
  have hG2 := hG.grown hgr (fun k hk => by cases hk; exact HgI.out)
  have hB2 := Bx.grown_ hB hgr (fun e he hxe => by
   simp only [List.mem_cons, List.not_mem_nil, or_false] at he
   rcases he with rfl | rfl
   all_goals exact own_blk_ne ho2 (hB _ (by simp)) (show 49 ≠ 79 by decide) hxe.symm)
  have ha3 := TreeO.over ha2 HBa.out hu1
  have hb3 := TreeO.over hb2 Hab.out.1 hu1
  clear hB hG ho2 ha2 hb2 hu0 hu1 hgr HrI HlI
  have hB := hB2
  have hG := hG2
  have Ha := Lib.hid ha3
  have Hb := Lib.hid hb3
  clear hB2 hG2 ha3 hb3
  obtain ⟨u, rfl⟩ : ∃ x, x = u0 := ⟨_, rfl⟩
  refine wp_seq ?_
  refine wp_seq ?_
  have h8 : ∀ W, Grow u W → Calls Tryz.prog 36 #[treeV (Ra, Rac) N (Na, Nac) N, treeV (Rb, Rbc) N (Nb, Nbc) N] W fun e w' => e = .returned (.bool true) ∧ Grow W w' := fun W hg =>
   (Hsm.out W (Ra, Rac) (Na, Nac) (Rb, Rbc) (Nb, Nbc) rsa rsb ns HaX.out HbX.out.2.1 Hfl.out HbX.out.2.2.1 HbX.out.2.2.2 (Ha.out.grow hg).parts.1 (Hb.out.grow hg).parts.1 (Ha.out.grow hg).parts.2 (Hb.out.grow hg).parts.2).mono fun e w' h => ⟨by rw [h.1, HbX.out.1]; simp, h.2⟩
  have H8 := Lib.hid h8
  clear h8
  refine rsE allocsT [0, 0, 0, 0, 0, 0, 0, 0, 0, 1, 0, 0] hB hG fun L hL => ?_
  repeat first | refine gya ?_ | refine gyr ?_ | refine gna ?_ | refine gyb (by (rintro v ⟨hgu, hB, hG, -⟩ N hN; have r := hB.r; simp only [BxR] at r; (first | have q0 := HrI.out v ((in_lrq HI.out.1 HI.out.2).grow hgu) | have q0 := HrR.out v (Hb.out.parts.1.grow hgu) | skip); go_simp; exact hN)) ?_
  first | refine gmd (C := fun v ⟨hgu, hB, hG, _⟩ => H8.out _ hgu) ?_ | refine gmna ?_
  refine gs ?_
  refine geT hL ?_
  clear hB hG hL L
  rintro u ⟨hgu, hB, hG, -⟩
  clear H8
  have ha2 := Ha.out.grow hgu
  have hb2 := Hb.out.grow hgu
  clear Ha Hb
  have Ha := Lib.hid ha2
  have Hb := Lib.hid hb2
  clear ha2 hb2
  clear hgu
  refine wp_cond_false (rfl) ?_
  refine wp_skip ?_
  refine then_norm ?_
  refine wp_seq ?_
  obtain ⟨bR, oR, gR, cR, lR, e9, hlR, hoR, -, hrR⟩ := rows_first Hb.out.rows Hb.out.parts.1 HbX.out.2.1 hN0 HbX.out.2.2.1 (by omega)
  simp only at e9
  subst e9
  have HrR := Lib.hid hrR
  have HoR := Lib.hid hoR
  have HlR := Lib.hid hlR
  have HgR := Lib.hid ((hoR.lt gR rfl).1)
  clear hrR hoR hlR
  refine rdC allocsT [] [(0, 0), (0, 1), (0, 2), (0, 3), (1, 4), (0, 5)] hB hG fun K L hN hL => ?_
  repeat first | refine gya ?_ | refine gyr ?_ | refine gna ?_ | refine gyb (by (rintro v ⟨hgu, hB, hG, -⟩ N hN; have r := hB.r; simp only [BxR] at r; (first | have q0 := HrI.out v ((in_lrq HI.out.1 HI.out.2).grow hgu) | have q0 := HrR.out v (Hb.out.parts.1.grow hgu) | skip); go_simp; exact hN)) ?_
  refine gmw (C := fun v => frac_Of 98 (by omega) (by omega) _) ?_
  refine gs ?_
  refine geC hL ?_
  clear hB hG hL L
  rintro u ⟨hgu, hB, hG, -⟩
  have ho2 := own_grow' HoR.out hgu
  have ha2 := Ha.out.grow hgu
  have hb2 := Hb.out.grow hgu
  clear Ha Hb
  clear HoR
  obtain ⟨z0, z1, z2, z3, z4, o0, o1, o2, o3, o4, hfz⟩ := own_spot5 (enc := qL) (fun _ => rfl) ho2 (by exact HlR.out.symm) 0 (by rw [HlR.out]; omega)
  simp only [Nat.zero_mul, Nat.zero_add] at o0 o1 o2 o3 o4
  clear hgu
  refine gtT ?_
  clear hN K
  clear o0 o1 o2 o3 o4 hfz
  generalize hu0 : World.setCell (World.setCell (World.setCell (World.setCell (World.setCell u _ _) _ _) _ _) _ _) _ _ = u0
  have hu1 : putAll u gR 0 (qL (qint 98)) = u0 := hu0
  have hgr : u.grownBy u0 (some gR) := hu1 ▸ grown_putAll gR _ 0 u
  have hlo : w.heap.size ≤ gR := by
   have h1 := HgI.out
   have h2 := Hab.out.1
   have h3 := HgR.out
   omega
  have hG2 := hG.grown hgr (fun k hk => by cases hk; exact hlo)
  have hB2 := Bx.grown_ hB hgr (fun e he hxe => by
   simp only [List.mem_cons, List.not_mem_nil, or_false] at he
   rcases he with rfl | rfl
   all_goals exact own_blk_ne ho2 (hB _ (by simp)) (show 49 ≠ 79 by decide) hxe.symm)
  obtain ⟨cs, hbk⟩ := own_has ho2
  have ha3 := TreeO.away ha2 (fun h => by
   have h1 := Hab.out.2 gR h
   have h3 := HgR.out
   omega) hu1
  have hb3 := TreeO.putP hb2 hbk (fun r hr => by rw [HbX.out.2.2.1 r hr]; omega) hu1
  clear hB hG ho2 ha2 hb2 hu0 hu1 hgr hlo hbk HrR HlR
  have hB := hB2
  have hG := hG2
  have Ha := Lib.hid ha3
  have Hb := Lib.hid hb3
  clear hB2 hG2 ha3 hb3
  obtain ⟨u, rfl⟩ : ∃ x, x = u0 := ⟨_, rfl⟩
  refine wp_seq ?_
  obtain ⟨gN, cN, e9, hgN, -⟩ := own_slice Hb.out.nodes hN0
  cases e9
  obtain ⟨z0, z1, z2, z3, o0, o1, o2, o3, hfz⟩ := own_spot4 (enc := ndL) (fun _ => rfl) Hb.out.nodes Hfl.out.symm 0 (by rw [Hfl.out]; exact hN0)
  simp only [Nat.zero_mul, Nat.zero_add] at o0 o1 o2 o3
  refine r0N ?_
  clear o0 o1 o2 o3 hfz
  generalize hu0 : World.setCell u _ _ = u0
  obtain ⟨hgr, ns2, m2, hc2, hb3⟩ := TreeO.putC Hb.out Hfl.out hN0 7 hu0
  have hlo : w.heap.size ≤ gN := by
   have h1 := HgI.out
   have h2 := Hab.out.1
   omega
  have hG2 := hG.grown hgr (fun k hk => by cases hk; exact hlo)
  have hB2 := Bx.grown_ hB hgr (fun e he hxe => by
   simp only [List.mem_cons, List.not_mem_nil, or_false] at he
   rcases he with rfl | rfl
   all_goals exact own_blk_ne Hb.out.nodes (hB _ (by simp)) (show 88 ≠ 79 by decide) hxe.symm)
  have ha3 := TreeO.away (i := 1) (vs := [.int .i64 7]) Ha.out (fun h => by
   have h1 := Hab.out.2 gN h
   omega) hu0
  have Hm2 := Lib.hid m2
  have Hc2 := Lib.hid hc2
  clear hB hG Ha Hb hu0 hgr hlo m2 hc2
  have hB := hB2
  have hG := hG2
  have Ha := Lib.hid ha3
  have Hb := Lib.hid hb3
  clear hB2 hG2 ha3 hb3
  obtain ⟨u, rfl⟩ : ∃ x, x = u0 := ⟨_, rfl⟩
  refine wp_seq ?_
  have h12 : ∀ W, Grow u W → Calls Tryz.prog 36 #[treeV (Ra, Rac) N (Na, Nac) N, treeV (some ⟨bR, oR, none⟩, Rbc) N (some ⟨gN, 0, none⟩, _) N] W fun e w' => e = .returned (.bool false) ∧ Grow W w' := fun W hg =>
   (Hsm.out W (Ra, Rac) (Na, Nac) (some ⟨bR, oR, none⟩, Rbc) (some ⟨gN, 0, none⟩, _) rsa (rowsP gR (qint 98) rsb) ns2 HaX.out (by rw [rowsP_len]; exact HbX.out.2.1) Hm2.out (fun r hr => by obtain ⟨r0, h1, h2, -⟩ := rowsP_mem hr; rw [h2]; exact HbX.out.2.2.1 r0 h1) (fun r hr x hx => by
    obtain ⟨r0, h1, -, h2⟩ := rowsP_mem hr
    rcases h2 x hx with rfl | h
    ·exact qs_98
    ·exact HbX.out.2.2.2 r0 h1 x h) (Ha.out.grow hg).parts.1 (Hb.out.grow hg).parts.1 (Ha.out.grow hg).parts.2 (Hb.out.grow hg).parts.2).mono fun e w' h => ⟨by rw [h.1, show decide (ns = ns2) = false from decide_eq_false (fun e => Hcol.out (by rw [e]; exact Hc2.out)), Bool.and_false], h.2⟩
  have H12 := Lib.hid h12
  clear h12
  refine rdC allocsT [] [(1, 0), (0, 1), (0, 2), (0, 3), (1, 4), (1, 5), (0, 6), (0, 7), (0, 8), (0, 9), (1, 10), (0, 11), (0, 12)] hB hG fun K L hN hL => ?_
  refine gmd (C := fun v ⟨hgu, hB, hG, _⟩ => law23_known _ (HT.grow hG)) ?_
  repeat first | refine gya ?_ | refine gyr ?_ | refine gna ?_ | refine gyb (by (rintro v ⟨hgu, hB, hG, -⟩ N hN; have r := hB.r; simp only [BxR] at r; (first | have q0 := HrI.out v ((in_lrq HI.out.1 HI.out.2).grow hgu) | have q0 := HrR.out v (Hb.out.parts.1.grow hgu) | skip); go_simp; exact hN)) ?_
  refine gxd (X := Ax) (fun x : Ax => treeV (RA, RC) N x N) (fun x W => W.ownsRow w.heap.size 118 4 (.slice x.1 N x.2) N (ns.flatMap ndL)) (fun x u u' hg h => own_grow' h hg) (fun x67 => ?_) (C := by (rintro v ⟨hgu, hB, hG, -⟩; exact Hrb.out _ hG))
  first | refine gmd (C := fun v ⟨⟨hgu, hB, hG, _⟩, hx67⟩ => Hst.out _ (Ra, Rac) (Na, Nac) x67 rsa hG HaX.out ((Ha.out.grow hgu).parts.1) ((Ha.out.grow hgu).parts.2) (own_rle hx67)) ?_ | refine gmna ?_
  repeat first | refine gya ?_ | refine gyr ?_ | refine gna ?_ | refine gyb (by (rintro v ⟨⟨hgu, hB, hG, -⟩, hx67⟩ N hN; have r := hB.r; simp only [BxR] at r; (first | have q0 := HrI.out v ((in_lrq HI.out.1 HI.out.2).grow hgu) | have q0 := HrR.out v (Hb.out.parts.1.grow hgu) | skip); go_simp; exact hN)) ?_
  first | refine gmd (C := fun v ⟨⟨hgu, hB, hG, _⟩, hx67⟩ => H12.out _ hgu) ?_ | refine gmna ?_
  refine gs ?_
  refine geC hL ?_
  clear hB hG hL L
  rintro u ⟨⟨-, hB, hG, -⟩, hx67⟩
  refine gtT ?_
  clear hN K
  refine rt Tryz.results6 ?_
  exact ⟨rfl, HG0.out.trans hG⟩
end Go.Proofs.YtjmopgepnndckaaGreatDoor
