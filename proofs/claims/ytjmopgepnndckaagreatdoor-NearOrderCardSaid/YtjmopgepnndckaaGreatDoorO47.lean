/-
  Contracts and laws: NearNe NearLC NearOp.
-/
import Derived.Test.YtjmopgepnndckaaGreatDoorO45
import Derived.Test.YtjmopgepnndckaaGreatDoorO46
import Derived.Laws.EntriesVeiled
import Derived.Maps.AppendAt
set_option linter.unusedSimpArgs false
set_option linter.unusedVariables false
namespace Go.Proofs.YtjmopgepnndckaaGreatDoor
open Go Go.RowKit Go.Shelf
theorem newObj_search (d : Option Tmp) (ty : TypeId) (pos : String) (af : Array Edge) (gd : Option (Nat × Bool)) : newObj Tryz.prog ⟨d, .alloc 136, ty, pos, af, gd⟩ = .cells #[.slice none 0 0, .slice none 0 0, .slice none 0 0, .int .i64 0, .nilFunc, .slice none 0 0, .int .i64 0] 136 := by kernel_rfl
theorem allocsS : ∀ t ∈ [45, 47, 49, 136], AllocT Tryz.prog t := by
 intro t ht
 simp only [List.mem_cons, List.not_mem_nil, or_false] at ht
 rcases ht with rfl | rfl | rfl | rfl
 ·exact fun _ _ _ _ _ _ => by rw [newObj_Nat]; kernel_rfl
 ·exact fun _ _ _ _ _ _ => by rw [newObj_Int]; kernel_rfl
 ·exact fun _ _ _ _ _ _ => by rw [newObj_Q]; kernel_rfl
 ·exact fun _ _ _ _ _ _ => by rw [newObj_search]; kernel_rfl
theorem near_visit (b99 keep s n m L t : Nat) (R N Qa : Ax) (rs : List Rq) (ns : List NdT) (q : List Rat) (MF : FuncId) (MC : Array Value) (mf : List Ht → Option Rat) (I : World → Prop) (w0 : World) (hb : w0.heap.size ≤ b99) (hk : keep ≤ 100000) (hn : rs.length = n) (hn2 : n ≤ 300) (hm : ns.length = m) (hm2 : m ≤ 300) (hL2 : L ≤ 20) (hq : q.length = L) (hrl : ∀ r ∈ rs, r.2.2.length = L)
  (hs1 : ∀ r ∈ rs, ∀ x ∈ r.2.2, qs x ≤ t) (hs2 : ∀ x ∈ q, qs x ≤ t) (hts : 100 * t + 200 ≤ s) (hBz : 4 * s + 1000 ≤ BIG)
  (HM : MostOK b99 w0.heap.size (.slice R.1 n R.2) (.slice N.1 m N.2) (.slice Qa.1 L Qa.2) (.int .i64 (keep : Nat)) MF MC mf I w0) (hms : ∀ hs m, (∀ x ∈ hs, qs x.2 ≤ s) → mf hs = some m → qs m ≤ s)
  (hLR : Lrq w0 R.1 rs) (hLN : Le ndL 4 w0 N.1 ns) (hLQ : Lq w0 Qa.1 q) (hfine : Fine (rs.map (·.2.2)) L ns) (HT0 : Tab w0) (f : Nat) : VisitOK b99 keep s (.slice R.1 n R.2) (.slice N.1 m N.2) (.slice Qa.1 L Qa.2) MF MC mf I w0 (rs.map (·.2.2)) q L ns f := by
 induction f using Nat.strongRecOn with
 | ind f ih => exact near_visit_step b99 keep s n m L t R N Qa rs ns q MF MC mf I w0 hb hk hn hn2 hm hm2 hL2 hq hrl hs1 hs2 hts hBz HM hms hLR hLN hLQ hfine HT0 f ih
theorem cf_Nearest (args : Array Value) (W : World) : Sem.run Tryz.prog (callFunc 72 args) W = .ok (.enter 72 args) W := by kernel_rfl
theorem mostK_sz {k s : Nat} {hs : List Ht} {m : Rat} (h : ∀ x ∈ hs, qs x.2 ≤ s) (hm : mostK k hs = some m) : qs m ≤ s := by
 unfold mostK at hm
 split at hm
 ·cases hm
 ·cases hl : hs.getLast? with
  | none => rw [hl] at hm; cases hm
  | some x =>
   rw [hl] at hm
   cases hm
   exact h x (List.mem_of_getLast? hl)
theorem most_Nearest (b9 b5 n m L k : Nat) (R N Qa : Ax) (w : World) (hk0 : 0 < k) (hk : k ≤ 300) : MostOK b9 w.heap.size (.slice R.1 n R.2) (.slice N.1 m N.2) (.slice Qa.1 L Qa.2) (.int .i64 (k : Nat)) 72 #[.pointer (some ⟨b9, 0, none⟩), .pointer (some ⟨b5, 0, none⟩)] (mostK k) (fun W => Blk W b5 3 #[.int .i64 (k : Nat)]) w :=
 ⟨cf_Nearest, fun HA HC hs lk W hg hI hl hS => near_Nearest_c1 b9 b5 k hs.length HC HA hs rfl hl (by omega) hk0 W (fun W' hg' => (hS.blk.grow hg').cell 5) (fun W' hg' => (hI.grow hg').cell 0) hS.lh.1, fun W W' hk hI => hk.blk _ _ _ (by decide) (by decide) hI⟩
set_option maxHeartbeats 16000000 in
set_option maxRecDepth 100000 in
theorem near_Nearest_ok (R N Qa : Ax) (rs : List Rq) (n L m k : Nat) (ns : List NdT) (q : List Rat) (hn : rs.length = n) (hn1 : 1 ≤ n) (hn2 : n ≤ 300) (hL1 : 1 ≤ L) (hL2 : L ≤ 20) (hrl : ∀ r ∈ rs, r.2.2.length = L) (hm : ns.length = m) (hq : q.length = L) (hk0 : 0 < k) (hk : k ≤ 300) (t : Nat) (hs1 : ∀ r ∈ rs, ∀ x ∈ r.2.2, qs x ≤ t) (hs2 : ∀ x ∈ q, qs x ≤ t) (hBz : 400 * t + 2000 ≤ BIG)
  (hc : checkN (rs.map (·.2.2)) L ns = 0) (w : World) (hR : Lrq w R.1 rs) (hN : Le ndL 4 w N.1 ns) (hQ : Lq w Qa.1 q) (HT : Tab w) :
  Calls Tryz.prog 38 #[treeV R n N m, .slice Qa.1 L Qa.2, .int .i64 (k : Nat)] w (RetY (fun x : Ax × Nat => .tuple #[.slice x.1.1 (min k n) x.1.2, .int .i64 (x.2 : Nat), .int .i64 0]) (fun x W => Lh W x.1.1 (best k (hitsTo (farI (rs.map (·.2.2)) q L) n)) ∧ min k n ≤ x.2 ∧ x.2 ≤ n) w) := by
 have hXl : (rs.map (·.2.2)).length = n := by rw [List.length_map, hn]
 obtain ⟨s, hsz, hlay, hsn, hnl⟩ := check_lay hc
 have hmn : m = n := by omega
 have hck : ∀ W, Grow w W → Calls Tryz.prog 32 #[treeV R n N m] W fun e w' => e = .returned (.int .i64 0) ∧ Grow W w' := fun W hg => by
  have h := near_Check R N rs n L m ns hn hn1 hn2 hL1 hL2 hrl hm (by omega) t hs1 (by omega) W (hR.grow hg) (hN.grow hg)
  rw [hc] at h
  exact h
 have hlk := search_looked (q := q) (keep := k) (most := mostK k) hc hsn
 have hbs := search_best (q := q) hk0 hc hlay hsn
 rw [hXl] at hlk hbs
 have hbl : (best k (hitsTo (farI (rs.map (·.2.2)) q L) n)).length = min k n := by rw [best_len]; unfold hitsTo; simp
 have hvi := fun (b9 b5 : Nat) (hb : w.heap.size ≤ b9) => near_visit b9 k (100 * t + 200) n m L t R N Qa rs ns q 72 #[.pointer (some ⟨b9, 0, none⟩), .pointer (some ⟨b5, 0, none⟩)] (mostK k) (fun W => Blk W b5 3 #[.int .i64 (k : Nat)]) w hb (by omega) hn hn2 hm (by omega) hL2 hq hrl hs1 hs2 (Nat.le_refl _) (by omega) (most_Nearest b9 b5 n m L k R N Qa w hk0 hk) (fun hs m h1 h2 => mostK_sz h1 h2) hR hN hQ (check_fine hc) HT s.size s 0 [] 0 none 0
 obtain ⟨st, hst⟩ : ∃ x, x = visitT (rs.map (·.2.2)) q L (mostK k) k (toK ns s 0) ([], 0) := ⟨_, rfl⟩
 rw [← hst] at hlk hbs
 simp only [← hst] at hvi
 obtain ⟨hs9, lk9⟩ := st
 simp only at hlk hbs hvi
 have hvi2 : ∀ (b9 b5 : Nat) (hb : w.heap.size ≤ b9) W, Grow w W → Blk W b5 3 #[.int .i64 (k : Nat)] → SrW b9 w.heap.size (.slice R.1 n R.2) (.slice N.1 m N.2) (.slice Qa.1 L Qa.2) (.int .i64 (k : Nat)) (.func (.func 72) #[] #[.pointer (some ⟨b9, 0, none⟩), .pointer (some ⟨b5, 0, none⟩)]) none 0 [] 0 W → _ := fun b9 b5 hb W hg hI hS => hvi b9 b5 hb W hsz (Nat.le_refl _) hlay hg hI ⟨fun x hx => (by cases hx), List.Pairwise.nil, Nat.le_refl _⟩ (by omega) hS
 have hrow0 : ∃ (bb ob : Nat) (Ar : Option Addr) (cr : Nat), R.1 = some ⟨bb, ob, none⟩ ∧ ∀ W, Grow w W → W.cell? ⟨bb, ob, none⟩ = some (.slice Ar L cr) := by
  obtain ⟨bb, ob, e⟩ := hR.addr (by omega)
  rw [e] at hR
  have hil : 0 < rs.length := by omega
  refine ⟨bb, ob, rs[0].1, rs[0].2.1, e, fun W hg => ?_⟩
  have h3 := ((hR.grow hg).read (List.getElem?_eq_getElem hil)).1
  rw [hrl _ (List.getElem_mem hil), Nat.add_zero] at h3
  exact h3
 obtain ⟨RA, RC⟩ := R
 obtain ⟨NA, NC⟩ := N
 obtain ⟨QA, QC⟩ := Qa
 simp only at hrow0
 obtain ⟨bb, ob, Ar, cr, rfl, hr0⟩ := hrow0
 rw [← hbs]
 rw [← hbs] at hbl
 have f1 : decide ((k : Int) < 1) = false := by simp; omega
 have f1n : decide (k < 1) = false := by simp; omega
 have f1z : decide (k = 0) = false := by simp; omega
 have f2 : decide (300 < (k : Int)) = false := by simp; omega
 have f2n : decide (300 < k) = false := by simp; omega
 have hni : (0 : Int) < (n : Int) := by omega
 have hne : ((L : Int) != (L : Int)) = false := by simp
 have Hck := Lib.hid hck
 have Hvi := Lib.hid hvi2
 have Hr0 := Lib.hid hr0
 have Hlk := Lib.hid hlk
 have Hbl := Lib.hid hbl
 clear hck hvi hvi2 hr0 hlk hbl hbs hst hc hR hN hQ hlay hsz hsn hnl hXl hs1 hs2 hBz hrl hn hq hm hmn
 go_enter Tryz.func38, Tryz.ntmps38
 refine en2 ?_
 intro u hG b5 b3 hB hF
 refine wp_seq ?_
 refine wp_seq (rsE allocsS [0, 1, 0, 0, 0, 0, 0, 0, 0, 0, 0] hB hG fun L hL => ?_)
 refine gs ?_
 refine gmd (C := fun v ⟨hgu, hB, hG, _⟩ => Hck.out _ hG) ?_
 refine gs ?_
 refine geT hL ?_
 clear hB hG hL L
 rintro u ⟨-, hB, hG, -⟩
 refine wp_cond_false (rfl) ?_
 refine wp_skip ?_
 refine then_norm ?_
 refine wp_seq ?_
 refine wp_seq ?_
 have q0 := Hr0.out u hG
 refine r0N ?_
 refine wp_cond_false (rfl) ?_
 refine wp_skip ?_
 refine then_norm ?_
 refine wp_seq (rsC allocsS [0, 0, 0, 2] hB hG fun K L hN hL => ?_)
 refine gs ?_
 refine gaa (newObj_search _ _ _ _ _) fun b9 hb9 hn9 => ?_
 replace hF := hF.n1 [] hB hG hb9 hn9
 refine geC hL ?_
 clear hB hG hL L
 rintro u ⟨⟨-, hB, hG, -⟩, h9⟩
 replace hB := hB.cons' h9
 clear h9
 clear hb9 hn9
 refine gtT ?_
 clear hN K
 refine st hB hF hG 0 0 [_, _, _, _, _, _, _] ?_
 clear hB hG
 intro u hB hG
 refine wp_seq ?_
 have q0 := Hr0.out u hG
 refine r0N ?_
 refine st hB hF hG 0 4 [_] ?_
 clear hB hG
 intro u hB hG
 refine wp_seq ?_
 have q0 := Hr0.out u hG
 refine r0N ?_
 refine st hB hF hG 0 3 [_] ?_
 clear hB hG
 intro u hB hG
 refine wp_seq ?_
 have h9w := hF.1 b9 (by simp)
 have hI := hB.tail.tail.head
 have hv := Hvi.out b9 b5 h9w u hG hI ⟨hB.head, World.ownsRow_nil _ _ _ _⟩
 have HV := Lib.hid hv
 clear hv hI
 refine wp_r0 ?_
 intro K hN
 go_wp2_with (go_at_call 73; refine HV.out.mono ?_; rintro e w5 ⟨rfl, HA5, HC5, q0, q1, q2⟩)
 refine NoK.norm (hN _ _ ?_)
 clear hN K HV hB hG hF
 have hG := q2
 have hB9 := q0.blk
 rw [Hbl.out] at hB9
 have hB := Bx.cons hB9 (Bx.nil w5)
 have HL9 := Lib.hid q0.lh.1
 clear hB9 q0 q1 q2 h9w Hvi
 obtain ⟨u, rfl⟩ : ∃ x, x = w5 := ⟨_, rfl⟩
 refine then_norm ?_
 refine wp_seq (rdC allocsS [] [(0, 0), (0, 1), (0, 2), (0, 3), (0, 4), (0, 5)] hB hG fun K L hN hL => ?_)
 refine gs ?_
 refine geC hL ?_
 clear hB hG hL L
 rintro u ⟨hgu, hB, hG, -⟩
 have HL8 := Lib.hid (HL9.out.grow hgu)
 clear hgu
 refine gtT ?_
 clear hN K
 refine rt Tryz.results38 ?_
 exact ⟨((HA5, HC5), lk9), rfl, ⟨HL8.out, by have h1 := Hlk.out.2; have h2 := Hbl.out; omega, Hlk.out.1⟩, hG⟩
end Go.Proofs.YtjmopgepnndckaaGreatDoor
namespace Go.Proofs.YtjmopgepnndckaaGreatDoor
open Go Go.RowKit
set_option maxHeartbeats 4000000 in
set_option maxRecDepth 100000 in
theorem law23_rowsC (A : Option Addr) (l : List Int) (c p N Lw : Nat) (n wd same : Int) (hp : p = l.length) (hc : p ≤ c) (hN : pick n 12 = (N : Int)) (hL : pick wd 3 + 1 = (Lw : Int)) (hpm : p ≤ 9223372036854775807) (hb : ∀ x ∈ l, -9223372036854775808 ≤ x ∧ x ≤ 9223372036854775807) (w : World) (h : Li w A l) :
  Calls Tryz.prog 12 #[.slice A p c, .int .i64 n, .int .i64 wd, .int .i64 same] w (RetY (fun x : Ax × List Rq => .slice x.1.1 N x.1.2) (fun x W => RowsOk N Lw x.2 ∧ Lrz W x.1.1 x.2 ∧ N ≤ x.1.2) w) := by
 have rN := pick_range n (m := 12) (by omega)
 have rL := pick_range wd (m := 3) (by omega)
 have hp1 := fun W => hand_PickG n 12 (by omega) (by omega) W
 have hp2 := fun W => hand_PickG wd 3 (by omega) (by omega) W
 have hp3 := fun W => hand_PickG same 3 (by omega) (by omega) W
 have hN11 : N ≤ 11 := by omega
 have hL3 : Lw ≤ 3 := by omega
 obtain ⟨y, hy⟩ : ∃ y, y = pick wd 3 := ⟨_, rfl⟩
 rw [← hy] at hL rL
 simp only [← hy] at hp2
 have fy : IntKind.i64.wrap (y + 1) = (Lw : Int) := by rw [IntWalk.i64_in _ (by omega)]; exact hL
 obtain ⟨t, ht⟩ : ∃ y, y = pick same 3 := ⟨_, rfl⟩
 simp only [← ht] at hp3
 simp only [hN] at hp1
 have hrw : ∀ W, Grow w W → Calls Tryz.prog 47 #[.slice A p c, .int .i64 N, .int .i64 Lw] W (RetY (fun x : Ax × List Zw => .slice x.1.1 N x.1.2) (fun x W' => RowsF w.heap.size Lw x.2 W' ∧ x.2.length = N ∧ W'.ownsRow w.heap.size 26 1 (.slice x.1.1 N x.1.2) N (x.2.map zwV)) W) := fun W hg =>
  (hand_Rows A l c p N Lw hp hc (by omega) (by omega) hpm hb W (h.grow hg)).mono fun e w' ⟨v, rws, he, e1, e2, e3, hg'⟩ => by
   obtain ⟨A2, c2, rfl, -, -, hkl⟩ := own_lrz e3 e2.idx
   have hm : RowsZ w.heap.size w' rws := ⟨fun r hr => ⟨(e2.1 r hr).1, (e2.1 r hr).2.mono hg.size⟩, e2.2⟩
   exact ⟨((A2, c2), rws), he, ⟨rowsF_of e1 hm, hkl.symm, e3.mono hg.size⟩, hg'⟩
 have Hp1 := Lib.hid hp1
 have Hp2 := Lib.hid hp2
 have Hp3 := Lib.hid hp3
 have Hrw := Lib.hid hrw
 clear hp1 hp2 hp3 hrw h hb hp hN hy ht rN hL
 go_enter Tryz.func12, Tryz.ntmps12
 refine en0 ?_
 intro u hG hB hF
 refine wp_seq (rsE allocs [0, 0, 1, 0, 1, 0, 1, 0] hB hG fun L hL => ?_)
 refine gs ?_
 refine gmw (C := fun v => Hp1.out _) ?_
 refine gs ?_
 refine gmw (C := fun v => Hp2.out _) ?_
 refine gs ?_
 refine gxd (X := (Ax × List Zw)) (fun x : Ax × List Zw => .slice x.1.1 N x.1.2) (fun x W => RowsF w.heap.size Lw x.2 W ∧ x.2.length = N ∧ W.ownsRow w.heap.size 26 1 (.slice x.1.1 N x.1.2) N (x.2.map zwV)) (fun x u u' hg h => ⟨RowsF.grow hg h.1, h.2.1, own_grow' h.2.2 hg⟩) (fun x17 => ?_) (C := by (rintro v ⟨hgu, hB, hG, -⟩; exact Hrw.out _ hG))
 refine gs ?_
 refine geT hL ?_
 clear hB hG hL L
 rintro u ⟨⟨-, hB, hG, -⟩, hx17⟩
 obtain ⟨⟨RA, RC⟩, ws0⟩ := x17
 obtain ⟨hRF, hwl, hro⟩ := hx17
 simp only at hRF hwl hro
 refine wp_seq ?_
 refine r0T ?_
 refine wp_block ?_
 clear hB hF
 go_loopw [10] (fun s0 wr => ∃ (i : Nat) (ws : List Zw), 2 ≤ i ∧ s0 = .int .i64 i ∧ ws.length = N ∧ RowsF w.heap.size Lw ws wr ∧ wr.ownsRow w.heap.size 26 1 (.slice RA N RC) N (ws.map zwV) ∧ Grow w wr) (fun s0 _ => N - (intOf s0).toNat)
 case atStart => exact ⟨2, ws0, Nat.le_refl _, rfl, hwl, hRF, hro, hG⟩
 case round =>
  clear hG hRF hwl hro ws0
  obtain ⟨i, ws, hi, rfl, hwl, hRF, hro, hG⟩ := hrel
  obtain ⟨u, rfl⟩ : ∃ x, x = wr := ⟨_, rfl⟩
  have hB := Bx.nil u
  have hF := Fr.nil w
  have Ho := Lib.hid hro
  rcases Nat.lt_or_ge i N with hlt | hge
  ·have hdec : decide ((i : Int) < (N : Int)) = true := by simp; omega
   have hdecn : decide (i < N) = true := by simp; omega
   by_cases ht0 : t = 0
   ·have f0 : (t == 0) = true := by simp [ht0]
    have f0d : decide (t = 0) = true := by simp [ht0]
    obtain ⟨i1, hi1⟩ : ∃ x, i - 1 = x := ⟨_, rfl⟩
    have fi : IntKind.i64.wrap ((i : Int) - 1) = (i1 : Int) := by rw [IntWalk.i64_in _ (by omega)]; omega
    have hii : (i : Int) < (N : Int) := by omega
    have hi1i : (i1 : Int) < (N : Int) := by omega
    have hiw : i1 < ws.length := by omega
    obtain ⟨g, cap, e9, -, -⟩ := own_slice Ho.out (by omega)
    cases e9
    have hgl := (Ho.out.lt g rfl).2
    have hla : ∀ W, Grow u W → W.cell? ⟨g, i1, none⟩ = some (.slice ws[i1].1.1 Lw ws[i1].1.2) := fun W hg => by
     refine (hg.cell (p := ⟨g, i1, none⟩) hgl).trans ?_
     rw [Ho.out.cellAt i1 (by omega), List.getElem?_map, List.getElem?_eq_getElem hiw]
     show some (Value.slice ws[i1].1.1 ws[i1].2.length ws[i1].1.2) = _
     rw [(hRF _ (List.getElem_mem hiw)).2.2.1]
    have Hla := Lib.hid hla
    clear hla hgl hro
    refine wp_seq ?_
    refine wp_seq (rsE allocs [0, 0, 0, 0, 0, 0, 1, 0, 0] hB hG fun L hL => ?_)
    refine gs ?_
    first | refine gmw (C := fun v => Hp3.out _) ?_ | refine gmna ?_
    refine gs ?_
    refine geT hL ?_
    clear hB hG hL L
    rintro u ⟨hgu, hB, hG, -⟩
    have hRF2 := RowsF.grow hgu hRF
    have Hla2 := Lib.hid (fun W hg => Hla.out W (hgu.trans hg))
    have Ho2 := Lib.hid (own_grow' Ho.out hgu)
    clear hRF Ho Hla
    have hRF := hRF2
    have Ho := Ho2
    have Hla := Hla2
    clear hRF2 Ho2 Hla2
    clear hgu
    refine wp_cond_true (rfl) ?_
    refine wp_skip ?_
    refine then_norm ?_
    refine wp_seq ?_
    refine wp_block ?_
    have q1 := Hla.out u (Grow.refl u)
    have c9 := Ho.out.cellAt i (by omega)
    rw [List.getElem?_map, List.getElem?_eq_getElem (by omega)] at c9
    have f9 := fun j => Ho.out.frozenAt j
    refine r0E ?_
    clear c9 f9
    generalize hu0 : World.setCell u _ _ = u0
    have hu1 : putAll u g (i * 1) [Value.slice ws[i1].1.1 Lw ws[i1].1.2] = u0 := by rw [Nat.mul_one]; exact hu0
    have ho3 := Ho.out
    rw [← map_single (ws.map zwV)] at ho3
    have hP := own_put (enc := fun v : Value => [v]) (size := 1) (fun _ => rfl) ho3 i (.slice ws[i1].1.1 Lw ws[i1].1.2) (by rw [List.length_map]; omega)
    rw [map_single, hu1] at hP
    have hRF2 := RowsF.set (hRF.kept Ho.out hP.2) i (List.getElem_mem hiw)
    have hG2 := own_kgrow' Ho.out hG hP.2
    have Ho2 : u0.ownsRow w.heap.size 26 1 (.slice (some ⟨g, 0, none⟩) N RC) N ((ws.set i ws[i1]).map zwV) := by
     have e := hP.1
     rw [List.map_set]
     show u0.ownsRow _ _ _ _ _ ((ws.map zwV).set i (.slice ws[i1].1.1 ws[i1].2.length ws[i1].1.2))
     rw [(hRF _ (List.getElem_mem hiw)).2.2.1]
     exact e
    clear hG hB Ho hP hu1 hu0 ho3 Hla
    have hG := hG2
    have Ho := Lib.hid Ho2
    clear hG2 Ho2
    obtain ⟨u, rfl⟩ : ∃ x, x = u0 := ⟨_, rfl⟩
    have hB := Bx.nil u
    refine blk_norm ?_
    refine then_norm ?_
    refine r0E ?_
    refine then_norm ?_
    go_roundw
    case rel => exact ⟨i + 3, ws.set i ws[i1], by omega, by go_num, by rw [List.length_set]; exact hwl, hRF2, Ho.out, hG⟩
    case measure => simp [intOf]; omega
   ·have f0 : (t == 0) = false := by simp [ht0]
    have f0d : decide (t = 0) = false := by simp [ht0]
    clear hro
    refine wp_seq ?_
    refine wp_seq (rsE allocs [0, 0, 0, 0, 0, 0, 1, 0, 0] hB hG fun L hL => ?_)
    refine gs ?_
    first | refine gmw (C := fun v => Hp3.out _) ?_ | refine gmna ?_
    refine gs ?_
    refine geT hL ?_
    clear hB hG hL L
    rintro u ⟨hgu, hB, hG, -⟩
    have hRF2 := RowsF.grow hgu hRF
    have Ho2 := Lib.hid (own_grow' Ho.out hgu)
    clear hRF Ho
    have hRF := hRF2
    have Ho := Ho2
    clear hRF2 Ho2
    clear hgu
    refine wp_cond_false (rfl) ?_
    refine wp_exit ?_
    refine then_exit ?_
    refine then_exit ?_
    refine blk_exit ?_
    refine then_norm ?_
    refine wp_seq ?_
    obtain ⟨A2, c2, e9, hcN, hL, -⟩ := own_lrz Ho.out (fun i r hi => ⟨(hRF r (List.mem_of_getElem? hi)).1, (hRF r (List.mem_of_getElem? hi)).2.1⟩)
    cases e9
    have HL := Lib.hid hL
    have HK := Lib.hid (rowsF_ok hRF hwl)
    clear hL
    refine r0N ?_
    refine rt Tryz.results12 ?_
    exact ⟨((_, _), _), rfl, ⟨HK.out, HL.out, hcN⟩, hG⟩
  ·have hdec : decide ((i : Int) < (N : Int)) = false := by simp; omega
   have hdecn : decide (i < N) = false := by simp; omega
   clear hro
   refine wp_seq ?_
   refine wp_seq (rsE allocs [0, 0, 0, 0, 0, 0, 1, 0, 0] hB hG fun L hL => ?_)
   refine gs ?_
   first | refine gmw (C := fun v => Hp3.out _) ?_ | refine gmna ?_
   refine gs ?_
   refine geT hL ?_
   clear hB hG hL L
   rintro u ⟨hgu, hB, hG, -⟩
   have hRF2 := RowsF.grow hgu hRF
   have Ho2 := Lib.hid (own_grow' Ho.out hgu)
   clear hRF Ho
   have hRF := hRF2
   have Ho := Ho2
   clear hRF2 Ho2
   clear hgu
   refine wp_cond_false (rfl) ?_
   refine wp_exit ?_
   refine then_exit ?_
   refine then_exit ?_
   refine blk_exit ?_
   refine then_norm ?_
   refine wp_seq ?_
   obtain ⟨A2, c2, e9, hcN, hL, -⟩ := own_lrz Ho.out (fun i r hi => ⟨(hRF r (List.mem_of_getElem? hi)).1, (hRF r (List.mem_of_getElem? hi)).2.1⟩)
   cases e9
   have HL := Lib.hid hL
   have HK := Lib.hid (rowsF_ok hRF hwl)
   clear hL
   refine r0N ?_
   refine rt Tryz.results12 ?_
   exact ⟨((_, _), _), rfl, ⟨HK.out, HL.out, hcN⟩, hG⟩
end Go.Proofs.YtjmopgepnndckaaGreatDoor
namespace Go.Proofs.YtjmopgepnndckaaGreatDoor
open Go Go.RowKit
theorem snd_sorted {l : List Ht} (h : l.Pairwise leH) : (l.map (·.2)).Pairwise (· ≤ ·) := by
 rw [List.pairwise_map]
 refine h.imp fun {a b} hab => ?_
 unfold leH at hab
 rcases hab with h | ⟨h, _⟩
 ·exact Rat.le_of_lt h
 ·rw [h]; exact Rat.le_refl
theorem best_snd {K : Nat} {S S' : List Ht} (hp : (S.map (·.2)).Perm (S'.map (·.2))) : (best K S).map (·.2) = (best K S').map (·.2) := by
 have h : (srt S).map (·.2) = (srt S').map (·.2) := by
  refine List.Perm.eq_of_pairwise (le := fun a b : Rat => a ≤ b) (fun a b _ _ h1 h2 => Rat.le_antisymm h1 h2) (snd_sorted (srt_sorted S)) (snd_sorted (srt_sorted S')) ?_
  exact (((srt_perm S).map _).trans hp).trans ((srt_perm S').map _).symm
 unfold best
 rw [List.map_take, List.map_take, h]
theorem hits_snd (X : List (List Rat)) (P : List Rat) (L : Nat) : (hitsTo (farI X P L) X.length).map (·.2) = X.map fun r => farQ r P L := by
 unfold hitsTo
 rw [List.map_map]
 apply List.ext_getElem
 ·simp
 ·intro i h1 h2
  have hi : i < X.length := by simpa using h1
  simp only [List.getElem_map, List.getElem_range, Function.comp]
  rw [farI_eq]
  unfold rowR
  rw [List.getElem?_eq_getElem hi]
  rfl
def rotL {α : Type} (T : Nat) (l : List α) : List α := l.drop T ++ l.take T
theorem rotL_perm {α : Type} (T : Nat) (l : List α) : (rotL T l).Perm l := by
 unfold rotL
 refine List.perm_append_comm.trans ?_
 rw [List.take_append_drop]
theorem rotL_len {α : Type} (T : Nat) (l : List α) : (rotL T l).length = l.length := (rotL_perm T l).length_eq
theorem rotL_map {α β : Type} (f : α → β) (T : Nat) (l : List α) : (rotL T l).map f = rotL T (l.map f) := by
 unfold rotL
 rw [List.map_append, List.map_drop, List.map_take]
theorem best_rot (K : Nat) (X : List (List Rat)) (P : List Rat) (L T : Nat) : (best K (hitsTo (farI (rotL T X) P L) X.length)).map (·.2) = (best K (hitsTo (farI X P L) X.length)).map (·.2) := by
 refine best_snd ?_
 have h := hits_snd (rotL T X) P L
 rw [rotL_len] at h
 rw [h, hits_snd]
 exact (rotL_perm T X).map _
theorem slice_M_from (g o n cap lo : Nat) (h1 : lo ≤ n) (h2 : lo < cap) (h4 : n ≤ cap) (W : World) : (Instr.slice 24 (.slice (some ⟨g, o, none⟩) n cap) (some (.int .i64 (lo : Nat))) none none).run Tryz.prog W = .ok (.slice (some ⟨g, o + lo, none⟩) (n - lo) (cap - lo)) W := by
 have h3 : (lo : Int) ≤ (n : Int) := by omega
 have h5 : ¬ (cap : Int) = (lo : Int) := by omega
 have h6 : ¬ cap = lo := by omega
 go_simp
theorem slice_M_to (g o n cap hi : Nat) (h2 : hi ≤ cap) (W : World) : (Instr.slice 24 (.slice (some ⟨g, o, none⟩) n cap) none (some (.int .i64 (hi : Nat))) none).run Tryz.prog W = .ok (.slice (some ⟨g, o, none⟩) hi cap) W := by
 have h3 : (hi : Int) ≤ (cap : Int) := by omega
 go_simp
theorem info_SRQ : (Tryz.prog.info? 26).map (fun i => (i.zero, i.size, i.bytes)) = some (some (.slice none 0 0), 1, 24) := by kernel_rfl
abbrev rzRow (r : Rq) : Value := .slice r.1 r.2.2.length r.2.1
theorem own_lrzR {u : World} {B n : Nat} {v : Value} {rs : List Rq} (h : u.ownsRow B 26 1 v n (rs.map rzRow)) (hr : ∀ r ∈ rs, Lz u r.1 r.2.2) : ∃ A c, v = .slice A n c ∧ Lrz u A rs ∧ n = rs.length := by
 have hn : n = rs.length := by have := h.1; simp at this; omega
 obtain ⟨_, h | ⟨g, cap, cur, rfl, hb, hh, hn', hc, hs, ht⟩⟩ := h
 ·obtain ⟨rfl, h0⟩ := h
  exact ⟨none, 0, by rw [h0], fun hne => absurd (List.eq_nil_of_length_eq_zero (l := rs) (by omega)) hne, hn⟩
 ·refine ⟨_, cap, rfl, fun _ => ⟨g, 0, rfl, heap_lt hh, fun i r hi => ⟨?_, hr r (List.mem_of_getElem? hi)⟩⟩, hn⟩
  have hil : i < rs.length := (List.getElem?_eq_some_iff.1 hi).1
  rw [cell_of_row u g _ cur 26 (0, 0) hh, Nat.zero_add]
  have h1 : (cur.toList.take (n * 1))[i]? = some (rzRow r) := by rw [ht, List.getElem?_map, hi]; rfl
  rw [List.getElem?_take, if_pos (by omega)] at h1
  simpa using h1
/-- the rotated rows: both appends -/
theorem rot_run {w v : World} {b g o N RC T : Nat} {rs : List Rq} (hb : w.heap.size ≤ b) (hv : Blk v b 26 #[]) (hG : Grow w v) (hl : rs.length = N) (hT : T < N) (hN : N ≤ 300) (h : Lrz w (some ⟨g, o, none⟩) rs) :
  ∃ (v1 : Value) (w1 : World) (A2 : Option Addr) (c2 : Nat) (w2 : World), (Builtin.append_ #[24, 24] 24 #[.slice (some ⟨b, 0, none⟩) 0 0, .slice (some ⟨g, o + T, none⟩) (N - T) (RC - T)]).run Tryz.prog v = .ok v1 w1 ∧ (Builtin.append_ #[24, 24] 24 #[v1, .slice (some ⟨g, o, none⟩) T RC]).run Tryz.prog w1 = .ok (.slice A2 N c2) w2 ∧ Lrz w2 A2 (rotL T rs) ∧ Grow w w2 := by
 obtain ⟨i0, hi0, hz0, hz1, hz2⟩ := info_parts info_SRQ
 have hcell : ∀ W, Grow w W → ∀ i, (hi : i < rs.length) → W.cell? ⟨g, o + i, none⟩ = some (rzRow rs[i]) ∧ Lz W rs[i].1 rs[i].2.2 := fun W hg i hi => by
  obtain ⟨b', off, e, _, hc⟩ := (h.grow hg) (fun e => by rw [e] at hi; simp at hi)
  cases e
  exact hc i _ (List.getElem?_eq_getElem hi)
 have hown : v.ownsRow w.heap.size 26 1 (.slice (some ⟨b, 0, none⟩) 0 0) 0 [] := ⟨rfl, .inr ⟨b, 0, #[], rfl, hb, hv, Nat.le_refl _, Nat.zero_le _, rfl, rfl⟩⟩
 obtain ⟨v1, w1, hr1, ho1, hg1, -, -⟩ := run_append_own_at (P := Tryz.prog) (w := v) w.heap.size 24 24 26 i0 (.slice none 0 0) 1 24 Tryz.underlying24 hi0 hz0 hz1 hz2 rfl (by omega) _ 0 [] hown ⟨g, o + T, none⟩ (N - T) (RC - T) ((rs.drop T).map rzRow) (by simp [hl]) (fun j u hj => by
  rw [List.getElem?_map, List.getElem?_drop] at hj
  have hjl : T + j < rs.length := by
   rcases Nat.lt_or_ge (T + j) rs.length with h1 | h1
   ·exact h1
   ·rw [List.getElem?_eq_none h1] at hj; cases hj
  rw [List.getElem?_eq_getElem hjl] at hj
  cases hj
  rw [Go.WideShapes.add_plain, Nat.add_assoc]
  exact (hcell v hG _ hjl).1) (fun u hu => by obtain ⟨r, _, rfl⟩ := List.mem_map.1 hu; rfl) (by unfold maxLen; omega) (by omega) hG.size
 have hG1 : Grow w w1 := hG.grown hg1 fun k hk => (hown.lt k hk).1
 obtain ⟨v2, w2, hr2, ho2, hg2, -, -⟩ := run_append_own_at (P := Tryz.prog) (w := w1) w.heap.size 24 24 26 i0 (.slice none 0 0) 1 24 Tryz.underlying24 hi0 hz0 hz1 hz2 rfl (by omega) v1 (0 + (N - T)) ([] ++ (rs.drop T).map rzRow) ho1 ⟨g, o, none⟩ T RC ((rs.take T).map rzRow) (by simp [hl]; omega) (fun j u hj => by
  rw [List.getElem?_map, List.getElem?_take] at hj
  have hjT : j < T := by
   rcases Nat.lt_or_ge j T with h1 | h1
   ·exact h1
   ·rw [if_neg (by omega)] at hj; cases hj
  rw [if_pos hjT, List.getElem?_eq_getElem (by omega)] at hj
  cases hj
  rw [Go.WideShapes.add_plain]
  exact (hcell w1 hG1 _ (by omega)).1) (fun u hu => by obtain ⟨r, _, rfl⟩ := List.mem_map.1 hu; rfl) (by unfold maxLen; omega) (by omega) hG1.size
 have hG2 : Grow w w2 := hG1.grown hg2 fun k hk => (ho1.lt k hk).1
 have e1 : 0 + (N - T) + T = N := by omega
 have e2 : [] ++ (rs.drop T).map rzRow ++ (rs.take T).map rzRow = (rotL T rs).map rzRow := by unfold rotL; simp
 rw [e1, e2] at ho2
 obtain ⟨A2, c2, rfl, hL, -⟩ := own_lrzR ho2 (fun r hr => by
  obtain ⟨i, hi, rfl⟩ := List.getElem_of_mem ((rotL_perm T rs).mem_iff.1 hr)
  exact (hcell w2 hG2 i hi).2)
 exact ⟨v1, w1, A2, c2, w2, hr1, hr2, hL, hG2⟩
/-- an append whose run is known, at a step of a region that draws -/
theorem step_app {P : Program} {ops : Array Oper} {o : Oper} {a : Act} {K : Act → World → Prop} {Q : Exit → Act → World → Prop} {E : Prop} {w w' : World} {v x y : Value} (hgd : o.guard = none) (s z : Operand) (t : TypeId)
  (ho : o.op = .call { callee := .builtin .append, args := #[s, z], argTypes := #[t, t] }) (hs : a.eval s = x) (hz : a.eval z = y) (hr : (Builtin.append_ #[t, t] o.type #[x, y]).run P w = .ok v w') (h : K (a.put o.dst v) w') :
  if Region.wanted o (yielded ops a.tmps) = true then Oper.wp P o a w K Q else E := by
 have hw : Region.wanted o (yielded ops a.tmps) = true := by simp [Region.wanted, hgd]
 rw [if_pos hw]
 unfold Oper.wp execOp
 simp only [ho, resolve, invoke, builtin, Sem.run_bind, Sem.run_pure, Result.andThen_ok, List.map_toArray, List.map_cons, List.map_nil, hs, hz, hr]
 exact h
end Go.Proofs.YtjmopgepnndckaaGreatDoor
