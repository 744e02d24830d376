/-
  Contracts and laws: RefQ SheetA ClassA RowsA.
-/
import Derived.Test.YtjmopgepnndckaaGreatDoorO34
set_option linter.unusedSimpArgs false
set_option linter.unusedVariables false
namespace Go.Proofs.YtjmopgepnndckaaGreatDoor
open Go.RowKit
end Go.Proofs.YtjmopgepnndckaaGreatDoor
namespace Go.Proofs.YtjmopgepnndckaaGreatDoor
open Go.RowKit
/-- fractions of the document's that lie beside the boxes bs -/
def LzX (u : World) (bs : List Nat) (A : Option Addr) (l : List Rat) : Prop := Lz u A l ∧ (∀ b off, A = some ⟨b, off, none⟩ → b ∉ bs) ∧ 0 < l.length
theorem LzX.a {u : World} {bs : List Nat} {A : Option Addr} {l : List Rat} (h : LzX u bs A l) : Lz u A l := h.1
theorem LzX.grow {u u' : World} {bs : List Nat} {A : Option Addr} {l : List Rat} (h : LzX u bs A l) (hg : Grow u u') : LzX u' bs A l := ⟨h.1.grow hg, h.2⟩
theorem Cz.far {u : World} {b i : Nat} {p : Az} {q : Rat} (h : Cz u b i p q) {a : Addr} (ha : b ≠ a.block) (v : Value) : Cz (u.setCell a v) b i p q := by
 have key : ∀ j, (u.setCell a v).cell? ⟨b, j, none⟩ = u.cell? ⟨b, j, none⟩ := fun j => World.cell?_of_block (Below.heap_setCell u a v b ha)
 exact ⟨(key _).trans h.1, (key _).trans h.2.1, (key _).trans h.2.2⟩
theorem LzX.put {u u' : World} {bs : List Nat} {A : Option Addr} {l : List Rat} (h : LzX u bs A l) {bl : List (Nat × TypeId × Array Value)} (hB : Bx u bl) (k : Nat) {b : Nat} {t : TypeId} {cs : Array Value} (hk : bl[k]? = some (b, t, cs)) (ht : b ∈ bs ∧ t ≠ 162) (i : Nat) (vs : List Value) (hu : putAll u b i vs = u') : LzX u' bs A l := by
 refine ⟨fun hn => ?_, h.2⟩
 obtain ⟨ba, oa, e, hb, hc⟩ := h.1 hn
 have hne : ba ≠ b := fun e' => h.2.1 ba oa e (e' ▸ ht.1)
 have hsz : ∀ (vs : List Value) (i : Nat) (u : World), (putAll u b i vs).heap.size = u.heap.size := by
  intro vs
  induction vs with
  | nil => exact fun _ _ => rfl
  | cons v vs ih => exact fun i u => (ih (i + 1) (u.setCell ⟨b, i, none⟩ v)).trans (by simp [World.setCell])
 have hcz : ∀ (vs : List Value) (i : Nat) (u : World) (j : Nat) (p : Az) (q : Rat), Cz u ba j p q → Cz (putAll u b i vs) ba j p q := by
  intro vs
  induction vs with
  | nil => exact fun _ _ _ _ _ h => h
  | cons v vs ih => exact fun i u j p q h => ih (i + 1) (u.setCell ⟨b, i, none⟩ v) j p q (h.far (a := ⟨b, i, none⟩) hne v)
 refine ⟨ba, oa, e, by rw [← hu, hsz]; exact hb, fun j hj => ?_⟩
 obtain ⟨p, h1, h2⟩ := hc j hj
 exact ⟨p, h1.put hB k hk ht.2 i vs hu, by rw [← hu]; exact hcz vs i u _ p _ h2⟩
theorem LzX.lt {u : World} {bs : List Nat} {A : Option Addr} {l : List Rat} (h : LzX u bs A l) : ∀ b off, A = some ⟨b, off, none⟩ → b < u.heap.size := fun b off e => by
 obtain ⟨b', off', e', hb, _⟩ := h.1 (fun h0 => by have := h.2.2; rw [h0] at this; cases this)
 rw [e] at e'
 cases e'
 exact hb
theorem LzX.more {v : World} {n b : Nat} {bs : List Nat} {A : Option Addr} {l : List Rat} (h : LzX v bs A l) (hlt : ∀ b off, A = some ⟨b, off, none⟩ → b < n) (hb : n ≤ b) : LzX v (b :: bs) A l :=
 ⟨h.1, fun b' off e hm => by
  rcases List.mem_cons.1 hm with rfl | hm
  ·have := hlt b' off e; omega
  ·exact h.2.1 b' off e hm, h.2.2⟩
theorem LzX.addr {u : World} {bs : List Nat} {A : Option Addr} {l : List Rat} (h : LzX u bs A l) : ∃ b off, A = some ⟨b, off, none⟩ := h.1.addr h.2.2
end Go.Proofs.YtjmopgepnndckaaGreatDoor
namespace Go.Proofs.YtjmopgepnndckaaGreatDoor
open Go.RowKit
theorem Li.at {u : World} {A : Option Addr} {l : List Int} {i : Nat} (h : Li u A l) (hi : i < l.length) : ∃ b off, A = some ⟨b, off, none⟩ ∧ ∀ W, Grow u W → W.cell? ⟨b, off + i, none⟩ = some (.int .i64 (gi l i)) := by
 obtain ⟨b, off, e, -⟩ := h.cell hi
 refine ⟨b, off, e, fun W hg => ?_⟩
 obtain ⟨b', o', e', hc⟩ := (h.grow hg).cell hi
 rw [e] at e'
 cases e'
 exact hc
theorem ei_int : EI 22 3 1 8 := ei_of (by kernel_rfl) (by kernel_rfl) (by omega)
end Go.Proofs.YtjmopgepnndckaaGreatDoor
namespace Go.Proofs.YtjmopgepnndckaaGreatDoor
open Go Go.RowKit
/-- l[m:] -/
theorem cut_ints (A : Option Addr) (l : List Int) (c p m : Nat) (hp : p = l.length) (hc : p ≤ c) (hm : m ≤ p) (w : World) (h : Li w A l) : ∃ A' : Option Addr, (∀ W, (Instr.slice 22 (.slice A p c) (some (.int .i64 (m : Nat))) none none).run Tryz.prog W = .ok (.slice A' (p - m) (c - m)) W) ∧ Li w A' (l.drop m) := by
 refine ⟨if c = m then A else A.map (·.add m), fun W => ?_, fun hne => ?_⟩
 ·have h3 : (m : Int) ≤ (p : Int) := by omega
  have h4 : ¬ p < m := by omega
  clear hp h
  go_simp
 ·have hlt : m < l.length := by
   refine Decidable.byContradiction fun hh => hne ?_
   exact List.drop_eq_nil_of_le (by omega)
  obtain ⟨b, off, rfl, hb, hx⟩ := h (fun e => by rw [e] at hlt; cases hlt)
  rw [if_neg (by omega)]
  refine ⟨b, off + m, by simp [Addr.add], hb, fun i x hi => ?_⟩
  rw [List.getElem?_drop] at hi
  rw [Nat.add_assoc]
  exact hx (m + i) x hi
abbrev Zw := Ax × List Zr
abbrev zwV (r : Zw) : Value := .slice r.1.1 r.2.length r.1.2
/-- rows of the document's fractions, each of the call's own, all apart -/
def RowsZ (B : Nat) (W : World) (rws : List Zw) : Prop := (∀ r ∈ rws, AllZ W r.2 ∧ W.ownsRow B 57 3 (zwV r) r.2.length (r.2.flatMap zrL)) ∧ rws.Pairwise (fun a b => Apart (zwV a) (zwV b))
theorem RowsZ.nil (B : Nat) (W : World) : RowsZ B W [] := ⟨fun _ h => (by cases h), List.Pairwise.nil⟩
theorem RowsZ.grow {B : Nat} {u u' : World} {rws : List Zw} (h : RowsZ B u rws) (hg : Grow u u') : RowsZ B u' rws := ⟨fun r hr => ⟨(h.1 r hr).1.grow hg, own_grow' (h.1 r hr).2 hg⟩, h.2⟩
theorem RowsZ.own {B0 : Nat} {u w' : World} {B : Nat} {e : TypeId} {size n : Nat} {v : Value} {xs : List Value} {o : Obj} {rws : List Zw} (hl : RowsZ B0 u rws) (h : u.ownsRow B e size v n xs) (ht : e ≠ 162 ∧ e ≠ 57) (hg : (u.alloc o).grownBy w' v.ownBlock) : RowsZ B0 w' rws := ⟨fun r hr => ⟨(hl.1 r hr).1.own h ht.1 hg, by
 have h2 := (hl.1 r hr).2
 refine (h2.alloc o).kept hg ?_
 cases hb : (zwV r).ownBlock with
 | none => exact .inl rfl
 | some g => exact .inr fun e1 => apart_types h h2 ht.2 g e1.symm hb⟩, hl.2⟩
/-- one row just handed back -/
def RowZ1 (B k : Nat) (q : List Rat) (x : Zw) (W : World) : Prop := (x.2.map (·.2) = q ∧ x.2.length = k) ∧ AllZ W x.2 ∧ W.ownsRow B 57 3 (zwV x) x.2.length (x.2.flatMap zrL)
theorem RowZ1.grow {B k : Nat} {q : List Rat} {x : Zw} {u u' : World} (hg : Grow u u') (h : RowZ1 B k q x u) : RowZ1 B k q x u' := ⟨h.1, h.2.1.grow hg, own_grow' h.2.2 hg⟩
theorem RowsZ.snoc {B k : Nat} {q : List Rat} {u v : World} {rws : List Zw} {x : Zw} (h : RowsZ B u rws) (hg : Grow u v) (hB : B ≤ u.heap.size) (h1 : RowZ1 u.heap.size k q x v) : RowsZ B v (rws ++ [x]) := by
 refine ⟨fun r hr => ?_, ?_⟩
 ·rcases List.mem_append.1 hr with hr | hr
  ·exact (h.grow hg).1 r hr
  ·have : r = x := by simpa using hr
   subst this
   exact ⟨h1.2.1, h1.2.2.mono hB⟩
 ·rw [List.pairwise_append]
  refine ⟨h.2, by simp, fun a ha b hb => ?_⟩
  have : b = x := by simpa using hb
  subst this
  intro g e1 e2
  have h3 := ((h.1 a ha).2.lt g e1).2
  have h4 := (h1.2.2.lt g e2).1
  omega
/-- the numbers of rows -/
def rowsQ (l : List Int) (n k : Nat) : List (List Rat) := (List.range n).map fun i => rowQ (l.drop (min l.length (i * k))) k
theorem rowsQ_succ (l : List Int) (n k : Nat) : rowsQ l (n + 1) k = rowsQ l n k ++ [rowQ (l.drop (min l.length (n * k))) k] := by unfold rowsQ; rw [List.range_succ, List.map_append]; rfl
def rowsV (rws : List Zw) : List (List Rat) := rws.map fun r => r.2.map (·.2)
theorem rowsV_snoc (rws : List Zw) (x : Zw) : rowsV (rws ++ [x]) = rowsV rws ++ [x.2.map (·.2)] := by unfold rowsV; simp
theorem ei_SSRQ : EI 23 26 1 24 := ei_of (by kernel_rfl) (by kernel_rfl) (by omega)
theorem bs_SRQ (A : Option Addr) (n c : Nat) (w : World) : (Instr.buildSlice 23 1 #[(0, .slice A n c)]).run Tryz.prog w = .ok (.slice (some ⟨w.heap.size, 0, none⟩) 1 1) (w.alloc (.cells #[.slice A n c] 26)) := by
 go_simp
set_option maxHeartbeats 2000000 in
set_option maxRecDepth 100000 in
theorem hand_Rows (A : Option Addr) (l : List Int) (c p n k : Nat) (hp : p = l.length) (hc : p ≤ c) (hn : n ≤ 1048576) (hk : k ≤ 1048576) (hpm : p ≤ 9223372036854775807) (hb : ∀ x ∈ l, -9223372036854775808 ≤ x ∧ x ≤ 9223372036854775807) (w : World) (h : Li w A l) :
  Calls Tryz.prog 47 #[.slice A p c, .int .i64 n, .int .i64 k] w fun e w' => ∃ (v : Value) (rws : List Zw), e = .returned v ∧ rowsV rws = rowsQ l n k ∧ RowsZ w.heap.size w' rws ∧ w'.ownsRow w.heap.size 26 1 v n (rws.map zwV) ∧ Grow w w' := by
 have H := Lib.hid h
 have Hp := Lib.hid hp
 have Hb := Lib.hid hb
 clear h hp hb
 go_enter Tryz.func47, Tryz.ntmps47
 refine en0 ?_
 intro u hG hB hF
 refine r0T ?_
 refine wp_seq ?_
 refine r0T ?_
 refine wp_block ?_
 clear hB hF
 go_loopw [8, 7] (fun s0 s1 wr => ∃ (i : Nat) (rws : List Zw), i ≤ n ∧ s0 = .int .i64 i ∧ rowsV rws = rowsQ l i k ∧ RowsZ w.heap.size wr rws ∧ wr.ownsRow w.heap.size 26 1 s1 i (rws.map zwV) ∧ Grow w wr) (fun s0 _ _ => n - (intOf s0).toNat)
 case atStart => exact ⟨0, [], Nat.zero_le _, rfl, rfl, RowsZ.nil _ _, World.ownsRow_nil _ _ _ _, hG⟩
 case round =>
  clear hG
  obtain ⟨i, rws, hi, rfl, hps, hA, ho, hG⟩ := hrel
  obtain ⟨u, rfl⟩ : ∃ x, x = wr := ⟨_, rfl⟩
  have hB := Bx.nil u
  have hF := Fr.nil w
  have Ho := Lib.hid ho
  have Hps := Lib.hid hps
  clear ho hps
  rcases Nat.lt_or_ge i n with hlt | hge
  ·have hdec : decide ((i : Int) < (n : Int)) = true := by simp; omega
   have hsu := rowsQ_succ l i k
   obtain ⟨ik, hik⟩ : ∃ x, x = i * k := ⟨_, rfl⟩
   have hikb : ik ≤ 1048576 * 1048576 := by rw [hik]; exact Nat.mul_le_mul (by omega) hk
   have fik : IntKind.i64.wrap ((i : Int) * (k : Int)) = (ik : Int) := by rw [hik, Int.natCast_mul]; exact IntWalk.i64_in _ (by rw [← Int.natCast_mul, ← hik]; omega)
   obtain ⟨m, hm⟩ : ∃ x, x = min p ik := ⟨_, rfl⟩
   have fmin : min (p : Int) (ik : Int) = (m : Int) := by omega
   have hmp : m ≤ p := by omega
   rw [← hik, ← Hp.out, ← hm] at hsu
   obtain ⟨A', hsl, hLi⟩ := cut_ints A l c p m Hp.out hc hmp w H.out
   have hrw : ∀ W, Grow u W → Calls Tryz.prog 13 #[.slice A' (p - m) (c - m), .int .i64 k] W (RetY (fun x : Zw => .slice x.1.1 k x.1.2) (fun x W' => RowZ1 u.heap.size k (rowQ (l.drop m) k) x W') W) := fun W hg =>
    (hand_RowO A' (l.drop m) (c - m) (p - m) k (by rw [List.length_drop, Hp.out]) hk (by omega) (fun x hx => Hb.out x (List.mem_of_mem_drop hx)) W (hLi.grow (hG.trans hg))).mono fun e w' ⟨v, ps, he, h1, h2, h3, h4⟩ => by
     obtain ⟨A2, cc, rfl, hcc1, hcc2, hL, hkl⟩ := own_lz h3 h2
     refine ⟨((A2, cc), ps), he, ⟨⟨h1, hkl.symm⟩, h2, ?_⟩, h4⟩
     rw [hkl] at h3
     exact h3.mono hg.size
   obtain ⟨pm, hpm2⟩ : ∃ x, x = p - m := ⟨_, rfl⟩
   obtain ⟨cm, hcm⟩ : ∃ x, x = c - m := ⟨_, rfl⟩
   rw [← hpm2, ← hcm] at hrw
   simp only [← hpm2, ← hcm] at hsl
   obtain ⟨q, hq⟩ : ∃ x, x = rowQ (l.drop m) k := ⟨_, rfl⟩
   rw [← hq] at hsu
   simp only [← hq] at hrw
   have Hrw := Lib.hid hrw
   have Hsu := Lib.hid hsu
   obtain ⟨B0, hB0⟩ : ∃ x, x = u.heap.size := ⟨_, rfl⟩
   have hBB : w.heap.size ≤ u.heap.size := hG.sz
   clear hrw hsu hLi hpm2 hcm hm hik hikb hq hB0
   refine wp_seq ?_
   refine r0T ?_
   refine wp_cond_true (rfl) ?_
   refine wp_skip ?_
   refine then_norm ?_
   refine wp_seq ?_
   refine wp_block ?_
   have hA0 := Lib.hid hA
   refine wp_rs (w := w) allocs 11 [0, 0, 0, 0, 0, 0, 0, 0, 0, 0, 1] (by kernel_rfl) (by simp only [List.drop_succ_cons, List.drop_zero]; exact rfl) (fun _ => True) noG hB hG trivial ?_
   intro K L hN hL
   simp only [List.zip_cons_cons, List.zip_nil_left]
   refine gs ?_
   refine gxd (X := Zw) (fun x : Zw => .slice x.1.1 k x.1.2) (fun x W => RowZ1 u.heap.size k q x W) (fun x u u' hg h => RowZ1.grow hg h) (fun x24 => ?_) (C := by (rintro v ⟨hgu, hB, hG, -⟩; exact Hrw.out _ hgu))
   refine gend ?_
   rintro v ⟨⟨hgu, hB1, hG1, -⟩, hx24⟩
   replace hA := hA.grow hgu
   have ROWn := Lib.hid (own_grow' Ho.out hgu)
   clear Ho
   have Ho := ROWn
   clear ROWn
   have hA2 := hA0.out.snoc hgu hBB hx24
   have hk2 := hx24.1
   clear hA hA0 hx24
   have hA := hA2
   clear hA2
   clear hB hG
   have hB := hB1
   have hG := hG1
   clear hB1 hG1
   refine hL _ _ ?_
   clear hL L hgu
   obtain ⟨u, rfl⟩ : ∃ x, x = v := ⟨_, rfl⟩
   refine app_tailG ei_SSRQ w.heap.size _ _ _ _ [.slice x24.1.1 k x24.1.2] rfl rfl (bs_SRQ x24.1.1 k x24.1.2 u) rfl (fun _ => rfl) (fun _ => rfl) (fun _ _ => rfl) Ho.out (by omega) (by omega) hG.sz fun p v' w' g1 g2 g3 => ?_
   have hBn := Bx.nil w'
   have hGn := own_growth Ho.out hG g2
   replace hA := hA.own Ho.out (by decide) g2
   clear Ho hB hG
   have Ho := Lib.hid g1
   have hB := hBn
   have hG := hGn
   clear g1 g2 g3 hBn hGn
   obtain ⟨u, rfl⟩ : ∃ x, x = w' := ⟨_, rfl⟩
   simp only [Act.put, List.setIfInBounds_toArray, List.set_cons_succ, List.set_cons_zero]
   refine NoK.norm (hN _ _ ?_)
   clear hN K
   refine blk_norm ?_
   refine then_norm ?_
   refine r0E ?_
   refine then_norm ?_
   go_roundw
   case rel => exact ⟨i + 1, rws ++ [x24], by omega, by go_num, by rw [rowsV_snoc, Hps.out, Hsu.out, hk2.1], hA, by have := Ho.out; rw [List.map_append]; simpa [zwV, hk2.2] using this, hG⟩
   case measure => simp [intOf]; omega
  ·obtain rfl : n = i := by omega
   have hdec : decide ((n : Int) < (n : Int)) = false := by simp
   refine wp_seq ?_
   refine r0T ?_
   refine wp_cond_false (rfl) ?_
   refine wp_exit ?_
   refine then_exit ?_
   refine then_exit ?_
   refine blk_exit ?_
   refine then_norm ?_
   refine r0T ?_
   refine rt Tryz.results47 ?_
   exact ⟨_, rws, rfl, Hps.out, hA, Ho.out, hG⟩
/-- rows of the document's fractions that lie from the address on -/
def Lrz (u : World) (A : Option Addr) (rs : List Rq) : Prop :=
 rs ≠ [] → ∃ b off, A = some ⟨b, off, none⟩ ∧ b < u.heap.size ∧ ∀ i r, rs[i]? = some r → u.cell? ⟨b, off + i, none⟩ = some (.slice r.1 r.2.2.length r.2.1) ∧ Lz u r.1 r.2.2
theorem Lrz.grow {u u' : World} {A : Option Addr} {rs : List Rq} (h : Lrz u A rs) (hg : Grow u u') : Lrz u' A rs := fun hn => by
 obtain ⟨b, off, e, hb, hc⟩ := h hn
 exact ⟨b, off, e, Nat.lt_of_lt_of_le hb hg.size, fun i r hi => ⟨(hg.cell (p := ⟨b, off + i, none⟩) hb).trans (hc i r hi).1, (hc i r hi).2.grow hg⟩⟩
theorem Lrz.addr {u : World} {A : Option Addr} {rs : List Rq} (h : Lrz u A rs) (hl : 0 < rs.length) : ∃ b off, A = some ⟨b, off, none⟩ := by
 obtain ⟨b, off, e, _⟩ := h (fun h0 => by rw [h0] at hl; cases hl)
 exact ⟨b, off, e⟩
theorem Lrz.read {u : World} {b off : Nat} {rs : List Rq} (h : Lrz u (some ⟨b, off, none⟩) rs) {i : Nat} {r : Rq} (hi : rs[i]? = some r) : u.cell? ⟨b, off + i, none⟩ = some (.slice r.1 r.2.2.length r.2.1) ∧ Lz u r.1 r.2.2 := by
 obtain ⟨b', off', e, _, hc⟩ := h (fun h0 => by rw [h0] at hi; simp at hi)
 cases e
 exact hc i r hi
abbrev rqRow (r : Rq) : Value := .slice r.1 r.2.2.length r.2.1
/-- rows of fractions, each of the call's own -/
def RowsQ (B : Nat) (W : World) (rs : List Rq) : Prop := ∀ r ∈ rs, W.ownsRow B 49 5 (rqRow r) r.2.2.length (r.2.2.flatMap qL)
theorem RowsQ.nil (B : Nat) (W : World) : RowsQ B W [] := fun _ h => by cases h
theorem RowsQ.grow {B : Nat} {u u' : World} {rs : List Rq} (h : RowsQ B u rs) (hg : Grow u u') : RowsQ B u' rs := fun r hr => own_grow' (h r hr) hg
theorem RowsQ.own {B0 : Nat} {u w' : World} {B : Nat} {e : TypeId} {size n : Nat} {v : Value} {xs : List Value} {o : Obj} {rs : List Rq} (hl : RowsQ B0 u rs) (h : u.ownsRow B e size v n xs) (ht : e ≠ 49) (hg : (u.alloc o).grownBy w' v.ownBlock) : RowsQ B0 w' rs := fun r hr => by
 have h2 := hl r hr
 refine (h2.alloc o).kept hg ?_
 cases hb : (rqRow r).ownBlock with
 | none => exact .inl rfl
 | some g => exact .inr fun e1 => apart_types h h2 ht g e1.symm hb
def RowQ1 (B k : Nat) (q : List Rat) (x : Ax) (W : World) : Prop := q.length = k ∧ W.ownsRow B 49 5 (.slice x.1 k x.2) k (q.flatMap qL)
theorem RowQ1.grow {B k : Nat} {q : List Rat} {x : Ax} {u u' : World} (hg : Grow u u') (h : RowQ1 B k q x u) : RowQ1 B k q x u' := ⟨h.1, own_grow' h.2 hg⟩
theorem RowsQ.snoc {B k : Nat} {q : List Rat} {v : World} {rs : List Rq} {x : Ax} (h : RowsQ B v rs) (h1 : RowQ1 B k q x v) : RowsQ B v (rs ++ [(x.1, x.2, q)]) := fun r hr => by
 rcases List.mem_append.1 hr with hr | hr
 ·exact h r hr
 ·have : r = (x.1, x.2, q) := by simpa using hr
  subst this
  have h2 := h1.2
  rw [← h1.1] at h2
  exact h2
theorem ei_SSQ : EI 33 35 1 24 := ei_of (by kernel_rfl) (by kernel_rfl) (by omega)
theorem bs_SQ (A : Option Addr) (n c : Nat) (w : World) : (Instr.buildSlice 33 1 #[(0, .slice A n c)]).run Tryz.prog w = .ok (.slice (some ⟨w.heap.size, 0, none⟩) 1 1) (w.alloc (.cells #[.slice A n c] 35)) := by
 go_simp
/-- rows off a row of the call's own -/
theorem own_lrq {u : World} {B n : Nat} {v : Value} {rs : List Rq} (h : u.ownsRow B 35 1 v n (rs.map rqRow)) (hr : RowsQ B u rs) : ∃ A c, v = .slice A n c ∧ n ≤ c ∧ Lrq u A rs ∧ n = rs.length := by
 have hn : n = rs.length := by have := h.1; simp at this; omega
 subst hn
 obtain ⟨_, h | ⟨g, cap, cur, rfl, hb, hh, hn, hc, hs, ht⟩⟩ := h
 ·obtain ⟨rfl, h0⟩ := h
  exact ⟨none, 0, by rw [h0], by omega, fun hne => absurd (List.eq_nil_of_length_eq_zero h0) hne, rfl⟩
 ·refine ⟨_, cap, rfl, hn, fun _ => ⟨g, 0, rfl, heap_lt hh, fun i r hi => ⟨?_, ?_⟩⟩, rfl⟩
  ·rw [Nat.zero_add, cell_of_row u g i cur 35 (0, 0) hh]
   have hil : i < rs.length := (List.getElem?_eq_some_iff.1 hi).1
   have h1 : (cur.toList.take (rs.length * 1))[i]? = some (rqRow r) := by rw [ht, List.getElem?_map, hi]; rfl
   rw [List.getElem?_take, if_pos (by omega)] at h1
   simpa using h1
  ·obtain ⟨A, c, e1, _, _, hL, _⟩ := own_lq (hr r (List.mem_of_getElem? hi))
   cases e1
   exact hL
theorem own_lrz {u : World} {B B2 n : Nat} {v : Value} {rws : List Zw} (h : u.ownsRow B 26 1 v n (rws.map zwV)) (hr : ∀ (i : Nat) (r : Zw), rws[i]? = some r → AllZ u r.2 ∧ u.ownsRow B2 57 3 (zwV r) r.2.length (r.2.flatMap zrL)) : ∃ A c, v = .slice A n c ∧ n ≤ c ∧ Lrz u A (rws.map fun r => (r.1.1, r.1.2, r.2.map (·.2))) ∧ n = rws.length := by
 have hn : n = rws.length := by have := h.1; simp at this; omega
 subst hn
 obtain ⟨_, h | ⟨g, cap, cur, rfl, hb, hh, hn, hc, hs, ht⟩⟩ := h
 ·obtain ⟨rfl, h0⟩ := h
  exact ⟨none, 0, by rw [h0], by omega, fun hne => absurd (by rw [List.eq_nil_of_length_eq_zero h0]; rfl) hne, rfl⟩
 ·refine ⟨_, cap, rfl, hn, fun _ => ⟨g, 0, rfl, heap_lt hh, fun i r hi => ?_⟩, rfl⟩
  rw [List.getElem?_map] at hi
  obtain ⟨r0, hr0, rfl⟩ := Option.map_eq_some_iff.1 hi
  have hil : i < rws.length := (List.getElem?_eq_some_iff.1 hr0).1
  refine ⟨?_, ?_⟩
  ·rw [Nat.zero_add, cell_of_row u g i cur 26 (0, 0) hh]
   have h1 : (cur.toList.take (rws.length * 1))[i]? = some (zwV r0) := by rw [ht, List.getElem?_map, hr0]; rfl
   rw [List.getElem?_take, if_pos (by omega)] at h1
   simpa using h1
  ·obtain ⟨h1, h2⟩ := hr i r0 hr0
   obtain ⟨A, c, e1, _, _, hL, _⟩ := own_lz h2 h1
   cases e1
   exact hL
set_option maxHeartbeats 2000000 in
set_option maxRecDepth 100000 in
theorem hand_InRows (A : Option Addr) (rs : List Rq) (c n : Nat) (hn : n = rs.length) (hm : n ≤ 1048576) (hs : ∀ r ∈ rs, r.2.2.length ≤ 1048576 ∧ ∀ x ∈ r.2.2, qs x ≤ BIG) (w : World) (h : Lrz w A rs) (HT : Tab w) :
  Calls Tryz.prog 16 #[.slice A n c] w fun e w' => ∃ (v : Value) (rs' : List Rq), e = .returned v ∧ rs'.map (·.2.2) = rs.map (·.2.2) ∧ RowsQ w.heap.size w' rs' ∧ w'.ownsRow w.heap.size 35 1 v n (rs'.map rqRow) ∧ Grow w w' := by
 have H := Lib.hid h
 have Hn := Lib.hid hn
 have Hs := Lib.hid hs
 clear h hn hs
 go_enter Tryz.func16, Tryz.ntmps16
 refine en0 ?_
 intro u hG hB hF
 refine r0T ?_
 refine wp_seq ?_
 refine r0T ?_
 refine wp_block ?_
 clear hB hF
 go_loopw [4, 3] (fun s0 s1 wr => ∃ (i : Nat) (rs' : List Rq), i ≤ n ∧ s0 = .int .i64 i ∧ rs'.map (·.2.2) = (rs.take i).map (·.2.2) ∧ RowsQ w.heap.size wr rs' ∧ wr.ownsRow w.heap.size 35 1 s1 i (rs'.map rqRow) ∧ Grow w wr) (fun s0 _ _ => n - (intOf s0).toNat)
 case atStart => exact ⟨0, [], Nat.zero_le _, rfl, rfl, RowsQ.nil _ _, World.ownsRow_nil _ _ _ _, hG⟩
 case round =>
  clear hG
  obtain ⟨i, rs', hi, rfl, hps, hA, ho, hG⟩ := hrel
  obtain ⟨u, rfl⟩ : ∃ x, x = wr := ⟨_, rfl⟩
  have hB := Bx.nil u
  have hF := Fr.nil w
  have Ho := Lib.hid ho
  have Hps := Lib.hid hps
  clear ho hps
  rcases Nat.lt_or_ge i n with hlt | hge
  ·have hdec : decide ((i : Int) < (n : Int)) = true := by simp; omega
   have hil : i < rs.length := by rw [← Hn.out]; exact hlt
   have hsu : rs.take (i + 1) = rs.take i ++ [rs[i]] := List.take_succ_eq_append_getElem hil
   obtain ⟨ba, oa, rfl⟩ := H.out.addr (by omega)
   obtain ⟨hs1, hs2⟩ := Hs.out _ (List.getElem_mem hil)
   have hrd : ∀ W, Grow w W → W.cell? ⟨ba, oa + i, none⟩ = some (.slice rs[i].1 rs[i].2.2.length rs[i].2.1) ∧ Lz W rs[i].1 rs[i].2.2 := fun W hg => (H.out.grow hg).read (List.getElem?_eq_getElem hil)
   obtain ⟨r, hr⟩ : ∃ r, r = rs[i] := ⟨_, rfl⟩
   simp only [← hr] at hrd hs1 hs2 hsu
   obtain ⟨rA, rc, q⟩ := r
   simp only at hrd hs1 hs2 hsu
   obtain ⟨m, hm2⟩ : ∃ m, m = q.length := ⟨_, rfl⟩
   rw [← hm2] at hrd hs1
   have hin : ∀ W, Grow w W → Tab W → Calls Tryz.prog 17 #[.slice rA m rc] W (RetY (fun x : Ax => .slice x.1 m x.2) (fun x W' => RowQ1 w.heap.size m q x W') W) := fun W hg hT =>
    (hand_InRowO rA q rc m hm2 hs1 hs2 W (hrd W hg).2 hT).mono fun e w' ⟨v, he, ho, hg'⟩ => by
     obtain ⟨A2, cc, rfl, hcc1, hcc2, hL, hkl⟩ := own_lq ho
     exact ⟨(A2, cc), he, ⟨hm2.symm, ho.mono hg.size⟩, hg'⟩
   have hrd' := fun W hg => (hrd W hg).1
   have Hin := Lib.hid hin
   have Hrd := Lib.hid hrd'
   have Hsu := Lib.hid hsu
   clear hin hrd hrd' hsu hr hil hs2 hm2
   refine wp_seq ?_
   refine r0T ?_
   refine wp_cond_true (rfl) ?_
   refine wp_skip ?_
   refine then_norm ?_
   refine wp_seq ?_
   refine wp_block ?_
   refine wp_rs (w := w) allocs 6 [0, 0, 0, 0, 0, 1] (by kernel_rfl) (by simp only [List.drop_succ_cons, List.drop_zero]; exact rfl) (fun _ => True) noG hB hG trivial ?_
   intro K L hN hL
   simp only [List.zip_cons_cons, List.zip_nil_left]
   repeat first | refine gya ?_ | refine gyr ?_ | refine gna ?_ | refine gyb (by (rintro v ⟨hgu, hB, hG, -⟩ N hN; have r := hB.r; simp only [BxR] at r; have c1 := Hrd.out v hG; go_simp; exact hN)) ?_
   refine gxd (X := Ax) (fun x : Ax => .slice x.1 m x.2) (fun x W => RowQ1 w.heap.size m q x W) (fun x u u' hg h => RowQ1.grow hg h) (fun x16 => ?_) (C := by (rintro v ⟨hgu, hB, hG, -⟩; exact Hin.out _ hG (HT.grow hG)))
   refine gend ?_
   rintro v ⟨⟨hgu, hB1, hG1, -⟩, hx16⟩
   replace hA := hA.grow hgu
   have ROWn := Lib.hid (own_grow' Ho.out hgu)
   clear Ho
   have Ho := ROWn
   clear ROWn
   have hA2 := hA.snoc hx16
   have hk2 := hx16.1
   clear hA hx16
   have hA := hA2
   clear hA2
   clear hB hG
   have hB := hB1
   have hG := hG1
   clear hB1 hG1
   refine hL _ _ ?_
   clear hL L hgu
   obtain ⟨u, rfl⟩ : ∃ x, x = v := ⟨_, rfl⟩
   refine app_tailG ei_SSQ w.heap.size _ _ _ _ [.slice x16.1 m x16.2] rfl rfl (bs_SQ x16.1 m x16.2 u) rfl (fun _ => rfl) (fun _ => rfl) (fun _ _ => rfl) Ho.out (by omega) (by omega) hG.sz fun p v' w' g1 g2 g3 => ?_
   have hBn := Bx.nil w'
   have hGn := own_growth Ho.out hG g2
   replace hA := hA.own Ho.out (by decide) g2
   clear Ho hB hG
   have Ho := Lib.hid g1
   have hB := hBn
   have hG := hGn
   clear g1 g2 g3 hBn hGn
   obtain ⟨u, rfl⟩ : ∃ x, x = w' := ⟨_, rfl⟩
   simp only [Act.put, List.setIfInBounds_toArray, List.set_cons_succ, List.set_cons_zero]
   refine NoK.norm (hN _ _ ?_)
   clear hN K
   refine blk_norm ?_
   refine then_norm ?_
   refine r0E ?_
   refine then_norm ?_
   go_roundw
   case rel => exact ⟨i + 1, rs' ++ [(x16.1, x16.2, q)], by omega, by go_num, by rw [List.map_append, Hps.out, Hsu.out, List.map_append]; rfl, hA, by have := Ho.out; rw [List.map_append]; simpa [rqRow, hk2] using this, hG⟩
   case measure => simp [intOf]; omega
  ·obtain rfl : n = i := by omega
   have hdec : decide ((n : Int) < (n : Int)) = false := by simp
   refine wp_seq ?_
   refine r0T ?_
   refine wp_cond_false (rfl) ?_
   refine wp_exit ?_
   refine then_exit ?_
   refine then_exit ?_
   refine blk_exit ?_
   refine then_norm ?_
   refine r0T ?_
   refine rt Tryz.results16 ?_
   exact ⟨_, rs', rfl, by rw [Hps.out, List.take_of_length_le (Nat.le_of_eq Hn.out.symm)], hA, Ho.out, hG⟩
theorem RowsZ.idx {B : Nat} {W : World} {rws : List Zw} (h : RowsZ B W rws) : ∀ (i : Nat) (r : Zw), rws[i]? = some r → AllZ W r.2 ∧ W.ownsRow B 57 3 (zwV r) r.2.length (r.2.flatMap zrL) := fun _ r hi => h.1 r (List.mem_of_getElem? hi)
theorem map_single {α : Type} (l : List α) : l.flatMap (fun v => [v]) = l := by
 induction l with
 | nil => rfl
 | cons x l ih => simp [List.flatMap_cons, ih]
end Go.Proofs.YtjmopgepnndckaaGreatDoor
