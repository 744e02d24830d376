/-
  Contracts and laws: RowsA NearR NearL.
-/
import Derived.Test.YtjmopgepnndckaaGreatDoorV46
set_option linter.unusedSimpArgs false
set_option linter.unusedVariables false
namespace Go.Proofs.YtjmopgepnndckaaGreatDoor
open Go Go.RowKit
abbrev Zw := Ax × List Zr
abbrev zwV (r : Zw) : Value := .slice r.1.1 r.2.length r.1.2
/-- rows of the document's fractions, each of the call's own, all apart -/
def RowsZ (B : Nat) (W : World) (rws : List Zw) : Prop := (∀ r ∈ rws, AllZ W r.2 ∧ W.ownsRow B 57 3 (zwV r) r.2.length (r.2.flatMap zrL)) ∧ rws.Pairwise (fun a b => Apart (zwV a) (zwV b))
theorem RowsZ.nil (B : Nat) (W : World) : RowsZ B W [] := ⟨fun _ h => (by cases h), List.Pairwise.nil⟩
theorem RowsZ.grow {B : Nat} {u u' : World} {rws : List Zw} (h : RowsZ B u rws) (hg : Grow u u') : RowsZ B u' rws := ⟨fun r hr => ⟨(h.1 r hr).1.grow hg, own_grow' (h.1 r hr).2 hg⟩, h.2⟩
theorem RowsZ.own {B0 : Nat} {u w' : World} {B : Nat} {e : TypeId} {size n : Nat} {v : Value} {xs : List Value} {o : Obj} {rws : List Zw} (hl : RowsZ B0 u rws) (h : u.ownsRow B e size v n xs) (ht : e ≠ 162 ∧ e ≠ 57) (hg : (u.alloc o).grownBy w' v.ownBlock) : RowsZ B0 w' rws := ⟨fun r hr => ⟨(hl.1 r hr).1.own h ht.1 hg, by
 have h2 := (hl.1 r hr).2
 refine (h2.alloc o).kept hg ?_
 cases hb : (zwV r).ownBlock with
 | none => exact .inl rfl
 | some g => exact .inr fun e1 => apart_types h h2 ht.2 g e1.symm hb⟩, hl.2⟩
/-- one row just handed back -/
def RowZ1 (B k : Nat) (q : List Rat) (x : Zw) (W : World) : Prop := (x.2.map (·.2) = q ∧ x.2.length = k) ∧ AllZ W x.2 ∧ W.ownsRow B 57 3 (zwV x) x.2.length (x.2.flatMap zrL)
theorem RowZ1.grow {B k : Nat} {q : List Rat} {x : Zw} {u u' : World} (hg : Grow u u') (h : RowZ1 B k q x u) : RowZ1 B k q x u' := ⟨h.1, h.2.1.grow hg, own_grow' h.2.2 hg⟩
theorem RowsZ.snoc {B k : Nat} {q : List Rat} {u v : World} {rws : List Zw} {x : Zw} (h : RowsZ B u rws) (hg : Grow u v) (hB : B ≤ u.heap.size) (h1 : RowZ1 u.heap.size k q x v) : RowsZ B v (rws ++ [x]) := by
 refine ⟨fun r hr => ?_, ?_⟩
 ·rcases List.mem_append.1 hr with hr | hr
  ·exact (h.grow hg).1 r hr
  ·have : r = x := by simpa using hr
   subst this
   exact ⟨h1.2.1, h1.2.2.mono hB⟩
 ·rw [List.pairwise_append]
  refine ⟨h.2, by simp, fun a ha b hb => ?_⟩
  have : b = x := by simpa using hb
  subst this
  intro g e1 e2
  have h3 := ((h.1 a ha).2.lt g e1).2
  have h4 := (h1.2.2.lt g e2).1
  omega
/-- rows of the document's fractions that lie from the address on -/
def Lrz (u : World) (A : Option Addr) (rs : List Rq) : Prop :=
 rs ≠ [] → ∃ b off, A = some ⟨b, off, none⟩ ∧ b < u.heap.size ∧ ∀ i r, rs[i]? = some r → u.cell? ⟨b, off + i, none⟩ = some (.slice r.1 r.2.2.length r.2.1) ∧ Lz u r.1 r.2.2
theorem Lrz.grow {u u' : World} {A : Option Addr} {rs : List Rq} (h : Lrz u A rs) (hg : Grow u u') : Lrz u' A rs := fun hn => by
 obtain ⟨b, off, e, hb, hc⟩ := h hn
 exact ⟨b, off, e, Nat.lt_of_lt_of_le hb hg.size, fun i r hi => ⟨(hg.cell (p := ⟨b, off + i, none⟩) hb).trans (hc i r hi).1, (hc i r hi).2.grow hg⟩⟩
theorem Lrz.addr {u : World} {A : Option Addr} {rs : List Rq} (h : Lrz u A rs) (hl : 0 < rs.length) : ∃ b off, A = some ⟨b, off, none⟩ := by
 obtain ⟨b, off, e, _⟩ := h (fun h0 => by rw [h0] at hl; cases hl)
 exact ⟨b, off, e⟩
theorem Lrz.read {u : World} {b off : Nat} {rs : List Rq} (h : Lrz u (some ⟨b, off, none⟩) rs) {i : Nat} {r : Rq} (hi : rs[i]? = some r) : u.cell? ⟨b, off + i, none⟩ = some (.slice r.1 r.2.2.length r.2.1) ∧ Lz u r.1 r.2.2 := by
 obtain ⟨b', off', e, _, hc⟩ := h (fun h0 => by rw [h0] at hi; simp at hi)
 cases e
 exact hc i r hi
abbrev rqRow (r : Rq) : Value := .slice r.1 r.2.2.length r.2.1
/-- rows of fractions, each of the call's own -/
def RowsQ (B : Nat) (W : World) (rs : List Rq) : Prop := ∀ r ∈ rs, W.ownsRow B 49 5 (rqRow r) r.2.2.length (r.2.2.flatMap qL)
theorem RowsQ.nil (B : Nat) (W : World) : RowsQ B W [] := fun _ h => by cases h
theorem RowsQ.grow {B : Nat} {u u' : World} {rs : List Rq} (h : RowsQ B u rs) (hg : Grow u u') : RowsQ B u' rs := fun r hr => own_grow' (h r hr) hg
theorem RowsQ.own {B0 : Nat} {u w' : World} {B : Nat} {e : TypeId} {size n : Nat} {v : Value} {xs : List Value} {o : Obj} {rs : List Rq} (hl : RowsQ B0 u rs) (h : u.ownsRow B e size v n xs) (ht : e ≠ 49) (hg : (u.alloc o).grownBy w' v.ownBlock) : RowsQ B0 w' rs := fun r hr => by
 have h2 := hl r hr
 refine (h2.alloc o).kept hg ?_
 cases hb : (rqRow r).ownBlock with
 | none => exact .inl rfl
 | some g => exact .inr fun e1 => apart_types h h2 ht g e1.symm hb
def RowQ1 (B k : Nat) (q : List Rat) (x : Ax) (W : World) : Prop := q.length = k ∧ W.ownsRow B 49 5 (.slice x.1 k x.2) k (q.flatMap qL)
theorem RowQ1.grow {B k : Nat} {q : List Rat} {x : Ax} {u u' : World} (hg : Grow u u') (h : RowQ1 B k q x u) : RowQ1 B k q x u' := ⟨h.1, own_grow' h.2 hg⟩
theorem RowsQ.snoc {B k : Nat} {q : List Rat} {v : World} {rs : List Rq} {x : Ax} (h : RowsQ B v rs) (h1 : RowQ1 B k q x v) : RowsQ B v (rs ++ [(x.1, x.2, q)]) := fun r hr => by
 rcases List.mem_append.1 hr with hr | hr
 ·exact h r hr
 ·have : r = (x.1, x.2, q) := by simpa using hr
  subst this
  have h2 := h1.2
  rw [← h1.1] at h2
  exact h2
theorem RowsZ.idx {B : Nat} {W : World} {rws : List Zw} (h : RowsZ B W rws) : ∀ (i : Nat) (r : Zw), rws[i]? = some r → AllZ W r.2 ∧ W.ownsRow B 57 3 (zwV r) r.2.length (r.2.flatMap zrL) := fun _ r hi => h.1 r (List.mem_of_getElem? hi)
end Go.Proofs.YtjmopgepnndckaaGreatDoor
namespace Go.Proofs.YtjmopgepnndckaaGreatDoor
open Go Go.RowKit
/-- a hit of the document's: its number, where its fraction lies, how far -/
abbrev Hz := Nat × Az × Rat
def AllH (u : World) (ps : List Hz) : Prop := ∀ r ∈ ps, Rz u r.2.1 r.2.2
theorem AllH.grow {u u' : World} {ps : List Hz} (h : AllH u ps) (hg : Grow u u') : AllH u' ps := fun r hr => (h r hr).grow hg
theorem AllH.own {u w' : World} {B : Nat} {e : TypeId} {size n : Nat} {v : Value} {xs : List Value} {o : Obj} {ps : List Hz} (hl : AllH u ps) (h : u.ownsRow B e size v n xs) (ht : e ≠ 162) (hg : (u.alloc o).grownBy w' v.ownBlock) : AllH w' ps := fun r hr => (hl r hr).own h ht hg
theorem AllH.put {u u' : World} {ps : List Hz} (h : AllH u ps) {bl : List (Nat × TypeId × Array Value)} (hB : Bx u bl) (k : Nat) {b : Nat} {t : TypeId} {cs : Array Value} (hk : bl[k]? = some (b, t, cs)) (ht : t ≠ 162) (i : Nat) (vs : List Value) (hu : putAll u b i vs = u') : AllH u' ps := fun r hr => (h r hr).put hB k hk ht i vs hu
/-- hits of the document's that lie from the address on -/
def Lhz (u : World) (A : Option Addr) (l : List Ht) : Prop :=
 l ≠ [] → ∃ b off, A = some ⟨b, off, none⟩ ∧ b < u.heap.size ∧ ∀ i h, l[i]? = some h → ∃ p : Az, Rz u p h.2 ∧ u.cell? ⟨b, off + i * 4, none⟩ = some (.int .i64 (h.1 : Nat)) ∧ Cz u b (off + i * 4 + 1) p h.2
theorem Lhz.grow {u u' : World} {A : Option Addr} {l : List Ht} (h : Lhz u A l) (hg : Grow u u') : Lhz u' A l := fun hn => by
 obtain ⟨b, off, e, hb, hc⟩ := h hn
 refine ⟨b, off, e, Nat.lt_of_lt_of_le hb hg.size, fun i q hi => ?_⟩
 obtain ⟨p, h1, h2, h3⟩ := hc i q hi
 exact ⟨p, h1.grow hg, (hg.cell (p := ⟨b, off + i * 4, none⟩) hb).trans h2, h3.grow hb hg⟩
theorem ei_RHit : EI 40 59 4 64 := ei_of (by kernel_rfl) (by kernel_rfl) (by omega)
theorem grown_putAll (b : Nat) : ∀ (vs : List Value) (i : Nat) (u : World), u.grownBy (putAll u b i vs) (some b)
 | [], _, _ => ⟨rfl, rfl, rfl, Nat.le_refl _, fun _ _ _ => rfl⟩
 | v :: vs, i, u => grownBy_trans (u1 := u.setCell ⟨b, i, none⟩ v) ⟨rfl, rfl, rfl, by simp [World.setCell], fun k _ hk => Below.heap_setCell _ _ _ _ (fun e => hk (by simp [e]))⟩ (grown_putAll b vs (i + 1) _)
theorem own_over {u u' : World} {B : Nat} {e : TypeId} {size n b i : Nat} {v : Value} {xs vs : List Value} (h : u.ownsRow B e size v n xs) (hb : v.ownBlock ≠ some b) (hu : putAll u b i vs = u') : u'.ownsRow B e size v n xs := by
 subst hu
 exact h.kept (grown_putAll b vs i u) (.inr hb)
end Go.Proofs.YtjmopgepnndckaaGreatDoor
namespace Go.Proofs.YtjmopgepnndckaaGreatDoor
open Go Go.RowKit
/-- rows of one length, each of the call's own; some may be the same -/
def RowsF (B L : Nat) (ws : List Zw) (W : World) : Prop := ∀ r ∈ ws, AllZ W r.2 ∧ W.ownsRow B 57 3 (zwV r) r.2.length (r.2.flatMap zrL) ∧ r.2.length = L ∧ ∀ z ∈ r.2, qs z.2 ≤ 50
theorem RowsF.grow {B L : Nat} {ws : List Zw} {u u' : World} (hg : Grow u u') (h : RowsF B L ws u) : RowsF B L ws u' := fun r hr => ⟨(h r hr).1.grow hg, own_grow' (h r hr).2.1 hg, (h r hr).2.2⟩
theorem RowsF.kept {B0 L : Nat} {ws : List Zw} {u w' : World} {B : Nat} {v : Value} {n : Nat} {xs : List Value} (hl : RowsF B0 L ws u) (h : u.ownsRow B 26 1 v n xs) (hg : u.grownBy w' v.ownBlock) : RowsF B0 L ws w' := fun r hr => by
 obtain ⟨h1, h2, h3⟩ := hl r hr
 refine ⟨allz_kept h1 h (by decide) hg, h2.kept hg ?_, h3⟩
 cases hb : (zwV r).ownBlock with
 | none => exact .inl rfl
 | some g => exact .inr fun e1 => apart_types h h2 (by decide) g e1.symm hb
theorem rowQ_szN (l : List Int) (n : Nat) : ∀ x ∈ rowQ l n, qs x ≤ 50 := fun x hx => by
 unfold rowQ at hx
 obtain ⟨i, -, rfl⟩ := List.mem_map.1 hx
 unfold rowAtL
 split
 ·exact Nat.le_trans (rawQ_sz _) (by omega)
 ·rw [show qint 0 = 0 from rfl, qs_zero]; omega
theorem RowsF.set {B L : Nat} {ws : List Zw} {W : World} (h : RowsF B L ws W) (i : Nat) {r : Zw} (hr : r ∈ ws) : RowsF B L (ws.set i r) W := fun x hx => by
 rcases List.mem_or_eq_of_mem_set hx with h1 | rfl
 ·exact h x h1
 ·exact h _ hr
theorem lqN_new (w : World) (l : List Rat) : Lq (w.alloc (.cells (l.flatMap qL).toArray 49)) (some ⟨w.heap.size, 0, none⟩) l := fun _ =>
 ⟨w.heap.size, 0, rfl, by rw [alloc_size]; omega, fun i q hi j v hj => by
  have hj5 : j < 5 := (List.getElem?_eq_some_iff.1 hj).1
  rw [Nat.zero_add, Blk.cell (Blk.new w 49 _), List.getElem?_toArray, flatq_at l hi hj5, hj]⟩
theorem lrq_new (w : World) (rs : List Rq) (h : ∀ r ∈ rs, Lq w r.1 r.2.2) : Lrq (w.alloc (.cells (rs.map rqRow).toArray 35)) (some ⟨w.heap.size, 0, none⟩) rs := fun _ =>
 ⟨w.heap.size, 0, rfl, by rw [alloc_size]; omega, fun i r hi => ⟨by rw [Nat.zero_add, Blk.cell (Blk.new w 35 _), List.getElem?_toArray, List.getElem?_map, hi]; rfl, (h r (List.mem_of_getElem? hi)).grow (Grow.alloc w _)⟩⟩
def knownF (i : Nat) : Rat := farQ (rowR [[qint 0], [qint 3], [qint 4]] i) [qint 2] 1
theorem known_best : best 2 (hitsTo knownF 3) = [(1, qover 1 1), (0, qover 4 1)] := by
 have e : hitsTo knownF 3 = [(0, qover 4 1), (1, qover 1 1), (2, qover 4 1)] := by decide +kernel
 have h : [(1, qover 1 1), (0, qover 4 1), (2, qover 4 1)] = srt (hitsTo knownF 3) := by
  rw [e]
  refine srt_uniq ?_ ?_
  ·exact List.Perm.swap _ _ _
  ·decide +kernel
 unfold best
 rw [← h]
 rfl
set_option maxHeartbeats 4000000 in
set_option maxRecDepth 100000 in
theorem law23_known (w : World) (HT : Tab w) : Calls Tryz.prog 18 #[] w fun e w' => e = .returned (.bool true) ∧ Grow w w' := by
 have hBB : 100000 ≤ BIG := by unfold BIG; omega
 have q0 : qs (qint 0) ≤ 41 := qint_sz 0 (by omega)
 have q2 : qs (qint 2) ≤ 41 := qint_sz 2 (by omega)
 have q3 : qs (qint 3) ≤ 41 := qint_sz 3 (by omega)
 have q4 : qs (qint 4) ≤ 41 := qint_sz 4 (by omega)
 have hpl : ∀ (W : World) (b1 b2 b3 b4 b5 : Nat), Lrq W (some ⟨b4, 0, none⟩) [(some ⟨b1, 0, none⟩, 1, [qint 0]), (some ⟨b2, 0, none⟩, 1, [qint 3]), (some ⟨b3, 0, none⟩, 1, [qint 4])] → Lq W (some ⟨b5, 0, none⟩) [qint 2] → Tab W → Calls Tryz.prog 15 #[.slice (some ⟨b4, 0, none⟩) 3 3, .slice (some ⟨b5, 0, none⟩) 1 1, .int .i64 2] W (RetY (fun x : Ax => .tuple #[.slice x.1 2 x.2, .int .i64 0]) (fun x W => Lh W x.1 [(1, qover 1 1), (0, qover 4 1)]) W) := fun W b1 b2 b3 b4 b5 h1 h2 hT => by
  have h := near_Plain_ok (some ⟨b4, 0, none⟩) (some ⟨b5, 0, none⟩) [(some ⟨b1, 0, none⟩, 1, [qint 0]), (some ⟨b2, 0, none⟩, 1, [qint 3]), (some ⟨b3, 0, none⟩, 1, [qint 4])] 3 1 3 1 2 [qint 2] rfl (by omega) (by omega) (by omega) (by omega) (fun r hr => by
   simp only [List.mem_cons, List.not_mem_nil, or_false] at hr
   rcases hr with rfl | rfl | rfl <;> rfl) rfl (by omega) (by omega) 41 (fun r hr x hx => by
   simp only [List.mem_cons, List.not_mem_nil, or_false] at hr
   rcases hr with rfl | rfl | rfl <;> (simp only [List.mem_cons, List.not_mem_nil, or_false] at hx; subst hx; assumption)) (fun x hx => by
   simp only [List.mem_cons, List.not_mem_nil, or_false] at hx
   subst hx
   assumption) (by omega) W h1 h2 hT
  have e : (fun i => farQ (rowR ([((some ⟨b1, 0, none⟩, 1, [qint 0]) : Rq), (some ⟨b2, 0, none⟩, 1, [qint 3]), (some ⟨b3, 0, none⟩, 1, [qint 4])].map (·.2.2)) i) [qint 2] 1) = knownF := rfl
  rw [e, known_best] at h
  exact h
 have z11 : qs (qover 1 1) ≤ LIM := Nat.le_trans (over_sub 0 0 1 1 5 (by omega) (by omega) (by omega)) (by unfold LIM; omega)
 have z41 : qs (qover 4 1) ≤ LIM := Nat.le_trans (over_sub 0 0 4 1 5 (by omega) (by omega) (by omega)) (by unfold LIM; omega)
 have Hpl := Lib.hid hpl
 clear hpl q0 q2 q3 q4
 go_enter Tryz.func18, Tryz.ntmps18
 refine en0 ?_
 intro u hG hB hF
 refine wp_seq (rsE allocs [1, 1, 1, 1, 1, 1, 1, 0] hB hG fun L hL => ?_)
 refine gmw (C := fun v => frac_Of 0 (by omega) (by omega) _) ?_
 refine gx Nat (fun b => .slice (some ⟨b, 0, none⟩) 1 1) (fun b W => Lq W (some ⟨b, 0, none⟩) [qint 0]) (fun _ _ _ hg h => h.grow hg) rfl ?_ (fun x5 => ?_)
 ·(rintro v ⟨hgu, hB, hG, -⟩ N hN; go_simp; exact hN v.heap.size _ (lqN_new v [qint 0]) (Grow.alloc _ _))
 refine okf (by simp only [Act.put, List.setIfInBounds_toArray, List.set_cons_succ, List.set_cons_zero]; exact rfl) ?_
 refine gmw (C := fun v => frac_Of 3 (by omega) (by omega) _) ?_
 refine gx Nat (fun b => .slice (some ⟨b, 0, none⟩) 1 1) (fun b W => Lq W (some ⟨b, 0, none⟩) [qint 3]) (fun _ _ _ hg h => h.grow hg) rfl ?_ (fun x7 => ?_)
 ·(rintro v ⟨⟨hgu, hB, hG, -⟩, hx5⟩ N hN; go_simp; exact hN v.heap.size _ (lqN_new v [qint 3]) (Grow.alloc _ _))
 refine okf (by simp only [Act.put, List.setIfInBounds_toArray, List.set_cons_succ, List.set_cons_zero]; exact rfl) ?_
 refine gmw (C := fun v => frac_Of 4 (by omega) (by omega) _) ?_
 refine gx Nat (fun b => .slice (some ⟨b, 0, none⟩) 1 1) (fun b W => Lq W (some ⟨b, 0, none⟩) [qint 4]) (fun _ _ _ hg h => h.grow hg) rfl ?_ (fun x9 => ?_)
 ·(rintro v ⟨⟨⟨hgu, hB, hG, -⟩, hx5⟩, hx7⟩ N hN; go_simp; exact hN v.heap.size _ (lqN_new v [qint 4]) (Grow.alloc _ _))
 refine okf (by simp only [Act.put, List.setIfInBounds_toArray, List.set_cons_succ, List.set_cons_zero]; exact rfl) ?_
 refine gx Nat (fun b => .slice (some ⟨b, 0, none⟩) 3 3) (fun b W => Lrq W (some ⟨b, 0, none⟩) [(some ⟨x5, 0, none⟩, 1, [qint 0]), (some ⟨x7, 0, none⟩, 1, [qint 3]), (some ⟨x9, 0, none⟩, 1, [qint 4])]) (fun _ _ _ hg h => h.grow hg) rfl ?_ (fun x10 => ?_)
 ·(rintro v ⟨⟨⟨⟨hgu, hB, hG, -⟩, hx5⟩, hx7⟩, hx9⟩ N hN; go_simp; exact hN v.heap.size _ (lrq_new v [(some ⟨x5, 0, none⟩, 1, [qint 0]), (some ⟨x7, 0, none⟩, 1, [qint 3]), (some ⟨x9, 0, none⟩, 1, [qint 4])] (fun r hr => by simp only [List.mem_cons, List.not_mem_nil, or_false] at hr; rcases hr with rfl | rfl | rfl <;> assumption)) (Grow.alloc _ _))
 refine okf (by simp only [Act.put, List.setIfInBounds_toArray, List.set_cons_succ, List.set_cons_zero]; exact rfl) ?_
 refine gs ?_
 refine geT hL ?_
 clear hB hG hL L
 rintro u ⟨⟨⟨⟨⟨hgu, hB, hG, -⟩, hx5⟩, hx7⟩, hx9⟩, hx10⟩
 have HR := Lib.hid hx10
 clear hx5 hx7 hx9 hx10
 clear hgu
 refine wp_seq (rsE allocs [0, 1, 1, 1, 0, 0, 0, 0, 0] hB hG fun L hL => ?_)
 refine gs ?_
 refine gmw (C := fun v => frac_Of 2 (by omega) (by omega) _) ?_
 refine gx Nat (fun b => .slice (some ⟨b, 0, none⟩) 1 1) (fun b W => Lq W (some ⟨b, 0, none⟩) [qint 2]) (fun _ _ _ hg h => h.grow hg) rfl ?_ (fun x14 => ?_)
 ·(rintro v ⟨hgu, hB, hG, -⟩ N hN; go_simp; exact hN v.heap.size _ (lqN_new v [qint 2]) (Grow.alloc _ _))
 refine okf (by simp only [Act.put, List.setIfInBounds_toArray, List.set_cons_succ, List.set_cons_zero]; exact rfl) ?_
 refine gxd (X := Ax) (fun x : Ax => .tuple #[.slice x.1 2 x.2, .int .i64 0]) (fun x W => Lh W x.1 [(1, qover 1 1), (0, qover 4 1)]) (fun x u u' hg h => Lh.grow h hg) (fun x15 => ?_) (C := by (rintro v ⟨⟨hgu, hB, hG, -⟩, hx14⟩; exact Hpl.out _ _ _ _ x10 x14 (HR.out.grow hgu) hx14 (HT.grow hG)))
 refine gs ?_
 refine geT hL ?_
 clear hB hG hL L
 rintro u ⟨⟨⟨hgu, hB, hG, -⟩, hx14⟩, hx15⟩
 have HL := Lib.hid hx15
 clear HR hx14 hx15
 clear hgu
 obtain ⟨A15, c15⟩ := x15
 obtain ⟨g, off, rfl, hgl, hc⟩ := HL.out (by simp)
 have hcl : ∀ W, Grow u W → ∀ i h, [((1, qover 1 1) : Ht), (0, qover 4 1)][i]? = some h → ∀ j v, (htL h)[j]? = some v → W.cell? ⟨g, off + i * 6 + j, none⟩ = some v := fun W hg i h hi j v hj => (hg.cell (p := ⟨g, off + i * 6 + j, none⟩) hgl).trans (hc i h hi j v hj)
 have hA : ∀ W, Grow u W → _ := fun W hg => And.intro (hcl W hg 0 _ rfl 0 _ rfl) (And.intro (hcl W hg 0 _ rfl 1 _ rfl) (And.intro (hcl W hg 0 _ rfl 2 _ rfl) (And.intro (hcl W hg 0 _ rfl 3 _ rfl) (And.intro (hcl W hg 0 _ rfl 4 _ rfl) (hcl W hg 0 _ rfl 5 _ rfl)))))
 have hB' : ∀ W, Grow u W → _ := fun W hg => And.intro (hcl W hg 1 _ rfl 0 _ rfl) (And.intro (hcl W hg 1 _ rfl 1 _ rfl) (And.intro (hcl W hg 1 _ rfl 2 _ rfl) (And.intro (hcl W hg 1 _ rfl 3 _ rfl) (And.intro (hcl W hg 1 _ rfl 4 _ rfl) (hcl W hg 1 _ rfl 5 _ rfl)))))
 simp only [Nat.zero_mul, Nat.one_mul, Nat.add_zero, Nat.add_assoc, Nat.reduceAdd] at hA hB'
 have HA := Lib.hid hA
 have HB := Lib.hid hB'
 clear hcl hc hA hB' HL hgl
 refine wp_seq (rsE allocs [0, 0, 0, 0, 0, 0, 0, 0, 0, 0, 0, 0, 0, 0, 0, 0, 0, 0, 0, 1, 0, 0, 0, 0, 0, 0, 0, 0, 0, 0, 0, 0, 0, 1, 0, 0] hB hG fun L hL => ?_)
 repeat first | refine gya ?_ | refine gyr ?_ | refine gna ?_ | refine gyb (by (rintro v ⟨hgu, hB, hG, -⟩ N hN; have r := hB.r; simp only [BxR] at r; obtain ⟨a0, a1, a2, a3, a4, a5⟩ := HA.out v hgu; obtain ⟨b0, b1, b2, b3, b4, b5⟩ := HB.out v hgu; go_simp; exact hN)) ?_
 first | refine gmw (C := fun v => hand_Is 1 1 (by omega) (by omega) (by omega) (by omega) (by omega) z11 _) ?_ | refine gmna ?_
 repeat first | refine gya ?_ | refine gyr ?_ | refine gna ?_ | refine gyb (by (rintro v ⟨hgu, hB, hG, -⟩ N hN; have r := hB.r; simp only [BxR] at r; obtain ⟨a0, a1, a2, a3, a4, a5⟩ := HA.out v hgu; obtain ⟨b0, b1, b2, b3, b4, b5⟩ := HB.out v hgu; go_simp; exact hN)) ?_
 first | refine gmw (C := fun v => hand_Is 4 1 (by omega) (by omega) (by omega) (by omega) (by omega) z41 _) ?_ | refine gmna ?_
 refine gs ?_
 refine geT hL ?_
 clear hB hG hL L
 rintro u ⟨-, hB, hG, -⟩
 refine rt Tryz.results18 ?_
 exact ⟨rfl, hG⟩
end Go.Proofs.YtjmopgepnndckaaGreatDoor
