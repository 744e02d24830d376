/-
  Contracts and laws: NearR NearV NearVA NearL.
-/
import Derived.Test.YtjmopgepnndckaaGreatDoorO36
import Derived.Test.YtjmopgepnndckaaGreatDoorO37
set_option linter.unusedSimpArgs false
set_option linter.unusedVariables false
namespace Go.Proofs.YtjmopgepnndckaaGreatDoor
open Go Go.RowKit
set_option maxHeartbeats 1000000 in
set_option maxRecDepth 100000 in
theorem ref10_Right_ok (A : Option Addr) (rs : List Rq) (n L c : Nat) (hn : rs.length = n) (hn1 : 1 ≤ n) (hn2 : n ≤ 1048576) (hL1 : 1 ≤ L) (hrl : ∀ r ∈ rs, r.2.2.length = L) (w : World) (h : Lrz w A rs) :
  Calls Tryz.prog 54 #[.slice A n c] w fun e w' => e = .returned (.bool true) ∧ Grow w w' := by
 obtain ⟨bb, ob, rfl⟩ := h.addr (by omega)
 have hrow : ∀ i, i < n → ∃ (Ar : Option Addr) (cr : Nat), ∀ W, Grow w W → W.cell? ⟨bb, ob + i, none⟩ = some (.slice Ar L cr) := fun i hi => by
  have hil : i < rs.length := by omega
  refine ⟨rs[i].1, rs[i].2.1, fun W hg => ?_⟩
  have h3 := ((h.grow hg).read (List.getElem?_eq_getElem hil)).1
  rw [hrl _ (List.getElem_mem hil)] at h3
  exact h3
 obtain ⟨A0, c0, hrow0⟩ := hrow 0 (by omega)
 rw [Nat.add_zero] at hrow0
 have hni : (0 : Int) < (n : Int) := by omega
 have fnz : decide (n = 0) = false := by simp; omega
 have fnp : 0 < n := by omega
 have fn : decide ((0 : Int) < (n : Int)) = true := by simp; omega
 have fnn : decide (0 < n) = true := by simp; omega
 have hne : ((L : Int) != (L : Int)) = false := by simp
 have fL : ((L : Int) == 0) = false := by simp; omega
 have fLd : decide (L = 0) = false := by simp; omega
 have Hrow := Lib.hid hrow
 have Hrow0 := Lib.hid hrow0
 clear hrow hrow0 h hrl hn
 go_enter Tryz.func54, Tryz.ntmps54
 refine en0 ?_
 intro u hG hB hF
 refine wp_seq ?_
 refine r0T ?_
 refine wp_block ?_
 go_loopw [3] (fun s0 wr => ∃ i : Nat, i ≤ n ∧ s0 = .int .i64 i ∧ Grow w wr) (fun s0 _ => n - (intOf s0).toNat)
 case atStart => exact ⟨0, Nat.zero_le _, rfl, hG⟩
 case round =>
  clear hB hG
  obtain ⟨i, hi, rfl, hG⟩ := hrel
  obtain ⟨u, rfl⟩ : ∃ x, x = wr := ⟨_, rfl⟩
  have hB := Bx.nil u
  rcases Nat.lt_or_ge i n with hlt | hge
  ·have hdec : decide ((i : Int) < (n : Int)) = true := by simp; omega
   obtain ⟨Ar, cr, hrw⟩ := Hrow.out i hlt
   have Hrw := Lib.hid hrw
   clear hrw
   refine wp_seq ?_
   refine r0T ?_
   refine wp_cond_true (rfl) ?_
   refine wp_skip ?_
   refine then_norm ?_
   refine wp_seq ?_
   refine wp_block ?_
   refine wp_seq (rdC allocs [] [(0, 0), (0, 1), (0, 2), (0, 3), (0, 4), (0, 5), (0, 6), (0, 7), (0, 8), (0, 9), (0, 10), (0, 11), (0, 12), (0, 13), (0, 14), (0, 15), (0, 16)] hB hG fun K L hN hL => ?_)
   repeat first | refine gya ?_ | refine gyr ?_ | refine gna ?_ | refine gyb (by (rintro v ⟨hgu, hB, hG, -⟩ N hN; have r := hB.r; simp only [BxR] at r; have q0 := Hrow0.out v hG; have q1 := Hrw.out v hG; go_simp; exact hN)) ?_
   refine geC hL ?_
   clear hB hG hL L
   rintro u ⟨-, hB, hG, -⟩
   refine gtT ?_
   clear hN K
   refine wp_cond_false (rfl) ?_
   refine wp_skip ?_
   refine blk_norm ?_
   refine then_norm ?_
   refine r0E ?_
   refine then_norm ?_
   go_roundw
   case rel => exact ⟨i + 1, by omega, by go_num, hG⟩
   case measure => simp [intOf]; omega
  ·obtain rfl : n = i := by omega
   have hdec : decide ((n : Int) < (n : Int)) = false := by simp
   refine wp_seq ?_
   refine r0T ?_
   refine wp_cond_false (rfl) ?_
   refine wp_exit ?_
   refine then_exit ?_
   refine then_exit ?_
   refine blk_exit ?_
   refine then_norm ?_
   refine r0T ?_
   refine rt Tryz.results54 ?_
   exact ⟨rfl, hG⟩
set_option maxHeartbeats 400000 in
theorem ref10_Right_no (A : Option Addr) (c : Nat) (w : World) : Calls Tryz.prog 54 #[.slice A 0 c] w fun e w' => e = .returned (.bool false) ∧ Grow w w' := by
 go_enter Tryz.func54, Tryz.ntmps54
 refine en0 ?_
 intro u hG hB hF
 refine wp_seq ?_
 refine r0T ?_
 refine wp_block ?_
 go_loopw [3] (fun s0 wr => s0 = .int .i64 0 ∧ Grow w wr) (fun s0 _ => 0)
 case atStart => exact ⟨rfl, hG⟩
 case round =>
  clear hB hG
  obtain ⟨rfl, hG⟩ := hrel
  obtain ⟨u, rfl⟩ : ∃ x, x = wr := ⟨_, rfl⟩
  have hB := Bx.nil u
  refine wp_seq ?_
  refine r0T ?_
  refine wp_cond_false (rfl) ?_
  refine wp_exit ?_
  refine then_exit ?_
  refine then_exit ?_
  refine blk_exit ?_
  refine then_norm ?_
  refine r0T ?_
  refine rt Tryz.results54 ?_
  exact ⟨rfl, hG⟩
set_option maxHeartbeats 1000000 in
set_option maxRecDepth 100000 in
theorem ref10_Learn_ok (A : Option Addr) (rs : List Rq) (n L c : Nat) (hn : rs.length = n) (hn1 : 1 ≤ n) (hn2 : n ≤ 300) (hL1 : 1 ≤ L) (hL2 : L ≤ 20) (hrl : ∀ r ∈ rs, r.2.2.length = L) (w : World) (h : Lrz w A rs) :
  Calls Tryz.prog 19 #[.slice A n c] w fun e w' => e = .returned (.bool true) ∧ Grow w w' := by
 have hri := fun W (hg : Grow w W) => ref10_Right_ok A rs n L c hn hn1 (by omega) hL1 hrl W (h.grow hg)
 obtain ⟨bb, ob, rfl⟩ := h.addr (by omega)
 have hrow0 : ∃ (Ar : Option Addr) (cr : Nat), ∀ W, Grow w W → W.cell? ⟨bb, ob, none⟩ = some (.slice Ar L cr) := by
  have hil : 0 < rs.length := by omega
  refine ⟨rs[0].1, rs[0].2.1, fun W hg => ?_⟩
  have h3 := ((h.grow hg).read (List.getElem?_eq_getElem hil)).1
  rw [hrl _ (List.getElem_mem hil), Nat.add_zero] at h3
  exact h3
 obtain ⟨A0, c0, hrow0⟩ := hrow0
 have hni : (0 : Int) < (n : Int) := by omega
 have fnz : decide (n = 0) = false := by simp; omega
 have fnp : 0 < n := by omega
 have f2 : decide ((n : Int) ≤ 300) = true := by simp; omega
 have f2n : decide (n ≤ 300) = true := by simp; omega
 have f4 : decide ((L : Int) ≤ 20) = true := by simp; omega
 have f4n : decide (L ≤ 20) = true := by simp; omega
 have Hri := Lib.hid hri
 have Hrow0 := Lib.hid hrow0
 clear hri hrow0 h hrl hn
 go_enter Tryz.func19, Tryz.ntmps19
 refine en0 ?_
 intro u hG hB hF
 refine wp_seq (rsE allocs [0, 1, 0, 0, 0, 0, 0, 0, 0, 0, 0, 0, 0, 0, 0] hB hG fun L hL => ?_)
 refine gs ?_
 refine gmd (C := fun v ⟨hgu, hB, hG, _⟩ => Hri.out _ hG) ?_
 repeat first | refine gya ?_ | refine gyr ?_ | refine gna ?_ | refine gyb (by (rintro v ⟨hgu, hB, hG, -⟩ N hN; have r := hB.r; simp only [BxR] at r; have q0 := Hrow0.out v hG; go_simp; exact hN)) ?_
 refine geT hL ?_
 clear hB hG hL L
 rintro u ⟨-, hB, hG, -⟩
 refine rt Tryz.results19 ?_
 exact ⟨rfl, hG⟩
set_option maxHeartbeats 400000 in
theorem ref10_Learn_no (A : Option Addr) (c : Nat) (w : World) : Calls Tryz.prog 19 #[.slice A 0 c] w fun e w' => e = .returned (.bool false) ∧ Grow w w' := by
 have hri := fun W => ref10_Right_no A c W
 go_enter Tryz.func19, Tryz.ntmps19
 refine en0 ?_
 intro u hG hB hF
 refine wp_seq (rsE allocs [0, 1, 0, 0, 0, 0, 0, 0, 0, 0, 0, 0, 0, 0, 0] hB hG fun L hL => ?_)
 refine gs ?_
 refine gmw (C := fun v => hri _) ?_
 refine gs ?_
 refine geT hL ?_
 clear hB hG hL L
 rintro u ⟨-, hB, hG, -⟩
 refine rt Tryz.results19 ?_
 exact ⟨rfl, hG⟩
/-- a hit of the document's: its number, where its fraction lies, how far -/
abbrev Hz := Nat × Az × Rat
def AllH (u : World) (ps : List Hz) : Prop := ∀ r ∈ ps, Rz u r.2.1 r.2.2
theorem AllH.grow {u u' : World} {ps : List Hz} (h : AllH u ps) (hg : Grow u u') : AllH u' ps := fun r hr => (h r hr).grow hg
theorem AllH.own {u w' : World} {B : Nat} {e : TypeId} {size n : Nat} {v : Value} {xs : List Value} {o : Obj} {ps : List Hz} (hl : AllH u ps) (h : u.ownsRow B e size v n xs) (ht : e ≠ 162) (hg : (u.alloc o).grownBy w' v.ownBlock) : AllH w' ps := fun r hr => (hl r hr).own h ht hg
theorem AllH.put {u u' : World} {ps : List Hz} (h : AllH u ps) {bl : List (Nat × TypeId × Array Value)} (hB : Bx u bl) (k : Nat) {b : Nat} {t : TypeId} {cs : Array Value} (hk : bl[k]? = some (b, t, cs)) (ht : t ≠ 162) (i : Nat) (vs : List Value) (hu : putAll u b i vs = u') : AllH u' ps := fun r hr => (h r hr).put hB k hk ht i vs hu
/-- hits of the document's that lie from the address on -/
def Lhz (u : World) (A : Option Addr) (l : List Ht) : Prop :=
 l ≠ [] → ∃ b off, A = some ⟨b, off, none⟩ ∧ b < u.heap.size ∧ ∀ i h, l[i]? = some h → ∃ p : Az, Rz u p h.2 ∧ u.cell? ⟨b, off + i * 4, none⟩ = some (.int .i64 (h.1 : Nat)) ∧ Cz u b (off + i * 4 + 1) p h.2
theorem Lhz.grow {u u' : World} {A : Option Addr} {l : List Ht} (h : Lhz u A l) (hg : Grow u u') : Lhz u' A l := fun hn => by
 obtain ⟨b, off, e, hb, hc⟩ := h hn
 refine ⟨b, off, e, Nat.lt_of_lt_of_le hb hg.size, fun i q hi => ?_⟩
 obtain ⟨p, h1, h2, h3⟩ := hc i q hi
 exact ⟨p, h1.grow hg, (hg.cell (p := ⟨b, off + i * 4, none⟩) hb).trans h2, h3.grow hb hg⟩
theorem grown_putAll (b : Nat) : ∀ (vs : List Value) (i : Nat) (u : World), u.grownBy (putAll u b i vs) (some b)
 | [], _, _ => ⟨rfl, rfl, rfl, Nat.le_refl _, fun _ _ _ => rfl⟩
 | v :: vs, i, u => grownBy_trans (u1 := u.setCell ⟨b, i, none⟩ v) ⟨rfl, rfl, rfl, by simp [World.setCell], fun k _ hk => Below.heap_setCell _ _ _ _ (fun e => hk (by simp [e]))⟩ (grown_putAll b vs (i + 1) _)
theorem own_over {u u' : World} {B : Nat} {e : TypeId} {size n b i : Nat} {v : Value} {xs vs : List Value} (h : u.ownsRow B e size v n xs) (hb : v.ownBlock ≠ some b) (hu : putAll u b i vs = u') : u'.ownsRow B e size v n xs := by
 subst hu
 exact h.kept (grown_putAll b vs i u) (.inr hb)
theorem cmpQ_posH {a b : Rat} : (0 < cmpQ a b) ↔ b < a := by
 unfold cmpQ
 by_cases h1 : a < b
 ·rw [if_pos h1]
  exact ⟨fun h => absurd h (by omega), fun h => absurd h1 (Rat.not_lt.2 (Rat.le_of_lt h))⟩
 ·rw [if_neg h1]
  by_cases h2 : b < a
  ·rw [if_pos h2]; exact ⟨fun _ => h2, fun _ => by omega⟩
  ·rw [if_neg h2]; exact ⟨fun h => absurd h (by omega), fun h => absurd h h2⟩
end Go.Proofs.YtjmopgepnndckaaGreatDoor
namespace Go.Proofs.YtjmopgepnndckaaGreatDoor
end Go.Proofs.YtjmopgepnndckaaGreatDoor
namespace Go.Proofs.YtjmopgepnndckaaGreatDoor
open Go Go.RowKit
/-- things of k cells that lie from the address on -/
def Le {α : Type} (enc : α → List Value) (k : Nat) (u : World) (A : Option Addr) (l : List α) : Prop :=
 l ≠ [] → ∃ b off, A = some ⟨b, off, none⟩ ∧ b < u.heap.size ∧ ∀ i x, l[i]? = some x → ∀ j v, (enc x)[j]? = some v → u.cell? ⟨b, off + i * k + j, none⟩ = some v
theorem Le.grow {α : Type} {enc : α → List Value} {k : Nat} {u u' : World} {A : Option Addr} {l : List α} (h : Le enc k u A l) (hg : Grow u u') : Le enc k u' A l := fun hn => by
 obtain ⟨b, off, e, hb, hc⟩ := h hn
 exact ⟨b, off, e, Nat.lt_of_lt_of_le hb hg.size, fun i q hi j v hj => (hg.cell (p := ⟨b, off + i * k + j, none⟩) hb).trans (hc i q hi j v hj)⟩
theorem own_le {α : Type} {enc : α → List Value} {k : Nat} (he : ∀ x, (enc x).length = k) (hk : 0 < k) {u : World} {B n : Nat} {e : TypeId} {v : Value} {l : List α} (h : u.ownsRow B e k v n (l.flatMap enc)) : ∃ A c, v = .slice A n c ∧ n ≤ c ∧ Le enc k u A l ∧ n = l.length := by
 have hn : n = l.length := by
  have h1 := h.1
  rw [flat_lenO he] at h1
  exact (Nat.eq_of_mul_eq_mul_right hk h1).symm
 obtain ⟨_, h | ⟨g, cap, cur, rfl, hb, hh, hn', hc, hs, ht⟩⟩ := h
 ·obtain ⟨rfl, h0⟩ := h
  exact ⟨none, 0, by rw [h0], by omega, fun hne => absurd (List.eq_nil_of_length_eq_zero (l := l) (by omega)) hne, hn⟩
 ·refine ⟨_, cap, rfl, hn', fun _ => ⟨g, 0, rfl, heap_lt hh, fun i q hi j v hj => ?_⟩, hn⟩
  have hil : i < l.length := (List.getElem?_eq_some_iff.1 hi).1
  have er : l[i] = q := by rw [List.getElem?_eq_getElem hil] at hi; exact Option.some.inj hi
  have hjl : j < k := by have := (List.getElem?_eq_some_iff.1 hj).1; rw [he] at this; exact this
  rw [cell_of_row u g _ cur e (0, 0) hh, Nat.zero_add]
  have h1 : (cur.toList.take (n * k))[i * k + j]? = some v := by rw [ht, flat_at he l i j hil hjl, er, hj]
  have hlt : i * k + j < n * k := by
   have : i * k + k ≤ l.length * k := by rw [← Nat.succ_mul]; exact Nat.mul_le_mul_right _ hil
   rw [hn]; omega
  rw [List.getElem?_take, if_pos hlt] at h1
  simpa using h1
theorem Le.at {α : Type} {enc : α → List Value} {k : Nat} {u : World} {A : Option Addr} {l : List α} (h : Le enc k u A l) {i : Nat} (hi : i < l.length) : ∃ b off, A = some ⟨b, off, none⟩ ∧ ∀ W, Grow u W → ∀ j v, (enc l[i])[j]? = some v → W.cell? ⟨b, off + i * k + j, none⟩ = some v := by
 obtain ⟨b, off, e, hb, hc⟩ := h (fun e => by rw [e] at hi; simp at hi)
 exact ⟨b, off, e, fun W hg j v hj => (hg.cell (p := ⟨b, off + i * k + j, none⟩) hb).trans (hc i _ (List.getElem?_eq_getElem hi) j v hj)⟩
end Go.Proofs.YtjmopgepnndckaaGreatDoor
namespace Go.Proofs.YtjmopgepnndckaaGreatDoor
open Go Go.RowKit
/-- rows of one length, each of the call's own; some may be the same -/
def RowsF (B L : Nat) (ws : List Zw) (W : World) : Prop := ∀ r ∈ ws, AllZ W r.2 ∧ W.ownsRow B 57 3 (zwV r) r.2.length (r.2.flatMap zrL) ∧ r.2.length = L ∧ ∀ z ∈ r.2, qs z.2 ≤ 50
theorem RowsF.grow {B L : Nat} {ws : List Zw} {u u' : World} (hg : Grow u u') (h : RowsF B L ws u) : RowsF B L ws u' := fun r hr => ⟨(h r hr).1.grow hg, own_grow' (h r hr).2.1 hg, (h r hr).2.2⟩
theorem RowsF.kept {B0 L : Nat} {ws : List Zw} {u w' : World} {B : Nat} {v : Value} {n : Nat} {xs : List Value} (hl : RowsF B0 L ws u) (h : u.ownsRow B 26 1 v n xs) (hg : u.grownBy w' v.ownBlock) : RowsF B0 L ws w' := fun r hr => by
 obtain ⟨h1, h2, h3⟩ := hl r hr
 refine ⟨allz_kept h1 h (by decide) hg, h2.kept hg ?_, h3⟩
 cases hb : (zwV r).ownBlock with
 | none => exact .inl rfl
 | some g => exact .inr fun e1 => apart_types h h2 (by decide) g e1.symm hb
theorem rowQ_szN (l : List Int) (n : Nat) : ∀ x ∈ rowQ l n, qs x ≤ 50 := fun x hx => by
 unfold rowQ at hx
 obtain ⟨i, -, rfl⟩ := List.mem_map.1 hx
 unfold rowAtL
 split
 ·exact Nat.le_trans (rawQ_sz _) (by omega)
 ·rw [show qint 0 = 0 from rfl, qs_zero]; omega
theorem rowsF_of {B L N : Nat} {W : World} {ws : List Zw} {l : List Int} (h : rowsV ws = rowsQ l N L) (hR : RowsZ B W ws) : RowsF B L ws W := fun r hr => by
 obtain ⟨h1, h2⟩ := hR.1 r hr
 have h3 : r.2.map (·.2) ∈ rowsQ l N L := by rw [← h]; exact List.mem_map_of_mem (f := fun r : Zw => r.2.map (·.2)) hr
 unfold rowsQ at h3
 obtain ⟨i, -, e⟩ := List.mem_map.1 h3
 refine ⟨h1, h2, ?_, fun z hz => ?_⟩
 ·have := congrArg List.length e
  rw [rowQ_len, List.length_map] at this
  exact this.symm
 ·have h4 : z.2 ∈ r.2.map (·.2) := List.mem_map_of_mem hz
  rw [← e] at h4
  exact rowQ_szN _ _ _ h4
theorem RowsF.set {B L : Nat} {ws : List Zw} {W : World} (h : RowsF B L ws W) (i : Nat) {r : Zw} (hr : r ∈ ws) : RowsF B L (ws.set i r) W := fun x hx => by
 rcases List.mem_or_eq_of_mem_set hx with h1 | rfl
 ·exact h x h1
 ·exact h _ hr
/-- what the law's rows are -/
def RowsOk (N L : Nat) (rs : List Rq) : Prop := rs.length = N ∧ ∀ r ∈ rs, r.2.2.length = L ∧ ∀ y ∈ r.2.2, qs y ≤ 50
theorem rowsF_ok {B L N : Nat} {ws : List Zw} {W : World} (h : RowsF B L ws W) (hl : ws.length = N) : RowsOk N L (ws.map fun r => (r.1.1, r.1.2, r.2.map (·.2))) := by
 refine ⟨by rw [List.length_map, hl], fun r hr => ?_⟩
 obtain ⟨x, hx, rfl⟩ := List.mem_map.1 hr
 obtain ⟨_, _, h3, h4⟩ := h x hx
 refine ⟨by simpa using h3, fun y hy => ?_⟩
 obtain ⟨z, hz, rfl⟩ := List.mem_map.1 hy
 exact h4 z hz
theorem lqN_new (w : World) (l : List Rat) : Lq (w.alloc (.cells (l.flatMap qL).toArray 49)) (some ⟨w.heap.size, 0, none⟩) l := fun _ =>
 ⟨w.heap.size, 0, rfl, by rw [alloc_size]; omega, fun i q hi j v hj => by
  have hj5 : j < 5 := (List.getElem?_eq_some_iff.1 hj).1
  rw [Nat.zero_add, Blk.cell (Blk.new w 49 _), List.getElem?_toArray, flatq_at l hi hj5, hj]⟩
theorem lrq_new (w : World) (rs : List Rq) (h : ∀ r ∈ rs, Lq w r.1 r.2.2) : Lrq (w.alloc (.cells (rs.map rqRow).toArray 35)) (some ⟨w.heap.size, 0, none⟩) rs := fun _ =>
 ⟨w.heap.size, 0, rfl, by rw [alloc_size]; omega, fun i r hi => ⟨by rw [Nat.zero_add, Blk.cell (Blk.new w 35 _), List.getElem?_toArray, List.getElem?_map, hi]; rfl, (h r (List.mem_of_getElem? hi)).grow (Grow.alloc w _)⟩⟩
def knownF (i : Nat) : Rat := farQ (rowR [[qint 0], [qint 3], [qint 4]] i) [qint 2] 1
theorem known_best : best 2 (hitsTo knownF 3) = [(1, qover 1 1), (0, qover 4 1)] := by
 have e : hitsTo knownF 3 = [(0, qover 4 1), (1, qover 1 1), (2, qover 4 1)] := by decide +kernel
 have h : [(1, qover 1 1), (0, qover 4 1), (2, qover 4 1)] = srt (hitsTo knownF 3) := by
  rw [e]
  refine srt_uniq ?_ ?_
  ·exact List.Perm.swap _ _ _
  ·decide +kernel
 unfold best
 rw [← h]
 rfl
set_option maxHeartbeats 4000000 in
set_option maxRecDepth 100000 in
theorem law23_known (w : World) (HT : Tab w) : Calls Tryz.prog 18 #[] w fun e w' => e = .returned (.bool true) ∧ Grow w w' := by
 have hBB : 100000 ≤ BIG := by unfold BIG; omega
 have q0 : qs (qint 0) ≤ 41 := qint_sz 0 (by omega)
 have q2 : qs (qint 2) ≤ 41 := qint_sz 2 (by omega)
 have q3 : qs (qint 3) ≤ 41 := qint_sz 3 (by omega)
 have q4 : qs (qint 4) ≤ 41 := qint_sz 4 (by omega)
 have hpl : ∀ (W : World) (b1 b2 b3 b4 b5 : Nat), Lrq W (some ⟨b4, 0, none⟩) [(some ⟨b1, 0, none⟩, 1, [qint 0]), (some ⟨b2, 0, none⟩, 1, [qint 3]), (some ⟨b3, 0, none⟩, 1, [qint 4])] → Lq W (some ⟨b5, 0, none⟩) [qint 2] → Tab W → Calls Tryz.prog 15 #[.slice (some ⟨b4, 0, none⟩) 3 3, .slice (some ⟨b5, 0, none⟩) 1 1, .int .i64 2] W (RetY (fun x : Ax => .tuple #[.slice x.1 2 x.2, .int .i64 0]) (fun x W => Lh W x.1 [(1, qover 1 1), (0, qover 4 1)]) W) := fun W b1 b2 b3 b4 b5 h1 h2 hT => by
  have h := near_Plain_ok (some ⟨b4, 0, none⟩) (some ⟨b5, 0, none⟩) [(some ⟨b1, 0, none⟩, 1, [qint 0]), (some ⟨b2, 0, none⟩, 1, [qint 3]), (some ⟨b3, 0, none⟩, 1, [qint 4])] 3 1 3 1 2 [qint 2] rfl (by omega) (by omega) (by omega) (by omega) (fun r hr => by
   simp only [List.mem_cons, List.not_mem_nil, or_false] at hr
   rcases hr with rfl | rfl | rfl <;> rfl) rfl (by omega) (by omega) 41 (fun r hr x hx => by
   simp only [List.mem_cons, List.not_mem_nil, or_false] at hr
   rcases hr with rfl | rfl | rfl <;> (simp only [List.mem_cons, List.not_mem_nil, or_false] at hx; subst hx; assumption)) (fun x hx => by
   simp only [List.mem_cons, List.not_mem_nil, or_false] at hx
   subst hx
   assumption) (by omega) W h1 h2 hT
  have e : (fun i => farQ (rowR ([((some ⟨b1, 0, none⟩, 1, [qint 0]) : Rq), (some ⟨b2, 0, none⟩, 1, [qint 3]), (some ⟨b3, 0, none⟩, 1, [qint 4])].map (·.2.2)) i) [qint 2] 1) = knownF := rfl
  rw [e, known_best] at h
  exact h
 have z11 : qs (qover 1 1) ≤ LIM := Nat.le_trans (over_sub 0 0 1 1 5 (by omega) (by omega) (by omega)) (by unfold LIM; omega)
 have z41 : qs (qover 4 1) ≤ LIM := Nat.le_trans (over_sub 0 0 4 1 5 (by omega) (by omega) (by omega)) (by unfold LIM; omega)
 have Hpl := Lib.hid hpl
 clear hpl q0 q2 q3 q4
 go_enter Tryz.func18, Tryz.ntmps18
 refine en0 ?_
 intro u hG hB hF
 refine wp_seq (rsE allocs [1, 1, 1, 1, 1, 1, 1, 0] hB hG fun L hL => ?_)
 refine gmw (C := fun v => frac_Of 0 (by omega) (by omega) _) ?_
 refine gx Nat (fun b => .slice (some ⟨b, 0, none⟩) 1 1) (fun b W => Lq W (some ⟨b, 0, none⟩) [qint 0]) (fun _ _ _ hg h => h.grow hg) rfl ?_ (fun x5 => ?_)
 ·(rintro v ⟨hgu, hB, hG, -⟩ N hN; go_simp; exact hN v.heap.size _ (lqN_new v [qint 0]) (Grow.alloc _ _))
 refine okf (by simp only [Act.put, List.setIfInBounds_toArray, List.set_cons_succ, List.set_cons_zero]; exact rfl) ?_
 refine gmw (C := fun v => frac_Of 3 (by omega) (by omega) _) ?_
 refine gx Nat (fun b => .slice (some ⟨b, 0, none⟩) 1 1) (fun b W => Lq W (some ⟨b, 0, none⟩) [qint 3]) (fun _ _ _ hg h => h.grow hg) rfl ?_ (fun x7 => ?_)
 ·(rintro v ⟨⟨hgu, hB, hG, -⟩, hx5⟩ N hN; go_simp; exact hN v.heap.size _ (lqN_new v [qint 3]) (Grow.alloc _ _))
 refine okf (by simp only [Act.put, List.setIfInBounds_toArray, List.set_cons_succ, List.set_cons_zero]; exact rfl) ?_
 refine gmw (C := fun v => frac_Of 4 (by omega) (by omega) _) ?_
 refine gx Nat (fun b => .slice (some ⟨b, 0, none⟩) 1 1) (fun b W => Lq W (some ⟨b, 0, none⟩) [qint 4]) (fun _ _ _ hg h => h.grow hg) rfl ?_ (fun x9 => ?_)
 ·(rintro v ⟨⟨⟨hgu, hB, hG, -⟩, hx5⟩, hx7⟩ N hN; go_simp; exact hN v.heap.size _ (lqN_new v [qint 4]) (Grow.alloc _ _))
 refine okf (by simp only [Act.put, List.setIfInBounds_toArray, List.set_cons_succ, List.set_cons_zero]; exact rfl) ?_
 refine gx Nat (fun b => .slice (some ⟨b, 0, none⟩) 3 3) (fun b W => Lrq W (some ⟨b, 0, none⟩) [(some ⟨x5, 0, none⟩, 1, [qint 0]), (some ⟨x7, 0, none⟩, 1, [qint 3]), (some ⟨x9, 0, none⟩, 1, [qint 4])]) (fun _ _ _ hg h => h.grow hg) rfl ?_ (fun x10 => ?_)
 ·(rintro v ⟨⟨⟨⟨hgu, hB, hG, -⟩, hx5⟩, hx7⟩, hx9⟩ N hN; go_simp; exact hN v.heap.size _ (lrq_new v [(some ⟨x5, 0, none⟩, 1, [qint 0]), (some ⟨x7, 0, none⟩, 1, [qint 3]), (some ⟨x9, 0, none⟩, 1, [qint 4])] (fun r hr => by simp only [List.mem_cons, List.not_mem_nil, or_false] at hr; rcases hr with rfl | rfl | rfl <;> assumption)) (Grow.alloc _ _))
 refine okf (by simp only [Act.put, List.setIfInBounds_toArray, List.set_cons_succ, List.set_cons_zero]; exact rfl) ?_
 refine gs ?_
 refine geT hL ?_
 clear hB hG hL L
 rintro u ⟨⟨⟨⟨⟨hgu, hB, hG, -⟩, hx5⟩, hx7⟩, hx9⟩, hx10⟩
 have HR := Lib.hid hx10
 clear hx5 hx7 hx9 hx10
 clear hgu
 refine wp_seq (rsE allocs [0, 1, 1, 1, 0, 0, 0, 0, 0] hB hG fun L hL => ?_)
 refine gs ?_
 refine gmw (C := fun v => frac_Of 2 (by omega) (by omega) _) ?_
 refine gx Nat (fun b => .slice (some ⟨b, 0, none⟩) 1 1) (fun b W => Lq W (some ⟨b, 0, none⟩) [qint 2]) (fun _ _ _ hg h => h.grow hg) rfl ?_ (fun x14 => ?_)
 ·(rintro v ⟨hgu, hB, hG, -⟩ N hN; go_simp; exact hN v.heap.size _ (lqN_new v [qint 2]) (Grow.alloc _ _))
 refine okf (by simp only [Act.put, List.setIfInBounds_toArray, List.set_cons_succ, List.set_cons_zero]; exact rfl) ?_
 refine gxd (X := Ax) (fun x : Ax => .tuple #[.slice x.1 2 x.2, .int .i64 0]) (fun x W => Lh W x.1 [(1, qover 1 1), (0, qover 4 1)]) (fun x u u' hg h => Lh.grow h hg) (fun x15 => ?_) (C := by (rintro v ⟨⟨hgu, hB, hG, -⟩, hx14⟩; exact Hpl.out _ _ _ _ x10 x14 (HR.out.grow hgu) hx14 (HT.grow hG)))
 refine gs ?_
 refine geT hL ?_
 clear hB hG hL L
 rintro u ⟨⟨⟨hgu, hB, hG, -⟩, hx14⟩, hx15⟩
 have HL := Lib.hid hx15
 clear HR hx14 hx15
 clear hgu
 obtain ⟨A15, c15⟩ := x15
 obtain ⟨g, off, rfl, hgl, hc⟩ := HL.out (by simp)
 have hcl : ∀ W, Grow u W → ∀ i h, [((1, qover 1 1) : Ht), (0, qover 4 1)][i]? = some h → ∀ j v, (htL h)[j]? = some v → W.cell? ⟨g, off + i * 6 + j, none⟩ = some v := fun W hg i h hi j v hj => (hg.cell (p := ⟨g, off + i * 6 + j, none⟩) hgl).trans (hc i h hi j v hj)
 have hA : ∀ W, Grow u W → _ := fun W hg => And.intro (hcl W hg 0 _ rfl 0 _ rfl) (And.intro (hcl W hg 0 _ rfl 1 _ rfl) (And.intro (hcl W hg 0 _ rfl 2 _ rfl) (And.intro (hcl W hg 0 _ rfl 3 _ rfl) (And.intro (hcl W hg 0 _ rfl 4 _ rfl) (hcl W hg 0 _ rfl 5 _ rfl)))))
 have hB' : ∀ W, Grow u W → _ := fun W hg => And.intro (hcl W hg 1 _ rfl 0 _ rfl) (And.intro (hcl W hg 1 _ rfl 1 _ rfl) (And.intro (hcl W hg 1 _ rfl 2 _ rfl) (And.intro (hcl W hg 1 _ rfl 3 _ rfl) (And.intro (hcl W hg 1 _ rfl 4 _ rfl) (hcl W hg 1 _ rfl 5 _ rfl)))))
 simp only [Nat.zero_mul, Nat.one_mul, Nat.add_zero, Nat.add_assoc, Nat.reduceAdd] at hA hB'
 have HA := Lib.hid hA
 have HB := Lib.hid hB'
 clear hcl hc hA hB' HL hgl
 refine wp_seq (rsE allocs [0, 0, 0, 0, 0, 0, 0, 0, 0, 0, 0, 0, 0, 0, 0, 0, 0, 0, 0, 1, 0, 0, 0, 0, 0, 0, 0, 0, 0, 0, 0, 0, 0, 1, 0, 0] hB hG fun L hL => ?_)
 repeat first | refine gya ?_ | refine gyr ?_ | refine gna ?_ | refine gyb (by (rintro v ⟨hgu, hB, hG, -⟩ N hN; have r := hB.r; simp only [BxR] at r; obtain ⟨a0, a1, a2, a3, a4, a5⟩ := HA.out v hgu; obtain ⟨b0, b1, b2, b3, b4, b5⟩ := HB.out v hgu; go_simp; exact hN)) ?_
 first | refine gmw (C := fun v => hand_Is 1 1 (by omega) (by omega) (by omega) (by omega) (by omega) z11 _) ?_ | refine gmna ?_
 repeat first | refine gya ?_ | refine gyr ?_ | refine gna ?_ | refine gyb (by (rintro v ⟨hgu, hB, hG, -⟩ N hN; have r := hB.r; simp only [BxR] at r; obtain ⟨a0, a1, a2, a3, a4, a5⟩ := HA.out v hgu; obtain ⟨b0, b1, b2, b3, b4, b5⟩ := HB.out v hgu; go_simp; exact hN)) ?_
 first | refine gmw (C := fun v => hand_Is 4 1 (by omega) (by omega) (by omega) (by omega) (by omega) z41 _) ?_ | refine gmna ?_
 refine gs ?_
 refine geT hL ?_
 clear hB hG hL L
 rintro u ⟨-, hB, hG, -⟩
 refine rt Tryz.results18 ?_
 exact ⟨rfl, hG⟩
end Go.Proofs.YtjmopgepnndckaaGreatDoor
