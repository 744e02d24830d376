/- Contracts and laws. -/
import Derived.Test.YtjmopgepnndckaaGreatDoorC37
import Derived.Test.YtjmopgepnndckaaGreatDoorC38
import Derived.Shelf.SlLaysF0
import Derived.Shelf.SlLaysF
import Derived.Shelf.SlLaysE0
import Derived.Shelf.SlGeneric
import Derived.Ground.SlsfProg
import Derived.Ground.SlgnProg
import Derived.Test.YtjmopgepnndckaaGreatDoorProg
import Derived.Shelf.SlSortCmp.Whole1
import Derived.Deep.RegionHeld3
import Derived.Deep.AppendLies
import Derived.Deep.CutRange
import Derived.Deep.DeepCutAuto
set_option linter.unusedSimpArgs false
set_option linter.unusedVariables false
set_option maxHeartbeats 1000000
set_option maxRecDepth 100000
namespace Go.Proofs
open Go.Shelf
end Go.Proofs
namespace Go.Proofs.YtjmopgepnndckaaGreatDoor
open Go Go.RowKit Go.Sort Go.Shelf
theorem A3S (X : List (List Rat)) (i c : Nat) : ent X i c = gq (R8 X i) c := by unfold ent gq R8; rw [List.getD_eq_getElem?_getD]
structure GrC (b3 b5 bT : Nat) (RA : Option Addr) (RC n : Nat) (NV : Value) (col : Nat) (rs : List Rq) (W : World) : Prop where
 p3 : Blk W b3 169 #[.pointer (some ⟨bT, 0, none⟩)]
 p5 : Blk W b5 3 #[.int .i64 (col : Nat)]
 pT : Blk W bT 79 #[.slice RA n RC, NV]
 rows : Lrq W RA rs
theorem GrC.grow {b3 b5 bT : Nat} {RA : Option Addr} {RC n : Nat} {NV : Value} {col : Nat} {rs : List Rq} {u u' : World} (h : GrC b3 b5 bT RA RC n NV col rs u) (hg : A3 u u') : GrC b3 b5 bT RA RC n NV col rs u' := ⟨h.p3.grow hg, h.p5.grow hg, h.pT.grow hg, h.rows.grow hg⟩
abbrev F6 (l : List Nat) : List Int := l.map fun (i : Nat) => (i : Int)
end Go.Proofs.YtjmopgepnndckaaGreatDoor
namespace Go.Proofs.YtjmopgepnndckaaGreatDoor
open Go Go.RowKit
structure KepS (S : Nat → Prop) (u w : World) : Prop where
 os : w.os = u.os
 tape : w.tape = u.tape
 output : w.output = u.output
 size : u.heap.size ≤ w.heap.size
 block : ∀ k, k < u.heap.size → ¬ S k → w.heap[k]? = u.heap[k]?
theorem KepS.refl (S : Nat → Prop) (u : World) : KepS S u u := ⟨rfl, rfl, rfl, Nat.le_refl _, fun _ _ _ => rfl⟩
theorem KepS.trans {S : Nat → Prop} {u v w : World} (h : KepS S u v) (h' : KepS S v w) : KepS S u w :=
 ⟨h'.os.trans h.os, h'.tape.trans h.tape, h'.output.trans h.output, Nat.le_trans h.size h'.size, fun k hk hs => (h'.block k (Nat.lt_of_lt_of_le hk h.size) hs).trans (h.block k hk hs)⟩
theorem KepS.ofGrow {S : Nat → Prop} {u w : World} (h : A3 u w) : KepS S u w := ⟨h.os, h.tape, h.output, h.size, fun k hk _ => h.block k hk⟩
theorem KepS.ofGrown {S : Nat → Prop} {u w : World} {row : Option Nat} (h : u.grownBy w row) (hr : ∀ k, row = some k → S k) : KepS S u w := ⟨h.os, h.tape, h.output, h.size, fun k hk hs => h.block k hk (fun e => hs (hr k e.symm))⟩
theorem KepS.mono {S S' : Nat → Prop} {u w : World} (h : KepS S u w) (hm : ∀ k, k < u.heap.size → S k → S' k) : KepS S' u w := ⟨h.os, h.tape, h.output, h.size, fun k hk hs => h.block k hk (fun e => hs (hm k hk e))⟩
theorem KepS.grow {S : Nat → Prop} {w0 u w : World} (h : KepS S w0 u) (hg : A3 u w) : KepS S w0 w := h.trans (KepS.ofGrow hg)
theorem KepS.setCell {S : Nat → Prop} (u : World) (p : Addr) (hp : S p.block) (v : Value) : KepS S u (u.setCell p v) :=
 ⟨rfl, rfl, rfl, by simp [World.setCell], fun k _ hs => Below.heap_setCell u p v k (fun e => hs (e ▸ hp))⟩
theorem KepS.blk {S : Nat → Prop} {u w : World} {b : Nat} {t : TypeId} {cs : Array Value} (h : KepS S u w) (hb : Blk u b t cs) (hs : ¬ S b) : Blk w b t cs := (h.block b hb.lt hs).trans hb
theorem KepS.li {S : Nat → Prop} {u w : World} {g off : Nat} {l : List Int} (h : KepS S u w) (hl : Li u (some ⟨g, off, none⟩) l) (hs : ¬ S g) : Li w (some ⟨g, off, none⟩) l := fun hn => by
 obtain ⟨b, o, e, hb, hc⟩ := hl hn
 cases e
 exact ⟨g, off, rfl, Nat.lt_of_lt_of_le hb h.size, fun i x hi => (World.cell?_of_block (w := u) (a := ⟨g, off + i, none⟩) (h.block g hb hs)).trans (hc i x hi)⟩
def nbk (A : Option Addr) : Option Nat := A.map (·.block)
theorem A0i (A : Option Addr) (n c : Nat) : (Value.slice A n c).ownBlock = nbk A := by cases A <;> rfl
theorem KepS.own {S : Nat → Prop} {u w : World} {B n c k : Nat} {e : TypeId} {A : Option Addr} {xs : List Value} (h : KepS S u w) (ho : u.ownsRow B e k (.slice A n c) n xs) (hs : ∀ b, nbk A = some b → ¬ S b) : w.ownsRow B e k (.slice A n c) n xs := by
 obtain ⟨h0, h1 | ⟨g, cap, cur, e1, hb, hh, hn, hc, hz, ht⟩⟩ := ho
 ·exact ⟨h0, .inl h1⟩
 ·refine ⟨h0, .inr ⟨g, cap, cur, e1, hb, (h.block g (M7 hh) (hs g ?_)).trans hh, hn, hc, hz, ht⟩⟩
  cases e1
  rfl
abbrev ndL (x : NdT) : List Value := [.int .i64 x.r, .int .i64 x.c, .int .i64 x.l, .int .i64 x.t]
theorem A3Y : ∀ (l : List NdT) (k : Nat) (v : Int) (hk : k < l.length), (l.flatMap ndL).set (k * 4 + 2) (.int .i64 v) = (l.set k ⟨l[k].r, l[k].c, v, l[k].t⟩).flatMap ndL
 | x :: l, 0, v, _ => rfl
 | x :: l, k + 1, v, hk => by
  have := A3Y l k v (by simpa using hk)
  rw [show (k + 1) * 4 + 2 = k * 4 + 2 + 4 by omega]
  show _ :: _ :: _ :: _ :: (l.flatMap ndL).set (k * 4 + 2) _ = _
  rw [this]
  rfl
theorem A41 : ∀ (l : List NdT) (k : Nat) (v : Int) (hk : k < l.length), (l.flatMap ndL).set (k * 4 + 3) (.int .i64 v) = (l.set k ⟨l[k].r, l[k].c, l[k].l, v⟩).flatMap ndL
 | x :: l, 0, v, _ => rfl
 | x :: l, k + 1, v, hk => by
  have := A41 l k v (by simpa using hk)
  rw [show (k + 1) * 4 + 3 = k * 4 + 3 + 4 by omega]
  show _ :: _ :: _ :: _ :: (l.flatMap ndL).set (k * 4 + 3) _ = _
  rw [this]
  rfl
theorem A9b (X : List (List Rat)) (w col k m h : Nat) (is : List Nat) (hm : is.length = m) (hm0 : 0 < m) (hh : m / 2 = h) :
  N0 (H9 X w is col) k = ⟨((M5 X col is).getD h 0 : Nat), (col : Nat), if h = 0 then 0 else (k + 1 : Nat), if m ≤ h + 1 then 0 else (k + 1 + h : Nat)⟩ :: (N0 (H9 X w ((M5 X col is).take h) ((col + 1) % w)) (k + 1) ++ N0 (H9 X w ((M5 X col is).drop (h + 1)) ((col + 1) % w)) (k + 1 + h)) := by
 rw [H9, dif_neg (by omega), hm, hh]
 have e1 : (H9 X w ((M5 X col is).take h) ((col + 1) % w)).size = h := by rw [A1C, List.length_take, Z2]; omega
 have e2 : (H9 X w ((M5 X col is).drop (h + 1)) ((col + 1) % w)).size = m - (h + 1) := by rw [A1C, List.length_drop, Z2]; omega
 show NdT.mk _ _ _ _ :: _ = _
 rw [e1, e2]
 congr 1
 ·congr 1
  by_cases h1 : m ≤ h + 1
  ·rw [if_pos h1, if_pos (by omega)]
  ·rw [if_neg h1, if_neg (by omega)]
theorem B1J (X : List (List Rat)) (w c : Nat) : H9 X w [] c = .none := by rw [H9]; rfl
structure GrS (w1 : World) (S : Nat → Prop) (b3 b5 gl D : Nat) (ls : List Int) (NA : Option Addr) (NC kk : Nat) (ns : List NdT) (u : World) : Prop where
 K : KepS S w1 u
 l : Li u (some ⟨gl, 0, none⟩) ls
 gu : gl < u.heap.size
 own : u.ownsRow D 88 4 (.slice NA kk NC) kk (ns.flatMap ndL)
 len : ns.length = kk
 s5 : S b5
 g5 : gl ≠ b5
 n5 : nbk NA ≠ some b5
 n3 : nbk NA ≠ some b3
 gn : nbk NA ≠ some gl
theorem GrS.grow {w1 : World} {S : Nat → Prop} {b3 b5 gl D : Nat} {ls : List Int} {NA : Option Addr} {NC kk : Nat} {ns : List NdT} {u u' : World} (h : GrS w1 S b3 b5 gl D ls NA NC kk ns u) (hg : A3 u u') : GrS w1 S b3 b5 gl D ls NA NC kk ns u' :=
 ⟨h.K.grow hg, h.l.grow hg, Nat.lt_of_lt_of_le h.gu hg.size, D4 h.own hg, h.len, h.s5, h.g5, h.n5, h.n3, h.gn⟩
theorem A2L {S : Nat → Prop} {b : Nat} (hb : S b) : ∀ (vs : List Value) (i : Nat) (u : World), KepS S u (E2 u b i vs)
 | [], _, u => KepS.refl S u
 | v :: vs, i, u => (KepS.setCell u ⟨b, i, none⟩ hb v).trans (A2L hb vs (i + 1) _)
theorem GrS.put {w1 : World} {S : Nat → Prop} {b3 b5 gl D : Nat} {ls : List Int} {NA : Option Addr} {NC kk : Nat} {ns : List NdT} {u u' : World} (h : GrS w1 S b3 b5 gl D ls NA NC kk ns u) {bl : List (Nat × TypeId × Array Value)} (hB : Bx u bl) (k : Nat) {b : Nat} {t : TypeId} {cs : Array Value} (hk : bl[k]? = some (b, t, cs)) (ht : b = b5) (i : Nat) (vs : List Value) (hu : E2 u b i vs = u') : GrS w1 S b3 b5 gl D ls NA NC kk ns u' := by
 subst ht hu
 have h1 : KepS (fun k => k = b) u (E2 u b i vs) := A2L (S := fun k => k = b) rfl vs i u
 exact ⟨h.K.trans (A2L h.s5 vs i u), h1.li h.l (fun e => h.g5 e), Nat.lt_of_lt_of_le h.gu h1.size, h1.own h.own (fun x hx e => h.n5 (by rw [hx, e])), h.len, h.s5, h.g5, h.n5, h.n3, h.gn⟩
theorem B06 (g cap n hi : Nat) (h2 : hi ≤ cap) (W : World) : (Instr.slice 22 (.slice (some ⟨g, 0, none⟩) n cap) none (some (.int .i64 (hi : Nat))) none).run Tryz.prog W = .ok (.slice (some ⟨g, 0, none⟩) hi cap) W := by
 have h3 : (hi : Int) ≤ (cap : Int) := by omega
 go_simp
theorem A7V (g cap n lo : Nat) (h1 : lo ≤ n) (h2 : lo < cap) (h4 : n ≤ cap) (W : World) : (Instr.slice 22 (.slice (some ⟨g, 0, none⟩) n cap) (some (.int .i64 (lo : Nat))) none none).run Tryz.prog W = .ok (.slice (some ⟨g, lo, none⟩) (n - lo) (cap - lo)) W := by
 have h3 : (lo : Int) ≤ (n : Int) := by omega
 have h5 : ¬ (cap : Int) = (lo : Int) := by omega
 have h6 : ¬ cap = lo := by omega
 go_simp
theorem A8L {W : World} {g off : Nat} {l : List Int} (h : Li W (some ⟨g, off, none⟩) l) (k : Nat) : Li W (some ⟨g, off, none⟩) (l.take k) := fun hne => by
 obtain ⟨b, o, e, hb, hc⟩ := h (fun e => hne (by rw [e]; simp))
 refine ⟨b, o, e, hb, fun i q hi => hc i q ?_⟩
 rw [List.getElem?_take] at hi
 split at hi
 ·exact hi
 ·cases hi
theorem B2k {W : World} {g : Nat} {l : List Int} (h : Li W (some ⟨g, 0, none⟩) l) (k : Nat) : Li W (some ⟨g, k, none⟩) (l.drop k) := fun hne => by
 obtain ⟨b, o, e, hb, hc⟩ := h (fun e => hne (by rw [e]; simp))
 cases e
 refine ⟨g, k, rfl, hb, fun i q hi => ?_⟩
 rw [List.getElem?_drop] at hi
 have := hc (k + i) q hi
 rwa [Nat.zero_add] at this
theorem A2p {P : Program} {fn : Func} {R : Ending → World → Prop} {a : Act} {w : World} (hd : a.defers = []) (hr : (results fn a.tmps).run P w = .ok (.tuple #[]) w) (h : R (.returned (.tuple #[])) w) : bodyPost P fn R .normal a w := bodyPost_end hr hd h
theorem A4F (X : List (List Rat)) (w c i : Nat) {l : List Nat} (h : l = []) : N0 (H9 X w l c) i = [] := by rw [h, B1J]; rfl
end Go.Proofs.YtjmopgepnndckaaGreatDoor
namespace Go.Proofs.YtjmopgepnndckaaGreatDoor
open Go.RowKit
theorem A6S {P : Program} {x y : Code} {Q : Exit → Act → World → Prop} {a : Act} {w : World} (h : ∀ K : Act → World → Prop, (∀ a w, y.wp P Q a w → K a w) → x.wp P (Exit.then K Q) a w) : (Code.seq x y).wp P Q a w :=
 wp_seq (h _ fun _ _ h => h)
end Go.Proofs.YtjmopgepnndckaaGreatDoor
namespace Go.Proofs.YtjmopgepnndckaaGreatDoor
open Go Go.RowKit
theorem B2t (A : Option Addr) (rs : List Rq) (n L c : Nat) (hn : rs.length = n) (hn1 : 1 ≤ n) (hn2 : n ≤ 1048576) (hL1 : 1 ≤ L) (hrl : ∀ r ∈ rs, r.2.2.length = L) (w : World) (h : Lrz w A rs) :
  Calls Tryz.prog 54 #[.slice A n c] w fun e w' => e = .returned (.bool true) ∧ A3 w w' := by
 obtain ⟨bb, ob, rfl⟩ := h.addr (by omega)
 have hrow : ∀ i, i < n → ∃ (Ar : Option Addr) (cr : Nat), ∀ W, A3 w W → W.cell? ⟨bb, ob + i, none⟩ = some (.slice Ar L cr) := fun i hi => by
  have hil : i < rs.length := by omega
  refine ⟨rs[i].1, rs[i].2.1, fun W hg => ?_⟩
  have h3 := ((h.grow hg).read (List.getElem?_eq_getElem hil)).1
  rw [hrl _ (List.getElem_mem hil)] at h3
  exact h3
 obtain ⟨A0, c0, hrow0⟩ := hrow 0 (by omega)
 rw [Nat.add_zero] at hrow0
 have hni : (0 : Int) < (n : Int) := by omega
 have fnz : decide (n = 0) = false := by simp; omega
 have fnp : 0 < n := by omega
 have fn : decide ((0 : Int) < (n : Int)) = true := by simp; omega
 have fnn : decide (0 < n) = true := by simp; omega
 have hne : ((L : Int) != (L : Int)) = false := by simp
 have fL : ((L : Int) == 0) = false := by simp; omega
 have fLd : decide (L = 0) = false := by simp; omega
 have Hrow := Lib.hid hrow
 have Hrow0 := Lib.hid hrow0
 clear hrow hrow0 h hrl hn
 go_enter Tryz.func54, Tryz.ntmps54
 refine en0 ?_
 intro u hG hB hF
 refine wp_seq ?_
 refine r0T ?_
 refine wp_block ?_
 go_loopw [3] (fun s0 wr => ∃ i : Nat, i ≤ n ∧ s0 = .int .i64 i ∧ A3 w wr) (fun s0 _ => n - (intOf s0).toNat)
 case atStart => exact ⟨0, Nat.zero_le _, rfl, hG⟩
 case round =>
  clear hB hG
  obtain ⟨i, hi, rfl, hG⟩ := hrel
  obtain ⟨u, rfl⟩ : ∃ x, x = wr := ⟨_, rfl⟩
  have hB := Bx.nil u
  rcases Nat.lt_or_ge i n with hlt | hge
  ·have hdec : decide ((i : Int) < (n : Int)) = true := by simp; omega
   obtain ⟨Ar, cr, hrw⟩ := Hrow.out i hlt
   have Hrw := Lib.hid hrw
   clear hrw
   refine wp_seq ?_
   refine r0T ?_
   refine wp_cond_true (rfl) ?_
   refine wp_skip ?_
   refine A4 ?_
   refine wp_seq ?_
   refine wp_block ?_
   refine wp_seq (rdC A6 [] [(0, 0), (0, 1), (0, 2), (0, 3), (0, 4), (0, 5), (0, 6), (0, 7), (0, 8), (0, 9), (0, 10), (0, 11), (0, 12), (0, 13), (0, 14), (0, 15), (0, 16)] hB hG fun K L hN hL => ?_)
   repeat first | refine gya ?_ | refine gyr ?_ | refine gna ?_ | refine gyb (by (rintro v ⟨hgu, hB, hG, -⟩ N hN; have r := hB.r; simp only [BxR] at r; have q0 := Hrow0.out v hG; have q1 := Hrw.out v hG; go_simp; exact hN)) ?_
   refine geC hL ?_
   clear hB hG hL L
   rintro u ⟨-, hB, hG, -⟩
   refine gtT ?_
   clear hN K
   refine wp_cond_false (rfl) ?_
   refine wp_skip ?_
   refine D2 ?_
   refine A4 ?_
   refine r0E ?_
   refine A4 ?_
   go_roundw
   case rel => exact ⟨i + 1, by omega, by go_num, hG⟩
   case measure => simp [intOf]; omega
  ·obtain rfl : n = i := by omega
   have hdec : decide ((n : Int) < (n : Int)) = false := by simp
   refine wp_seq ?_
   refine r0T ?_
   refine wp_cond_false (rfl) ?_
   refine wp_exit ?_
   refine B4 ?_
   refine B4 ?_
   refine E1 ?_
   refine A4 ?_
   refine r0T ?_
   refine rt Tryz.results54 ?_
   exact ⟨rfl, hG⟩
theorem B3F (A : Option Addr) (c : Nat) (w : World) : Calls Tryz.prog 54 #[.slice A 0 c] w fun e w' => e = .returned (.bool false) ∧ A3 w w' := by
 go_enter Tryz.func54, Tryz.ntmps54
 refine en0 ?_
 intro u hG hB hF
 refine wp_seq ?_
 refine r0T ?_
 refine wp_block ?_
 go_loopw [3] (fun s0 wr => s0 = .int .i64 0 ∧ A3 w wr) (fun s0 _ => 0)
 case atStart => exact ⟨rfl, hG⟩
 case round =>
  clear hB hG
  obtain ⟨rfl, hG⟩ := hrel
  obtain ⟨u, rfl⟩ : ∃ x, x = wr := ⟨_, rfl⟩
  have hB := Bx.nil u
  refine wp_seq ?_
  refine r0T ?_
  refine wp_cond_false (rfl) ?_
  refine wp_exit ?_
  refine B4 ?_
  refine B4 ?_
  refine E1 ?_
  refine A4 ?_
  refine r0T ?_
  refine rt Tryz.results54 ?_
  exact ⟨rfl, hG⟩
theorem A5z (A : Option Addr) (rs : List Rq) (n L c : Nat) (hn : rs.length = n) (hn1 : 1 ≤ n) (hn2 : n ≤ 300) (hL1 : 1 ≤ L) (hL2 : L ≤ 20) (hrl : ∀ r ∈ rs, r.2.2.length = L) (w : World) (h : Lrz w A rs) :
  Calls Tryz.prog 19 #[.slice A n c] w fun e w' => e = .returned (.bool true) ∧ A3 w w' := by
 have hri := fun W (hg : A3 w W) => B2t A rs n L c hn hn1 (by omega) hL1 hrl W (h.grow hg)
 obtain ⟨bb, ob, rfl⟩ := h.addr (by omega)
 have hrow0 : ∃ (Ar : Option Addr) (cr : Nat), ∀ W, A3 w W → W.cell? ⟨bb, ob, none⟩ = some (.slice Ar L cr) := by
  have hil : 0 < rs.length := by omega
  refine ⟨rs[0].1, rs[0].2.1, fun W hg => ?_⟩
  have h3 := ((h.grow hg).read (List.getElem?_eq_getElem hil)).1
  rw [hrl _ (List.getElem_mem hil), Nat.add_zero] at h3
  exact h3
 obtain ⟨A0, c0, hrow0⟩ := hrow0
 have hni : (0 : Int) < (n : Int) := by omega
 have fnz : decide (n = 0) = false := by simp; omega
 have fnp : 0 < n := by omega
 have f2 : decide ((n : Int) ≤ 300) = true := by simp; omega
 have f2n : decide (n ≤ 300) = true := by simp; omega
 have f4 : decide ((L : Int) ≤ 20) = true := by simp; omega
 have f4n : decide (L ≤ 20) = true := by simp; omega
 have Hri := Lib.hid hri
 have Hrow0 := Lib.hid hrow0
 clear hri hrow0 h hrl hn
 go_enter Tryz.func19, Tryz.ntmps19
 refine en0 ?_
 intro u hG hB hF
 refine wp_seq (rsE A6 [0, 1, 0, 0, 0, 0, 0, 0, 0, 0, 0, 0, 0, 0, 0] hB hG fun L hL => ?_)
 refine gs ?_
 refine gmd (C := fun v ⟨hgu, hB, hG, _⟩ => Hri.out _ hG) ?_
 repeat first | refine gya ?_ | refine gyr ?_ | refine gna ?_ | refine gyb (by (rintro v ⟨hgu, hB, hG, -⟩ N hN; have r := hB.r; simp only [BxR] at r; have q0 := Hrow0.out v hG; go_simp; exact hN)) ?_
 refine geT hL ?_
 clear hB hG hL L
 rintro u ⟨-, hB, hG, -⟩
 refine rt Tryz.results19 ?_
 exact ⟨rfl, hG⟩
theorem B1w (A : Option Addr) (c : Nat) (w : World) : Calls Tryz.prog 19 #[.slice A 0 c] w fun e w' => e = .returned (.bool false) ∧ A3 w w' := by
 have hri := fun W => B3F A c W
 go_enter Tryz.func19, Tryz.ntmps19
 refine en0 ?_
 intro u hG hB hF
 refine wp_seq (rsE A6 [0, 1, 0, 0, 0, 0, 0, 0, 0, 0, 0, 0, 0, 0, 0] hB hG fun L hL => ?_)
 refine gs ?_
 refine gmw (C := fun v => hri _) ?_
 refine gs ?_
 refine geT hL ?_
 clear hB hG hL L
 rintro u ⟨-, hB, hG, -⟩
 refine rt Tryz.results19 ?_
 exact ⟨rfl, hG⟩
abbrev Hz := Nat × Az × Rat
def V9 (u : World) (ps : List Hz) : Prop := ∀ r ∈ ps, Rz u r.2.1 r.2.2
theorem V9.grow {u u' : World} {ps : List Hz} (h : V9 u ps) (hg : A3 u u') : V9 u' ps := fun r hr => (h r hr).grow hg
theorem V9.own {u w' : World} {B : Nat} {e : TypeId} {size n : Nat} {v : Value} {xs : List Value} {o : Obj} {ps : List Hz} (hl : V9 u ps) (h : u.ownsRow B e size v n xs) (ht : e ≠ 162) (hg : (u.alloc o).grownBy w' v.ownBlock) : V9 w' ps := fun r hr => (hl r hr).own h ht hg
theorem V9.put {u u' : World} {ps : List Hz} (h : V9 u ps) {bl : List (Nat × TypeId × Array Value)} (hB : Bx u bl) (k : Nat) {b : Nat} {t : TypeId} {cs : Array Value} (hk : bl[k]? = some (b, t, cs)) (ht : t ≠ 162) (i : Nat) (vs : List Value) (hu : E2 u b i vs = u') : V9 u' ps := fun r hr => (h r hr).put hB k hk ht i vs hu
def Lhz (u : World) (A : Option Addr) (l : List Ht) : Prop :=
 l ≠ [] → ∃ b off, A = some ⟨b, off, none⟩ ∧ b < u.heap.size ∧ ∀ i h, l[i]? = some h → ∃ p : Az, Rz u p h.2 ∧ u.cell? ⟨b, off + i * 4, none⟩ = some (.int .i64 (h.1 : Nat)) ∧ Cz u b (off + i * 4 + 1) p h.2
theorem Lhz.grow {u u' : World} {A : Option Addr} {l : List Ht} (h : Lhz u A l) (hg : A3 u u') : Lhz u' A l := fun hn => by
 obtain ⟨b, off, e, hb, hc⟩ := h hn
 refine ⟨b, off, e, Nat.lt_of_lt_of_le hb hg.size, fun i q hi => ?_⟩
 obtain ⟨p, h1, h2, h3⟩ := hc i q hi
 exact ⟨p, h1.grow hg, (hg.cell (p := ⟨b, off + i * 4, none⟩) hb).trans h2, h3.grow hb hg⟩
theorem A5v (b : Nat) : ∀ (vs : List Value) (i : Nat) (u : World), u.grownBy (E2 u b i vs) (some b)
 | [], _, _ => ⟨rfl, rfl, rfl, Nat.le_refl _, fun _ _ _ => rfl⟩
 | v :: vs, i, u => A65 (u1 := u.setCell ⟨b, i, none⟩ v) ⟨rfl, rfl, rfl, by simp [World.setCell], fun k _ hk => Below.heap_setCell _ _ _ _ (fun e => hk (by simp [e]))⟩ (A5v b vs (i + 1) _)
theorem I6 {u u' : World} {B : Nat} {e : TypeId} {size n b i : Nat} {v : Value} {xs vs : List Value} (h : u.ownsRow B e size v n xs) (hb : v.ownBlock ≠ some b) (hu : E2 u b i vs = u') : u'.ownsRow B e size v n xs := by
 subst hu
 exact h.kept (A5v b vs i u) (.inr hb)
end Go.Proofs.YtjmopgepnndckaaGreatDoor
namespace Go.Proofs.YtjmopgepnndckaaGreatDoor
open Go Go.RowKit Go.Shelf
theorem A6G (d : Option Tmp) (ty : TypeId) (pos : String) (af : Array Edge) (gd : Option (Nat × Bool)) : I2 Tryz.prog ⟨d, .alloc 79, ty, pos, af, gd⟩ = .cells #[.slice none 0 0, .slice none 0 0] 79 := by kernel_rfl
theorem A2n (d : Option Tmp) (ty : TypeId) (pos : String) (af : Array Edge) (gd : Option (Nat × Bool)) : I2 Tryz.prog ⟨d, .alloc 72, ty, pos, af, gd⟩ = .cells #[.slice none 0 0, .slice none 0 0] 72 := by kernel_rfl
theorem A3q (d : Option Tmp) (ty : TypeId) (pos : String) (af : Array Edge) (gd : Option (Nat × Bool)) : I2 Tryz.prog ⟨d, .alloc 88, ty, pos, af, gd⟩ = .cells #[.int .i64 0, .int .i64 0, .int .i64 0, .int .i64 0] 88 := by kernel_rfl
theorem A07 (d : Option Tmp) (ty : TypeId) (pos : String) (af : Array Edge) (gd : Option (Nat × Bool)) : I2 Tryz.prog ⟨d, .alloc 118, ty, pos, af, gd⟩ = .cells #[.int .i64 0, .int .i64 0, .int .i64 0, .int .i64 0] 118 := by kernel_rfl
theorem C5 : ∀ t ∈ [45, 47, 49, 79, 72, 88, 118], J4 Tryz.prog t := by
 intro t ht
 simp only [List.mem_cons, List.not_mem_nil, or_false] at ht
 rcases ht with rfl | rfl | rfl | rfl | rfl | rfl | rfl
 ·exact fun _ _ _ _ _ _ => by rw [G1]; kernel_rfl
 ·exact fun _ _ _ _ _ _ => by rw [A1n]; kernel_rfl
 ·exact fun _ _ _ _ _ _ => by rw [W8]; kernel_rfl
 ·exact fun _ _ _ _ _ _ => by rw [A6G]; kernel_rfl
 ·exact fun _ _ _ _ _ _ => by rw [A2n]; kernel_rfl
 ·exact fun _ _ _ _ _ _ => by rw [A3q]; kernel_rfl
 ·exact fun _ _ _ _ _ _ => by rw [A07]; kernel_rfl
theorem F9.kept' {B0 : Nat} {u w' : World} {B : Nat} {e : TypeId} {size n : Nat} {v : Value} {xs : List Value} {rs : List Rq} (hl : F9 B0 u rs) (h : u.ownsRow B e size v n xs) (ht : e ≠ 49) (hg : u.grownBy w' v.ownBlock) : F9 B0 w' rs := fun r hr => by
 have h2 := hl r hr
 refine h2.kept hg ?_
 cases hb : (R9 r).ownBlock with
 | none => exact .inl rfl
 | some g => exact .inr fun e1 => A1W h h2 ht g e1.symm hb
theorem B3M {u w' : World} {B B0 : Nat} {e e0 : TypeId} {size size0 n n0 : Nat} {v v0 : Value} {xs xs0 : List Value} (h0 : u.ownsRow B0 e0 size0 v0 n0 xs0) (h : u.ownsRow B e size v n xs) (ht : e ≠ e0) (hg : u.grownBy w' v.ownBlock) : w'.ownsRow B0 e0 size0 v0 n0 xs0 := by
 refine h0.kept hg ?_
 cases hb : v0.ownBlock with
 | none => exact .inl rfl
 | some g => exact .inr fun e1 => A1W h h0 ht g e1.symm hb
theorem F9.over {B0 b i : Nat} {u u' : World} {vs : List Value} {rs : List Rq} (hl : F9 B0 u rs) (hb : b < B0) (hu : E2 u b i vs = u') : F9 B0 u' rs := fun r hr => I6 (hl r hr) (fun e => by have := ((hl r hr).lt b e).1; omega) hu
structure TreeO (B n : Nat) (R N : Ax) (rs : List Rq) (ns : List NdT) (W : World) : Prop where
 rows : F9 B W rs
 row : W.ownsRow B 35 1 (.slice R.1 n R.2) n (rs.map R9)
 nodes : W.ownsRow B 88 4 (.slice N.1 n N.2) n (ns.flatMap ndL)
theorem TreeO.grow {B n : Nat} {R N : Ax} {rs : List Rq} {ns : List NdT} {W W' : World} (h : TreeO B n R N rs ns W) (hg : A3 W W') : TreeO B n R N rs ns W' := ⟨h.rows.grow hg, D4 h.row hg, D4 h.nodes hg⟩
theorem TreeO.mono {B B' n : Nat} {R N : Ax} {rs : List Rq} {ns : List NdT} {W : World} (h : TreeO B n R N rs ns W) (hb : B' ≤ B) : TreeO B' n R N rs ns W := ⟨fun r hr => (h.rows r hr).mono hb, h.row.mono hb, h.nodes.mono hb⟩
theorem TreeO.over {B n b i : Nat} {R N : Ax} {rs : List Rq} {ns : List NdT} {W W' : World} {vs : List Value} (h : TreeO B n R N rs ns W) (hb : b < B) (hu : E2 W b i vs = W') : TreeO B n R N rs ns W' :=
 ⟨h.rows.over hb hu, I6 h.row (fun e => by have := (h.row.lt b e).1; omega) hu, I6 h.nodes (fun e => by have := (h.nodes.lt b e).1; omega) hu⟩
abbrev iv (l : List Int) : List Value := l.map fun x => Value.int .i64 x
theorem A5Q {u v : World} {B n : Nat} (hB : B ≤ u.heap.size) (hn : n ≤ 1048576) (hv : u.alloc (.cells (K5 (List.replicate n 0)) 3) = v) : v.ownsRow B 3 1 (.slice (some ⟨u.heap.size, 0, none⟩) n n) n (iv (List.replicate n 0)) := by
 subst hv
 have h := World.ownsRow_lit (base := B) (e := 3) (size := 1) u (K5 (List.replicate n 0)) n hB (by unfold maxLen; omega) (by simp [K5])
 simpa [K5] using h
end Go.Proofs.YtjmopgepnndckaaGreatDoor
namespace Go.Proofs.YtjmopgepnndckaaGreatDoor
end Go.Proofs.YtjmopgepnndckaaGreatDoor
namespace Go.Proofs.YtjmopgepnndckaaGreatDoor
open Go Go.RowKit
def Le {α : Type} (enc : α → List Value) (k : Nat) (u : World) (A : Option Addr) (l : List α) : Prop :=
 l ≠ [] → ∃ b off, A = some ⟨b, off, none⟩ ∧ b < u.heap.size ∧ ∀ i x, l[i]? = some x → ∀ j v, (enc x)[j]? = some v → u.cell? ⟨b, off + i * k + j, none⟩ = some v
theorem Le.grow {α : Type} {enc : α → List Value} {k : Nat} {u u' : World} {A : Option Addr} {l : List α} (h : Le enc k u A l) (hg : A3 u u') : Le enc k u' A l := fun hn => by
 obtain ⟨b, off, e, hb, hc⟩ := h hn
 exact ⟨b, off, e, Nat.lt_of_lt_of_le hb hg.size, fun i q hi j v hj => (hg.cell (p := ⟨b, off + i * k + j, none⟩) hb).trans (hc i q hi j v hj)⟩
theorem A2y {α : Type} {enc : α → List Value} {k : Nat} (he : ∀ x, (enc x).length = k) (hk : 0 < k) {u : World} {B n : Nat} {e : TypeId} {v : Value} {l : List α} (h : u.ownsRow B e k v n (l.flatMap enc)) : ∃ A c, v = .slice A n c ∧ n ≤ c ∧ Le enc k u A l ∧ n = l.length := by
 have hn : n = l.length := by
  have h1 := h.1
  rw [A0N he] at h1
  exact (Nat.eq_of_mul_eq_mul_right hk h1).symm
 obtain ⟨_, h | ⟨g, cap, cur, rfl, hb, hh, hn', hc, hs, ht⟩⟩ := h
 ·obtain ⟨rfl, h0⟩ := h
  exact ⟨none, 0, by rw [h0], by omega, fun hne => absurd (List.eq_nil_of_length_eq_zero (l := l) (by omega)) hne, hn⟩
 ·refine ⟨_, cap, rfl, hn', fun _ => ⟨g, 0, rfl, M7 hh, fun i q hi j v hj => ?_⟩, hn⟩
  have hil : i < l.length := (List.getElem?_eq_some_iff.1 hi).1
  have er : l[i] = q := by rw [List.getElem?_eq_getElem hil] at hi; exact Option.some.inj hi
  have hjl : j < k := by have := (List.getElem?_eq_some_iff.1 hj).1; rw [he] at this; exact this
  rw [cell_of_row u g _ cur e (0, 0) hh, Nat.zero_add]
  have h1 : (cur.toList.take (n * k))[i * k + j]? = some v := by rw [ht, A2d he l i j hil hjl, er, hj]
  have hlt : i * k + j < n * k := by
   have : i * k + k ≤ l.length * k := by rw [← Nat.succ_mul]; exact Nat.mul_le_mul_right _ hil
   rw [hn]; omega
  rw [List.getElem?_take, if_pos hlt] at h1
  simpa using h1
theorem Le.at {α : Type} {enc : α → List Value} {k : Nat} {u : World} {A : Option Addr} {l : List α} (h : Le enc k u A l) {i : Nat} (hi : i < l.length) : ∃ b off, A = some ⟨b, off, none⟩ ∧ ∀ W, A3 u W → ∀ j v, (enc l[i])[j]? = some v → W.cell? ⟨b, off + i * k + j, none⟩ = some v := by
 obtain ⟨b, off, e, hb, hc⟩ := h (fun e => by rw [e] at hi; simp at hi)
 exact ⟨b, off, e, fun W hg j v hj => (hg.cell (p := ⟨b, off + i * k + j, none⟩) hb).trans (hc i _ (List.getElem?_eq_getElem hi) j v hj)⟩
theorem B0H {l : List Int} {i : Nat} (h : i < l.length) : gi l i = l[i] := by unfold gi; rw [List.getElem?_eq_getElem h]; rfl
end Go.Proofs.YtjmopgepnndckaaGreatDoor
