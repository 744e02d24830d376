/-
  Contracts and laws: Row.
-/
import Derived.Test.YtimjnkfcnpfoeaaGreatDoorA32
import Derived.Maps.AppendAt
set_option linter.unusedSimpArgs false
set_option linter.unusedVariables false
namespace Go.Proofs.YtimjnkfcnpfoeaaGreatDoor
open Go.RowKit
/-- what is asked of a slice type and its elements -/
structure EI (T e : TypeId) (size bytes : Nat) : Prop where
 und : Tryz.prog.underlying T = some (.slice e)
 ex : ∃ i z, Tryz.prog.info? e = some i ∧ i.zero = some z ∧ i.size = size ∧ i.bytes = bytes ∧ z.cells.size = size
 pos : 0 < size
theorem ei_of {T e : TypeId} {size bytes : Nat} (h1 : Tryz.prog.underlying T = some (.slice e)) (h2 : (Tryz.prog.info? e).map (fun i => (i.zero.map fun z => z.cells.size, i.size, i.bytes)) = some (some size, size, bytes)) (h3 : 0 < size) : EI T e size bytes := by
 refine ⟨h1, ?_, h3⟩
 cases hi : Tryz.prog.info? e with
 | none => rw [hi] at h2; cases h2
 | some i =>
  rw [hi] at h2
  simp only [Option.map_some, Option.some.injEq, Prod.mk.injEq] at h2
  obtain ⟨h4, h5, h6⟩ := h2
  cases hz : i.zero with
  | none => rw [hz] at h4; cases h4
  | some z =>
   rw [hz] at h4
   simp only [Option.map_some, Option.some.injEq] at h4
   exact ⟨i, z, rfl, hz, h5, h6, h4⟩
theorem op_val' {P : Program} {o : Oper} {a : Act} {w w' : World} {K : Act → World → Prop} {Q : Exit → Act → World → Prop} {v : Value} (h : (execOp a.eval o).run P w = .ok (.value v) w') (hk : K (a.put o.dst v) w') : o.wp P a w K Q := by
 unfold Oper.wp
 rw [h]
 exact hk
theorem bs_run' {P : Program} {a : Act} {w w' : World} {d : Option Tmp} {T : TypeId} {n : Nat} {x : Operand} {t : TypeId} {p : String} {f : Array Edge} {v : Value} (h : (Instr.buildSlice T n #[(0, a.eval x)]).run P w = .ok v w') : (execOp a.eval ⟨d, .buildSlice T n #[(0, x)], t, p, f, none⟩).run P w = .ok (.value v) w' := by
 unfold execOp
 simp only [List.map_toArray, List.map_cons, List.map_nil, Sem.run_bind]
 rw [h]
 rfl
/-- the tail of a statement x = append(x, y): the element's block, the append, the assignment -/
theorem app_tailG {ops : Array Oper} {a : Act} {u : World} {K : Act → World → Prop} {d1 d2 d3 : Option Nat} {x s z q : Operand} {t1 t2 t3 : TypeId} {p1 p2 p3 : String} {f1 f2 f3 : Array Edge} {T e : TypeId} {size bytes : Nat} (hE : EI T e size bytes)
  (B : Nat) (v : Value) (n : Nat) (xs : List Value) (xv : Value) (ys : List Value) (hy : ys.length = size) (h1 : (ys.all fun y => y.oneCell') = true) (hb : (Instr.buildSlice T 1 #[(0, xv)]).run Tryz.prog u = .ok (.slice (some ⟨u.heap.size, 0, none⟩) 1 1) (u.alloc (.cells ys.toArray e)))
  (hx : a.eval x = xv) (hs : ∀ p, (a.put d1 p).eval s = v) (hz : ∀ p, (a.put d1 p).eval z = p) (hq : ∀ p p', ((a.put d1 p).put d2 p').eval q = p')
  (hown : u.ownsRow B e size v n xs) (hl : n + 1 ≤ 1099511627776) (hl2 : (n + 1) * bytes ≤ 140737488355328) (hB : B ≤ u.heap.size)
  (h : ∀ p v' w', w'.ownsRow B e size v' (n + 1) (xs ++ ys) → (u.alloc (.cells ys.toArray e)).grownBy w' v.ownBlock → (v'.ownBlock = v.ownBlock ∨ v'.ownBlock = some (u.heap.size + 1)) → NoK K .normal (((a.put d1 p).put d2 v').put d3 v') w') :
  wpList Tryz.prog ops (NoK K) [⟨d1, .buildSlice T 1 #[(0, x)], t1, p1, f1, none⟩, ⟨d2, .call { callee := .builtin .append, args := #[s, z], argTypes := #[T, T] }, t2, p2, f2, none⟩, ⟨d3, .assign q, t3, p3, f3, none⟩] a u := by
 obtain ⟨hund, ⟨i0, z0, hi0, hz0, hz1, hz2, hz3⟩, hpos⟩ := hE
 refine wpList_plain rfl fun K1 hK1 => ?_
 have hb1 : (Instr.buildSlice T 1 #[(0, a.eval x)]).run Tryz.prog u = .ok (.slice (some ⟨u.heap.size, 0, none⟩) 1 1) (u.alloc (.cells ys.toArray e)) := by rw [hx]; exact hb
 have hb2 := bs_run' (d := d1) (t := t1) (p := p1) (f := f1) hb1
 unfold Oper.wp
 rw [hb2]
 refine hK1 _ _ ?_
 show wpList Tryz.prog ops (NoK K) _ (a.put d1 _) _
 have hs1 := hs (.slice (some ⟨u.heap.size, 0, none⟩) 1 1)
 have hz1' := hz (.slice (some ⟨u.heap.size, 0, none⟩) 1 1)
 have hq1 := hq (.slice (some ⟨u.heap.size, 0, none⟩) 1 1)
 have hh := h (.slice (some ⟨u.heap.size, 0, none⟩) 1 1)
 have ho := hown.alloc (.cells ys.toArray e)
 generalize a.put d1 (.slice (some ⟨u.heap.size, 0, none⟩) 1 1) = a1 at hs1 hz1' hq1 hh
 refine wpList_append_own_at (u.alloc (.cells ys.toArray e)) (a := a1) (Q := NoK K) rfl s z T rfl B e i0 z0 size bytes hund hi0 hz0 hz1 hz2 hz3 hpos v n xs hs1 ho ⟨u.heap.size, 0, none⟩ 1 1 ys hz1' (by rw [hy]; omega) ?_ (fun y hy => List.all_eq_true.1 h1 y hy) (by unfold maxLen; omega) hl2 (by rw [alloc_size]; omega) fun v' w' g1 g2 _ g4 => ?_
 ·intro j y hj
  rw [Go.WideShapes.add_plain, Nat.zero_add, Blk.cell (Blk.new u e ys.toArray) j, List.getElem?_toArray]
  exact hj
 ·rw [alloc_size] at g4
  refine wpList_plain rfl fun K2 hK2 => ?_
  refine op_val' (v := v') (w' := w') ?_ (hK2 _ _ (wpList_nil ?_))
  ·have e1 : (execOp ((a1.put d2 v').eval) ⟨d3, .assign q, t3, p3, f3, none⟩).run Tryz.prog w' = .ok (.value ((a1.put d2 v').eval q)) w' := rfl
   rw [hq1] at e1
   exact e1
  ·exact hh v' w' g1 g2 g4
theorem own_growth {w u w' : World} {e : TypeId} {size n : Nat} {v : Value} {xs : List Value} {o : Obj} (h : u.ownsRow w.heap.size e size v n xs) (hG : Grow w u) (hg : (u.alloc o).grownBy w' v.ownBlock) : Grow w w' :=
 (hG.trans (Grow.alloc u o)).grown hg fun k hk => (h.lt k hk).1
theorem own_grow' {u u' : World} {B : Nat} {e : TypeId} {s : Nat} {v : Value} {n : Nat} {xs : List Value} (h : u.ownsRow B e s v n xs) (hg : Grow u u') : u'.ownsRow B e s v n xs := by
 obtain ⟨h0, h | ⟨g, cap, cur, rfl, hb, hh, hn, hc, hs, ht⟩⟩ := h
 ·exact ⟨h0, .inl h⟩
 ·exact ⟨h0, .inr ⟨g, cap, cur, rfl, hb, (hg.block g (heap_lt hh)).trans hh, hn, hc, hs, ht⟩⟩
/-- limbs stay where a row of other elements grows -/
theorem Lim.own {u w' : World} {B : Nat} {e : TypeId} {size n : Nat} {v : Value} {xs : List Value} {o : Obj} {A : Option Addr} {l : List Nat} (hl : Lim u A l) (h : u.ownsRow B e size v n xs) (ht : e ≠ 157) (hg : (u.alloc o).grownBy w' v.ownBlock) : Lim w' A l := fun hne => by
 obtain ⟨b, off, cs, fr, e1, hb, hc⟩ := hl hne
 refine ⟨b, off, cs, fr, e1, ?_, hc⟩
 have hlt := heap_lt hb
 have h2 : (u.alloc o).heap[b]? = u.heap[b]? := (Grow.alloc u o).block b hlt
 refine (hg.block b (by rw [alloc_size]; omega) fun hxe => ?_).trans (h2.trans hb)
 obtain ⟨_, h | ⟨g, cap, cur, rfl, hb', hh, hn, hc', hs, ht2⟩⟩ := h
 ·rw [h.1] at hxe; cases hxe
 ·have h1 : b = g := Option.some.inj hxe
  rw [h1, hh] at hb
  injection hb with hb
  injection hb with _ h3 _
  exact ht h3
theorem Rn.own {u w' : World} {B : Nat} {e : TypeId} {size n : Nat} {v : Value} {xs : List Value} {o : Obj} {x : Ax} {a : Nat} (hl : Rn u x a) (h : u.ownsRow B e size v n xs) (ht : e ≠ 157) (hg : (u.alloc o).grownBy w' v.ownBlock) : Rn w' x a := ⟨hl.1.own h ht hg, hl.2⟩
theorem bs_u32 (y : Int) (w : World) : (Instr.buildSlice 37 1 #[(0, .int .u32 y)]).run Tryz.prog w = .ok (.slice (some ⟨w.heap.size, 0, none⟩) 1 1) (w.alloc (.cells #[.int .u32 y] 157)) := by
 go_simp
theorem bs_Q (q : Rat) (w : World) : (Instr.buildSlice 67 1 #[(0, qV q)]).run Tryz.prog w = .ok (.slice (some ⟨w.heap.size, 0, none⟩) 1 1) (w.alloc (.cells #[.bool (intNeg q.num), .int .u64 (natLo q.num.natAbs), .string (natMo q.num.natAbs), .int .u64 (natLo (keptDen q.den)), .string (natMo (keptDen q.den))] 32)) := by
 go_simp
theorem bs_RQ (x y : Ax) (q : Rat) (w : World) : (Instr.buildSlice 65 1 #[(0, rqV x y q)]).run Tryz.prog w = .ok (.slice (some ⟨w.heap.size, 0, none⟩) 1 1) (w.alloc (.cells #[.bool (intNeg q.num), .slice x.1 (ln q.num.natAbs) x.2, .slice y.1 (ln q.den) y.2] 41)) := by
 go_simp
abbrev u32L (l : List Nat) : List Value := l.map fun x => Value.int .u32 (x : Nat)
/-- a row of limbs that was just made -/
theorem own_made {u : World} {B b : Nat} {l : List Nat} (h : Blk u b 157 (cells32 l)) (hb : B ≤ b) (hl : l.length ≤ maxLen) : u.ownsRow B 157 1 (.slice (some ⟨b, 0, none⟩) l.length l.length) l.length (u32L l) :=
 ⟨by simp, .inr ⟨b, l.length, cells32 l, rfl, hb, h, Nat.le_refl _, hl, by unfold cells32; simp, by unfold cells32; rw [Nat.mul_one, List.take_of_length_le (by simp)]⟩⟩
/-- limbs off a row of the call's own -/
theorem own_lim {u : World} {B n : Nat} {v : Value} {l : List Nat} (h : u.ownsRow B 157 1 v n (u32L l)) : ∃ A c, v = .slice A n c ∧ n ≤ c ∧ c ≤ maxLen ∧ Lim u A l ∧ n = l.length := by
 have hn : n = l.length := by have := h.1; simp at this; omega
 obtain ⟨_, h | ⟨g, cap, cur, rfl, hb, hh, hn', hc, hs, ht⟩⟩ := h
 ·obtain ⟨rfl, h0⟩ := h
  exact ⟨none, 0, by rw [h0], by omega, by unfold maxLen; omega, fun hne => absurd (List.eq_nil_of_length_eq_zero (by omega)) hne, hn⟩
 ·refine ⟨_, cap, rfl, hn', hc, fun _ => ⟨g, 0, cur, (0, 0), rfl, hh, fun i x hi => ?_⟩, hn⟩
  have hil : i < l.length := (List.getElem?_eq_some_iff.1 hi).1
  have h1 : (cur.toList.take (n * 1))[i]? = some (.int .u32 (x : Nat)) := by rw [ht, List.getElem?_map, hi]; rfl
  rw [List.getElem?_take, if_pos (by omega)] at h1
  rw [Nat.zero_add]
  simpa using h1
theorem ei_u32 : EI 37 157 1 4 := ei_of (by kernel_rfl) (by kernel_rfl) (by omega)
theorem ei_Q : EI 67 32 5 56 := ei_of (by kernel_rfl) (by kernel_rfl) (by omega)
theorem ei_RQ : EI 65 41 3 56 := ei_of (by kernel_rfl) (by kernel_rfl) (by omega)
end Go.Proofs.YtimjnkfcnpfoeaaGreatDoor
