/-
  Slices of the call's own that grow by append, two beside each other.
-/
import Derived.Test.YtimjnkfcnpfoeaaGreatDoorRateB
import Derived.Maps.AppendAt
set_option linter.unusedSimpArgs false
set_option linter.unusedVariables false
namespace Go.Proofs.YtimjnkfcnpfoeaaGreatDoor
open Go.RowKit
/-- two values whose rows are not one -/
def Apart (v v2 : Value) : Prop := ∀ g, v.ownBlock = some g → v2.ownBlock = some g → False
theorem Apart.symm {v v2 : Value} (h : Apart v v2) : Apart v2 v := fun g h1 h2 => h g h2 h1
theorem own_kept {u u' : World} {B : Nat} {e2 : TypeId} {s2 : Nat} {v v2 v' : Value} {n2 : Nat} {xs2 : List Value} (h2 : u.ownsRow B e2 s2 v2 n2 xs2) (ha : Apart v v2) (hg : u.grownBy u' v.ownBlock)
    (h5 : v'.ownBlock = v.ownBlock ∨ v'.ownBlock = some u.heap.size) : u'.ownsRow B e2 s2 v2 n2 xs2 ∧ Apart v' v2 := by
  refine ⟨h2.kept hg ?_, fun g h1 h3 => ?_⟩
  · cases hb : v2.ownBlock with
    | none => exact .inl rfl
    | some g => exact .inr fun e => ha g e.symm hb
  · rcases h5 with h5 | h5
    · exact ha g (h5 ▸ h1) h3
    · rw [h5] at h1
      injection h1 with h1
      have := (h2.lt g h3).2
      omega
theorem own_li {u : World} {B : Nat} {v : Value} {l : List Int} (h : u.ownsRow B 3 1 v l.length (l.map fun x => Value.int .i64 x)) : ∃ A c, v = .slice A l.length c ∧ l.length ≤ c ∧ Li u A l := by
  obtain ⟨_, h | ⟨g, cap, cur, rfl, hb, hh, hn, hc, hs, ht⟩⟩ := h
  · obtain ⟨rfl, h0⟩ := h
    exact ⟨none, 0, by rw [h0], by omega, fun hne => absurd (List.eq_nil_of_length_eq_zero h0) hne⟩
  · refine ⟨_, cap, rfl, hn, fun _ => ⟨g, 0, rfl, heap_lt hh, fun i x hi => ?_⟩⟩
    rw [Nat.zero_add, cell_of_row u g i cur 3 (0, 0) hh]
    have hil : i < l.length := (List.getElem?_eq_some_iff.1 hi).1
    have h1 : (cur.toList.take (l.length * 1))[i]? = some (.int .i64 x) := by rw [ht, List.getElem?_map, hi]; rfl
    rw [List.getElem?_take, if_pos (by omega)] at h1
    simpa using h1
abbrev intL (l : List Int) : List Value := l.map fun x => Value.int .i64 x
/-- append of one integer to a row of the call's own -/
theorem app_int (w : World) {ops : Array Oper} {rest : List Oper} {o : Oper} {a : Act} {Q : Exit → Act → World → Prop} (hgd : o.guard = none) (s x : Operand)
    (ho : o.op = .call { callee := .builtin .append, args := #[s, x], argTypes := #[22, 22] }) (B : Nat) (v : Value) (l : List Int) (hs : a.eval s = v) (hown : w.ownsRow B 3 1 v l.length (intL l))
    (g : Nat) (y : Int) (hx : a.eval x = .slice (some ⟨g, 0, none⟩) 1 1) (hc : w.cell? ⟨g, 0, none⟩ = some (.int .i64 y)) (hl : l.length ≤ 1000000) (hB : B ≤ w.heap.size)
    (h : ∀ v' w', w'.ownsRow B 3 1 v' (l ++ [y]).length (intL (l ++ [y])) → w.grownBy w' v.ownBlock → (v'.ownBlock = v.ownBlock ∨ v'.ownBlock = some w.heap.size) → wpList Tryz.prog ops Q rest (a.put o.dst v') w') :
    wpList Tryz.prog ops Q (o :: rest) a w := by
  obtain ⟨i0, hi0, hz0, hz1, hz2⟩ := info_parts info_int
  refine wpList_append_own_at w hgd s x 22 ho B 3 i0 (.int .i64 0) 1 8 Tryz.underlying22 hi0 hz0 hz1 hz2 rfl (by decide) v l.length (intL l) hs hown ⟨g, 0, none⟩ 1 1 [.int .i64 y] hx rfl ?_ ?_ (by unfold maxLen; omega) (by omega) hB ?_
  · intro j u hj
    cases j with
    | zero => simp at hj; subst hj; exact hc
    | succ j => simp at hj
  · intro u hu
    simp at hu
    subst hu
    rfl
  · intro v' w' h1 h2 _ h4
    refine h v' w' ?_ h2 h4
    have e : intL (l ++ [y]) = intL l ++ [.int .i64 y] := by simp
    rw [List.length_append, e]
    exact h1
theorem own_grow {u u' : World} {B : Nat} {e : TypeId} {s : Nat} {v : Value} {n : Nat} {xs : List Value} (h : u.ownsRow B e s v n xs) (hg : Grow u u') : u'.ownsRow B e s v n xs := by
  obtain ⟨h0, h | ⟨g, cap, cur, rfl, hb, hh, hn, hc, hs, ht⟩⟩ := h
  · exact ⟨h0, .inl h⟩
  · exact ⟨h0, .inr ⟨g, cap, cur, rfl, hb, (hg.block g (heap_lt hh)).trans hh, hn, hc, hs, ht⟩⟩
theorem op_val {P : Program} {o : Oper} {a : Act} {w w' : World} {K : Act → World → Prop} {Q : Exit → Act → World → Prop} {v : Value} (h : (execOp a.eval o).run P w = .ok (.value v) w') (hk : K (a.put o.dst v) w') : o.wp P a w K Q := by
  unfold Oper.wp
  rw [h]
  exact hk
theorem bs_run {P : Program} {a : Act} {w w' : World} {d : Option Tmp} {T : TypeId} {n : Nat} {x : Operand} {t : TypeId} {p : String} {f : Array Edge} {v : Value} (h : (Instr.buildSlice T n #[(0, a.eval x)]).run P w = .ok v w') : (execOp a.eval ⟨d, .buildSlice T n #[(0, x)], t, p, f, none⟩).run P w = .ok (.value v) w' := by
  unfold execOp
  simp only [List.map_toArray, List.map_cons, List.map_nil, Sem.run_bind]
  rw [h]
  rfl
theorem bs_int (y : Int) (w : World) : (Instr.buildSlice 22 1 #[(0, .int .i64 y)]).run Tryz.prog w = .ok (.slice (some ⟨w.heap.size, 0, none⟩) 1 1) (w.alloc (.cells #[.int .i64 y] 3)) := by
  go_simp
/-- the tail of a statement x = append(x, y): the element's block, the append, the assignment -/
theorem app_tail {ops : Array Oper} {a : Act} {u : World} {K : Act → World → Prop} {d1 d2 d3 : Option Nat} {x s z q : Operand} {t1 t2 t3 : TypeId} {p1 p2 p3 : String} {f1 f2 f3 : Array Edge}
    (B : Nat) (v : Value) (l : List Int) (y : Int) (hx : a.eval x = .int .i64 y) (hs : ∀ p, (a.put d1 p).eval s = v) (hz : ∀ p, (a.put d1 p).eval z = p) (hq : ∀ p p', ((a.put d1 p).put d2 p').eval q = p')
    (hown : u.ownsRow B 3 1 v l.length (intL l)) (hl : l.length ≤ 1000000) (hB : B ≤ u.heap.size)
    (h : ∀ p v' w', w'.ownsRow B 3 1 v' (l ++ [y]).length (intL (l ++ [y])) → (u.alloc (.cells #[.int .i64 y] 3)).grownBy w' v.ownBlock → (v'.ownBlock = v.ownBlock ∨ v'.ownBlock = some (u.heap.size + 1)) → NoK K .normal (((a.put d1 p).put d2 v').put d3 v') w') :
    wpList Tryz.prog ops (NoK K) [⟨d1, .buildSlice 22 1 #[(0, x)], t1, p1, f1, none⟩, ⟨d2, .call { callee := .builtin .append, args := #[s, z], argTypes := #[22, 22] }, t2, p2, f2, none⟩, ⟨d3, .assign q, t3, p3, f3, none⟩] a u := by
  refine wpList_plain rfl fun K1 hK1 => ?_
  have hb : (Instr.buildSlice 22 1 #[(0, a.eval x)]).run Tryz.prog u = .ok (.slice (some ⟨u.heap.size, 0, none⟩) 1 1) (u.alloc (.cells #[.int .i64 y] 3)) := by rw [hx]; exact bs_int y u
  have hb2 := bs_run (d := d1) (t := t1) (p := p1) (f := f1) hb
  unfold Oper.wp
  rw [hb2]
  refine hK1 _ _ ?_
  show wpList Tryz.prog ops (NoK K) _ (a.put d1 _) _
  have hs1 := hs (.slice (some ⟨u.heap.size, 0, none⟩) 1 1)
  have hz1 := hz (.slice (some ⟨u.heap.size, 0, none⟩) 1 1)
  have hq1 := hq (.slice (some ⟨u.heap.size, 0, none⟩) 1 1)
  have hh := h (.slice (some ⟨u.heap.size, 0, none⟩) 1 1)
  have ho := hown.alloc (.cells #[.int .i64 y] 3)
  generalize a.put d1 (.slice (some ⟨u.heap.size, 0, none⟩) 1 1) = a1 at hs1 hz1 hq1 hh
  refine app_int (u.alloc (.cells #[.int .i64 y] 3)) (a := a1) (Q := NoK K) rfl s z rfl B v l hs1 ho u.heap.size y hz1 ?_ hl (by rw [alloc_size]; omega) fun v' w' h1 h2 h3 => ?_
  · have := Blk.cell (Blk.new u 3 #[.int .i64 y]) 0
    exact this
  · rw [alloc_size] at h3
    refine wpList_plain rfl fun K2 hK2 => ?_
    refine op_val (v := v') (w' := w') ?_ (hK2 _ _ (wpList_nil ?_))
    · have e : (execOp ((a1.put d2 v').eval) ⟨d3, .assign q, t3, p3, f3, none⟩).run Tryz.prog w' = .ok (.value ((a1.put d2 v').eval q)) w' := rfl
      rw [hq1] at e
      exact e
    · exact hh v' w' h1 h2 h3
theorem app_two {w u w' : World} {o : Obj} {e e2 : TypeId} {s s2 n n2 : Nat} {v v' v2 : Value} {xs xs2 : List Value} (h1 : u.ownsRow w.heap.size e s v n xs) (h2 : u.ownsRow w.heap.size e2 s2 v2 n2 xs2) (ha : Apart v v2) (hG : Grow w u)
    (hg : (u.alloc o).grownBy w' v.ownBlock) (h3 : v'.ownBlock = v.ownBlock ∨ v'.ownBlock = some (u.heap.size + 1)) : w'.ownsRow w.heap.size e2 s2 v2 n2 xs2 ∧ Apart v' v2 ∧ Grow w w' := by
  have h4 := own_kept (h2.alloc o) ha hg (by rw [alloc_size]; exact h3)
  exact ⟨h4.1, h4.2, (hG.trans (Grow.alloc u o)).grown hg fun k hk => (h1.lt k hk).1⟩
end Go.Proofs.YtimjnkfcnpfoeaaGreatDoor
