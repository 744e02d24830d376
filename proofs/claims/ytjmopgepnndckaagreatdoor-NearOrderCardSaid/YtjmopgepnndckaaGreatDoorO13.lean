/-
  Contracts and laws: Short Mac Meet Fast.
-/
import Derived.Test.YtjmopgepnndckaaGreatDoorO12
import Derived.Deep.CutRange
import Derived.Deep.DeepCutAuto
set_option linter.unusedSimpArgs false
set_option linter.unusedVariables false
namespace Go.Proofs.YtjmopgepnndckaaGreatDoor
open Go.RowKit
section
variable {P : Program} {ops : Array Oper} {L : Act → World → Prop} {o : Oper} {r : List (Nat × Oper)} {B : Nat} {tk : List Nat} {a : Act} {F : World → Prop}
/-- an operation that looks at no memory -/
theorem gya {v : Value} {a' : Act} (hr : OKs P ops L B r tk a' F) (hw : Region.wanted o (yielded ops a.tmps) = true := by exact rfl) (h : ∀ w, F w → ∀ N : Value → Prop, N v → Look P o a w N := by (rintro v - N hN; go_simp; exact hN))
  (hp : a.put o.dst v = a' := by (simp only [Act.put, List.setIfInBounds_toArray, List.set_cons_succ, List.set_cons_zero]; exact rfl)) : OKs P ops L B ((0, o) :: r) tk a F := gy v hw h (okf hp hr)
/-- one that looks into the boxes -/
theorem gyr {v : Value} {a' : Act} (hr : OKs P ops L B r tk a' F) (hw : Region.wanted o (yielded ops a.tmps) = true := by exact rfl) (h : ∀ w, F w → ∀ N : Value → Prop, N v → Look P o a w N := by (first
  | (rintro v ⟨hgu, hB, hG, -⟩ N hN; have r := hB.r; simp only [BxR] at r; go_simp; exact hN)
  | (rintro v ⟨⟨hgu, hB, hG, -⟩, -⟩ N hN; have r := hB.r; simp only [BxR] at r; go_simp; exact hN)
  | (rintro v ⟨⟨⟨hgu, hB, hG, -⟩, -⟩, -⟩ N hN; have r := hB.r; simp only [BxR] at r; go_simp; exact hN)
  | (rintro v ⟨⟨⟨⟨hgu, hB, hG, -⟩, -⟩, -⟩, -⟩ N hN; have r := hB.r; simp only [BxR] at r; go_simp; exact hN)
  | (rintro v ⟨⟨⟨⟨⟨hgu, hB, hG, -⟩, -⟩, -⟩, -⟩, -⟩ N hN; have r := hB.r; simp only [BxR] at r; go_simp; exact hN)))
  (hp : a.put o.dst v = a' := by (simp only [Act.put, List.setIfInBounds_toArray, List.set_cons_succ, List.set_cons_zero]; exact rfl)) : OKs P ops L B ((0, o) :: r) tk a F := gy v hw h (okf hp hr)
/-- one whose proof is given -/
theorem gyb {v : Value} {a' : Act} (h : ∀ w, F w → ∀ N : Value → Prop, N v → Look P o a w N) (hr : OKs P ops L B r tk a' F) (hw : Region.wanted o (yielded ops a.tmps) = true := by exact rfl)
  (hp : a.put o.dst v = a' := by (simp only [Act.put, List.setIfInBounds_toArray, List.set_cons_succ, List.set_cons_zero]; exact rfl)) : OKs P ops L B ((0, o) :: r) tk a F := gy v hw h (okf hp hr)
/-- a call -/
theorem gma {v : Value} {a' : Act} (h : ∀ w, F w → ∀ N : Value → World → Prop, (∀ w', Grow w w' → N v w') → Move P o a w N) (hr : OKs P ops L B r tk a' F) (hw : Region.wanted o (yielded ops a.tmps) = true := by exact rfl)
  (hp : a.put o.dst v = a' := by (simp only [Act.put, List.setIfInBounds_toArray, List.set_cons_succ, List.set_cons_zero]; exact rfl)) : OKs P ops L B ((1, o) :: r) tk a F := gm v hw h (okf hp hr)
/-- the contract of a call that hands back one value -/
theorem gmc {v : Value} {w : World} {N : Value → World → Prop} {f : FuncId} {args : Array Value} (hc : Calls P f args w fun e w' => e = .returned v ∧ Grow w w') (hN : ∀ w', Grow w w' → N v w') : Calls P f args w fun e w'' => ∃ u, e = .returned u ∧ N u w'' :=
 hc.mono fun e w1 ⟨he, hb⟩ => ⟨v, he, hN w1 hb⟩
end
theorem over_n {w u u' : World} {l l' : List (Nat × TypeId × Array Value)} (h : Bx u l) (hf : Fr w (l.map (·.1))) (hG : Grow w u) (k : Nat) {b : Nat} (hk : (l.map (·.1))[k]? = some b) (i : Nat) (vs : List Value) (hu : putAll u b i vs = u')
    (e : (l.modify k fun e => (e.1, e.2.1, wrAll e.2.2 i vs)) = l' := by (simp only [List.modify_succ_cons, List.modify_zero_cons, wrAll, List.setIfInBounds_toArray, List.set_cons_zero, List.set_cons_succ, Nat.zero_add, Nat.reduceAdd]; exact rfl)) : Bx u' l' ∧ Grow w u' := e ▸ h.over hf hG k hk i vs hu
end Go.Proofs.YtjmopgepnndckaaGreatDoor
namespace Go.Proofs.YtjmopgepnndckaaGreatDoor
open Go.RowKit
section
variable {P : Program} {Q : Exit → Act → World → Prop} {ops : Array Oper} {L : Act → World → Prop} {o : Oper} {r : List (Nat × Oper)} {B : Nat} {tk : List Nat} {a : Act} {F : World → Prop} {K n : Act → World → Prop} {w u : World} {id : Nat} {l tl : List Oper} {ts : List TypeId} {bl : List (Nat × TypeId × Array Value)} {s : List (Nat × Oper)}
theorem rsE (hts : ∀ t ∈ ts, AllocT P t) (ks : List Nat) (hB : Bx u bl) (hG : Grow w u) (h : ∀ L : Act → World → Prop, (∀ a w, Q .normal a w → L a w) → OKs P l.toArray L u.heap.size s [] a (fun v => Grow u v ∧ Bx v bl ∧ Grow w v ∧ True))
  (hs : seqsB ts l ks.length ks = true := by kernel_rfl) (hd : l.drop ks.length = [] := by (simp only [List.length_cons, List.length_nil, Nat.zero_add, Nat.reduceAdd, List.drop_succ_cons, List.drop_zero, List.drop_nil])) (hz : ks.zip l = s := by (simp only [List.zip_cons_cons, List.zip_nil_left]; exact rfl)) : (Code.region id l.toArray false).wp P Q a u := by
 subst hz
 exact wp_rs hts ks.length ks hs hd (fun _ => True) noG hB hG trivial fun K L hN hL => h L fun a w hq => hL a w (wpList_nil (NoK.norm (hN a w hq)))
theorem rsC (hts : ∀ t ∈ ts, AllocT P t) (ks : List Nat) (hB : Bx u bl) (hG : Grow w u) (h : ∀ K L : Act → World → Prop, (∀ a w, Q .normal a w → K a w) → (∀ a' w', wpList P l.toArray (NoK K) tl a' w' → L a' w') → OKs P l.toArray L u.heap.size s [] a (fun v => Grow u v ∧ Bx v bl ∧ Grow w v ∧ True))
  (hs : seqsB ts l ks.length ks = true := by kernel_rfl) (hd : l.drop ks.length = tl := by (simp only [List.length_cons, List.length_nil, Nat.zero_add, Nat.reduceAdd, List.drop_succ_cons, List.drop_zero, List.drop_nil]; exact rfl)) (hz : ks.zip l = s := by (simp only [List.zip_cons_cons, List.zip_nil_left]; exact rfl)) : (Code.region id l.toArray false).wp P Q a u := by
 subst hz
 exact wp_rs hts ks.length ks hs hd (fun _ => True) noG hB hG trivial h
theorem rdC (hts : ∀ t ∈ ts, AllocT P t) (fl : List Nat) (sc : List (Nat × Nat)) (hB : Bx u bl) (hG : Grow w u) (h : ∀ K L : Act → World → Prop, (∀ a w, Q .normal a w → K a w) → (∀ a' w', wpList P l.toArray (NoK K) tl a' w' → L a' w') → OKs P l.toArray L u.heap.size s [] a (fun v => Grow u v ∧ Bx v bl ∧ Grow w v ∧ True))
  (hm : P.follows .mixedOrders = true := by kernel_rfl) (hs : growFB ts l sc.length fl sc = true := by kernel_rfl) (hd : l.drop sc.length = tl := by (simp only [List.length_cons, List.length_nil, Nat.zero_add, Nat.reduceAdd, List.drop_succ_cons, List.drop_zero, List.drop_nil]; exact rfl))
  (hz : pickOps l.toArray sc = s := by (simp only [pickOps, List.getElem?_toArray, List.getElem?_cons_zero, List.getElem?_cons_succ]; exact rfl)) : (Code.region id l.toArray true).wp P Q a u := by
 subst hz
 exact wp_rd hts sc.length fl sc hm hs hd (fun _ => True) noG hB hG trivial h
theorem geT (hL : ∀ a w, Exit.then n Q .normal a w → L a w) (h : ∀ v, F v → n a v) : OKs P ops L B [] tk a F := fun v hv => hL a v (h v hv)
theorem geC (hL : ∀ a' w', wpList P ops (NoK K) tl a' w' → L a' w') (h : ∀ v, F v → wpList P ops (NoK K) tl a v) : OKs P ops L B [] tk a F := fun v hv => hL a v (h v hv)
/-- steps that look -/
theorem gna {a' : Act} (hr : OKs P ops L B r tk a' F) (hw : Region.wanted o (yielded ops a.tmps) = false := by exact rfl)
  (hp : a.put o.dst undef = a' := by (simp only [Act.put, List.setIfInBounds_toArray, List.set_cons_succ, List.set_cons_zero]; exact rfl)) : OKs P ops L B ((0, o) :: r) tk a F := gn hw (okf hp hr)
theorem gmna {a' : Act} (hr : OKs P ops L B r tk a' F) (hw : Region.wanted o (yielded ops a.tmps) = false := by exact rfl)
  (hp : a.put o.dst undef = a' := by (simp only [Act.put, List.setIfInBounds_toArray, List.set_cons_succ, List.set_cons_zero]; exact rfl)) : OKs P ops L B ((1, o) :: r) tk a F := gmn hw (okf hp hr)
theorem gs {X Y : Prop} (k : Y) (h : PLift Y → X := by (intro k; (repeat first | refine gya ?_ | refine gyr ?_ | refine gna ?_); exact k.down)) : X := h ⟨k⟩
/-- a call whose contract holds in every world, or with the table -/
theorem gmw {a' : Act} {v : Value} {f : FuncId} {args : Array Value} (hr : OKs P ops L B r tk a' F)
  (hw : Region.wanted o (yielded ops a.tmps) = true := by exact rfl) (hs : ∀ w (N : Value → World → Prop), (Calls P f args w fun e w'' => ∃ u, e = .returned u ∧ N u w'') → Move P o a w N := by (intro w N h; go_simp <;> with_reducible exact h))
  (hp : a.put o.dst v = a' := by (simp only [Act.put, List.setIfInBounds_toArray, List.set_cons_succ, List.set_cons_zero]; exact rfl)) (C : ∀ w, Calls P f args w fun e w' => e = .returned v ∧ Grow w w') : OKs P ops L B ((1, o) :: r) tk a F :=
 gma (fun w hF N hN => hs w N (gmc (C w) hN)) hr hw hp
theorem gmd {a' : Act} {v : Value} {f : FuncId} {args : Array Value} (hr : OKs P ops L B r tk a' F)
  (hw : Region.wanted o (yielded ops a.tmps) = true := by exact rfl) (hs : ∀ w (N : Value → World → Prop), (Calls P f args w fun e w'' => ∃ u, e = .returned u ∧ N u w'') → Move P o a w N := by (intro w N h; go_simp <;> with_reducible exact h))
  (hp : a.put o.dst v = a' := by (simp only [Act.put, List.setIfInBounds_toArray, List.set_cons_succ, List.set_cons_zero]; exact rfl)) (C : ∀ w, F w → Calls P f args w fun e w' => e = .returned v ∧ Grow w w') : OKs P ops L B ((1, o) :: r) tk a F :=
 gma (fun w hF N hN => hs w N (gmc (C w hF) hN)) hr hw hp
/-- a call that hands back a value with facts that stay -/
theorem gxd {X : Type} (f : X → Value) (T : X → World → Prop) (hm : ∀ x w w', Grow w w' → T x w → T x w') {a' : X → Act} {g : FuncId} {args : Array Value} (hr : ∀ x, OKs P ops L B r tk (a' x) (fun w => F w ∧ T x w))
  (hw : Region.wanted o (yielded ops a.tmps) = true := by exact rfl) (hs : ∀ w (N : Value → World → Prop), (Calls P g args w fun e w'' => ∃ u, e = .returned u ∧ N u w'') → Move P o a w N := by (intro w N h; go_simp <;> with_reducible exact h))
  (hp : ∀ x, a.put o.dst (f x) = a' x := by (intro x; simp only [Act.put, List.setIfInBounds_toArray, List.set_cons_succ, List.set_cons_zero]; exact rfl)) (C : ∀ w, F w → Calls P g args w fun e w' => ∃ x, e = .returned (f x) ∧ T x w' ∧ Grow w w') : OKs P ops L B ((1, o) :: r) tk a F :=
 gx X f T hm hw (fun w hF N hN => hs w N ((C w hF).mono fun _ w1 ⟨x, he, hx, hg⟩ => ⟨_, he, hN x w1 hx hg⟩)) fun x => okf (hp x) (hr x)
/-- a new block -/
theorem gaa {t : TypeId} {zs : Array Value} {a' : Nat → Act} (hz : newObj P o = .cells zs t) (hr : ∀ b, B ≤ b → b ∉ tk → OKs P ops L B r (b :: tk) (a' b) (fun w => F w ∧ Blk w b t zs))
  (hp : ∀ b, a.put o.dst (.pointer (some ⟨b, 0, none⟩)) = a' b := by (intro b; simp only [Act.put, List.setIfInBounds_toArray, List.set_cons_succ, List.set_cons_zero]; exact rfl)) : OKs P ops L B ((2, o) :: r) tk a F :=
 ga hz fun b h1 h2 => okf (hp b) (hr b h1 h2)
theorem Fr.n1 {l l2 : List Nat} {b : Nat} (hF : Fr w l) (tk : List Nat) (hB : Bx u bl) (hG : Grow w u) (hb : u.heap.size ≤ b) (hn : b ∉ tk) (hl : l = tk ++ bl.map (·.1) := by exact rfl) (hr : (b :: tk) ++ bl.map (·.1) = l2 := by (simp only [List.cons_append, List.nil_append, List.map_cons, List.map_nil]; exact rfl)) : Fr w l2 := by
 subst hl; subst hr
 exact Fr.new hF hB hG hb hn
theorem Bx.cons' {b : Nat} {t : TypeId} {cs : Array Value} (hB : Bx u bl) (h : Blk u b t cs) : Bx u ((b, t, cs) :: bl) := Bx.cons h hB
end
/-- a run of operations without a call -/
theorem gt {X Y : Prop} (k : Y) (h : PLift Y → X := by (intro k; have r := hB.r; simp only [BxR] at r; go_wp2_with fail; refine NoK.norm (hN _ _ ?_); exact k.down)) : X := h ⟨k⟩
theorem gtT {X Y : Prop} (k : Y) (h : PLift Y → X := by (intro k; have r := hB.r; simp only [BxR] at r; go_wp2_with fail; refine NoK.norm (hN _ _ (then_norm ?_)); exact k.down)) : X := h ⟨k⟩
theorem r0E {X Y : Prop} (k : Y) (h : PLift Y → X := by (intro k; refine wp_r0 ?_; intro K hN; have r := hB.r; simp only [BxR] at r; go_wp2_with fail; refine NoK.norm (hN _ _ ?_); exact k.down)) : X := h ⟨k⟩
theorem r0N {X Y : Prop} (k : Y) (h : PLift Y → X := by (intro k; refine wp_r0 ?_; intro K hN; have r := hB.r; simp only [BxR] at r; go_wp2_with fail; refine NoK.norm (hN _ _ (then_norm ?_)); exact k.down)) : X := h ⟨k⟩
theorem r0T {X Y : Prop} (k : Y) (h : PLift Y → X := by (intro k; refine wp_seq (wp_r0 ?_); intro K hN; have r := hB.r; simp only [BxR] at r; go_wp2_with fail; refine NoK.norm (hN _ _ (then_norm ?_)); exact k.down)) : X := h ⟨k⟩
/-- cells stored into a box -/
theorem st {R : World → Prop} {w u : World} {l l' : List (Nat × TypeId × Array Value)} (hB : Bx u l) (hF : Fr w (l.map (·.1))) (hG : Grow w u) (k i : Nat) (vs : List Value) {b : Nat} (h : ∀ u', Bx u' l' → Grow w u' → R u') (hk : (l.map (·.1))[k]? = some b := by exact rfl)
  (e : (l.modify k fun e => (e.1, e.2.1, wrAll e.2.2 i vs)) = l' := by (simp only [List.modify_succ_cons, List.modify_zero_cons, wrAll, List.setIfInBounds_toArray, List.set_cons_zero, List.set_cons_succ, Nat.zero_add, Nat.reduceAdd]; exact rfl)) : R (putAll u b i vs) := by
 have h2 := hB.over hF hG k hk i vs rfl
 rw [e] at h2
 exact h _ h2.1 h2.2
theorem st2 {R : World → Prop} {w u : World} {l l' l2 : List (Nat × TypeId × Array Value)} (hB : Bx u l) (hF : Fr w (l.map (·.1))) (hG : Grow w u) (k i : Nat) (vs : List Value) (k' i' : Nat) (vs' : List Value) {b b' : Nat} (h : ∀ u', Bx u' l2 → Grow w u' → R u') (hk : (l.map (·.1))[k]? = some b := by exact rfl) (hk' : (l.map (·.1))[k']? = some b' := by exact rfl)
  (e : (l.modify k fun e => (e.1, e.2.1, wrAll e.2.2 i vs)) = l' := by (simp only [List.modify_succ_cons, List.modify_zero_cons, wrAll, List.setIfInBounds_toArray, List.set_cons_zero, List.set_cons_succ, Nat.zero_add, Nat.reduceAdd]; exact rfl)) (e' : (l'.modify k' fun e => (e.1, e.2.1, wrAll e.2.2 i' vs')) = l2 := by (simp only [List.modify_succ_cons, List.modify_zero_cons, wrAll, List.setIfInBounds_toArray, List.set_cons_zero, List.set_cons_succ, Nat.zero_add, Nat.reduceAdd]; exact rfl)) : R (putAll (putAll u b i vs) b' i' vs') := by
 have hm : l'.map (·.1) = l.map (·.1) := by rw [← e]; exact modify_fst l k fun c => wrAll c i vs
 have h2 := hB.over hF hG k hk i vs rfl
 rw [e] at h2
 rw [← hm] at hF hk'
 exact st h2.1 hF h2.2 k' i' vs' h hk' e'
/-- the same, the store told -/
theorem sv {R : World → Prop} {w u : World} {l l' : List (Nat × TypeId × Array Value)} (hB : Bx u l) (hF : Fr w (l.map (·.1))) (hG : Grow w u) (k i : Nat) (vs : List Value) {b : Nat} (h : ∀ u', putAll u b i vs = u' → (Bx u' l' ∧ Grow w u') → R u') (hk : (l.map (·.1))[k]? = some b := by exact rfl)
  (e : (l.modify k fun e => (e.1, e.2.1, wrAll e.2.2 i vs)) = l' := by (simp only [List.modify_succ_cons, List.modify_zero_cons, wrAll, List.setIfInBounds_toArray, List.set_cons_zero, List.set_cons_succ, Nat.zero_add, Nat.reduceAdd]; exact rfl)) : R (putAll u b i vs) := by
 have h2 := hB.over hF hG k hk i vs rfl
 rw [e] at h2
 exact h _ rfl h2
/-- a function's first boxes -/
theorem en0 {X Y : Prop} (k : Y) (h : PLift Y → X := by (intro k; refine wp_seq (wp_r0 ?_); intro K hN; go_wp2_with fail; obtain ⟨u, hu⟩ : ∃ x, x = w := ⟨_, rfl⟩; have hG : Grow w u := hu ▸ Grow.refl u; have hB := Bx.nil u; have hF := Fr.nil w; rw [← hu]; clear hu; refine NoK.norm (hN _ _ (then_norm ?_)); clear hN K; revert u hF; exact k.down)) : X := h ⟨k⟩
theorem en1 {X Y : Prop} (k : Y) (h : PLift Y → X := by (intro k; refine wp_seq (wp_r0 ?_); intro K hN; go_wp2_with fail; generalize hu : World.alloc w _ = u; obtain ⟨hB, hG⟩ := bx_first [(_, _)] w u hu; have hF := fr_first w [(0, #[])]; simp only [numbered, List.map_cons, List.map_nil] at hB hF; clear hu; generalize w.heap.size = b0 at hB hF ⊢; refine NoK.norm (hN _ _ (then_norm ?_)); clear hN K; revert u b0; exact k.down)) : X := h ⟨k⟩
theorem en2 {X Y : Prop} (k : Y) (h : PLift Y → X := by (intro k; refine wp_seq (wp_r0 ?_); intro K hN; go_wp2_with fail; generalize hu : World.alloc (World.alloc w _) _ = u; obtain ⟨hB, hG⟩ := bx_first [(_, _), (_, _)] w u hu; have hF := fr_first w [(0, #[]), (0, #[])]; simp only [numbered, List.map_cons, List.map_nil] at hB hF; clear hu; generalize w.heap.size + 1 = b1 at hB hF ⊢; generalize w.heap.size = b0 at hB hF ⊢; refine NoK.norm (hN _ _ (then_norm ?_)); clear hN K; revert u b0 b1; exact k.down)) : X := h ⟨k⟩
theorem en3 {X Y : Prop} (k : Y) (h : PLift Y → X := by (intro k; refine wp_seq (wp_r0 ?_); intro K hN; go_wp2_with fail; generalize hu : World.alloc (World.alloc (World.alloc w _) _) _ = u; obtain ⟨hB, hG⟩ := bx_first [(_, _), (_, _), (_, _)] w u hu; have hF := fr_first w [(0, #[]), (0, #[]), (0, #[])]; simp only [numbered, List.map_cons, List.map_nil] at hB hF; clear hu; generalize w.heap.size + 1 + 1 = b2 at hB hF ⊢; generalize w.heap.size + 1 = b1 at hB hF ⊢; generalize w.heap.size = b0 at hB hF ⊢; refine NoK.norm (hN _ _ (then_norm ?_)); clear hN K; revert u b0 b1 b2; exact k.down)) : X := h ⟨k⟩
theorem en4 {X Y : Prop} (k : Y) (h : PLift Y → X := by (intro k; refine wp_seq (wp_r0 ?_); intro K hN; go_wp2_with fail; generalize hu : World.alloc (World.alloc (World.alloc (World.alloc w _) _) _) _ = u; obtain ⟨hB, hG⟩ := bx_first [(_, _), (_, _), (_, _), (_, _)] w u hu; have hF := fr_first w [(0, #[]), (0, #[]), (0, #[]), (0, #[])]; simp only [numbered, List.map_cons, List.map_nil] at hB hF; clear hu; generalize w.heap.size + 1 + 1 + 1 = b3 at hB hF ⊢; generalize w.heap.size + 1 + 1 = b2 at hB hF ⊢; generalize w.heap.size + 1 = b1 at hB hF ⊢; generalize w.heap.size = b0 at hB hF ⊢; refine NoK.norm (hN _ _ (then_norm ?_)); clear hN K; revert u b0 b1 b2 b3; exact k.down)) : X := h ⟨k⟩
/-- the end of a call -/
theorem rt {X Y E : Prop} (e : E) (k : Y) (h : E → PLift Y → X := by (intro e k; refine wp_ret ?_; (repeat with_reducible first | refine then_ret ?_ | refine blk_ret ?_); refine ret_b rfl ?_; intro N hN; have r := hB.r; simp only [BxR] at r; simp only [results, e]; go_simp; refine hN _ ?_; exact k.down)) : X := h e ⟨k⟩
end Go.Proofs.YtjmopgepnndckaaGreatDoor
namespace Go.Proofs.YtjmopgepnndckaaGreatDoor
open Go.RowKit
theorem wp_seqK {P : Program} {x y : Code} {Q : Exit → Act → World → Prop} {a : Act} {w : World} (h : ∀ K : Act → World → Prop, (∀ a w, y.wp P Q a w → K a w) → x.wp P (Exit.then K Q) a w) : (Code.seq x y).wp P Q a w :=
 wp_seq (h _ fun _ _ h => h)
end Go.Proofs.YtjmopgepnndckaaGreatDoor
namespace Go.Proofs.YtjmopgepnndckaaGreatDoor
open Go Go.RowKit
def maskE (R : List Nat) (i : Nat) (e : Edge) : Nat := if Region.binds .any e = true then (2 ^ e.on ||| (if e.on < i then R.getD e.on 0 else 0)) else 0
def rowM (R : List Nat) (i : Nat) : List Edge → Nat
 | [] => 0
 | e :: r => maskE R i e ||| rowM R i r
def rowsOk (ops : Array Oper) (R : List Nat) : Bool := (List.range ops.size).all fun i => match ops[i]? with
 | some o => Nat.beq (R.getD i 0) (rowM R i o.after.toList)
 | none => false
theorem rowM_bit {R : List Nat} {i j : Nat} : ∀ l : List Edge, (rowM R i l).testBit j = true → ∃ e ∈ l, Region.binds .any e = true ∧ (e.on = j ∨ (e.on < i ∧ (R.getD e.on 0).testBit j = true))
 | [], h => by simp [rowM] at h
 | e :: r, h => by
  unfold rowM at h
  rw [Nat.testBit_or, Bool.or_eq_true] at h
  rcases h with h | h
  ·refine ⟨e, List.mem_cons_self, ?_⟩
   unfold maskE at h
   split at h
   ·rename_i hb
    refine ⟨hb, ?_⟩
    rw [Nat.testBit_or, Bool.or_eq_true] at h
    rcases h with h | h
    ·left
     rw [Nat.testBit_two_pow] at h
     simpa using h
    ·right
     split at h
     ·rename_i hlt; exact ⟨hlt, h⟩
     ·simp at h
   ·simp at h
  ·obtain ⟨e', he', h'⟩ := rowM_bit r h
   exact ⟨e', List.mem_cons_of_mem _ he', h'⟩
theorem rows_wait {ops : Array Oper} {R : List Nat} (h : rowsOk ops R = true) : ∀ (f i j : Nat), i < f → i < ops.size → (R.getD i 0).testBit j = true → waitB ops f i j = true
 | 0, _, _, h0, _, _ => absurd h0 (Nat.not_lt_zero _)
 | f + 1, i, j, hif, hi, hb => by
  have h1 := List.all_eq_true.1 h i (List.mem_range.2 hi)
  unfold waitB
  rw [Array.getElem?_eq_getElem hi] at h1 ⊢
  simp only at h1 ⊢
  rw [Nat.eq_of_beq_eq_true h1] at hb
  obtain ⟨e, he, hbd, hor⟩ := rowM_bit _ hb
  refine Array.any_eq_true'.2 ⟨e, Array.mem_toList_iff.1 he, ?_⟩
  rw [hbd, Bool.true_and, Bool.or_eq_true, beq_iff_eq]
  rcases hor with hor | ⟨hlt, hor⟩
  ·exact .inl hor
  ·exact .inr (rows_wait h f e.on j (by omega) (by omega) hor)
def pairM (ops : Array Oper) (R : List Nat) : List (Nat × Nat) → Bool
 | [] => true
 | (k, i) :: r => (r.all fun e => (decide (e.2 < ops.size) && (R.getD e.2 0).testBit i) || (match ops[i]?, ops[e.2]? with
   | some oi, some oe => swapB ops (k, oi) (e.1, oe)
   | _, _ => false)) && pairM ops R r
theorem pairM_of {ops : Array Oper} {R : List Nat} (h : rowsOk ops R = true) : ∀ s : List (Nat × Nat), pairM ops R s = true → pairB ops s = true
 | [], _ => rfl
 | (k, i) :: r, hs => by
  unfold pairM at hs
  unfold pairB
  rw [Bool.and_eq_true] at hs ⊢
  refine ⟨List.all_eq_true.2 fun e he => ?_, pairM_of h r hs.2⟩
  have h1 := List.all_eq_true.1 hs.1 e he
  rw [Bool.or_eq_true] at h1 ⊢
  rcases h1 with h1 | h1
  ·rw [Bool.and_eq_true, decide_eq_true_eq] at h1
   exact .inl (rows_wait h _ _ _ h1.1 h1.1 h1.2)
  ·exact .inr h1
def growFM (ts : List TypeId) (l : List Oper) (n : Nat) (fl : List Nat) (s : List (Nat × Nat)) (R : List Nat) : Bool :=
 Region.noSelect l.toArray && decide (n < l.toArray.size) && sinkF l.toArray n fl && Region.chainB .any l.toArray n && setB (s.map (·.2)) n && (rowsOk l.toArray R && pairM l.toArray R s) && backB l.toArray n (s.map (·.2)) &&
  Region.seqB .any l.toArray (l.toArray.size - n) n (headEnd n l.toArray.size) && allocB ts l.toArray s && floatB l.toArray n fl && (s.all fun e => !fl.contains e.2 || decide (e.1 = 0))
theorem growF_of {ts : List TypeId} {l : List Oper} {n : Nat} {fl : List Nat} {s : List (Nat × Nat)} (R : List Nat) (h : growFM ts l n fl s R = true) : growFB ts l n fl s = true := by
 unfold growFM at h
 unfold growFB
 simp only [Bool.and_eq_true] at h ⊢
 obtain ⟨⟨⟨⟨⟨⟨⟨⟨⟨⟨a1, a2⟩, a3⟩, a4⟩, a5⟩, a6⟩, a7⟩, a8⟩, a9⟩, a10⟩, a11⟩ := h
 exact ⟨⟨⟨⟨⟨⟨⟨⟨⟨⟨a1, a2⟩, a3⟩, a4⟩, a5⟩, pairM_of a6.1 _ a6.2⟩, a7⟩, a8⟩, a9⟩, a10⟩, a11⟩
end Go.Proofs.YtjmopgepnndckaaGreatDoor
