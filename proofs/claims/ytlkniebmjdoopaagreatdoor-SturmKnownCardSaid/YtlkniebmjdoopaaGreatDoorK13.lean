/- Contracts and laws. -/
import Derived.Test.YtlkniebmjdoopaaGreatDoorK12
import Derived.RegionTactic
import Derived.BigRegion
import Derived.Deep.RegionHeld3
import Derived.Laws.Bits64b
import Derived.BigQuiet
set_option linter.unusedSimpArgs false
set_option linter.unusedVariables false
set_option maxHeartbeats 1000000
set_option maxRecDepth 100000
namespace Go.Proofs.YtlkniebmjdoopaaGreatDoor
open Go.RowKit
section
variable {P : Program} {ops : Array Oper} {L : Act → World → Prop} {o : Oper} {r : List (Nat × Oper)} {B : Nat} {tk : List Nat} {a : Act} {F : World → Prop}
theorem gya {v : Value} {a' : Act} (hr : OKs P ops L B r tk a' F) (hw : Region.wanted o (yielded ops a.tmps) = true:=by exact rfl) (h : ∀ w,F w → ∀ N : Value → Prop,N v → A1q P o a w N:=by (rintro v - N hN;go_simp;exact hN))
  (hp : a.put o.dst v = a':=by (simp only [Act.put,List.setIfInBounds_toArray,List.set_cons_succ,List.set_cons_zero];exact rfl)) : OKs P ops L B ((0,o) :: r) tk a F:=gy v hw h (okf hp hr)
theorem gyr {v : Value} {a' : Act} (hr : OKs P ops L B r tk a' F) (hw : Region.wanted o (yielded ops a.tmps) = true:=by exact rfl) (h : ∀ w,F w → ∀ N : Value → Prop,N v → A1q P o a w N:=by (first
  | (rintro v ⟨hgu,hB,hG,-⟩ N hN;have r:=hB.r;simp only [BxR] at r;go_simp;exact hN)
  | (rintro v ⟨⟨hgu,hB,hG,-⟩,-⟩ N hN;have r:=hB.r;simp only [BxR] at r;go_simp;exact hN)
  | (rintro v ⟨⟨⟨hgu,hB,hG,-⟩,-⟩,-⟩ N hN;have r:=hB.r;simp only [BxR] at r;go_simp;exact hN)
  | (rintro v ⟨⟨⟨⟨hgu,hB,hG,-⟩,-⟩,-⟩,-⟩ N hN;have r:=hB.r;simp only [BxR] at r;go_simp;exact hN)
  | (rintro v ⟨⟨⟨⟨⟨hgu,hB,hG,-⟩,-⟩,-⟩,-⟩,-⟩ N hN;have r:=hB.r;simp only [BxR] at r;go_simp;exact hN)))
  (hp : a.put o.dst v = a':=by (simp only [Act.put,List.setIfInBounds_toArray,List.set_cons_succ,List.set_cons_zero];exact rfl)) : OKs P ops L B ((0,o) :: r) tk a F:=gy v hw h (okf hp hr)
theorem gyb {v : Value} {a' : Act} (h : ∀ w,F w → ∀ N : Value → Prop,N v → A1q P o a w N) (hr : OKs P ops L B r tk a' F) (hw : Region.wanted o (yielded ops a.tmps) = true:=by exact rfl)
  (hp : a.put o.dst v = a':=by (simp only [Act.put,List.setIfInBounds_toArray,List.set_cons_succ,List.set_cons_zero];exact rfl)) : OKs P ops L B ((0,o) :: r) tk a F:=gy v hw h (okf hp hr)
theorem gma {v : Value} {a' : Act} (h : ∀ w,F w → ∀ N : Value → World → Prop,(∀ w',A3 w w' → N v w') → Move P o a w N) (hr : OKs P ops L B r tk a' F) (hw : Region.wanted o (yielded ops a.tmps) = true:=by exact rfl)
  (hp : a.put o.dst v = a':=by (simp only [Act.put,List.setIfInBounds_toArray,List.set_cons_succ,List.set_cons_zero];exact rfl)) : OKs P ops L B ((1,o) :: r) tk a F:=gm v hw h (okf hp hr)
theorem gmc {v : Value} {w : World} {N : Value → World → Prop} {f : FuncId} {args : Array Value} (hc : Calls P f args w fun e w'=>e = .returned v ∧ A3 w w') (hN : ∀ w',A3 w w' → N v w') : Calls P f args w fun e w''=>∃ u,e = .returned u ∧ N u w'' :=
 hc.mono fun e w1 ⟨he,hb⟩=>⟨v,he,hN w1 hb⟩
end
theorem S6 {w u u' : World} {l l' : List (Nat × TypeId × Array Value)} (h : Bx u l) (hf : Fr w (l.map (·.1))) (hG : A3 w u) (k : Nat) {b : Nat} (hk : (l.map (·.1))[k]? = some b) (i : Nat) (vs : List Value) (hu : E9 u b i vs = u')
    (e : (l.modify k fun e=>(e.1,e.2.1,G6 e.2.2 i vs)) = l':=by (simp only [List.modify_succ_cons,List.modify_zero_cons,G6,List.setIfInBounds_toArray,List.set_cons_zero,List.set_cons_succ,Nat.zero_add,Nat.reduceAdd];exact rfl)) : Bx u' l' ∧ A3 w u':=e ▸ h.over hf hG k hk i vs hu
section
variable {P : Program} {Q : Exit → Act → World → Prop} {ops : Array Oper} {L : Act → World → Prop} {o : Oper} {r : List (Nat × Oper)} {B : Nat} {tk : List Nat} {a : Act} {F : World → Prop} {K n : Act → World → Prop} {w u : World} {id : Nat} {l tl : List Oper} {ts : List TypeId} {bl : List (Nat × TypeId × Array Value)} {s : List (Nat × Oper)}
theorem rsE (hts : ∀ t ∈ ts,M8 P t) (ks : List Nat) (hB : Bx u bl) (hG : A3 w u) (h : ∀ L : Act → World → Prop,(∀ a w,Q .normal a w → L a w) → OKs P l.toArray L u.heap.size s [] a (fun v=>A3 u v ∧ Bx v bl ∧ A3 w v ∧ True))
  (hs : Y7 ts l ks.length ks = true:=by kernel_rfl) (hd : l.drop ks.length = []:=by (simp only [List.length_cons,List.length_nil,Nat.zero_add,Nat.reduceAdd,List.drop_succ_cons,List.drop_zero,List.drop_nil])) (hz : ks.zip l = s:=by (simp only [List.zip_cons_cons,List.zip_nil_left];exact rfl)) : (Code.region id l.toArray false).wp P Q a u:=by
 subst hz
 exact A03 hts ks.length ks hs hd (fun _=>True) noG hB hG trivial fun K L hN hL=>h L fun a w hq=>hL a w (wpList_nil (NoK.norm (hN a w hq)))
theorem rsC (hts : ∀ t ∈ ts,M8 P t) (ks : List Nat) (hB : Bx u bl) (hG : A3 w u) (h : ∀ K L : Act → World → Prop,(∀ a w,Q .normal a w → K a w) → (∀ a' w',wpList P l.toArray (NoK K) tl a' w' → L a' w') → OKs P l.toArray L u.heap.size s [] a (fun v=>A3 u v ∧ Bx v bl ∧ A3 w v ∧ True))
  (hs : Y7 ts l ks.length ks = true:=by kernel_rfl) (hd : l.drop ks.length = tl:=by (simp only [List.length_cons,List.length_nil,Nat.zero_add,Nat.reduceAdd,List.drop_succ_cons,List.drop_zero,List.drop_nil];exact rfl)) (hz : ks.zip l = s:=by (simp only [List.zip_cons_cons,List.zip_nil_left];exact rfl)) : (Code.region id l.toArray false).wp P Q a u:=by
 subst hz
 exact A03 hts ks.length ks hs hd (fun _=>True) noG hB hG trivial h
theorem rdC (hts : ∀ t ∈ ts,M8 P t) (fl : List Nat) (sc : List (Nat × Nat)) (hB : Bx u bl) (hG : A3 w u) (h : ∀ K L : Act → World → Prop,(∀ a w,Q .normal a w → K a w) → (∀ a' w',wpList P l.toArray (NoK K) tl a' w' → L a' w') → OKs P l.toArray L u.heap.size s [] a (fun v=>A3 u v ∧ Bx v bl ∧ A3 w v ∧ True))
  (hm : P.follows .mixedOrders = true:=by kernel_rfl) (hs : A1H ts l sc.length fl sc = true:=by kernel_rfl) (hd : l.drop sc.length = tl:=by (simp only [List.length_cons,List.length_nil,Nat.zero_add,Nat.reduceAdd,List.drop_succ_cons,List.drop_zero,List.drop_nil];exact rfl))
  (hz : E8 l.toArray sc = s:=by (simp only [E8,List.getElem?_toArray,List.getElem?_cons_zero,List.getElem?_cons_succ];exact rfl)) : (Code.region id l.toArray true).wp P Q a u:=by
 subst hz
 exact A5d hts sc.length fl sc hm hs hd (fun _=>True) noG hB hG trivial h
theorem geE (hL : ∀ a w,Q .normal a w → L a w) (h : ∀ v,F v → Q .normal a v) : OKs P ops L B [] tk a F:=fun v hv=>hL a v (h v hv)
theorem geT (hL : ∀ a w,Exit.then n Q .normal a w → L a w) (h : ∀ v,F v → n a v) : OKs P ops L B [] tk a F:=fun v hv=>hL a v (h v hv)
theorem geC (hL : ∀ a' w',wpList P ops (NoK K) tl a' w' → L a' w') (h : ∀ v,F v → wpList P ops (NoK K) tl a v) : OKs P ops L B [] tk a F:=fun v hv=>hL a v (h v hv)
theorem gna {a' : Act} (hr : OKs P ops L B r tk a' F) (hw : Region.wanted o (yielded ops a.tmps) = false:=by exact rfl)
  (hp : a.put o.dst undef = a':=by (simp only [Act.put,List.setIfInBounds_toArray,List.set_cons_succ,List.set_cons_zero];exact rfl)) : OKs P ops L B ((0,o) :: r) tk a F:=gn hw (okf hp hr)
theorem G7 {a' : Act} (hr : OKs P ops L B r tk a' F) (hw : Region.wanted o (yielded ops a.tmps) = false:=by exact rfl)
  (hp : a.put o.dst undef = a':=by (simp only [Act.put,List.setIfInBounds_toArray,List.set_cons_succ,List.set_cons_zero];exact rfl)) : OKs P ops L B ((1,o) :: r) tk a F:=gmn hw (okf hp hr)
theorem gs {X Y : Prop} (k : Y) (h : PLift Y → X:=by (intro k;(repeat first | refine gya ?_ | refine gyr ?_ | refine gna ?_);exact k.down)) : X:=h ⟨k⟩
theorem gmw {a' : Act} {v : Value} {f : FuncId} {args : Array Value} (hr : OKs P ops L B r tk a' F)
  (hw : Region.wanted o (yielded ops a.tmps) = true:=by exact rfl) (hs : ∀ w (N : Value → World → Prop),(Calls P f args w fun e w''=>∃ u,e = .returned u ∧ N u w'') → Move P o a w N:=by (intro w N h;go_simp <;> with_reducible exact h))
  (hp : a.put o.dst v = a':=by (simp only [Act.put,List.setIfInBounds_toArray,List.set_cons_succ,List.set_cons_zero];exact rfl)) (C : ∀ w,Calls P f args w fun e w'=>e = .returned v ∧ A3 w w') : OKs P ops L B ((1,o) :: r) tk a F :=
 gma (fun w hF N hN=>hs w N (gmc (C w) hN)) hr hw hp
theorem gmd {a' : Act} {v : Value} {f : FuncId} {args : Array Value} (hr : OKs P ops L B r tk a' F)
  (hw : Region.wanted o (yielded ops a.tmps) = true:=by exact rfl) (hs : ∀ w (N : Value → World → Prop),(Calls P f args w fun e w''=>∃ u,e = .returned u ∧ N u w'') → Move P o a w N:=by (intro w N h;go_simp <;> with_reducible exact h))
  (hp : a.put o.dst v = a':=by (simp only [Act.put,List.setIfInBounds_toArray,List.set_cons_succ,List.set_cons_zero];exact rfl)) (C : ∀ w,F w → Calls P f args w fun e w'=>e = .returned v ∧ A3 w w') : OKs P ops L B ((1,o) :: r) tk a F :=
 gma (fun w hF N hN=>hs w N (gmc (C w hF) hN)) hr hw hp
theorem gxd {X : Type} (f : X → Value) (T : X → World → Prop) (hm : ∀ x w w',A3 w w' → T x w → T x w') {a' : X → Act} {g : FuncId} {args : Array Value} (hr : ∀ x,OKs P ops L B r tk (a' x) (fun w=>F w ∧ T x w))
  (hw : Region.wanted o (yielded ops a.tmps) = true:=by exact rfl) (hs : ∀ w (N : Value → World → Prop),(Calls P g args w fun e w''=>∃ u,e = .returned u ∧ N u w'') → Move P o a w N:=by (intro w N h;go_simp <;> with_reducible exact h))
  (hp : ∀ x,a.put o.dst (f x) = a' x:=by (intro x;simp only [Act.put,List.setIfInBounds_toArray,List.set_cons_succ,List.set_cons_zero];exact rfl)) (C : ∀ w,F w → Calls P g args w fun e w'=>∃ x,e = .returned (f x) ∧ T x w' ∧ A3 w w') : OKs P ops L B ((1,o) :: r) tk a F :=
 gx X f T hm hw (fun w hF N hN=>hs w N ((C w hF).mono fun _ w1 ⟨x,he,hx,hg⟩=>⟨_,he,hN x w1 hx hg⟩)) fun x=>okf (hp x) (hr x)
theorem gaa {t : TypeId} {zs : Array Value} {a' : Nat → Act} (hz : N5 P o = .cells zs t) (hr : ∀ b,B ≤ b → b ∉ tk → OKs P ops L B r (b :: tk) (a' b) (fun w=>F w ∧ Blk w b t zs))
  (hp : ∀ b,a.put o.dst (.pointer (some ⟨b,0,none⟩)) = a' b:=by (intro b;simp only [Act.put,List.setIfInBounds_toArray,List.set_cons_succ,List.set_cons_zero];exact rfl)) : OKs P ops L B ((2,o) :: r) tk a F :=
 ga hz fun b h1 h2=>okf (hp b) (hr b h1 h2)
theorem Fr.n1 {l l2 : List Nat} {b : Nat} (hF : Fr w l) (tk : List Nat) (hB : Bx u bl) (hG : A3 w u) (hb : u.heap.size ≤ b) (hn : b ∉ tk) (hl : l = tk ++ bl.map (·.1):=by exact rfl) (hr : (b :: tk) ++ bl.map (·.1) = l2:=by (simp only [List.cons_append,List.nil_append,List.map_cons,List.map_nil];exact rfl)) : Fr w l2:=by
 subst hl;subst hr
 exact Fr.new hF hB hG hb hn
theorem Bx.cons' {b : Nat} {t : TypeId} {cs : Array Value} (hB : Bx u bl) (h : Blk u b t cs) : Bx u ((b,t,cs) :: bl):=Bx.cons h hB
end
theorem gt {X Y : Prop} (k : Y) (h : PLift Y → X:=by (intro k;have r:=hB.r;simp only [BxR] at r;go_wp2_with fail;refine NoK.norm (hN _ _ ?_);exact k.down)) : X:=h ⟨k⟩
theorem gtT {X Y : Prop} (k : Y) (h : PLift Y → X:=by (intro k;have r:=hB.r;simp only [BxR] at r;go_wp2_with fail;refine NoK.norm (hN _ _ (A4 ?_));exact k.down)) : X:=h ⟨k⟩
theorem r0E {X Y : Prop} (k : Y) (h : PLift Y → X:=by (intro k;refine M9 ?_;intro K hN;have r:=hB.r;simp only [BxR] at r;go_wp2_with fail;refine NoK.norm (hN _ _ ?_);exact k.down)) : X:=h ⟨k⟩
theorem r0N {X Y : Prop} (k : Y) (h : PLift Y → X:=by (intro k;refine M9 ?_;intro K hN;have r:=hB.r;simp only [BxR] at r;go_wp2_with fail;refine NoK.norm (hN _ _ (A4 ?_));exact k.down)) : X:=h ⟨k⟩
theorem r0T {X Y : Prop} (k : Y) (h : PLift Y → X:=by (intro k;refine wp_seq (M9 ?_);intro K hN;have r:=hB.r;simp only [BxR] at r;go_wp2_with fail;refine NoK.norm (hN _ _ (A4 ?_));exact k.down)) : X:=h ⟨k⟩
theorem st {R : World → Prop} {w u : World} {l l' : List (Nat × TypeId × Array Value)} (hB : Bx u l) (hF : Fr w (l.map (·.1))) (hG : A3 w u) (k i : Nat) (vs : List Value) {b : Nat} (h : ∀ u',Bx u' l' → A3 w u' → R u') (hk : (l.map (·.1))[k]? = some b:=by exact rfl)
  (e : (l.modify k fun e=>(e.1,e.2.1,G6 e.2.2 i vs)) = l':=by (simp only [List.modify_succ_cons,List.modify_zero_cons,G6,List.setIfInBounds_toArray,List.set_cons_zero,List.set_cons_succ,Nat.zero_add,Nat.reduceAdd];exact rfl)) : R (E9 u b i vs):=by
 have h2:=hB.over hF hG k hk i vs rfl
 rw [e] at h2
 exact h _ h2.1 h2.2
theorem st2 {R : World → Prop} {w u : World} {l l' l2 : List (Nat × TypeId × Array Value)} (hB : Bx u l) (hF : Fr w (l.map (·.1))) (hG : A3 w u) (k i : Nat) (vs : List Value) (k' i' : Nat) (vs' : List Value) {b b' : Nat} (h : ∀ u',Bx u' l2 → A3 w u' → R u') (hk : (l.map (·.1))[k]? = some b:=by exact rfl) (hk' : (l.map (·.1))[k']? = some b':=by exact rfl)
  (e : (l.modify k fun e=>(e.1,e.2.1,G6 e.2.2 i vs)) = l':=by (simp only [List.modify_succ_cons,List.modify_zero_cons,G6,List.setIfInBounds_toArray,List.set_cons_zero,List.set_cons_succ,Nat.zero_add,Nat.reduceAdd];exact rfl)) (e' : (l'.modify k' fun e=>(e.1,e.2.1,G6 e.2.2 i' vs')) = l2:=by (simp only [List.modify_succ_cons,List.modify_zero_cons,G6,List.setIfInBounds_toArray,List.set_cons_zero,List.set_cons_succ,Nat.zero_add,Nat.reduceAdd];exact rfl)) : R (E9 (E9 u b i vs) b' i' vs'):=by
 have hm : l'.map (·.1) = l.map (·.1):=by rw [← e];exact A6S l k fun c=>G6 c i vs
 have h2:=hB.over hF hG k hk i vs rfl
 rw [e] at h2
 rw [← hm] at hF hk'
 exact st h2.1 hF h2.2 k' i' vs' h hk' e'
theorem sv {R : World → Prop} {w u : World} {l l' : List (Nat × TypeId × Array Value)} (hB : Bx u l) (hF : Fr w (l.map (·.1))) (hG : A3 w u) (k i : Nat) (vs : List Value) {b : Nat} (h : ∀ u',E9 u b i vs = u' → (Bx u' l' ∧ A3 w u') → R u') (hk : (l.map (·.1))[k]? = some b:=by exact rfl)
  (e : (l.modify k fun e=>(e.1,e.2.1,G6 e.2.2 i vs)) = l':=by (simp only [List.modify_succ_cons,List.modify_zero_cons,G6,List.setIfInBounds_toArray,List.set_cons_zero,List.set_cons_succ,Nat.zero_add,Nat.reduceAdd];exact rfl)) : R (E9 u b i vs):=by
 have h2:=hB.over hF hG k hk i vs rfl
 rw [e] at h2
 exact h _ rfl h2
theorem en0 {X Y : Prop} (k : Y) (h : PLift Y → X:=by (intro k;refine wp_seq (M9 ?_);intro K hN;go_wp2_with fail;obtain ⟨u,hu⟩ : ∃ x,x = w:=⟨_,rfl⟩;have hG : A3 w u:=hu ▸ A3.refl u;have hB:=Bx.nil u;have hF:=Fr.nil w;rw [← hu];clear hu;refine NoK.norm (hN _ _ (A4 ?_));clear hN K;revert u hF;exact k.down)) : X:=h ⟨k⟩
theorem en1 {X Y : Prop} (k : Y) (h : PLift Y → X:=by (intro k;refine wp_seq (M9 ?_);intro K hN;go_wp2_with fail;generalize hu : World.alloc w _ = u;obtain ⟨hB,hG⟩:=R6 [(_,_)] w u hu;have hF:=U9 w [(0,#[])];simp only [K4,List.map_cons,List.map_nil] at hB hF;clear hu;generalize w.heap.size = b0 at hB hF ⊢;refine NoK.norm (hN _ _ (A4 ?_));clear hN K;revert u b0;exact k.down)) : X:=h ⟨k⟩
theorem en2 {X Y : Prop} (k : Y) (h : PLift Y → X:=by (intro k;refine wp_seq (M9 ?_);intro K hN;go_wp2_with fail;generalize hu : World.alloc (World.alloc w _) _ = u;obtain ⟨hB,hG⟩:=R6 [(_,_),(_,_)] w u hu;have hF:=U9 w [(0,#[]),(0,#[])];simp only [K4,List.map_cons,List.map_nil] at hB hF;clear hu;generalize w.heap.size + 1 = b1 at hB hF ⊢;generalize w.heap.size = b0 at hB hF ⊢;refine NoK.norm (hN _ _ (A4 ?_));clear hN K;revert u b0 b1;exact k.down)) : X:=h ⟨k⟩
theorem en3 {X Y : Prop} (k : Y) (h : PLift Y → X:=by (intro k;refine wp_seq (M9 ?_);intro K hN;go_wp2_with fail;generalize hu : World.alloc (World.alloc (World.alloc w _) _) _ = u;obtain ⟨hB,hG⟩:=R6 [(_,_),(_,_),(_,_)] w u hu;have hF:=U9 w [(0,#[]),(0,#[]),(0,#[])];simp only [K4,List.map_cons,List.map_nil] at hB hF;clear hu;generalize w.heap.size + 1 + 1 = b2 at hB hF ⊢;generalize w.heap.size + 1 = b1 at hB hF ⊢;generalize w.heap.size = b0 at hB hF ⊢;refine NoK.norm (hN _ _ (A4 ?_));clear hN K;revert u b0 b1 b2;exact k.down)) : X:=h ⟨k⟩
theorem en4 {X Y : Prop} (k : Y) (h : PLift Y → X:=by (intro k;refine wp_seq (M9 ?_);intro K hN;go_wp2_with fail;generalize hu : World.alloc (World.alloc (World.alloc (World.alloc w _) _) _) _ = u;obtain ⟨hB,hG⟩:=R6 [(_,_),(_,_),(_,_),(_,_)] w u hu;have hF:=U9 w [(0,#[]),(0,#[]),(0,#[]),(0,#[])];simp only [K4,List.map_cons,List.map_nil] at hB hF;clear hu;generalize w.heap.size + 1 + 1 + 1 = b3 at hB hF ⊢;generalize w.heap.size + 1 + 1 = b2 at hB hF ⊢;generalize w.heap.size + 1 = b1 at hB hF ⊢;generalize w.heap.size = b0 at hB hF ⊢;refine NoK.norm (hN _ _ (A4 ?_));clear hN K;revert u b0 b1 b2 b3;exact k.down)) : X:=h ⟨k⟩
theorem rt {X Y E : Prop} (e : E) (k : Y) (h : E → PLift Y → X:=by (intro e k;refine wp_ret ?_;(repeat with_reducible first | refine B28 ?_ | refine B3Y ?_);refine B2U rfl ?_;intro N hN;have r:=hB.r;simp only [BxR] at r;simp only [results,e];go_simp;refine hN _ ?_;exact k.down)) : X:=h e ⟨k⟩
theorem B06 (a b : Nat) (h : a / b < W64) : IntKind.u64.wrap ((a : Int) / (b : Int)) = ((a / b : Nat) : Int):=by
 rw [← Int.natCast_ediv]
 generalize a / b = q at *
 unfold W64 at h;exact u64_wrap_id (x:=(q : Int)) (by omega) (by omega)
theorem B4w (a b : Nat) (h : a % b < W64) : IntKind.u64.wrap ((a : Int) % (b : Int)) = ((a % b : Nat) : Int):=by
 rw [← Int.natCast_emod]
 generalize a % b = q at *
 unfold W64 at h;exact u64_wrap_id (x:=(q : Int)) (by omega) (by omega)
theorem B2Y (a b : Nat) (ha : a < W64) (hb : b < W64) (h0 : b ≠ 0) (w : World) : Calls Tryz.prog 119 #[A6 a,A6 b] w fun e w'=>e = .returned (.tuple #[A6 (a / b),A6 (a % b),.bool true]) ∧ A3 w w':=by
 have hbits : ∀ W : World,Calls Tryz.prog 117 #[A6 b] W fun e w'=>e = .returned (.int .i64 (bl b)) ∧ A3 W w':=fun W=>M1 b (Nat.le_trans (W5 hb) (by omega)) W
 have hq : a / b < W64:=Nat.lt_of_le_of_lt (Nat.div_le_self a b) ha
 have hm : a % b < W64:=Nat.lt_of_le_of_lt (Nat.mod_le a b) ha
 have hne : ((bl b : Int) == 0) = false:=by have := P6.2 h0;simp;omega
 have hb0 : (B3 b == 0) = false:=by rw [J6 hb];simpa using h0
 have hE1 : (B1 a).toList.isEmpty = true:=by rw [L7];simpa using ha
 have hE2 : (B1 b).toList.isEmpty = true:=by rw [L7];simpa using hb
 have hb1 : ¬ B3 b = 0:=by rw [J6 hb];omega
 have hw1 : IntKind.u64.wrap ((B3 a).tdiv (B3 b)) = B3 (a / b):=by
  rw [Int.tdiv_eq_ediv_of_nonneg (A1i a),J6 ha,J6 hb,J6 hq];exact B06 a b hq
 have hw2 : IntKind.u64.wrap ((B3 a).tmod (B3 b)) = B3 (a % b):=by
  rw [Int.tmod_eq_emod_of_nonneg (A1i a),J6 ha,J6 hb,J6 hm];exact B4w a b hm
 have hw3 : (B3 a).tmod (B3 b) = B3 (a % b):=by
  rw [Int.tmod_eq_emod_of_nonneg (A1i a),J6 ha,J6 hb,J6 hm];exact (Int.natCast_emod a b).symm
 have hw4 : B3 a % B3 b = B3 (a % b):=by
  rw [J6 ha,J6 hb,J6 hm];exact (Int.natCast_emod a b).symm
 have hn1:=A1i a
 have hn2:=A1i b
 have Hmo:=Lib.hid (And.intro (A1U hq) (A1U hm))
 have Hbits:=Lib.hid hbits
 clear hbits hq hm
 go_enter Tryz.func119,Tryz.ntmps119
 refine en4 ?_
 intro u hG b5 b4 b3 b2 hB hF
 refine wp_seq ?_
 refine wp_seq (rsE A5 [0,1,0] hB hG fun L hL=>?_)
 refine gs ?_
 refine gmw (C:=fun v=>Hbits.out _) ?_
 refine gs ?_
 refine geT hL ?_
 clear hB hG hL L
 rintro u ⟨-,hB,hG,-⟩
 refine wp_cond_false (rfl) ?_
 refine wp_skip ?_
 refine A4 ?_
 refine wp_seq ?_
 refine r0T ?_
 refine wp_cond_true (rfl) ?_
 refine wp_seq ?_
 refine Code.wp_mono NoP.up ?_
 have r:=hB.r
 simp only [BxR] at r
 have hD : b2 ≠ b4 ∧ b2 ≠ b5 ∧ b3 ≠ b4 ∧ b3 ≠ b5 ∧ b4 ≠ b2 ∧ b4 ≠ b3 ∧ b4 ≠ b5 ∧ b5 ≠ b2 ∧ b5 ≠ b3 ∧ b5 ≠ b4:=⟨hF.ne 0 2 rfl rfl (by decide),hF.ne 0 3 rfl rfl (by decide),hF.ne 1 2 rfl rfl (by decide),hF.ne 1 3 rfl rfl (by decide),hF.ne 2 0 rfl rfl (by decide),hF.ne 2 1 rfl rfl (by decide),hF.ne 2 3 rfl rfl (by decide),hF.ne 3 0 rfl rfl (by decide),hF.ne 3 1 rfl rfl (by decide),hF.ne 3 2 rfl rfl (by decide)⟩
 go_region
 clear r hD
 generalize hu0 : World.setCell (World.setCell u _ _) _ _ = u0
 have hBG:=S6 hB hF hG 2 rfl 0 [_,_] hu0
 clear hB hG hu0
 obtain ⟨hB,hG⟩:=hBG
 clear u
 generalize hu1 : World.setCell (World.setCell u0 _ _) _ _ = u1
 have hBG:=S6 hB hF hG 3 rfl 0 [_,_] hu1
 clear hB hG hu1
 obtain ⟨hB,hG⟩:=hBG
 clear u0
 obtain ⟨u,rfl⟩ : ∃ x,x = u1:=⟨_,rfl⟩
 replace hB:=hB.grow (A3.drew u)
 replace hG:=hG.trans (A3.drew u)
 obtain ⟨u,rfl⟩ : ∃ x,x = u.drew:=⟨_,rfl⟩
 refine NoP.norm ?_
 refine A4 ?_
 refine rt Tryz.results119 ?_
 refine And.intro ?_ hG
 rw [A6,A6,Hmo.out.1,Hmo.out.2]
theorem Q8 {u : World} {b : Nat} {o : Obj} (h : u.heap[b]? = some o) : b < u.heap.size:=by
 rcases Nat.lt_or_ge b u.heap.size with hlt | hge
 ·exact hlt
 ·rw [Array.getElem?_eq_none hge] at h;cases h
theorem A2y {B : Nat} (hB : 2 ≤ B) (a k : Nat) : dg (A7 B a) k = a / B ^ k % B:=by
 induction k generalizing a with
 | zero =>
  by_cases h : a = 0
  ·subst h;rw [A1x];simp [dg]
  ·rw [A0H hB h];simp [dg]
 | succ k ih =>
  by_cases h : a = 0
  ·subst h;rw [A1x];simp [dg]
  ·rw [A0H hB h]
   have : dg (a % B :: A7 B (a / B)) (k + 1) = dg (A7 B (a / B)) k:=by simp [dg]
   rw [this,ih,Nat.pow_succ',Nat.div_div_eq_div_mul]
def byt (a : Nat) : List Nat:=A7 256 a
theorem A1u (a : Nat) : (byt a).length = (bl a + 7) / 8:=by
 have h1:=@A3A 256 a ((bl a + 7) / 8) (by omega) (by
  refine Nat.lt_of_lt_of_le (V7 a) ?_
  rw [show (256 : Nat) = 2 ^ 8 from rfl,← Nat.pow_mul]
  exact Nat.pow_le_pow_right (by omega) (by omega))
 rcases Nat.eq_zero_or_pos (bl a) with h | h
 ·have := T0.1 h
  subst this
  rfl
 ·have h2 : 256 ^ ((bl a + 7) / 8 - 1) ≤ a:=by
   rw [show (256 : Nat) = 2 ^ 8 from rfl,← Nat.pow_mul]
   exact Z6.1 (by omega)
  have := A4N (B:=256) (by omega) h2
  unfold byt
  omega
theorem A1K (a : Nat) : Dig 256 (byt a):=F2 (by omega) a
theorem B6E (a k : Nat) : dg (A7 W64 a) (k / 8) / 2 ^ (8 * (k % 8)) % 256 = dg (byt a) k:=by
 unfold byt
 rw [A2y C7,A2y (by omega)]
 have e1 : (256 : Nat) ^ k = W64 ^ (k / 8) * 2 ^ (8 * (k % 8)):=by
  rw [R5,show (256 : Nat) = 2 ^ 8 from rfl,← Nat.pow_mul,← Nat.pow_mul,← Nat.pow_add]
  congr 1
  omega
 rw [e1,← Nat.div_div_eq_div_mul]
 generalize a / W64 ^ (k / 8) = x
 have hr : k % 8 < 8:=Nat.mod_lt _ (by omega)
 generalize k % 8 = r at hr
 have e2 : W64 = 2 ^ (8 * r) * (256 * 2 ^ (56 - 8 * r)):=by
  rw [R5,show (256 : Nat) = 2 ^ 8 from rfl,← Nat.pow_add,← Nat.pow_add]
  congr 1
  omega
 rw [e2,Nat.mod_mul_right_div_self,Nat.mod_mul_right_mod]
def I0 (l : List Nat) : Array Value:=(l.map fun x=>Value.int .u8 (x : Nat)).toArray
theorem A3d (l : List Nat) (i : Nat) : (I0 l)[i]? = (l[i]?).map fun x=>Value.int .u8 (x : Nat):=by
 unfold I0;simp
theorem A5o (l : List Nat) (i y : Nat) : (I0 l).setIfInBounds i (.int .u8 (y : Nat)) = I0 (l.set i y):=by
 unfold I0
 rw [List.setIfInBounds_toArray,List.map_set]
theorem B6s (n : Nat) : madeCells (Value.int .u8 0).cells (n * 1) = I0 (List.replicate n 0):=by
 unfold I0 madeCells
 refine Array.ext (by simp) fun i h1 h2=>?_
 simp [Value.cells,Nat.mod_one]
theorem A41 (n : Nat) (hn : n ≤ 1099511627776) (x : Int) (hx : x = n) (W : World) : (Instr.makeSlice 182 (.int .i64 x) (.int .i64 x)).run Tryz.prog W =
  .ok (.slice (some ⟨W.heap.size,0,none⟩) n n) (W.alloc (.cells (I0 (List.replicate n 0)) 5)):=by
 obtain ⟨i0,hi0,hz0,hz1,hz2⟩:=info_parts A8R
 have hr:=run_make (P:=Tryz.prog) W 182 5 i0 (.int .u8 0) Tryz.underlying182 hi0 hz0 .i64 .i64 n n (by omega) (by omega) (by rw [hz2];omega) (by omega)
 rw [hx]
 rw [hr,hz1]
 simp only [Int.toNat_natCast]
 rw [B6s]
def J8 (l : List Nat) (k : Nat) : List Nat:=List.replicate (l.length - k) 0 ++ (l.take k).reverse
theorem A6g (l : List Nat) {k : Nat} (h : k ≤ l.length) : (J8 l k).length = l.length:=by
 unfold J8;simp;omega
theorem A46 (l : List Nat) {k : Nat} (h : k < l.length) : (J8 l k).set (l.length - 1 - k) (dg l k) = J8 l (k + 1):=by
 unfold J8
 obtain ⟨m,hm⟩ : ∃ m,l.length - k = m + 1:=⟨l.length - k - 1,by omega⟩
 rw [hm,show l.length - (k + 1) = m by omega,show l.length - 1 - k = m by omega,List.replicate_succ',List.append_assoc,List.set_append_right _ _ (by simp),List.length_replicate,Nat.sub_self]
 rw [List.take_succ_eq_append_getElem h,List.reverse_append,D3 h]
 rfl
theorem A5h (l : List Nat) : J8 l l.length = l.reverse:=by unfold J8;simp
def By (u : World) (A : Option Addr) (l : List Nat) : Prop :=
 l ≠ [] → ∃ b off cs fr,A = some ⟨b,off,none⟩ ∧ u.heap[b]? = some (.cells cs 5 fr) ∧ ∀ i x,l[i]? = some x → cs[off + i]? = some (.int .u8 (x : Nat))
theorem By.grow {u u' : World} {A : Option Addr} {l : List Nat} (h : By u A l) (hg : A3 u u') : By u' A l:=fun hn=>by
 obtain ⟨b,off,cs,fr,e,hb,hc⟩:=h hn
 exact ⟨b,off,cs,fr,e,(hg.block b (Q8 hb)).trans hb,hc⟩
theorem By.cell {u : World} {A : Option Addr} {l : List Nat} (h : By u A l) {i : Nat} (hi : i < l.length) : ∃ b off,A = some ⟨b,off,none⟩ ∧ u.cell? ⟨b,off + i,none⟩ = some (.int .u8 (dg l i : Nat)):=by
 obtain ⟨b,off,cs,fr,e,hb,hc⟩:=h (fun h0=>by rw [h0] at hi;cases hi)
 refine ⟨b,off,e,?_⟩
 rw [D3 hi,← hc i _ (List.getElem?_eq_getElem hi)]
 exact cell_of_row u b (off + i) cs 5 fr hb
theorem By.of {u : World} {b : Nat} {l : List Nat} (h : Blk u b 5 (I0 l)) : By u (some ⟨b,0,none⟩) l:=fun _ =>
 ⟨b,0,I0 l,(0,0),rfl,h,fun i x hi=>by rw [Nat.zero_add,A3d,hi];rfl⟩
theorem A9v (a : Nat) (ha : bl a ≤ 1099511627760) (w : World) : Calls Tryz.prog 176 #[A6 a] w fun e w'=>∃ A,e = .returned (.slice A (byt a).length (byt a).length) ∧ By w' A (byt a).reverse ∧ A3 w w':=by
 obtain ⟨n,hn⟩ : ∃ n,n = (byt a).length:=⟨_,rfl⟩
 have hnb : (n : Int) = ((bl a : Int) + 7) / 8:=by rw [hn,A1u];omega
 have hm : n ≤ 1099511627776:=by omega
 have hmk:=A41 n hm
 have hbits : ∀ W,Calls Tryz.prog 117 #[A6 a] W fun e w'=>e = .returned (.int .i64 (bl a)) ∧ A3 W w':=fun W=>M1 a (by omega) W
 have hwords : ∀ W,Calls Tryz.prog 126 #[A6 a] W fun e w'=>∃ A,e = .returned (.slice A (A7 W64 a).length (A7 W64 a).length) ∧ Own W w' A (A7 W64 a) ∧ A3 W w':=fun W=>Y8 a (by omega) W
 obtain ⟨m,hmw⟩ : ∃ m,m = (A7 W64 a).length:=⟨_,rfl⟩
 rw [← hmw] at hwords
 rw [← hn]
 have Hbits:=Lib.hid hbits
 have Hwords:=Lib.hid hwords
 have Hn:=Lib.hid hn
 have Hmw:=Lib.hid hmw
 have hb1 : IntKind.i64.wrap ((bl a : Int) + 7) = (bl a : Int) + 7:=IntWalk.i64_in _ (by omega)
 have hdv : ((bl a : Int) + 7).tdiv 8 = (n : Int):=by rw [Int.tdiv_eq_ediv_of_nonneg (by omega)];exact hnb.symm
 have hdv2 : ((bl a : Int) + 7) / 8 = (n : Int):=hnb.symm
 clear hbits hwords hn hmw hnb
 go_enter Tryz.func176,Tryz.ntmps176
 go_wp2_with (first
  | (go_at_call 117;((with_reducible refine (Hbits.out _).mono ?_);rintro e w1 ⟨rfl,hg1⟩;have hmk1:=hmk (n : Int) rfl w1;have hbx:=(Blk.new w 35 _).grow hg1;have hc1:=hbx.cell;have hlt1:=hbx.lt))
  | (go_at_call 126;((with_reducible refine (Hwords.out _).mono ?_);rintro e w2 ⟨A2,rfl,hown,hg2⟩)))
 clear hmk hmk1 hc1 hdv hdv2 hb1
 have hgw1 : A3 w w1:=(A3.alloc _ _).trans hg1
 have hgw2 : A3 w w2:=hgw1.trans ((A3.alloc _ _).trans hg2)
 have hrow : Blk w2 w1.heap.size 5 (I0 (List.replicate n 0)):=(Blk.new w1 5 _).grow hg2
 have Hown:=Lib.hid hown
 have hsz2:=hg2.size
 rw [H8] at hsz2
 clear hown
 go_loopw [16] (fun i wr=>∃ k : Nat,k ≤ n ∧ i = .int .i64 k ∧ Blk wr w1.heap.size 5 (I0 (J8 (byt a) k)) ∧ Own (w1.alloc (.cells (I0 (List.replicate n 0)) 5)) wr A2 (A7 W64 a) ∧ A3 w wr) (fun i _=>n - (intOf i).toNat)
 case atStart=>exact ⟨0,Nat.zero_le _,rfl,by rw [show J8 (byt a) 0 = List.replicate n 0 by unfold J8;rw [← Hn.out];simp];exact hrow,Hown.out,hgw2⟩
 case round =>
  obtain ⟨k,hk,rfl,hR,hO,hG⟩:=hrel
  have HR:=Lib.hid hR
  have HO:=Lib.hid hO
  have HG:=Lib.hid hG
  clear hR hO hG
  rcases Nat.lt_or_ge k n with hlt | hge
  ·have hkl : k < (byt a).length:=by rw [← Hn.out];exact hlt
   have hwk : k / 8 < (A7 W64 a).length:=by
    refine A4N C7 ?_
    have h1 : k < (bl a + 7) / 8:=by rw [← A1u];exact hkl
    rw [R5,← Nat.pow_mul]
    exact Z6.1 (by omega)
   obtain ⟨b2,hb2,rfl,hrow2⟩:=HO.out (by intro e;rw [e] at hwk;cases hwk)
   have hc2:=hrow2.cell (k / 8)
   rw [List.getElem?_eq_getElem hwk,← D3 hwk] at hc2
   simp only [Option.map_some] at hc2
   have hxl : dg (A7 W64 a) (k / 8) < 18446744073709551616:=B9 B6 (F2 C7 a) _
   have hby:=B6E a k
   have hbl:=B9 (by omega) (A1K a) k
   have hst:=A46 (byt a) hkl
   rw [← Hn.out] at hst
   have hcs:=HR.out.cell (n - 1 - k)
   have hfs:=HR.out.frozen (n - 1 - k)
   rw [A3d,List.getElem?_eq_getElem (by rw [A6g _ (by omega),← Hn.out];omega)] at hcs
   simp only [Option.map_some] at hcs
   generalize (J8 (byt a) k)[n - 1 - k]'_ = old at hcs
   have hwm : k / 8 < m:=by rw [Hmw.out];exact hwk
   obtain ⟨q,hq⟩ : ∃ q,q = k / 8:=⟨_,rfl⟩
   obtain ⟨r,hr⟩ : ∃ r,r = k % 8:=⟨_,rfl⟩
   have hr8 : r < 8:=by omega
   rw [← hq] at hc2 hxl hby hwm
   rw [← hr] at hby
   obtain ⟨x,hx⟩ : ∃ x,x = dg (A7 W64 a) q:=⟨_,rfl⟩
   obtain ⟨y,hy⟩ : ∃ y,y = dg (byt a) k:=⟨_,rfl⟩
   rw [← hx] at hc2 hxl hby
   rw [← hy] at hby hbl hst
   have hqi : (k : Int) / 8 = (q : Int):=by omega
   have hri : (k : Int) % 8 = (r : Int):=by omega
   have Hst:=Lib.hid hst
   have Hby:=Lib.hid hby
   have hne : w1.heap.size < b2:=by rw [H8] at hb2;omega
   have hnn : (0 : Int) ≤ (n : Int) - 1 - (k : Int):=by omega
   have hnt : ((n : Int) - 1 - (k : Int)).toNat = n - 1 - k:=by omega
   clear hq hr hx hy hst hby hwk
   go_wp2_with fail
   have hv : ((x : Int) / 2 ^ (8 * r) % 256) = (y : Int):=by rw [← Hby.out];simp
   rw [hv]
   refine ⟨⟨k + 1,by omega,by go_num,?_,fun _=>⟨b2,hb2,rfl,hrow2.far (p:=⟨w1.heap.size,n - 1 - k,none⟩) (by show b2 ≠ w1.heap.size;omega) _⟩,HG.out.setCell (p:=⟨w1.heap.size,n - 1 - k,none⟩) hgw1.size _⟩,by simp [intOf];omega⟩
   have := HR.out.set_ (n - 1 - k) (.int .u8 (y : Nat))
   rw [A5o,Hst.out] at this
   exact this
  ·obtain rfl : k = n:=by omega
   go_wp2_with fail
   go_ret
   refine ⟨_,rfl,?_,HG.out⟩
   have := By.of HR.out
   rw [Hn.out,A5h] at this
   exact this
def Tab (w : World) : Prop:=∀ j,j < 64 → w.cell? ⟨2,j,none⟩ = some (.int .u8 (Lib.deBruijn64tab.getD j 0 : Nat))
theorem Tab.grow {w w' : World} (h : Tab w) (hg : A3 w w') : Tab w':=fun j hj=>by
 have hb : 2 < w.heap.size:=World.block_lt_of_cell? w _ (h 0 (by omega))
 exact (hg.cell (p:=⟨2,j,none⟩) hb).trans (h j hj)
theorem B04 (x a : Nat) (hx : x < 18446744073709551616) (hx0 : x ≠ 0) (hlow : x &&& (18446744073709551616 - x) = a) :
  IntKind.u64.wrap (bits BinOp.and IntKind.u64 (x : Int) (IntKind.u64.wrap (-(x : Int))) * 285870213051353865) / 288230376151711744 = ((a * 285870213051353865 % 18446744073709551616 / 288230376151711744 : Nat) : Int):=by
 have e1 : IntKind.u64.wrap (-(x : Int)) = ((18446744073709551616 - x : Nat) : Int):=by rw [IntKind.wrap_u64];omega
 rw [e1,bits_and_u64_nat x _ hx (by omega),hlow,IntKind.wrap_u64]
 omega
theorem B4K (x k idx : Nat) (w : World) (hx0 : ((x : Int) == 0) = false)
  (key : IntKind.u64.wrap (bits BinOp.and IntKind.u64 (x : Int) (IntKind.u64.wrap (-(x : Int))) * 285870213051353865) / 288230376151711744 = (idx : Int))
  (hi : idx < 64) (hk : k < 64) (hcell : w.cell? ⟨2,idx,none⟩ = some (.int .u8 k)) :
  Calls Tryz.prog 195 #[.int .u64 x] w fun e w'=>e = .returned (.int .i64 k) ∧ w' = w:=by
 go_enter Tryz.func195,Tryz.ntmps195
 go_wp2_with (simp only [key])
 go_ret
 exact ⟨rfl,rfl⟩
theorem B5e (x : Nat) (hx : x < W64) (hx0 : x ≠ 0) (w : World) (hT : Tab w) :
  Calls Tryz.prog 195 #[.int .u64 x] w fun e w'=>e = .returned (.int .i64 (Lib.ctz 64 x)) ∧ w' = w:=by
 obtain ⟨hlow,hk⟩:=Lib.lowest_bit 64 x hx0 hx
 obtain ⟨hi,htab⟩:=Lib.deBruijn64_at _ hk
 have hcell:=hT _ hi
 rw [htab] at hcell
 exact B4K x _ _ w (by simp;omega) (B04 x _ hx hx0 hlow) hi hk hcell
theorem A4g (b off : Nat) (l : List Nat) (c : Nat) (hd : Dig W64 l) (hv : val W64 l ≠ 0) (hm : l.length ≤ 34359738368) (w : World) (h : Wds w b off l) (hT : Tab w) :
  Calls Tryz.prog 159 #[.slice (some ⟨b,off,none⟩) l.length c] w fun e w'=>∃ z : Nat,e = .returned (.int .i64 z) ∧ Tz (val W64 l) z ∧ z / 64 < l.length ∧ w' = w:=by
 obtain ⟨n,hn⟩ : ∃ n,n = l.length:=⟨_,rfl⟩
 rw [← hn] at hm
 rw [← hn]
 have H:=Lib.hid h
 have HT:=Lib.hid hT
 have Hn:=Lib.hid hn
 have Hd:=Lib.hid hd
 have Hv:=Lib.hid hv
 clear h hT hn hd hv
 go_enter Tryz.func159,Tryz.ntmps159
 go_wp2
 go_loop [3] (fun s=>∃ k : Nat,k ≤ n ∧ s = .int .i64 k ∧ ∀ i,i < k → dg l i = 0) (fun s=>n - (intOf s).toNat)
 case atStart=>exact ⟨0,Nat.zero_le _,rfl,fun i hi=>by omega⟩
 case round =>
  obtain ⟨k,hk,rfl,hz⟩:=hrel
  have hkn : k < n:=by
   rcases Nat.lt_or_ge k n with h | h
   ·exact h
   ·exact absurd (by rw [← U6 W64 l k (by rw [← Hn.out];exact h)];exact A9l hz) Hv.out
  have hkl : k < l.length:=by rw [← Hn.out];exact hkn
  have hc:=H.out.cell hkl
  rw [← D3 hkl] at hc
  have Hz:=Lib.hid hz
  clear hz
  have hxW:=B9 B6 Hd.out k
  by_cases h0 : dg l k = 0
  ·rw [h0] at hc
   have H0:=Lib.hid h0
   clear h0 hxW
   go_wp2
   go_round
   case rel=>exact ⟨k + 1,by omega,by go_num,fun i hi=>by
    rcases Nat.lt_or_ge i k with h | h
    ·exact Hz.out i h
    ·obtain rfl : i = k:=by omega
     exact H0.out⟩
   case measure=>simp [intOf];omega
  ·obtain ⟨m,hx1,hx2⟩:=B1r (dg l k) h0 hxW
   have htz:=B0M Hz.out hkl hx1 hx2
   have hcall:=B5e (dg l k) hxW h0 w HT.out
   obtain ⟨x,hx⟩ : ∃ x,x = dg l k:=⟨_,rfl⟩
   obtain ⟨t,ht⟩ : ∃ t,t = Lib.ctz 64 (dg l k):=⟨_,rfl⟩
   rw [← ht] at hx2 htz hcall
   rw [← hx] at hc hcall h0
   have Hcall:=Lib.hid hcall
   have Htz:=Lib.hid htz
   have hb : ((x : Int) == 0) = false:=by simpa using h0
   clear hx1 htz hcall hx ht h0 hxW
   go_wp2_with (go_at_call 195;((with_reducible refine (Hcall.out).mono ?_);rintro e w1 ⟨rfl,rfl⟩))
   go_ret
   exact ⟨64 * k + t,by go_num,Htz.out,by omega,rfl⟩
end Go.Proofs.YtlkniebmjdoopaaGreatDoor
namespace Go.Proofs.YtlkniebmjdoopaaGreatDoor
open Go Go.RowKit
end Go.Proofs.YtlkniebmjdoopaaGreatDoor
