/- Contracts and laws. -/
import Derived.Test.YtlkniebmjdoopaaGreatDoorR33
set_option linter.unusedSimpArgs false
set_option linter.unusedVariables false
set_option maxHeartbeats 4000000
set_option maxRecDepth 100000
namespace Go.Proofs.YtlkniebmjdoopaaGreatDoor
open Go Go.RowKit Go.Shelf
attribute [local go_sem] Oper.semAt_some
structure KG (p : Nat → Obj → Prop) (u v : World) : Prop where
 os : v.os = u.os
 tape : v.tape = u.tape
 output : v.output = u.output
 size : u.heap.size ≤ v.heap.size
 keep : ∀ (k : Nat) (o : Obj),p k o → u.heap[k]? = some o → v.heap[k]? = some o
section
variable {p : Nat → Obj → Prop}
theorem KG.ofGrow {u v : World} (h : A3 u v) : KG p u v:=⟨h.os,h.tape,h.output,h.size,fun k o _ hk=>(h.block k (Array.getElem?_eq_some_iff.1 hk).1).trans hk⟩
theorem KG.trans {u v w : World} (h : KG p u v) (h2 : KG p v w) : KG p u w:=⟨h2.os.trans h.os,h2.tape.trans h.tape,h2.output.trans h.output,Nat.le_trans h.size h2.size,fun k o hc hk=>h2.keep k o hc (h.keep k o hc hk)⟩
theorem KG.put {b : Nat} {w W : World} {o : Obj} (hB : w.heap.size ≤ b) (h : KG p w W) : KG p w (W.putObj b o) :=
 ⟨h.os,h.tape,h.output,by rw [World.putObj_size];exact h.size,fun k o' hc hk=>by
  have hlt:=(Array.getElem?_eq_some_iff.1 hk).1
  exact (World.putObj_heap_other (by omega)).trans (h.keep k o' hc hk)⟩
theorem KG.by {g : Option Nat} {u v : World} (h : u.grownBy v g) (hp : ∀ k o,u.heap[k]? = some o → p k o → g ≠ some k) : KG p u v :=
 ⟨h.os,h.tape,h.output,h.size,fun k o hc hk=>(h.block k (Array.getElem?_eq_some_iff.1 hk).1 (fun e=>hp k o hk hc e.symm)).trans hk⟩
end
abbrev KO (b : Nat) : World → World → Prop:=KG fun k _=>k ≠ b
theorem KO.by {b : Nat} {u v : World} (h : u.grownBy v (some b)) : KO b u v:=KG.by h fun k o _ hc e=>hc (Option.some.inj e).symm
theorem KG.grow {b : Nat} {w u : World} (h : KG (fun k _=>k ≠ b) w u) (hb : w.heap.size ≤ b) : A3 w u :=
 ⟨h.os,h.tape,h.output,h.size,fun k hk=>by
  obtain ⟨o,ho⟩ : ∃ o,w.heap[k]? = some o:=⟨w.heap[k]'hk,Array.getElem?_eq_getElem hk⟩
  rw [ho]
  exact h.keep k o (show k ≠ b by omega) ho⟩
def A9E (p : Nat → Obj → Prop) (J : Nat → World → Prop) (i : Nat) (W : World) : Exit → Act → World → Prop
 | .normal,_,W'=>KG p W W' ∧ J (i + 1) W'
 | _,_,_=>False
theorem A8S {P : Program} {g : Operand} {ps : Array Tmp} {assign body : Code} {Q : Exit → Act → World → Prop} {a : Act} {wE : World} {gf : Nat} {lb : Array Value} (hg : a.eval g = .func (.func gf) #[] lb) (eg : ∀ args w,(callFunc gf args).run P w = .ok (.enter gf args) w)
  (p0 p pi : Nat → Obj → Prop) (hpD : ∀ d,p wE.heap.size (.deferred d) ∧ pi wE.heap.size (.deferred d)) (hpL : ∀ r,p (wE.heap.size + 1) (.loop r) ∧ pi (wE.heap.size + 1) (.loop r)) (N : Nat) (C : Nat → Array Value → Prop) (J : Nat → World → Prop) (a₁ : Array Value → Nat → Act) (AF : Nat → Array Value → World → Prop) (hcs : ∀ i vs,C i vs → vs.size = ps.size)
  (it : ∀ (l : Nat) (Rd : Nat → World → Prop) (Rx : World → Prop) (W : World),KG p0 wE W → wE.heap.size + 2 ≤ W.heap.size → (∀ i u v,KG pi u v → Rd i u → Rd i v) → (∀ u v,KG pi u v → Rx u → Rx v) →
   (∀ i vs W1,i < N → KG p0 wE W1 → Rd i W1 → C i vs → YieldAt Fence.wide 0 P l vs W1 fun e W'=>(e = .returned (.bool true) ∧ KG p W1 W' ∧ Rd (i + 1) W') ∨ (e = .returned (.bool false) ∧ Rx W')) →
   Rd 0 W → CallsIn Fence.wide 0 P gf (#[.func (.yield l) #[] #[]] ++ lb) W fun e W'=>(∃ v,e = .returned v) ∧ ((KG p0 wE W' ∧ Rd N W') ∨ Rx W'))
  (hA : ∀ b vs W o,wE.heap.size + 2 ≤ b → AF b vs W → AF b vs (W.putObj (wE.heap.size + 1) o)) (hJp : ∀ i W o b,b = wE.heap.size ∨ b = wE.heap.size + 1 → J i W → J i (W.putObj b o)) (hJg : ∀ i u v,KG pi u v → J i u → J i v) (h0 : J 0 wE)
  (hassign : ∀ (l i : Nat) (vs : Array Value) (W : World) (K : Act → World → Prop),C i vs → (∀ b W2,A3 W W2 → W.heap.size ≤ b → AF b vs W2 → K (a₁ vs b) W2) → assign.wpIn (Fence.wide.inRound l) 0 P (Exit.then K (fun _ _ _=>False)) { tmps:=(ps.zip vs).foldl (fun t (p,v)=>t.setIfInBounds p v) a.tmps,defers:=[] } W)
  (hbody : ∀ (l i : Nat) (vs : Array Value) (b : Nat) (W : World),i < N → J i W → KG p0 wE W → wE.heap.size + 2 ≤ b → AF b vs W → C i vs → body.wpIn (Fence.wide.inRound l) 0 P (A9E p J i W) (a₁ vs b) W)
  (hdone : ∀ W,KG p0 wE W → J N W → W.heap[wE.heap.size]? = some (.deferred (some [])) → Q .normal { a with defers:={ target:=.collected wE.heap.size,args:=#[] } :: a.defers } W) :
  (Code.rangeFunc g ps assign body).wpIn Fence.wide 0 P Q a wE:=by
 refine wpIn_rangeFunc ?_
 intro fn hfn
 obtain ⟨rec,hrec⟩ : ∃ rec : LoopState → Option Code → Loop,rec = fun st pe=>{ state:=st,pending:=pe,fn,tmps:=a.tmps,params:=ps,assign,body,defers:=wE.heap.size }:=⟨_,rfl⟩
 obtain ⟨W1,hW1⟩ : ∃ W1,(wE.alloc (.deferred (some []))).alloc (.loop (rec .ready none)) = W1:=⟨_,rfl⟩
 have hL1 : W1.heap[wE.heap.size + 1]? = some (.loop (rec .ready none)):=by
  rw [← hW1];have := World.alloc_heap_new (wE.alloc (.deferred (some []))) (.loop (rec .ready none));rwa [World.size_alloc] at this
 have hK1 : W1.heap[wE.heap.size]? = some (.deferred (some [])):=by
  rw [← hW1];exact (Below.heap_alloc _ _ _ (by simp)).trans (World.alloc_heap_new wE _)
 have hG1 : A3 wE W1:=by rw [← hW1];exact (A3.alloc _ _).trans (A3.alloc _ _)
 have hS1 : wE.heap.size + 2 ≤ W1.heap.size:=by rw [← hW1];simp
 have keep : ∀ {u v : World} {k : Nat} {o : Obj},A3 u v → u.heap[k]? = some o → v.heap[k]? = some o:=fun hg h=>(hg.block _ (Array.getElem?_eq_some_iff.1 h).1).trans h
 have hJG : ∀ i u v,A3 u v → J i u → J i v:=fun i u v hg=>hJg i u v (KG.ofGrow hg)
 refine ⟨wE.heap.size + 1,[{ target:=.collected wE.heap.size,args:=#[] }],W1,{ target:=.fn (.func gf) lb,args:=#[.func (.yield (wE.heap.size + 1)) #[] #[]] },W1,gf,
  #[.func (.yield (wE.heap.size + 1)) #[] #[]] ++ lb,W1,?_,?_,fun _ _=>trivial,?_,fun h=>(by cases h),?_⟩
 ·rw [← hW1,hrec];exact run_enterLoop_outer _ _ _ _ _
 ·simp only [resolve,hg]
  simp [go_sem]
 ·simp [invoke,go_sem,eg]
 ·refine (it (wE.heap.size + 1)
   (fun i W=>J i W ∧ W.heap[wE.heap.size + 1]? = some (.loop (rec .ready none)) ∧ W.heap[wE.heap.size]? = some (.deferred (some [])))
   (fun _=>False)
   W1 (KG.ofGrow hG1) hS1 (fun i u v hg h=>⟨hJg _ _ _ hg h.1,hg.keep _ _ (hpL _).2 h.2.1,hg.keep _ _ (hpD _).2 h.2.2⟩) (fun _ _ _ h=>h) ?_ ⟨hJG _ _ _ hG1 h0,hL1,hK1⟩).mono ?_
  ·rintro i vs W hi hGW ⟨hj,hl,hk⟩ hc
   have hlt : wE.heap.size + 1 < W.heap.size:=(Array.getElem?_eq_some_iff.1 hl).1
   have hy:=run_yield (P:=P) (args:=vs) hl (by rw [hrec];exact hcs i vs hc)
   rw [hrec] at hy
   refine ⟨fn,_,assign,body,hy,roundIn_of_wpIn hfn (hassign _ i vs W _ hc fun ba W2 hgA hba hAF=>?_)⟩
   have hl : W2.heap[wE.heap.size + 1]? = some (.loop (rec .ready none)):=keep hgA hl
   have hk : W2.heap[wE.heap.size]? = some (.deferred (some [])):=keep hgA hk
   have hKA : KG p W W2:=KG.ofGrow hgA
   have hGW : KG p0 wE W2:=hGW.trans (KG.ofGrow hgA)
   have hlt : wE.heap.size + 1 < W2.heap.size:=(Array.getElem?_eq_some_iff.1 hl).1
   refine ⟨_,run_beginRound hl (by rw [hrec]),?_⟩
   obtain ⟨Wb,hWb⟩ : ∃ Wb,Wb = W2.putObj (wE.heap.size + 1) (.loop { rec .ready none with state:=.busy }):=⟨_,rfl⟩
   have hl2 : Wb.heap[wE.heap.size + 1]? = some (.loop { rec .ready none with state:=.busy }):=by rw [hWb];exact World.putObj_heap_same hlt
   have hk2 : Wb.heap[wE.heap.size]? = some (.deferred (some [])):=by rw [hWb];exact (World.putObj_heap_other (by omega)).trans hk
   have hg2 : KG p0 wE Wb:=by rw [hWb];exact KG.put (by omega) hGW
   have hj2 : J i Wb:=by rw [hWb];exact hJp _ _ _ _ (.inr rfl) (hJG _ _ _ hgA hj)
   have hb2 : wE.heap.size + 2 ≤ ba:=by omega
   have ha2 : AF ba vs Wb:=by rw [hWb];exact hA ba vs W2 _ hb2 hAF
   have hs2 : Wb.heap.size = W2.heap.size:=by rw [hWb];exact World.putObj_size
   rw [← hWb]
   refine wpIn_mono (hbody _ i vs ba Wb hi hj2 hg2 hb2 ha2 hc) ?_
   rintro e a3 W3 hp
   cases e with
   | normal =>
    obtain ⟨hk3,hj3⟩:=hp
    have hl3:=hk3.keep _ _ (hpL _).1 hl2
    have hr:=run_endRound (P:=P) none hl3
    have hlt3:=(Array.getElem?_eq_some_iff.1 hl3).1
    have e1 : (W3.putObj (wE.heap.size + 1) (.loop { rec .ready none with state:=.ready,pending:=none })).heap[wE.heap.size + 1]? = some (.loop (rec .ready none)):=by
     rw [World.putObj_heap_same hlt3,hrec]
    refine ⟨_,_,hr,.inl ⟨rfl,hKA.trans ⟨?_,?_,?_,?_,fun k o hc hk=>?_⟩,hJp _ _ _ _ (.inr rfl) hj3,e1,(World.putObj_heap_other (by omega)).trans (hk3.keep _ _ (hpD _).1 hk2)⟩⟩
    ·exact hk3.os.trans (by rw [hWb];rfl)
    ·exact hk3.tape.trans (by rw [hWb];rfl)
    ·exact hk3.output.trans (by rw [hWb];rfl)
    ·rw [World.putObj_size];have := hk3.size;omega
    ·by_cases hkk : k = wE.heap.size + 1
     ·rw [hkk] at hk ⊢
      exact e1.trans (hl.symm.trans hk)
     ·refine (World.putObj_heap_other hkk).trans (hk3.keep k o hc ?_)
      rw [hWb]
      exact (World.putObj_heap_other hkk).trans hk
   | ret=>exact hp.elim
   | exit id=>exact hp.elim
   | goto t=>exact hp.elim
   | panic ch=>exact hp.elim
   | outgrown=>exact hp.elim
  ·rintro e W2 ⟨⟨v,rfl⟩,(⟨hg2,hj2,hl,hk⟩ | hx)⟩
   ·refine ⟨none,_,by have := run_endLoop (P:=P) hl (by rw [hrec];simp);rw [hrec] at this;exact this,hdone _ (KG.put (by omega) hg2) (hJp _ _ _ _ (.inr rfl) hj2) ((World.putObj_heap_other (by omega)).trans hk)⟩
   ·exact hx.elim
theorem KG.all {u v : World} (h : KG (fun _ _=>True) u v) : A3 u v :=
 ⟨h.os,h.tape,h.output,h.size,fun k hk=>by
  obtain ⟨o,ho⟩ : ∃ o,u.heap[k]? = some o:=⟨u.heap[k]'hk,Array.getElem?_eq_getElem hk⟩
  rw [ho]
  exact h.keep k o trivial ho⟩
theorem B7I {P : Program} {g : Operand} {ps : Array Tmp} {assign body : Code} {Q : Exit → Act → World → Prop} {a : Act} {wE : World} {gf : Nat} {lb : Array Value} (hg : a.eval g = .func (.func gf) #[] lb) (eg : ∀ args w,(callFunc gf args).run P w = .ok (.enter gf args) w)
  (p : Nat → Obj → Prop) (hpD : ∀ d,p wE.heap.size (.deferred d)) (hpL : ∀ r,p (wE.heap.size + 1) (.loop r)) (N : Nat) (C : Nat → Array Value → Prop) (J : Nat → World → Prop) (a₁ : Array Value → Nat → Act) (AF : Nat → Array Value → World → Prop) (hcs : ∀ i vs,C i vs → vs.size = ps.size)
  (it : ∀ (l : Nat) (Rd : Nat → World → Prop) (Rx : World → Prop) (W : World),KG p wE W → wE.heap.size + 2 ≤ W.heap.size → (∀ i u v,A3 u v → Rd i u → Rd i v) → (∀ u v,A3 u v → Rx u → Rx v) →
   (∀ i vs W1,i < N → KG p wE W1 → Rd i W1 → C i vs → YieldAt Fence.wide 0 P l vs W1 fun e W'=>(e = .returned (.bool true) ∧ KG p W1 W' ∧ Rd (i + 1) W') ∨ (e = .returned (.bool false) ∧ Rx W')) →
   Rd 0 W → CallsIn Fence.wide 0 P gf (#[.func (.yield l) #[] #[]] ++ lb) W fun e W'=>(∃ v,e = .returned v) ∧ ((KG p wE W' ∧ Rd N W') ∨ Rx W'))
  (hA : ∀ b vs W o,wE.heap.size + 2 ≤ b → AF b vs W → AF b vs (W.putObj (wE.heap.size + 1) o)) (hJp : ∀ i W o b,b = wE.heap.size ∨ b = wE.heap.size + 1 → J i W → J i (W.putObj b o)) (hJg : ∀ i u v,A3 u v → J i u → J i v) (h0 : J 0 wE)
  (hassign : ∀ (l i : Nat) (vs : Array Value) (W : World) (K : Act → World → Prop),C i vs → (∀ b W2,A3 W W2 → W.heap.size ≤ b → AF b vs W2 → K (a₁ vs b) W2) → assign.wpIn (Fence.wide.inRound l) 0 P (Exit.then K (fun _ _ _=>False)) { tmps:=(ps.zip vs).foldl (fun t (p,v)=>t.setIfInBounds p v) a.tmps,defers:=[] } W)
  (hbody : ∀ (l i : Nat) (vs : Array Value) (b : Nat) (W : World),i < N → J i W → KG p wE W → wE.heap.size + 2 ≤ b → AF b vs W → C i vs → body.wpIn (Fence.wide.inRound l) 0 P (A9E p J i W) (a₁ vs b) W)
  (hdone : ∀ W,KG p wE W → J N W → W.heap[wE.heap.size]? = some (.deferred (some [])) → Q .normal { a with defers:={ target:=.collected wE.heap.size,args:=#[] } :: a.defers } W) :
  (Code.rangeFunc g ps assign body).wpIn Fence.wide 0 P Q a wE:=A8S hg eg p p (fun _ _=>True) (fun d=>⟨hpD d,trivial⟩) (fun r=>⟨hpL r,trivial⟩) N C J a₁ AF hcs (fun l Rd Rx W h1 h2 h3 h4 h5 h6=>it l Rd Rx W h1 h2 (fun i u v hg=>h3 i u v (KG.ofGrow hg)) (fun u v hg=>h4 u v (KG.ofGrow hg)) h5 h6) hA hJp (fun i u v hg=>hJg i u v hg.all) h0 hassign hbody hdone
theorem A2z {W : World} {b k : Nat} {t : TypeId} {cs : Array Value} {o : Obj} (h : Blk W b t cs) (hk : b ≠ k) : Blk (W.putObj k o) b t cs:=(World.putObj_heap_other hk).trans h
theorem A1u {u u' : World} {b i : Nat} {vs : List Value} (hu : F1 u b i vs = u') : u.grownBy u' (some b):=by
 subst hu;exact A5w b vs i u
theorem A8J {F : Fence} {n : Nat} {P : Program} {c : Code} {Q : Exit → Act → World → Prop} {a : Act} {W : World} (h : ∀ u,A3 W u → c.wpIn F n P Q a u) : c.wpIn F n P Q a W:=h W (A3.refl W)
theorem B5Z (l : List Rat) (A : Option Addr) (n c b1 bb : Nat) (w wE : World) (hw : A3 w wE) (hbb : w.heap.size ≤ bb) (hL : Lq w A l) (hl : l.length = n) (hm : n ≤ 1048576) (hb : Blk wE b1 23 #[.slice A n c]) (hne : b1 ≠ bb) (lp : Nat) (Rd : Nat → World → Prop) (Rx : World → Prop) (W : World) (hGW : KO bb wE W) (hRd : ∀ i u v,A3 u v → Rd i u → Rd i v) (hRx : ∀ u v,A3 u v → Rx u → Rx v)
  (hY : ∀ i vs W1,i < n → KO bb wE W1 → Rd i W1 → vs = #[.int .i64 ((n - 1 - i : Nat) : Int),qV (gq l (n - 1 - i))] → YieldAt Fence.wide 0 Tryz.prog lp vs W1 fun e W'=>(e = .returned (.bool true) ∧ KO bb W1 W' ∧ Rd (i + 1) W') ∨ (e = .returned (.bool false) ∧ Rx W')) (h0 : Rd 0 W) :
  CallsIn Fence.wide 0 Tryz.prog 127 (#[.func (.yield lp) #[] #[]] ++ #[.pointer (some ⟨b1,0,none⟩)]) W fun e W'=>(∃ v,e = .returned v) ∧ ((KO bb wE W' ∧ Rd n W') ∨ Rx W'):=by
 refine callsIn_wide.2 (callsIn_wide (n:=1).1 ?_)
 refine callsIn_of_wp Tryz.func127 rfl trivial ?_ rfl
 have hbl : ∀ V,KO bb wE V → V.cell? ⟨b1,0,none⟩ = some (.slice A n c) ∧ V.frozen? ⟨b1,0,none⟩ = false:=fun V hg=>by
  have hb2 : Blk V b1 23 #[.slice A n c]:=hg.keep _ _ hne hb
  exact ⟨by rw [hb2.cell 0];rfl,hb2.frozen 0⟩
 have hrd : ∀ i,i < n → ∃ b o,A = some ⟨b,o,none⟩ ∧ ∀ V,KO bb wE V → Cq V b (o + i * 5) (gq l i):=fun i hi=>by
  obtain ⟨b,o,e⟩:=hL.addr (by omega)
  subst e
  exact ⟨b,o,rfl,fun V hg=>(hL.grow (((KG.ofGrow hw).trans hg).grow hbb)).read (by omega)⟩
 have HY:=Lib.hid hY
 have Hbl:=Lib.hid hbl
 have Hrd:=Lib.hid hrd
 clear hY hb hbl hrd hL hl
 simp only [Tryz.ntmps127,List.size_toArray,List.length_cons,List.length_nil,Nat.reduceAdd,Nat.reduceSub,Array.replicate_succ,Array.replicate_zero,List.push_toArray,List.append_toArray,List.nil_append,List.cons_append]
 obtain ⟨q0,q1⟩:=Hbl.out W hGW
 have fw : IntKind.i64.wrap ((n : Int) - 1) = (n : Int) - 1:=IntWalk.i64_in _ (by omega)
 gi_wp2
 clear q0 q1
 gi_loopw [3] (fun s0 wr=>∃ i : Nat,i ≤ n ∧ s0 = .int .i64 ((n : Int) - 1 - (i : Int)) ∧ KO bb wE wr ∧ Rd i wr) (fun s0 _=>(intOf s0 + 1).toNat)
 case atStart=>exact ⟨0,Nat.zero_le _,by simp,hGW,h0⟩
 case round =>
  clear hGW h0
  obtain ⟨i,hi,rfl,hGW,h0⟩:=hrel
  rcases Nat.lt_or_ge i n with hlt | hge
  ·obtain ⟨k,hk⟩ : ∃ k,k = n - 1 - i:=⟨_,rfl⟩
   have hki : (n : Int) - 1 - (i : Int) = (k : Int):=by omega
   rw [hki]
   have hkn : (k : Int) < (n : Int):=by omega
   have hdec : decide ((k : Int) ≥ (0 : Int)) = true:=by simp
   have fw2 : IntKind.i64.wrap ((k : Int) - 1) = (k : Int) - 1:=IntWalk.i64_in _ (by omega)
   obtain ⟨b,o,rfl,hrd⟩:=Hrd.out k (by omega)
   obtain ⟨q0,q1⟩:=Hbl.out wr hGW
   obtain ⟨fn,tmps,assign,body,hy,hRd3⟩:=HY.out i _ wr hlt hGW h0 rfl
   rw [← hk] at hy
   obtain ⟨X,hX⟩ : ∃ X,X = gq l k:=⟨_,rfl⟩
   simp only [← hX] at hrd hy
   obtain ⟨x1,x2,x3,x4,x5⟩:=hrd wr hGW
   have Hk:=Lib.hid hk
   clear hX hk hki hrd
   gi_wp2
   refine hRd3.mono ?_
   rintro e W3 (⟨rfl,hg4,hrd⟩ | ⟨rfl,hx⟩)
   ·gi_wp2
    go_roundw
    case rel=>exact ⟨i + 1,by omega,by have e9:=Hk.out;congr 1;omega,hGW.trans hg4,hrd⟩
    case measure=>have e9:=Hk.out;simp [intOf] <;> omega
   ·gi_wp2
    refine bodyPost_ret (results_none rfl _ _ _) rfl ?_
    exact ⟨⟨_,rfl⟩,.inr hx⟩
  ·obtain rfl : n = i:=by omega
   have f35 : (n : Int) - 1 - (n : Int) = -1:=by omega
   rw [f35]
   clear f35 hge hi
   gi_wp2
   go_end0
   exact ⟨⟨_,rfl⟩,.inl ⟨hGW,h0⟩⟩
attribute [local go_sem] Oper.semAt_some
def P4 (l : List Rat) (x : Rat) : Nat → Rat
 | 0=>0
 | s + 1=>I7 (E2 (P4 l x s) x) (gq l (l.length - 1 - s))
def atQ (l : List Rat) (x : Rat) : Rat:=P4 l x l.length
theorem B11 (A : Option Addr) (n c : Nat) (w : World) : Calls Tryz.prog 69 #[.slice A n c] w (I1 (fun b : Nat=>.func (.func 127) #[] #[.pointer (some ⟨b,0,none⟩)]) (fun b W=>w.heap.size ≤ b ∧ Blk W b 23 #[.slice A n c]) w):=by
 go_enter Tryz.func69,Tryz.ntmps69
 refine en1 ?_
 intro u hG b1 hB hF
 refine r0T ?_
 refine rt Tryz.results69 ?_
 exact ⟨b1,rfl,⟨hF.1 b1 (by simp),hB.head⟩,hG⟩
theorem B1Q (A : Option Addr) (l : List Rat) (n c : Nat) (x : Rat) (hl : l.length = n) (hm : n ≤ 1048576) (Z : Nat) (hs : ∀ y ∈ l,qs y ≤ Z) (hx : qs x ≤ Z) (hZ : ∀ i,i ≤ n → qs (P4 l x i) ≤ Z) (hBZ : 8 * Z + 10 ≤ BIG) (w : World) (h : Lq w A l) (HT : Tab w) :
  Calls Tryz.prog 20 #[.slice A n c,qV x] w fun e w'=>e = .returned (qV (atQ l x)) ∧ A3 w w':=by
 have hst : ∀ i,i < n → ∃ X E Q : Rat,X = gq l (n - 1 - i) ∧ Q = P4 l x (i + 1) ∧ (∀ W,Tab W → Calls Tryz.prog 16 #[qV (P4 l x i),qV x] W fun e w'=>e = .returned (qV E) ∧ A3 W w') ∧ (∀ W,Tab W → Calls Tryz.prog 54 #[qV E,qV X] W fun e w'=>e = .returned (qV Q) ∧ A3 W w'):=fun i hi=>by
  have z1:=hZ i (by omega)
  have z2:=P3 hs (i:=n - 1 - i) (by omega)
  have z3:=A1M (P4 l x i) x
  refine ⟨_,_,_,rfl,rfl,fun W hT=>A2N _ _ W (by omega) hT,fun W hT=>?_⟩
  have e : P4 l x (i + 1) = I7 (E2 (P4 l x i) x) (gq l (n - 1 - i)):=by rw [← hl];rfl
  rw [e]
  exact A31 _ _ W (by unfold E2;omega) hT
 unfold atQ
 rw [hl]
 obtain ⟨H,hH⟩ : ∃ H,H = P4 l x:=⟨_,rfl⟩
 have hH0 : H7 (H 0) = #[.bool false,.int .u64 0,.string ⟨#[]⟩,.int .u64 0,.string ⟨#[]⟩]:=by rw [hH];show H7 (0 : Rat) = _;kernel_rfl
 rw [← hH]
 simp only [← hH] at hst
 have Hst:=Lib.hid hst
 have HH0:=Lib.hid hH0
 have HL:=Lib.hid h
 clear hst hH hH0 hZ hs hx hBZ h
 refine (callsIn_wide (n:=0)).1 (callsIn_of_wp_marks Tryz.func20 rfl trivial (wpIn_wide.2 ?_) rfl)
 simp only [Tryz.ntmps20,List.size_toArray,List.length_cons,List.length_nil,Nat.reduceAdd,Nat.reduceSub,Array.replicate_succ,Array.replicate_zero,List.push_toArray,List.append_toArray,List.nil_append,List.cons_append]
 refine en2 ?_
 intro u hG b4 b3 hB hF
 refine wp_seq (rsE A5 [2] hB hG fun L hL=>?_)
 refine gaa (O4 _ _ _ _ _) fun b5 hb5 hn5=>?_
 replace hF:=hF.n1 [] hB hG hb5 hn5
 refine geT hL ?_
 clear hB hG hL L
 rintro u ⟨⟨-,hB,hG,-⟩,h5⟩
 replace hB:=hB.cons' h5
 clear h5
 clear hb5 hn5
 refine wp_seq ?_
 refine wp_seq (rsE A5 [0,1] hB hG fun L hL=>?_)
 refine gs ?_
 refine gxd (X:=Nat) (fun b : Nat=>.func (.func 127) #[] #[.pointer (some ⟨b,0,none⟩)]) (fun b W=>w.heap.size ≤ b ∧ Blk W b 23 #[.slice A n c]) (fun x u u' hg h=>⟨h.1,Blk.grow hg h.2⟩) (fun x9=>?_) (C:=by (rintro v ⟨hgu,hB,hG,-⟩;exact (B11 A n c _).mono fun e W ⟨b,g1,g2,g3⟩=>⟨b,g1,⟨Nat.le_trans hG.size g2.1,g2.2⟩,g3⟩))
 refine geT hL ?_
 clear hB hG hL L
 rintro u ⟨⟨-,hB,hG,-⟩,hx9⟩
 refine wp_block ?_
 refine (wpIn_wide (n:=0)).1 ?_
 obtain ⟨wE,hwE⟩ : ∃ x,x = u:=⟨_,rfl⟩
 rw [← hwE] at hB hG hx9 ⊢
 clear hwE
 have hlt : b5 < wE.heap.size ∧ b3 < wE.heap.size ∧ b4 < wE.heap.size:=⟨hB.head.lt,hB.tail.head.lt,hB.tail.tail.head.lt⟩
 have hw3 : w.heap.size ≤ b5 ∧ w.heap.size ≤ b3 ∧ w.heap.size ≤ b4:=⟨hF.1 b5 (by simp),hF.1 b3 (by simp),hF.1 b4 (by simp)⟩
 have h53 : b3 ≠ b5:=hF.ne 1 0 rfl rfl (by omega)
 have h54 : b4 ≠ b5:=hF.ne 2 0 rfl rfl (by omega)
 have h34 : b3 ≠ b4:=hF.ne 1 2 rfl rfl (by omega)
 have h95 : x9 ≠ b5:=fun e=>by
  have h1:=hx9.2
  rw [e] at h1
  have h:=Option.some.inj (h1.symm.trans hB.head)
  injection h with h8 h9
  exact absurd h9 (by decide)
 obtain ⟨J,hJe⟩ : ∃ J : Nat → World → Prop,J = fun i W=>Blk W b5 39 (H7 (H i)):=⟨_,rfl⟩
 have hJ0 : J 0 wE:=by rw [hJe];show Blk wE b5 39 (H7 (H 0));rw [HH0.out];exact hB.head
 have hJp : ∀ i W o b,b = wE.heap.size ∨ b = wE.heap.size + 1 → J i W → J i (W.putObj b o):=fun i W o b hb h=>by
  rw [hJe] at h ⊢
  exact A2z h (by omega)
 have hJg : ∀ i u v,A3 u v → J i u → J i v:=fun i u v hg h=>by
  rw [hJe] at h ⊢
  exact Blk.grow hg h
 have HJe:=Lib.hid hJe
 have Hlt:=Lib.hid hlt
 have Hw3:=Lib.hid hw3
 have HGE:=Lib.hid hG
 have HBE:=Lib.hid hB
 have Hhh:=Lib.hid (And.intro h53 (And.intro h54 h34))
 clear hJe
 refine B7I (gf:=127) (lb:=#[.pointer (some ⟨x9,0,none⟩)]) rfl (enters_of Tryz.func127 (by kernel_rfl) rfl) (fun k _=>k ≠ b5) (fun _=>by omega) (fun _=>by omega) n (fun i vs=>vs = #[.int .i64 ((n - 1 - i : Nat) : Int),qV (gq l (n - 1 - i))]) J (fun vs b=>{ tmps:=#[.slice A n c,qV x,undef,.pointer (some ⟨b3,0,none⟩),.pointer (some ⟨b4,0,none⟩),.pointer (some ⟨b5,0,none⟩),undef,.pointer (some ⟨b,0,none⟩),.slice A n c,.func (.func 127) #[] #[.pointer (some ⟨x9,0,none⟩)],vs[0]!,vs[1]!,undef,undef,undef,undef,undef,undef],defers:=[] }) (fun b vs W=>∃ cs,vs[1]! = .agg cs ∧ Blk W b 39 cs) (fun i vs e=>by rw [e];rfl) (fun lp Rd Rx W h1 h2 h3 h4 h5 h6=>B5Z l A n c x9 b5 w wE hG hw3.1 HL.out hl hm hx9.2 h95 lp Rd Rx W h1 h3 h4 h5 h6) ?hA hJp hJg hJ0 ?assign ?body ?done
 case hA =>
  rintro b vs W o hb ⟨cs,e,hk⟩
  exact ⟨cs,e,A2z hk (by omega)⟩
 case assign =>
  rintro lp i vs W K rfl hK
  gi_wp2
  exact hK W.heap.size _ (A3.alloc W _) (Nat.le_refl _) ⟨_,rfl,Blk.new W 39 _⟩
 case body =>
  rintro lp i vs b7 W hi hJ hgW hsz ⟨cs,e7,hk7⟩ rfl
  injection e7 with e7
  subst e7
  rw [HJe.out] at hJ
  obtain ⟨m1,m2,m3⟩:=Hlt.out
  obtain ⟨n1,n2,n3⟩:=Hw3.out
  obtain ⟨h53,h54,h34⟩:=Hhh.out
  have hk3 : Blk W b3 39 (H7 x):=hgW.keep _ _ h53 HBE.out.tail.head
  have hk4:=hgW.keep _ _ h54 HBE.out.tail.tail.head
  refine A8J fun u hg0=>?_
  have hG : A3 w u:=(((KG.ofGrow HGE.out).trans hgW).grow n1).trans hg0
  have hB : Bx u [(b7,39,H7 (gq l (n - 1 - i))),(b5,39,H7 (H i)),(b3,39,H7 x),(b4,39,#[.bool false,.int .u64 0,.string ⟨#[]⟩,.int .u64 0,.string ⟨#[]⟩])]:=Bx.cons (Blk.grow hg0 hk7) (Bx.cons (Blk.grow hg0 hJ) (Bx.cons (Blk.grow hg0 hk3) (Bx.cons (Blk.grow hg0 hk4) (Bx.nil u))))
  have hF : Fr w [b7,b5,b3,b4]:=⟨fun b hb=>by
   simp only [List.mem_cons,List.not_mem_nil,or_false] at hb
   rcases hb with rfl | rfl | rfl | rfl <;> omega,by
   simp only [List.nodup_cons,List.mem_cons,List.not_mem_nil,or_false,not_or,not_false_eq_true,List.nodup_nil,and_true]
   exact ⟨⟨by omega,by omega,by omega⟩,⟨fun e=>h53 e.symm,fun e=>h54 e.symm⟩,h34⟩⟩
  obtain ⟨X,E,Q,hX,hQ,hml,had⟩:=Hst.out i hi
  rw [← hX] at hB ⊢
  obtain ⟨Y,hY⟩ : ∃ Y,Y = H i:=⟨_,rfl⟩
  rw [← hY] at hB
  simp only [← hY] at hml
  have HQ:=Lib.hid hQ
  have Hml:=Lib.hid hml
  have Had:=Lib.hid had
  clear hX hQ hml had hY hJ hk3 hk4 hk7 hgW m1 m2 m3 n1 n2 n3 h53 h54 h34
  refine wpIn_block ?_
  refine B3e A5 [] [(0,0),(0,1),(0,3),(1,2),(1,4)] hB hG fun K L hN hL=>?_
  repeat first | refine gya ?_ | refine gyr ?_ | refine gna ?_ | refine gyb (by (rintro v ⟨hgu,hB,hG,-⟩ N hN;have r:=hB.r;simp only [BxR] at r;skip;go_simp;exact hN)) ?_
  refine gmd (C:=fun v ⟨hgu,hB,hG,_⟩=>Hml.out _ (HT.grow hG)) ?_
  refine gmd (C:=fun v ⟨hgu,hB,hG,_⟩=>Had.out _ (HT.grow hG)) ?_
  refine geC hL ?_
  clear hB hG hL L
  rintro u ⟨hgu,hB,hG,-⟩
  replace hg0:=hg0.trans hgu
  clear hgu
  refine gt ?_
  clear hN K
  refine sv hB hF hG 1 0 [_,_,_,_,_] ?_
  intro u2 hu hBG
  have hKO : KO b5 W u2:=(KG.ofGrow hg0).trans (KO.by (A1u hu))
  clear hB hG hu hg0
  obtain ⟨hB,hG⟩:=hBG
  obtain ⟨u,rfl⟩ : ∃ x,x = u2:=⟨_,rfl⟩
  refine D5 ?_
  exact ⟨hKO,by rw [HJe.out];show Blk u b5 39 (H7 (H (i + 1)));rw [← HQ.out];exact hB.tail.head⟩
 case done =>
  intro W hgW hJ hK
  rw [HJe.out] at hJ
  obtain ⟨u,hu⟩ : ∃ x,x = W:=⟨_,rfl⟩
  rw [← hu] at hJ hK hgW ⊢
  clear hu
  obtain ⟨n1,n2,n3⟩:=Hw3.out
  obtain ⟨h53,h54,h34⟩:=Hhh.out
  have hk3 : Blk u b3 39 (H7 x):=hgW.keep _ _ h53 HBE.out.tail.head
  have hk4:=hgW.keep _ _ h54 HBE.out.tail.tail.head
  have hG : A3 w u:=((KG.ofGrow HGE.out).trans hgW).grow n1
  have hB : Bx u [(b5,39,H7 (H n)),(b3,39,H7 x),(b4,39,#[.bool false,.int .u64 0,.string ⟨#[]⟩,.int .u64 0,.string ⟨#[]⟩])]:=Bx.cons hJ (Bx.cons hk3 (Bx.cons hk4 (Bx.nil u)))
  have hF : Fr w [b5,b3,b4]:=⟨fun b hb=>by
   simp only [List.mem_cons,List.not_mem_nil,or_false] at hb
   rcases hb with rfl | rfl | rfl <;> omega,by
   simp only [List.nodup_cons,List.mem_cons,List.not_mem_nil,or_false,not_or,not_false_eq_true,List.nodup_nil,and_true]
   exact ⟨⟨fun e=>h53 e.symm,fun e=>h54 e.symm⟩,h34⟩⟩
  obtain ⟨Y,hY⟩ : ∃ Y,Y = H n:=⟨_,rfl⟩
  rw [← hY] at hB ⊢
  clear hJ hk3 hk4 hgW n1 n2 n3 h53 h54 h34 hY
  have HK:=Lib.hid hK
  clear hK
  refine D5 ?_
  refine A4 ?_
  refine r0T ?_
  have hbk:=hB.tail.tail.head
  refine sv hB hF hG 2 0 [_,_,_,_,_] ?_
  intro u2 hu hBG
  have HK2:=Lib.hid (((A1u hu).block _ (R6 HK.out) (fun e=>by have := Option.some.inj e;have := Hlt.out.2.2;omega)).trans HK.out)
  clear hB hG hu hbk HK
  have HK:=HK2
  clear HK2
  obtain ⟨hB,hG⟩:=hBG
  obtain ⟨u,rfl⟩ : ∃ x,x = u2:=⟨_,rfl⟩
  refine wp_ret ?_
  have hws : w.heap.size ≤ wE.heap.size:=HGE.out.size
  have hB2 : Bx (u.putObj wE.heap.size (.deferred none)) [(b4,39,H7 Y)]:=Bx.cons (A2z hB.tail.tail.head (Nat.ne_of_lt Hlt.out.2.2)) (Bx.nil _)
  refine ⟨by simp,.inl ⟨_,_,rfl,run_takeDeferred HK.out,?_⟩⟩
  have r:=hB2.r
  simp only [BxR] at r
  refine ⟨qV Y,?_,rfl,A9G hG hws⟩
  simp only [results,Tryz.results20]
  go_simp
end Go.Proofs.YtlkniebmjdoopaaGreatDoor
namespace Go.Proofs.YtlkniebmjdoopaaGreatDoor
open Go Go.RowKit
abbrev spV (lo hi : Rat) : Value:=.agg #[.bool (D2 lo.num),.int .u64 (B3 lo.num.natAbs),.string (A8 lo.num.natAbs),.int .u64 (B3 (H9 lo.den)),.string (A8 (H9 lo.den)),.bool (D2 hi.num),.int .u64 (B3 hi.num.natAbs),.string (A8 hi.num.natAbs),.int .u64 (B3 (H9 hi.den)),.string (A8 (H9 hi.den))]
theorem B13 (d : Option Tmp) (ty : TypeId) (pos : String) (af : Array Edge) (gd : Option (Nat × Bool)) : O3 Tryz.prog ⟨d,.alloc 48,ty,pos,af,gd⟩ = .cells #[.bool false,.int .u64 0,.string ⟨#[]⟩,.int .u64 0,.string ⟨#[]⟩,.bool false,.int .u64 0,.string ⟨#[]⟩,.int .u64 0,.string ⟨#[]⟩] 48:=by kernel_rfl
theorem A3S (d : Option Tmp) (ty : TypeId) (pos : String) (af : Array Edge) (gd : Option (Nat × Bool)) : O3 Tryz.prog ⟨d,.alloc 152,ty,pos,af,gd⟩ = .cells #[.bool false,.int .u64 0,.string ⟨#[]⟩,.int .u64 0,.string ⟨#[]⟩,.bool false,.int .u64 0,.string ⟨#[]⟩,.int .u64 0,.string ⟨#[]⟩,.int .i64 0,.int .i64 0] 152:=by kernel_rfl
theorem A85 (d : Option Tmp) (ty : TypeId) (pos : String) (af : Array Edge) (gd : Option (Nat × Bool)) : O3 Tryz.prog ⟨d,.alloc 27,ty,pos,af,gd⟩ = .cells #[.slice none 0 0] 27:=by kernel_rfl
theorem M1 : ∀ t ∈ [39,48,152,27],N5 Tryz.prog t:=by
 intro t ht
 simp only [List.mem_cons,List.not_mem_nil,or_false] at ht
 rcases ht with rfl | rfl | rfl | rfl
 ·exact A5 _ (by simp)
 ·exact fun _ _ _ _ _ _=>by rw [B13];kernel_rfl
 ·exact fun _ _ _ _ _ _=>by rw [A3S];kernel_rfl
 ·exact fun _ _ _ _ _ _=>by rw [A85];kernel_rfl
def Y9 (l : List Rat) : Int:=if trN l = 0 then 6 else if 25 < trN l then 4 else 0
theorem A3v (A : Option Addr) (l : List Rat) (n c : Nat) (hl : l.length = n) (hc : n ≤ c) (hm : n ≤ 1048576) (hs : ∀ x ∈ l,qs x ≤ BIG) (w : World) (h : Lq w A l) :
  Calls Tryz.prog 50 #[.slice A n c] w fun e w'=>e = .returned (.int .i64 (Y9 l)) ∧ A3 w w':=by
 have hdg:=fun W (hg : A3 w W)=>A2K A l n c hl hc hm hs W (h.grow hg)
 have hle : trN l ≤ 1048576:=by have := H8 l;omega
 obtain ⟨D,hD⟩ : ∃ D : Int,D = (trN l : Int) - 1:=⟨_,rfl⟩
 simp only [← hD] at hdg
 have hr : Y9 l = if D < 0 then 6 else if D > 24 then 4 else 0:=by
  unfold Y9
  by_cases h0 : trN l = 0
  ·rw [if_pos h0,if_pos (show D < 0 by omega)]
  ·rw [if_neg h0,if_neg (show ¬ D < 0 by omega)]
   by_cases h1 : 25 < trN l
   ·rw [if_pos h1,if_pos (show D > 24 by omega)]
   ·rw [if_neg h1,if_neg (show ¬ D > 24 by omega)]
 rw [hr]
 have Hdg:=Lib.hid hdg
 clear hdg hD hle hr hs h hl hc hm
 go_enter Tryz.func50,Tryz.ntmps50
 refine en0 ?_
 intro u hG hB hF
 refine wp_seq ?_
 refine wp_seq (rsE A5 [0,1,0] hB hG fun L hL=>?_)
 refine gs ?_
 refine gmd (C:=fun v ⟨hgu,hB,hG,_⟩=>Hdg.out _ hG) ?_
 refine gs ?_
 refine geT hL ?_
 clear hB hG hL L
 rintro u ⟨-,hB,hG,-⟩
 refine wp_block ?_
 rcases Int.lt_or_le D 0 with h0 | h0
 ·have f1 : decide (D < 0) = true:=decide_eq_true h0
  rw [if_pos h0]
  refine r0T ?_
  refine wp_cond_true (rfl) ?_
  refine r0T ?_
  refine rt Tryz.results50 ?_
  exact ⟨rfl,hG⟩
 ·have f1 : decide (D < 0) = false:=decide_eq_false (by omega)
  rw [if_neg (show ¬ D < 0 by omega)]
  rcases Int.lt_or_le 24 D with h1 | h1
  ·have f2 : decide (D > 24) = true:=decide_eq_true h1
   rw [if_pos (show D > 24 from h1)]
   refine r0T ?_
   refine wp_cond_false (rfl) ?_
   refine r0T ?_
   refine wp_cond_true (rfl) ?_
   refine r0T ?_
   refine rt Tryz.results50 ?_
   exact ⟨rfl,hG⟩
  ·have f2 : decide (D > 24) = false:=decide_eq_false (by omega)
   rw [if_neg (show ¬ D > 24 by omega)]
   refine r0T ?_
   refine wp_cond_false (rfl) ?_
   refine r0T ?_
   refine wp_cond_false (rfl) ?_
   refine wp_skip ?_
   refine D5 ?_
   refine A4 ?_
   refine r0T ?_
   refine rt Tryz.results50 ?_
   exact ⟨rfl,hG⟩
def E9 (lo hi : Rat) : Rat:=M0 (I7 lo hi) (B1 2)
theorem B5A (lo hi : Rat) (Z : Nat) (h1 : qs lo ≤ Z) (h2 : qs hi ≤ Z) (hB : 8 * Z + 100 ≤ BIG) (w : World) (HT : Tab w) : Calls Tryz.prog 113 #[spV lo hi] w fun e w'=>e = .returned (qV (E9 lo hi)) ∧ A3 w w':=by
 have had:=fun (W : World) (hT : Tab W)=>A31 lo hi W (by omega) hT
 have z1:=B4j lo hi
 have z2 : qs (B1 2) ≤ 2:=by decide
 have hdv:=fun (W : World) (hT : Tab W)=>A2y (a:=I7 lo hi) (b:=B1 2) (w:=W) (by unfold I7;omega) hT
 unfold E9
 obtain ⟨S,hS⟩ : ∃ S,S = I7 lo hi:=⟨_,rfl⟩
 rw [← hS]
 simp only [← hS] at had hdv
 obtain ⟨M,hM⟩ : ∃ M,M = M0 S (B1 2):=⟨_,rfl⟩
 rw [← hM]
 simp only [← hM] at hdv
 obtain ⟨ok,hok⟩ : ∃ x,x = nzq (B1 2):=⟨_,rfl⟩
 simp only [← hok] at hdv
 have Had:=Lib.hid had
 have Hdv:=Lib.hid hdv
 clear had hdv hS hM hok z1 z2 h1 h2 hB
 go_enter Tryz.func113,Tryz.ntmps113
 refine en2 ?_
 intro u hG b2 b1 hB hF
 refine wp_seq (rsC M1 [0,0,0,0,1,1,1,0,0,0,2] hB hG fun K L hN hL=>?_)
 refine gs ?_
 refine gmd (C:=fun v ⟨hgu,hB,hG,_⟩=>Had.out _ (HT.grow hG)) ?_
 refine gmw (C:=fun v=>Y8 2 (by omega) (by omega) _) ?_
 refine gmd (C:=fun v ⟨hgu,hB,hG,_⟩=>Hdv.out _ (HT.grow hG)) ?_
 refine gs ?_
 refine gaa (O4 _ _ _ _ _) fun b3 hb3 hn3=>?_
 replace hF:=hF.n1 [] hB hG hb3 hn3
 refine geC hL ?_
 clear hB hG hL L
 rintro u ⟨⟨-,hB,hG,-⟩,h3⟩
 replace hB:=hB.cons' h3
 clear h3
 clear hb3 hn3
 refine gtT ?_
 clear hN K
 refine st hB hF hG 0 0 [_,_,_,_,_] ?_
 clear hB hG
 intro u hB hG
 refine r0T ?_
 refine st hB hF hG 2 0 [_,_,_,_,_] ?_
 clear hB hG
 intro u hB hG
 refine rt Tryz.results113 ?_
 exact ⟨rfl,hG⟩
def A0u (l : List Rat) (x : Rat) : Prop:=l.length ≤ 1000 ∧ ∃ Z,(∀ y ∈ l,qs y ≤ Z) ∧ qs x ≤ Z ∧ (∀ i,i ≤ l.length → qs (P4 l x i) ≤ Z) ∧ 8 * Z + 10 ≤ BIG
def sgQ (l : List Rat) (x : Rat) : Int:=(atQ l x).num.sign
theorem B0t {l : List Rat} {x : Rat} (h : A0u l x) (W : World) (A : Ax) (hl : Lq W A.1 l) (HT : Tab W) : Calls Tryz.prog 20 #[.slice A.1 l.length A.2,qV x] W fun e w'=>e = .returned (qV (atQ l x)) ∧ A3 W w':=by
 obtain ⟨h0,Z,h1,h2,h3,h4⟩:=h
 exact B1Q A.1 l l.length A.2 x rfl (by omega) Z h1 h2 h3 h4 W hl HT
theorem A91 {l : List Rat} {x : Rat} (h : A0u l x) (W : World) : Calls Tryz.prog 21 #[qV (atQ l x)] W fun e w'=>e = .returned (.int .i64 (sgQ l x)) ∧ A3 W w':=by
 obtain ⟨h0,Z,h1,h2,h3,h4⟩:=h
 exact T9 _ (by have h5:=h3 l.length (Nat.le_refl _);have h6:=F7 (atQ l x);unfold atQ at h6 ⊢;have h7:=K8;omega) W
end Go.Proofs.YtlkniebmjdoopaaGreatDoor
