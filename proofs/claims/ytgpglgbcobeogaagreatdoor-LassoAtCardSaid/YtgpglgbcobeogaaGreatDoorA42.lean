/- Contracts and laws. -/
import Derived.Test.YtgpglgbcobeogaaGreatDoorA41
set_option linter.unusedSimpArgs false
set_option linter.unusedVariables false
set_option maxHeartbeats 16000000
set_option maxRecDepth 100000
namespace Go.Proofs.YtgpglgbcobeogaaGreatDoor
open Go Go.RowKit Go.Shelf
attribute [local go_sem] Oper.semAt_some
theorem B1I (n : Nat) (w : World) : Calls Tryz.prog 60 #[.int .i64 (n : Nat)] w (G7 (fun b : Nat=>.func (.func 127) #[] #[.pointer (some ⟨b,0,none⟩)]) (fun b W=>Blk W b 3 #[.int .i64 (n : Nat)]) w):=by
 go_enter Tryz.func60,Tryz.ntmps60
 refine en1 ?_
 intro u hG b1 hB hF
 refine r0T ?_
 refine rt Tryz.results60 ?_
 exact ⟨b1,rfl,hB.head,hG⟩
theorem A2h {W : World} {b k : Nat} {t : TypeId} {cs : Array Value} {o : Obj} (h : Blk W b t cs) (hk : b ≠ k) : Blk (W.putObj k o) b t cs:=(World.putObj_heap_other hk).trans h
theorem A7R {W : World} {b k : Nat} {l : List Rat} {o : Obj} (h : Lq W (some ⟨b,0,none⟩) l) (hk : b ≠ k) : Lq (W.putObj k o) (some ⟨b,0,none⟩) l:=by
 have hc : ∀ off,(W.putObj k o).cell? ⟨b,off,none⟩ = W.cell? ⟨b,off,none⟩:=fun off=>by
  unfold World.cell?
  rw [World.putObj_heap_other hk]
 intro hne
 obtain ⟨b',off,e,hb,hrd⟩:=h hne
 cases e
 refine ⟨b,0,rfl,by rw [World.putObj_size];exact hb,?_⟩
 exact fun i q hi j v hj=>(hc _).trans (hrd i q hi j v hj)
theorem A16 {W W' : World} {b k i : Nat} {l : List Rat} {vs : List Value} (h : Lq W (some ⟨b,0,none⟩) l) (hk : b ≠ k) (hu : D5 W k i vs = W') : Lq W' (some ⟨b,0,none⟩) l:=by
 have hg : W.grownBy W' (some k):=by subst hu;exact A0g k vs i W
 intro hne
 obtain ⟨b',off,e,hb,hrd⟩:=h hne
 cases e
 have hc : ∀ off,W'.cell? ⟨b,off,none⟩ = W.cell? ⟨b,off,none⟩:=fun off=>by
  unfold World.cell?
  rw [hg.block b hb (fun e=>hk (Option.some.inj e))]
 exact ⟨b,0,rfl,Nat.lt_of_lt_of_le hb hg.size,fun i q hi j v hj=>(hc _).trans (hrd i q hi j v hj)⟩
theorem B1b {F : Fence} {n : Nat} {P : Program} {c : Code} {Q : Exit → Act → World → Prop} {a : Act} {W : World} (h : ∀ u,A4 W u → c.wpIn F n P Q a u) : c.wpIn F n P Q a W:=h W (A4.refl W)
def Kp2 (D : Nat) (W u : World) : Prop:=u.heap[D]? = W.heap[D]? ∧ u.heap[D + 1]? = W.heap[D + 1]?
theorem Kp2.of {D : Nat} {W u : World} (hg : A4 W u) (hs : D + 2 ≤ W.heap.size) : Kp2 D W u:=⟨hg.block D (by omega),hg.block (D + 1) (by omega)⟩
theorem Kp2.put {D b i : Nat} {W u u' : World} {vs : List Value} (h : Kp2 D W u) (hs : D + 2 ≤ u.heap.size) (hb : b < D) (hu : D5 u b i vs = u') : Kp2 D W u':=by
 have hg : u.grownBy u' (some b):=by subst hu;exact A0g b vs i u
 exact ⟨(hg.block D (by omega) (fun e=>by have := Option.some.inj e;omega)).trans h.1,(hg.block (D + 1) (by omega) (fun e=>by have := Option.some.inj e;omega)).trans h.2⟩
def A4O (X : List (List Rat)) (N L : Nat) : List (List Rat):=(List.range L).map (F7 (A2S X N) L)
abbrev A5L (n : Nat) (GR : List (List Rat)) (PL : List Rat) (sg : List Int) (F B : List Rat) (LM : List Lm) : Prop :=
 ∀ (A : Nat) (bp b : Nat) (rs : List Rq) (W : World),rs.map (·.2.2) = GR → Lrq W (some ⟨A,0,none⟩) rs → Lq W (some ⟨bp,0,none⟩) PL → Blk W b 3 (O8 sg) → Tab W →
  Calls Tryz.prog 61 #[.agg #[.slice (some ⟨A,0,none⟩) n n,.slice (some ⟨bp,0,none⟩) n n],.slice (some ⟨b,0,none⟩) n n] W (G7 (fun z : Ax × Ax × Ax=>.agg #[.slice z.1.1 n z.1.2,.slice z.2.1.1 n z.2.1.2,.slice z.2.2.1 LM.length z.2.2.2]) (fun z W'=>W'.ownsRow W.heap.size 48 5 (.slice z.1.1 n z.1.2) n (F.flatMap qL) ∧ W'.ownsRow W.heap.size 48 5 (.slice z.2.1.1 n z.2.1.2) n (B.flatMap qL) ∧ W'.ownsRow W.heap.size 183 10 (.slice z.2.2.1 LM.length z.2.2.2) LM.length (LM.flatMap lmL)) W)
theorem A9K (d : Nat) {P : Program} {g : Operand} {p0 : Tmp} {assign body : Code} {Q : Exit → Act → World → Prop} {a : Act} {wE : World} {gf : Nat} {lb : Array Value} (hg : a.eval g = .func (.func gf) #[] lb) (eg : ∀ args w,(callFunc gf args).run P w = .ok (.enter gf args) w)
  (N : Nat) (C : Nat → Value → World → Prop) (J : Nat → Prop) (Ix : World → Prop)
  (it : ∀ (l : Nat) (Rd : Nat → World → Prop) (Rx : World → Prop) (W : World),A4 wE W → wE.heap.size + 2 ≤ W.heap.size → (∀ i u v,A4 u v → Rd i u → Rd i v) → (∀ u v,A4 u v → Rx u → Rx v) →
   (∀ i v W1,i < N → A4 wE W1 → Rd i W1 → C i v W1 → YieldAt Fence.wide 0 P l #[v] W1 fun e W'=>(e = .returned (.bool true) ∧ A4 W1 W' ∧ Rd (i + 1) W') ∨ (e = .returned (.bool false) ∧ Rx W')) →
   Rd 0 W → CallsIn Fence.wide 0 P gf (#[.func (.yield l) #[] #[]] ++ lb) W fun e W'=>(∃ v,e = .returned v) ∧ ((A4 wE W' ∧ Rd N W') ∨ Rx W'))
  (hC : ∀ i v W o,C i v W → C i v (W.putObj (wE.heap.size + 1) o)) (hIx : ∀ W o b,b = wE.heap.size ∨ b = wE.heap.size + 1 → Ix W → Ix (W.putObj b o)) (hIg : ∀ u v,A4 u v → Ix u → Ix v) (h0 : J 0)
  (hassign : ∀ (l : Nat) (v : Value) (W : World) (K : Act → World → Prop),K { tmps:=(a.tmps.setIfInBounds p0 v).setIfInBounds d v,defers:=[] } W → assign.wpIn (Fence.wide.inRound l) 0 P (Exit.then K (fun _ _ _=>False)) { tmps:=((#[p0] : Array Tmp).zip #[v]).foldl (fun t (p,v)=>t.setIfInBounds p v) a.tmps,defers:=[] } W)
  (hbody : ∀ (l i : Nat) (v : Value) (W : World),i < N → J i → A4 wE W → wE.heap.size + 2 ≤ W.heap.size → C i v W → body.wpIn (Fence.wide.inRound l) 0 P (A5z wE.heap.size J Ix i W) { tmps:=(a.tmps.setIfInBounds p0 v).setIfInBounds d v,defers:=[] } W)
  (hdone : ∀ W,A4 wE W → J N → W.heap[wE.heap.size]? = some (.deferred (some [])) → Q .normal { a with defers:={ target:=.collected wE.heap.size,args:=#[] } :: a.defers } W)
  (hstop : ∀ W,Ix W → W.heap[wE.heap.size]? = some (.deferred (some [])) → Code.ret.wpIn Fence.wide 0 P Q { a with defers:={ target:=.collected wE.heap.size,args:=#[] } :: a.defers } W) :
  (Code.rangeFunc g #[p0] assign body).wpIn Fence.wide 0 P Q a wE:=B1l hg eg N C J Ix (fun v=>{ tmps:=(a.tmps.setIfInBounds p0 v).setIfInBounds d v,defers:=[] }) it hC hIx hIg h0 hassign hbody hdone hstop
theorem A98 (A : Option Addr) (rs : List Rq) (N Lw c : Nat) (Y : Ax) (y : List Rat) (hn : rs.length = N) (hN1 : 1 ≤ N) (hN2 : N ≤ 300) (hL1 : 1 ≤ Lw) (hL2 : Lw ≤ 6) (hrl : ∀ r ∈ rs,r.2.2.length = Lw) (hy : y.length = N) (s : Nat) (hs1 : 1 ≤ s) (hs : s ≤ 10000) (hX : ∀ i,i < N → ∀ j,j < Lw → qs (gq (B8 (rs.map (·.2.2)) i) j) ≤ s) (hys : ∀ i,i < N → qs (gq y i) ≤ s) (a : Rat) (ha0 : ¬ a.num < 0)
  (hun : (F9 N Lw (H9 (rs.map (·.2.2)),[]) Lw).2.length = Lw)
  (F B : Nat → List Rat) (LM : Nat → List Lm) (z : Nat) (haz : qs a ≤ z) (hz : 4 * z + 10 ≤ BIG) (hFl : ∀ k,k < 3 ^ Lw → (F k).length = Lw ∧ (B k).length = Lw ∧ (LM k).length ≤ 1000) (hFz : ∀ k,k < 3 ^ Lw → (∀ i,i < Lw → qs (gq (F k) i) ≤ z) ∧ (∀ i,i < Lw → qs (gq (B k) i) ≤ z) ∧ ∀ x ∈ LM k,qs x.1 ≤ z ∧ qs x.2 ≤ z)
  (hsv : ∀ k,k < 3 ^ Lw → A5L Lw (A4O (rs.map (·.2.2)) N Lw) (A19 (rs.map (·.2.2)) y N Lw) (I7 Lw k) (F k) (B k) (LM k))
  (kk : Nat) (hk1 : kk < 3 ^ Lw) (hk2 : R0 a (LM kk) = true) (hk3 : ∀ j,j < kk → R0 a (LM j) = false) (w : World) (h : Lrq w A rs) (h2 : Lq w Y.1 y) (HT : Tab w) :
  Calls Tryz.prog 14 #[.slice A N c,.slice Y.1 N Y.2,qV a] w (G7 (fun x : Ax=>.tuple #[.slice x.1 Lw x.2,.int .i64 0]) (fun x W=>Lq W x.1 (A1p (F kk) (B kk) Lw a)) w):=by
 have hBB : 100000000 ≤ BIG:=by unfold BIG;omega
 have hsh:=fun W (hg : A4 w W)=>A33 A Y.1 rs N Lw c Y.2 hn hN1 hN2 (by omega) (by omega) hrl W (h.grow hg)
 have huq:=fun W (hg : A4 w W) (hT : Tab W)=>A9s A rs N Lw c hn hN1 hN2 hL1 hL2 hrl s hs1 hX (by
  have h1 : 10 ^ Lw ≤ 10 ^ 6:=Nat.pow_le_pow_right (by omega) hL2
  have h2 : s * 10 ^ Lw ≤ 10000 * 10 ^ 6:=Nat.mul_le_mul hs h1
  have h3 : 30 * (10000 * 10 ^ 6) ≤ BIG:=by unfold BIG;omega
  omega) W (h.grow hg) hT
 rw [hun] at huq
 simp only [Nat.lt_irrefl,if_false] at huq
 obtain ⟨GR,hGR⟩ : ∃ x,x = A4O (rs.map (·.2.2)) N Lw:=⟨_,rfl⟩
 obtain ⟨PL,hPL⟩ : ∃ x,x = A19 (rs.map (·.2.2)) y N Lw:=⟨_,rfl⟩
 obtain ⟨GM,hGM⟩ : ∃ x,x = A2S (rs.map (·.2.2)) N:=⟨_,rfl⟩
 have hGR2 : GR = (List.range Lw).map (F7 GM Lw):=by rw [hGR,hGM];rfl
 have hpo:=fun W (hg : A4 w W) (hT : Tab W)=>(A9A A rs N Lw c Y y hn hN1 hN2 hL1 (by omega) hrl hy s (by omega) hX hys W (h.grow hg) (h2.grow hg) hT).mono (R':=G7 (fun x : (Nat × (Nat → Nat) × (Nat → Nat)) × Nat=>.agg #[.slice (some ⟨x.1.1,0,none⟩) Lw Lw,.slice (some ⟨x.2,0,none⟩) Lw Lw]) (fun x W'=>MatW w.heap.size Lw Lw x.1.1 Lw x.1.2.1 x.1.2.2 GM W' ∧ W'.ownsRow w.heap.size 48 5 (.slice (some ⟨x.2,0,none⟩) Lw Lw) Lw (PL.flatMap qL)) W) (by
  rintro e w' ⟨x,rfl,⟨g1,g2⟩,hg2⟩
  exact ⟨x,rfl,⟨by rw [hGM];exact g1.mono hg.sz,by rw [hPL];exact g2.mono hg.sz⟩,hg2⟩)
 rw [← hGR,← hPL] at hsv
 have hsg : a.num.sign = (a.num.sign : Int):=rfl
 have hsg2 : decide (a.num.sign < 0) = false:=by
  rw [decide_eq_false_iff_not]
  intro h1
  exact ha0 (Int.sign_eq_neg_one_iff_neg.1 (by
   rcases Int.lt_trichotomy a.num 0 with h3 | h3 | h3
   ·exact Int.sign_eq_neg_one_of_neg h3
   ·rw [h3] at h1;simp at h1
   ·rw [Int.sign_eq_one_of_pos h3] at h1;omega))
 obtain ⟨S,hS⟩ : ∃ S,S = a.num.sign:=⟨_,rfl⟩
 have hfs:=fun (W : World)=>N6 a (by have := F0 a;have := I1;omega) W
 rw [← hS] at hsg2
 simp only [← hS] at hfs
 obtain ⟨bb,ob,P0,eA,hP0⟩:=S8 hn hrl h (i:=0) (by omega)
 have hr0:=fun W hg=>(hP0 W hg).1
 simp only [Nat.add_zero] at hr0
 have hNi : (0 : Int) < (N : Int):=by omega
 have hNn : 0 < N:=by omega
 have fN : decide ((0 : Int) < (N : Int)) = true:=by simp;omega
 have fNn : decide (0 < N) = true:=by simp;omega
 obtain ⟨YA,YC⟩:=Y
 subst eA
 have Hsh:=Lib.hid hsh
 have Huq:=Lib.hid huq
 have Hpo:=Lib.hid hpo
 have Hfs:=Lib.hid hfs
 have Hr0:=Lib.hid hr0
 have Hsv:=Lib.hid hsv
 have HFl:=Lib.hid hFl
 have HFz:=Lib.hid hFz
 have Hk:=Lib.hid (⟨hk1,hk2,hk3⟩ : kk < 3 ^ Lw ∧ R0 a (LM kk) = true ∧ ∀ j,j < kk → R0 a (LM j) = false)
 replace hGR2:=Lib.hid hGR2
 clear hsh huq hpo hfs hr0 hsv hFl hFz hk1 hk2 hk3 hP0 hGR hPL hGM hun hX hys h h2 hrl hy hn hs1 hs ha0 hsg hS
 refine (callsIn_wide (n:=0)).1 (callsIn_of_wp_marks Tryz.func14 rfl trivial (wpIn_wide.2 ?_) rfl)
 simp only [Tryz.ntmps14,List.size_toArray,List.length_cons,List.length_nil,Nat.reduceAdd,Nat.reduceSub,Array.replicate_succ,Array.replicate_zero,List.push_toArray,List.append_toArray,List.nil_append,List.cons_append]
 refine en3 ?_
 intro u hG b7 b6 b5 hB hF
 refine wp_seq ?_
 refine wp_seq (rsE G8 [0,0,1,0] hB hG fun L hL=>?_)
 refine gs ?_
 refine gmd (C:=fun v ⟨hgu,hB,hG,_⟩=>Hsh.out _ hG) ?_
 refine gs ?_
 refine geT hL ?_
 clear hB hG hL L
 rintro u ⟨-,hB,hG,-⟩
 refine wp_cond_false (rfl) ?_
 refine wp_skip ?_
 refine A6 ?_
 refine wp_seq ?_
 refine wp_seq (rsE G8 [0,1,0] hB hG fun L hL=>?_)
 repeat first | refine gya ?_ | refine gyr ?_ | refine gna ?_ | refine gyb (by (rintro v ⟨hgu,hB,hG,-⟩ N hN;have r:=hB.r;simp only [BxR] at r;(first | have q0:=Hr0.out v hG | skip);go_simp;exact hN)) ?_
 refine gmw (C:=fun v=>Hfs.out _) ?_
 refine gs ?_
 refine geT hL ?_
 clear hB hG hL L
 rintro u ⟨-,hB,hG,-⟩
 refine wp_cond_false (rfl) ?_
 refine wp_skip ?_
 refine A6 ?_
 refine wp_seq ?_
 refine wp_seq (rsE G8 [0,1,0] hB hG fun L hL=>?_)
 refine gs ?_
 refine gmd (C:=fun v ⟨hgu,hB,hG,_⟩=>Huq.out _ hG (HT.grow hG)) ?_
 refine gs ?_
 refine geT hL ?_
 clear hB hG hL L
 rintro u ⟨-,hB,hG,-⟩
 refine r0T ?_
 refine wp_cond_false (rfl) ?_
 refine wp_skip ?_
 refine A6 ?_
 refine wp_seq (rsC G8 [0,0,1,2] hB hG fun K L hN hL=>?_)
 refine gs ?_
 refine gxd (X:=(Nat × (Nat → Nat) × (Nat → Nat)) × Nat) (fun x : (Nat × (Nat → Nat) × (Nat → Nat)) × Nat=>.agg #[.slice (some ⟨x.1.1,0,none⟩) Lw Lw,.slice (some ⟨x.2,0,none⟩) Lw Lw]) (fun x W'=>MatW w.heap.size Lw Lw x.1.1 Lw x.1.2.1 x.1.2.2 GM W' ∧ W'.ownsRow w.heap.size 48 5 (.slice (some ⟨x.2,0,none⟩) Lw Lw) Lw (PL.flatMap qL)) (fun x u u' hg h=>⟨h.1.grow hg,C9 h.2 hg⟩) (fun x26=>?_) (C:=by (rintro v ⟨hgu,hB,hG,-⟩;exact Hpo.out _ hG (HT.grow hG)))
 refine gaa (A30 _ _ _ _ _) fun b9 hb9 hn9=>?_
 replace hF:=hF.n1 [] hB hG hb9 hn9
 refine geC hL ?_
 clear hB hG hL L
 rintro u ⟨⟨⟨hgu,hB,hG,-⟩,hx26⟩,h9⟩
 replace hB:=hB.cons' h9
 clear h9
 obtain ⟨⟨bg,gg,cg⟩,bp⟩:=x26
 obtain ⟨hm,hp⟩ : MatW w.heap.size Lw Lw bg Lw gg cg GM u ∧ u.ownsRow w.heap.size 48 5 (.slice (some ⟨bp,0,none⟩) Lw Lw) Lw (PL.flatMap qL):=hx26
 have Hm:=Lib.hid hm
 have Hp:=Lib.hid hp
 clear hm hp
 clear hb9 hn9
 clear hgu
 refine gtT ?_
 clear hN K
 have hbk:=hB.head
 refine sv hB hF hG 0 0 [_,_] ?_
 intro u hu hBG
 have hm:=(Hm.out.over ⟨fun e=>J7 Hm.out.hd hbk (by decide) (congrArg some e.symm),fun i hi e=>J7 (Hm.out.row i hi) hbk (by decide) (congrArg some e.symm)⟩ hu).lrq
 have hp2:=M5 Hp.out (J7 Hp.out hbk (by decide)) hu
 obtain ⟨A9,c9,e9,-,-,hp,-⟩:=M3 hp2
 cases e9
 clear hB hG hu Hm Hp hbk hp2
 obtain ⟨hB,hG⟩:=hBG
 obtain ⟨w1,hw1⟩ : ∃ x,x = u:=⟨_,rfl⟩
 have HP:=Lib.hid (show (∃ rs' : List Rq,rs'.map (·.2.2) = GR ∧ Lrq w1 (some ⟨bg,0,none⟩) rs') ∧ Lq w1 (some ⟨bp,0,none⟩) PL from hw1 ▸ ⟨⟨_,by rw [hGR2.out,List.map_map];rfl,hm⟩,hp⟩)
 have hG1 : A4 w1 u:=hw1 ▸ A4.refl u
 clear hw1 hm hp
 refine wp_seq ?_
 refine wp_seq (rsE G8 [0,0,0,0,1] hB hG fun L hL=>?_)
 repeat first | refine gya ?_ | refine gyr ?_ | refine gna ?_ | refine gyb (by (rintro v ⟨hgu,hB,hG,-⟩ N hN;have r:=hB.r;simp only [BxR] at r;(first | have q0:=Hr0.out v hG | skip);go_simp;exact hN)) ?_
 refine gxd (X:=Nat) (fun b : Nat=>.func (.func 127) #[] #[.pointer (some ⟨b,0,none⟩)]) (fun b W=>Blk W b 3 #[.int .i64 (Lw : Nat)]) (fun b u u' hg h=>h.grow hg) (fun x31=>?_) (C:=fun v _=>B1I Lw _)
 refine geT hL ?_
 clear hB hG hL L
 rintro u ⟨⟨hgu,hB,hG,-⟩,hx31⟩
 replace hG1:=hG1.trans hgu
 have hbk:=hx31
 clear hx31
 clear hgu
 refine wp_block ?_
 refine (wpIn_wide (n:=0)).1 ?_
 obtain ⟨wE,hwE⟩ : ∃ x,x = u:=⟨_,rfl⟩
 rw [← hwE] at hB hG hG1 hbk ⊢
 clear hwE
 have HB:=Lib.hid hB
 have HG:=Lib.hid hG
 have HG1:=Lib.hid hG1
 have h6E:=hB.tail.tail.head.lt
 have h7E:=hB.tail.tail.tail.head.lt
 refine A9K 10 (gf:=127) (lb:=#[.pointer (some ⟨x31,0,none⟩)]) rfl (enters_of Tryz.func127 (by kernel_rfl) rfl) (3 ^ Lw) (A6R (wE.heap.size + 2) Lw) (fun i=>∀ j,j < i → R0 a (LM j) = false) (fun W=>∃ z : Ax,Bx W [(b6,35,#[.slice z.1 Lw z.2]),(b7,36,#[.int .i64 0])] ∧ Lq W z.1 (A1p (F kk) (B kk) Lw a) ∧ (∃ b,z.1 = some ⟨b,0,none⟩ ∧ wE.heap.size + 2 ≤ b) ∧ A4 w W) (fun l Rd Rx W h1 h2 h3 h4 h5 h6=>B13 Lw x31 hL2 wE hbk l Rd Rx W h1 h2 h3 h4 h5 h6) ?hC ?hIx ?hIg ?h0 ?assign ?body ?done ?stop
 case assign =>
  intro l v W K hK
  simp only [List.setIfInBounds_toArray,List.set_cons_zero,List.set_cons_succ] at hK
  gi_wp2
  exact hK
 case hC =>
  rintro i v W o ⟨b,rfl,hb,hk⟩
  exact ⟨b,rfl,hb,A2h hk (by omega)⟩
 case hIx =>
  rintro W o b hb ⟨z,h1,h2,⟨bz,h3,h4⟩,h5⟩
  refine ⟨z,fun e he=>?_,?_,⟨bz,h3,h4⟩,A3x h5 (by have := HG.out.sz;omega)⟩
  ·have h9:=h1 e he
   simp only [List.mem_cons,List.not_mem_nil,or_false] at he
   rcases he with rfl | rfl
   ·exact A2h h9 (by simp only;omega)
   ·exact A2h h9 (by simp only;omega)
  ·rw [h3] at h2 ⊢
   exact A7R h2 (by omega)
 case hIg=>exact fun u v hg ⟨z,h1,h2,h3,h4⟩=>⟨z,h1.grow hg,h2.grow hg,h3,h4.trans hg⟩
 case h0=>exact fun j hj=>absurd hj (Nat.not_lt_zero _)
 case body =>
  intro l i v W hi hJ hgW hsz hsg
  simp only [List.setIfInBounds_toArray,List.set_cons_zero,List.set_cons_succ]
  obtain ⟨bs,rfl,hbs,hsb⟩:=hsg
  have hB:=HB.out.grow hgW
  have hG:=HG.out.trans hgW
  obtain ⟨F1,F2,F3⟩:=HFl.out i hi
  obtain ⟨Z1,Z2,Z3⟩:=HFz.out i hi
  have hslv : ∀ W',A4 W W' → Tab W' → Calls Tryz.prog 61 #[.agg #[.slice (some ⟨bg,0,none⟩) Lw Lw,.slice (some ⟨bp,0,none⟩) Lw Lw],.slice (some ⟨bs,0,none⟩) Lw Lw] W' (G7 (fun z : Ax × Ax × Ax=>.agg #[.slice z.1.1 Lw z.1.2,.slice z.2.1.1 Lw z.2.1.2,.slice z.2.2.1 (LM i).length z.2.2.2]) (fun z V=>V.ownsRow W.heap.size 48 5 (.slice z.1.1 Lw z.1.2) Lw ((F i).flatMap qL) ∧ V.ownsRow W.heap.size 48 5 (.slice z.2.1.1 Lw z.2.1.2) Lw ((B i).flatMap qL) ∧ V.ownsRow W.heap.size 183 10 (.slice z.2.2.1 (LM i).length z.2.2.2) (LM i).length ((LM i).flatMap lmL)) W'):=fun W' hg hT=>by
   obtain ⟨⟨rs',hr1,hr2⟩,hr3⟩:=HP.out
   exact (Hsv.out i hi bg bp bs rs' W' hr1 (hr2.grow ((HG1.out.trans hgW).trans hg)) (hr3.grow ((HG1.out.trans hgW).trans hg)) (hsb.grow hg) hT).mono fun e V ⟨z,g1,⟨g2,g3,g4⟩,g5⟩=>⟨z,g1,⟨g2.mono hg.size,g3.mono hg.size,g4.mono hg.size⟩,g5⟩
  have Hslv:=Lib.hid hslv
  have Hhl:=Lib.hid (fun A1 A2 A3 W' h hT=>B0s A1 A2 A3 Lw Lw (LM i).length (LM i) a rfl F3 z Z3 haz hz W' h hT)
  have Hwt:=Lib.hid (fun A1 A2 A3 W' h h2 hT=>B12 A1 A2 A3 Lw (LM i).length (F i) (B i) a F1 F2 (by omega) z Z1 Z2 haz hz W' h h2 hT)
  obtain ⟨m,hm⟩ : ∃ m,m = (LM i).length:=⟨_,rfl⟩
  have hG0:=Lib.hid (A4.refl W)
  have hke : R0 a (LM i) = true → i = kk:=fun h=>by
   rcases Nat.lt_trichotomy i kk with h1 | h1 | h1
   ·have := Hk.out.2.2 i h1
    rw [h] at this
    cases this
   ·exact h1
   ·have h2:=hJ kk h1
    rw [Hk.out.2.1] at h2
    cases h2
  have Hke:=Lib.hid hke
  clear hke
  rw [← hm] at Hslv Hhl Hwt
  obtain ⟨Fi,hFi⟩ : ∃ x,x = F i:=⟨_,rfl⟩
  obtain ⟨Bi,hBi⟩ : ∃ x,x = B i:=⟨_,rfl⟩
  have HQ:=Lib.hid hFi
  have HQ2:=Lib.hid hBi
  rw [← hFi,← hBi] at Hslv Hwt
  clear F1 F2 F3 Z1 Z2 Z3 hslv hm hFi hBi hsb
  obtain ⟨hh,hhe⟩ : ∃ b,b = R0 a (LM i):=⟨_,rfl⟩
  have Hhe:=Lib.hid hhe
  rw [← hhe] at Hhl
  clear hhe
  have HJ:=Lib.hid hJ
  clear hJ hG0
  refine B1b fun u hg0=>?_
  replace hB:=hB.grow hg0
  replace hG:=hG.trans hg0
  cases hh
  ·skip
   refine wpIn_block ?_
   refine wpIn_seq (A5T G8 [0,0,1,2] hB hG fun K L hN hL=>?_)
   repeat first | refine gya ?_ | refine gyr ?_ | refine gna ?_ | refine gyb (by (rintro v ⟨hgu,hB,hG,-⟩ N hN;have r:=hB.r;simp only [BxR] at r;(first | have q0:=Hr0.out v hG | skip);go_simp;exact hN)) ?_
   refine gxd (X:=Ax × Ax × Ax) (fun z : Ax × Ax × Ax=>.agg #[.slice z.1.1 Lw z.1.2,.slice z.2.1.1 Lw z.2.1.2,.slice z.2.2.1 m z.2.2.2]) (fun z V=>V.ownsRow W.heap.size 48 5 (.slice z.1.1 Lw z.1.2) Lw (Fi.flatMap qL) ∧ V.ownsRow W.heap.size 48 5 (.slice z.2.1.1 Lw z.2.1.2) Lw (Bi.flatMap qL) ∧ V.ownsRow W.heap.size 183 10 (.slice z.2.2.1 m z.2.2.2) m ((LM i).flatMap lmL)) (fun x u u' hg h=>⟨C9 h.1 hg,C9 h.2.1 hg,C9 h.2.2 hg⟩) (fun x35=>?_) (C:=by (rintro v ⟨hgu,hB,hG,-⟩;exact Hslv.out _ (hg0.trans hgu) (HT.grow hG)))
   refine gaa (A22 _ _ _ _ _) fun b11 hb11 hn11=>?_
   replace hF:=hF.n1 [] hB hG hb11 hn11
   refine geC hL ?_
   clear hB hG hL L
   rintro u ⟨⟨⟨hgu,hB,hG,-⟩,hx35⟩,h11⟩
   replace hB:=hB.cons' h11
   clear h11
   obtain ⟨⟨f1,f2⟩,⟨o1,o2⟩,⟨m1,m2⟩⟩:=x35
   obtain ⟨X1,X2,X3⟩ : u.ownsRow W.heap.size 48 5 (.slice f1 Lw f2) Lw (Fi.flatMap qL) ∧ u.ownsRow W.heap.size 48 5 (.slice o1 Lw o2) Lw (Bi.flatMap qL) ∧ u.ownsRow W.heap.size 183 10 (.slice m1 m m2) m ((LM i).flatMap lmL):=hx35
   have hw11 : W.heap.size ≤ b11:=Nat.le_trans hg0.size hb11
   replace hg0:=hg0.trans hgu
   clear hb11 hn11
   clear hgu
   refine gtT ?_
   clear hN K
   have hbk:=hB.head
   refine sv hB hF hG 0 0 [_,_,_] ?_
   intro u hu hBG
   replace X1:=M5 X1 (J7 X1 hbk (by decide)) hu
   replace X2:=M5 X2 (J7 X2 hbk (by decide)) hu
   replace X3:=M5 X3 (J7 X3 hbk (by decide)) hu
   replace hg0:=X4 hg0 hw11 hu
   clear hB hG hu hbk
   obtain ⟨hB,hG⟩:=hBG
   obtain ⟨A7,c7,e7,-,-,Y1,-⟩:=M3 X1
   cases e7
   obtain ⟨A7,c7,e7,-,-,Y2,-⟩:=M3 X2
   cases e7
   obtain ⟨A7,c7,e7,-,Y3,-⟩:=A3q (enc:=lmL) (fun _=>rfl) (by decide) X3
   cases e7
   obtain ⟨w2,hw2⟩ : ∃ x,x = u:=⟨_,rfl⟩
   have HY:=Lib.hid (hw2 ▸ ⟨Y1,Y2,Y3⟩ : Lq w2 f1 Fi ∧ Lq w2 o1 Bi ∧ Le lmL 10 w2 m1 (LM i))
   have hg2 : A4 w2 u:=hw2 ▸ A4.refl u
   clear X1 X2 X3 Y1 Y2 Y3 hw2
   refine wpIn_seq (A77 G8 [0,0,1] hB hG fun L hL=>?_)
   repeat first | refine gya ?_ | refine gyr ?_ | refine gna ?_ | refine gyb (by (rintro v ⟨hgu,hB,hG,-⟩ N hN;have r:=hB.r;simp only [BxR] at r;(first | have q0:=Hr0.out v hG | skip);go_simp;exact hN)) ?_
   refine gmd (C:=fun v ⟨hgu,hB,hG,_⟩=>Hhl.out (f1,f2) (o1,o2) (m1,m2) _ (HY.out.2.2.grow (hg2.trans hgu)) (HT.grow hG)) ?_
   refine geT hL ?_
   clear hB hG hL L
   rintro u ⟨hgu,hB,hG,-⟩
   replace hg0:=hg0.trans hgu
   replace hg2:=hg2.trans hgu
   clear hgu
   refine wpIn_cond_false (rfl) ?_
   refine wpIn_skip ?_
   refine D4 ?_
   refine ⟨hg0,fun j hj=>?_⟩
   rcases Nat.lt_or_ge j i with h1 | h1
   ·exact HJ.out j h1
   ·have h2 : j = i:=by omega
    rw [h2]
    exact Hhe.out.symm
  ·skip
   refine wpIn_block ?_
   refine wpIn_seq (A5T G8 [0,0,1,2] hB hG fun K L hN hL=>?_)
   repeat first | refine gya ?_ | refine gyr ?_ | refine gna ?_ | refine gyb (by (rintro v ⟨hgu,hB,hG,-⟩ N hN;have r:=hB.r;simp only [BxR] at r;(first | have q0:=Hr0.out v hG | skip);go_simp;exact hN)) ?_
   refine gxd (X:=Ax × Ax × Ax) (fun z : Ax × Ax × Ax=>.agg #[.slice z.1.1 Lw z.1.2,.slice z.2.1.1 Lw z.2.1.2,.slice z.2.2.1 m z.2.2.2]) (fun z V=>V.ownsRow W.heap.size 48 5 (.slice z.1.1 Lw z.1.2) Lw (Fi.flatMap qL) ∧ V.ownsRow W.heap.size 48 5 (.slice z.2.1.1 Lw z.2.1.2) Lw (Bi.flatMap qL) ∧ V.ownsRow W.heap.size 183 10 (.slice z.2.2.1 m z.2.2.2) m ((LM i).flatMap lmL)) (fun x u u' hg h=>⟨C9 h.1 hg,C9 h.2.1 hg,C9 h.2.2 hg⟩) (fun x35=>?_) (C:=by (rintro v ⟨hgu,hB,hG,-⟩;exact Hslv.out _ (hg0.trans hgu) (HT.grow hG)))
   refine gaa (A22 _ _ _ _ _) fun b11 hb11 hn11=>?_
   replace hF:=hF.n1 [] hB hG hb11 hn11
   refine geC hL ?_
   clear hB hG hL L
   rintro u ⟨⟨⟨hgu,hB,hG,-⟩,hx35⟩,h11⟩
   replace hB:=hB.cons' h11
   clear h11
   obtain ⟨⟨f1,f2⟩,⟨o1,o2⟩,⟨m1,m2⟩⟩:=x35
   obtain ⟨X1,X2,X3⟩ : u.ownsRow W.heap.size 48 5 (.slice f1 Lw f2) Lw (Fi.flatMap qL) ∧ u.ownsRow W.heap.size 48 5 (.slice o1 Lw o2) Lw (Bi.flatMap qL) ∧ u.ownsRow W.heap.size 183 10 (.slice m1 m m2) m ((LM i).flatMap lmL):=hx35
   have hw11 : W.heap.size ≤ b11:=Nat.le_trans hg0.size hb11
   replace hg0:=hg0.trans hgu
   clear hb11 hn11
   clear hgu
   refine gtT ?_
   clear hN K
   have hbk:=hB.head
   refine sv hB hF hG 0 0 [_,_,_] ?_
   intro u hu hBG
   replace X1:=M5 X1 (J7 X1 hbk (by decide)) hu
   replace X2:=M5 X2 (J7 X2 hbk (by decide)) hu
   replace X3:=M5 X3 (J7 X3 hbk (by decide)) hu
   replace hg0:=X4 hg0 hw11 hu
   clear hB hG hu hbk
   obtain ⟨hB,hG⟩:=hBG
   obtain ⟨A7,c7,e7,-,-,Y1,-⟩:=M3 X1
   cases e7
   obtain ⟨A7,c7,e7,-,-,Y2,-⟩:=M3 X2
   cases e7
   obtain ⟨A7,c7,e7,-,Y3,-⟩:=A3q (enc:=lmL) (fun _=>rfl) (by decide) X3
   cases e7
   obtain ⟨w2,hw2⟩ : ∃ x,x = u:=⟨_,rfl⟩
   have HY:=Lib.hid (hw2 ▸ ⟨Y1,Y2,Y3⟩ : Lq w2 f1 Fi ∧ Lq w2 o1 Bi ∧ Le lmL 10 w2 m1 (LM i))
   have hg2 : A4 w2 u:=hw2 ▸ A4.refl u
   clear X1 X2 X3 Y1 Y2 Y3 hw2
   refine wpIn_seq (A77 G8 [0,0,1] hB hG fun L hL=>?_)
   repeat first | refine gya ?_ | refine gyr ?_ | refine gna ?_ | refine gyb (by (rintro v ⟨hgu,hB,hG,-⟩ N hN;have r:=hB.r;simp only [BxR] at r;(first | have q0:=Hr0.out v hG | skip);go_simp;exact hN)) ?_
   refine gmd (C:=fun v ⟨hgu,hB,hG,_⟩=>Hhl.out (f1,f2) (o1,o2) (m1,m2) _ (HY.out.2.2.grow (hg2.trans hgu)) (HT.grow hG)) ?_
   refine geT hL ?_
   clear hB hG hL L
   rintro u ⟨hgu,hB,hG,-⟩
   replace hg0:=hg0.trans hgu
   replace hg2:=hg2.trans hgu
   clear hgu
   refine wpIn_cond_true (rfl) ?_
   refine wpIn_seq (A5T G8 [0,0,1] hB hG fun K L hN hL=>?_)
   repeat first | refine gya ?_ | refine gyr ?_ | refine gna ?_ | refine gyb (by (rintro v ⟨hgu,hB,hG,-⟩ N hN;have r:=hB.r;simp only [BxR] at r;(first | have q0:=Hr0.out v hG | skip);go_simp;exact hN)) ?_
   refine gxd (X:=Ax) (fun x : Ax=>.slice x.1 Lw x.2) (fun x V=>Lq V x.1 (A1p Fi Bi Lw a) ∧ ∃ b,x.1 = some ⟨b,0,none⟩ ∧ W.heap.size ≤ b) (fun x u u' hg h=>⟨h.1.grow hg,h.2⟩) (fun x41=>?_) (C:=by (rintro v ⟨hgu,hB,hG,-⟩;exact (Hwt.out (f1,f2) (o1,o2) (m1,m2) _ (HY.out.1.grow (hg2.trans hgu)) (HY.out.2.1.grow (hg2.trans hgu)) (HT.grow hG)).mono fun e V ⟨z,g1,⟨g2,b,g3,g4⟩,g5⟩=>⟨z,g1,⟨g2,b,g3,Nat.le_trans (hg0.trans hgu).size g4⟩,g5⟩))
   refine geC hL ?_
   clear hB hG hL L
   rintro u ⟨⟨hgu,hB,hG,-⟩,hx41⟩
   replace hg0:=hg0.trans hgu
   obtain ⟨z1,z2⟩:=x41
   obtain ⟨Y1,bz,rfl,Y2⟩:=hx41
   clear hgu
   have hD : b6 ≠ b7 ∧ b7 ≠ b6:=⟨hF.ne 3 4 rfl rfl (by decide),hF.ne 4 3 rfl rfl (by decide)⟩
   refine gtT ?_
   clear hN K
   clear hD
   generalize hu0 : World.setCell (World.setCell u _ _) _ _ = u0
   have hu1 : D5 (D5 u b6 0 [.slice (some ⟨bz,0,none⟩) Lw z2]) b7 0 [.int .i64 0] = u0:=hu0
   obtain ⟨ua,hua⟩ : ∃ x,D5 u b6 0 [.slice (some ⟨bz,0,none⟩) Lw z2] = x:=⟨_,rfl⟩
   rw [hua] at hu1
   have k1:=(Kp2.of hg0 hsz).put (Nat.le_trans hsz hg0.size) h6E hua
   have sa : u.heap.size ≤ ua.heap.size:=by rw [← hua];exact (A0g b6 _ 0 u).size
   have k2:=k1.put (Nat.le_trans hsz (Nat.le_trans hg0.size sa)) h7E hu1
   have y1:=A16 Y1 (by have := hsz;omega) hua
   have y2:=A16 y1 (by have := hsz;omega) hu1
   have hB1:=hB.over hF hG 3 rfl 0 [_] hua
   have hB2:=hB1.1.over (by simpa using hF) hB1.2 4 rfl 0 [_] hu1
   simp only [List.modify_succ_cons,List.modify_zero_cons,H5,List.setIfInBounds_toArray,List.set_cons_zero,List.set_cons_succ,Nat.zero_add,Nat.reduceAdd] at hB2
   clear hB hG hu0 hu1 hua k1 y1 hB1 Y1 sa
   obtain ⟨hB,hG⟩:=hB2
   obtain ⟨u,rfl⟩ : ∃ x,x = u0:=⟨_,rfl⟩
   refine wpIn_ret ?_
   refine A4D ?_
   skip
   have hik:=Hke.out Hhe.out.symm
   rw [HQ.out,HQ2.out,hik] at y2
   exact ⟨⟨(some ⟨bz,0,none⟩,z2),hB.tail.tail.tail,y2,⟨bz,rfl,by omega⟩,hG⟩,k2.1,k2.2⟩
 case done =>
  intro W _ hJ _
  have h1:=hJ kk Hk.out.1
  rw [Hk.out.2.1] at h1
  cases h1
 case stop =>
  rintro W ⟨z,h1,h2,h3,h4⟩ hK
  refine wpIn_ret ?_
  refine A4D ?_
  refine A5l ?_
  refine ⟨by simp,.inl ⟨_,_,rfl,run_takeDeferred hK,?_⟩⟩
  have h1' : Bx (W.putObj wE.heap.size (.deferred none)) [(b6,35,#[.slice z.1 Lw z.2]),(b7,36,#[.int .i64 0])]:=fun e he=>by
   have h9:=h1 e he
   simp only [List.mem_cons,List.not_mem_nil,or_false] at he
   rcases he with rfl | rfl
   ·exact A2h h9 (by simp only;omega)
   ·exact A2h h9 (by simp only;omega)
  have r:=h1'.r
  simp only [BxR] at r
  refine ⟨.tuple #[.slice z.1 Lw z.2,.int .i64 0],?_,z,rfl,?_,A3x h4 HG.out.sz⟩
  ·simp only [results,Tryz.results14]
   go_simp
  ·obtain ⟨bz,h5,h6⟩:=h3
   rw [h5] at h2 ⊢
   exact A7R h2 (by omega)
end Go.Proofs.YtgpglgbcobeogaaGreatDoor
