/- Contracts and laws. -/
import Derived.Test.YtlkniebmjdoopaaGreatDoorK44
import Derived.Test.YtlkniebmjdoopaaGreatDoorK45
set_option linter.unusedSimpArgs false
set_option linter.unusedVariables false
set_option maxHeartbeats 8000000
set_option maxRecDepth 100000
namespace Go.Proofs.YtlkniebmjdoopaaGreatDoor
open Go Go.RowKit Go.Shelf
attribute [local go_sem] Oper.semAt_some
theorem B5R (A : Option Addr) (N c : Nat) (lo hi : Rat) (w : World) : Calls Tryz.prog 47 #[.slice A N c,spV lo hi] w (I1 (fun b : Nat × Nat=>.func (.func 111) #[] #[.pointer (some ⟨b.1,0,none⟩),.pointer (some ⟨b.2,0,none⟩)]) (fun b W=>(w.heap.size ≤ b.1 ∧ w.heap.size ≤ b.2 ∧ b.1 ≠ b.2) ∧ Blk W b.1 48 (W7 (lo,hi)) ∧ Blk W b.2 54 #[.slice A N c]) w):=by
 go_enter Tryz.func47,Tryz.ntmps47
 refine en2 ?_
 intro u hG b3 b2 hB hF
 refine r0T ?_
 refine rt Tryz.results47 ?_
 exact ⟨(b3,b2),rfl,⟨⟨hF.1 b3 (by simp),hF.1 b2 (by simp),by first | exact hF.ne 0 1 rfl rfl (by omega) | exact hF.ne 1 0 rfl rfl (by omega)⟩,by first | exact hB.head | exact hB.tail.head,by first | exact hB.tail.head | exact hB.head⟩,hG⟩
theorem B3E (A : Option Addr) (c n : Nat) (E : Int) (hE : (E != 0) = true) (B : Rat) (w : World) (hbd : ∀ W,A3 w W → Calls Tryz.prog 13 #[.slice A n c] W fun e w'=>e = .returned (.tuple #[qV B,.int .i64 E]) ∧ A3 W w') : Calls Tryz.prog 10 #[.slice A n c] w fun e w'=>e = .returned (.tuple #[.slice none 0 0,.int .i64 E]) ∧ A3 w w':=by
 have Hbd:=Lib.hid hbd
 clear hbd
 go_enter Tryz.func10,Tryz.ntmps10
 refine en0 ?_
 intro u hG hB hF
 refine wp_seq (rsC C2 [0,1,0,0,0,2] hB hG fun K L hN hL=>?_)
 refine gs ?_
 refine gmd (C:=fun v ⟨hgu,hB,hG,_⟩=>Hbd.out _ hG) ?_
 refine gs ?_
 refine gaa (N0 _ _ _ _ _) fun b4 hb4 hn4=>?_
 replace hF:=hF.n1 [] hB hG hb4 hn4
 refine geC hL ?_
 clear hB hG hL L
 rintro u ⟨⟨-,hB,hG,-⟩,h4⟩
 replace hB:=hB.cons' h4
 clear h4
 clear hb4 hn4
 refine gtT ?_
 clear hN K
 refine st hB hF hG 0 0 [_,_,_,_,_] ?_
 clear hB hG
 intro u hB hG
 refine wp_seq ?_
 refine r0T ?_
 refine wp_cond_true (rfl) ?_
 refine r0T ?_
 refine rt Tryz.results10 ?_
 exact ⟨rfl,hG⟩
theorem A69 {W : World} {B size n k : Nat} {T : TypeId} {v : Value} {xs : List Value} {o : Obj} (h : W.ownsRow B T size v n xs) (hk : ∀ g,v.ownBlock = some g → g ≠ k) : (W.putObj k o).ownsRow B T size v n xs:=by
 obtain ⟨h0,h | ⟨g,cap,cur,rfl,hb,hh,hn,hc,hs,ht⟩⟩:=h
 ·exact ⟨h0,.inl h⟩
 ·exact ⟨h0,.inr ⟨g,cap,cur,rfl,hb,(World.putObj_heap_other (hk g rfl)).trans hh,hn,hc,hs,ht⟩⟩
theorem B3D {u : World} {B b : Nat} {e t : TypeId} {size n : Nat} {v : Value} {xs : List Value} {cs : Array Value} (h : u.ownsRow B e size v n xs) (hb : Blk u b t cs) (ht : e ≠ t) : v.ownBlock ≠ some b:=fun e1=>by
 obtain ⟨_,h1 | ⟨g,cap,cur,rfl,hb2,hh,-⟩⟩:=h
 ·rw [h1.1] at e1;cases e1
 ·have e2 : g = b:=Option.some.inj e1
  subst e2
  unfold Blk at hb
  rw [hb] at hh
  injection hh with hh
  injection hh with _ h3 _
  exact ht h3.symm
theorem A7F {w wE X : World} {bl : Nat} (hG : A3 w wE) (hX : KG (K0 wE.heap.size bl) wE X) (hb : w.heap.size ≤ bl) : A3 w X:=by
 refine ⟨hX.os.trans hG.os,hX.tape.trans hG.tape,hX.output.trans hG.output,Nat.le_trans hG.size hX.size,fun k hk=>?_⟩
 obtain ⟨o,ho⟩ : ∃ o,wE.heap[k]? = some o:=⟨_,Array.getElem?_eq_getElem (Nat.lt_of_lt_of_le hk hG.size)⟩
 rw [hX.keep k o ⟨Nat.lt_of_lt_of_le hk hG.size,by omega⟩ ho,← ho,hG.block k hk]
def A6V (L : List (Rat × Rat)) (w : World) (e : Ending) (w' : World) : Prop:=∃ v,e = .returned (.tuple #[v,.int .i64 0]) ∧ w'.ownsRow w.heap.size 48 10 v L.length (L.flatMap spL) ∧ A3 w w'
theorem B4p {L : List (Rat × Rat)} {i : Nat} {s : Rat × Rat} (h : L[i]? = some s) : (L.take (i + 1)).flatMap spL = (L.take i).flatMap spL ++ spL s:=by
 rw [List.take_add_one,h,List.flatMap_append]
 simp
theorem B16 (A : Option Addr) (c n N : Nat) (Ps : List (List Rat)) (V : Rat → Nat) (B : Rat) (K LM : Nat) (L : List (Rat × Rat)) (w : World) (HT : Tab w) (hbd : ∀ W,A3 w W → Calls Tryz.prog 13 #[.slice A n c] W fun e w'=>e = .returned (.tuple #[qV B,.int .i64 0]) ∧ A3 W w') (hsi : ∀ W,A3 w W → Calls Tryz.prog 48 #[.slice A n c] W (I4 Ps N W)) (hng : ∀ W,F5 15 #[qV B] W (qV (-B))) (hVb : ∀ x,V x ≤ 1000) (hlo : ∀ (A : Option Addr) (c : Nat),OKT Ps V A N c (-B)) (hhi : ∀ (A : Option Addr) (c : Nat),OKT Ps V A N c B)
  (hst : ∀ k s r o,F7 V ([(-B,B)],[]) k = (s :: r,o) → r.length + 2 ≤ LM ∧ (V s.1 ≠ V s.2 → V s.1 ≠ V s.2 + 1 → (∀ W,Tab W → F5 113 #[spV s.1 s.2] W (qV (D6 s.1 s.2))) ∧ ∀ (A : Option Addr) (c : Nat),OKT Ps V A N c (D6 s.1 s.2))) (hLM : LM ≤ 1000000000000) (hLL : L.length ≤ 1000000) (hK : F7 V ([(-B,B)],[]) K = ([],L)) : Calls Tryz.prog 10 #[.slice A n c] w (A6V L w):=by
 obtain ⟨n0,hn0⟩ : ∃ n,n = L.length:=⟨_,rfl⟩
 obtain ⟨B',hB'⟩ : ∃ x,x = -B:=⟨_,rfl⟩
 rw [← hB'] at hng hlo hK hst
 unfold I4 at hsi
 have Hbd:=Lib.hid hbd
 have Hsi:=Lib.hid hsi
 have Hng:=Lib.hid hng
 have HV:=Lib.hid (And.intro hVb (And.intro hlo (And.intro hhi (And.intro hst (And.intro hK hn0)))))
 have HLL:=Lib.hid hLL
 clear hbd hsi hng hVb hlo hhi hst hK hn0 hB' hLL
 refine (callsIn_wide (n:=0)).1 (callsIn_of_wp_marks Tryz.func10 rfl trivial (wpIn_wide.2 ?_) rfl)
 simp only [Tryz.ntmps10,List.size_toArray,List.length_cons,List.length_nil,Nat.reduceAdd,Nat.reduceSub,Array.replicate_succ,Array.replicate_zero,List.push_toArray,List.append_toArray,List.nil_append,List.cons_append]
 refine en0 ?_
 intro u hG hB hF
 refine wp_seq (rsC C2 [0,1,0,0,0,2] hB hG fun K L hN hL=>?_)
 refine gs ?_
 refine gmd (C:=fun v ⟨hgu,hB,hG,_⟩=>Hbd.out _ hG) ?_
 refine gs ?_
 refine gaa (N0 _ _ _ _ _) fun b4 hb4 hn4=>?_
 replace hF:=hF.n1 [] hB hG hb4 hn4
 refine geC hL ?_
 clear hB hG hL L
 rintro u ⟨⟨-,hB,hG,-⟩,h4⟩
 replace hB:=hB.cons' h4
 clear h4
 clear hb4 hn4
 refine gtT ?_
 clear hN K
 refine st hB hF hG 0 0 [_,_,_,_,_] ?_
 clear hB hG
 intro u hB hG
 refine wp_seq ?_
 refine r0T ?_
 refine wp_cond_false (rfl) ?_
 refine wp_skip ?_
 refine A4 ?_
 refine wp_seq (rsE C2 [2] hB hG fun L hL=>?_)
 refine gaa (A7J _ _ _ _ _) fun b6 hb6 hn6=>?_
 replace hF:=hF.n1 [] hB hG hb6 hn6
 refine geT hL ?_
 clear hB hG hL L
 rintro u ⟨⟨-,hB,hG,-⟩,h6⟩
 replace hB:=hB.cons' h6
 clear h6
 clear hb6 hn6
 refine wp_seq ?_
 refine wp_seq ?_
 refine A5d (w:=w) C2 6 [] [(0,0),(0,2),(0,4),(1,1),(1,3),(0,5)] (by kernel_rfl) (by kernel_rfl) (by simp only [List.drop_succ_cons,List.drop_zero];exact rfl) (fun _=>True) noG hB hG trivial ?_
 intro K L hN hL
 simp only [E8,List.getElem?_toArray,List.getElem?_cons_zero,List.getElem?_cons_succ]
 refine gs ?_
 refine gxd (X:=Ax) (fun y : Ax=>.slice y.1 N y.2) (fun y W=>RW Ps y.1 W ∧ N ≤ y.2) (fun x u u' hg h=>⟨h.1.grow hg,h.2⟩) (fun x17=>?_) (C:=by (rintro v ⟨hgu,hB,hG,-⟩;exact Hsi.out _ hG))
 refine gmw (C:=fun v=>Hng.out _) ?_
 refine gs ?_
 refine K8 ?_
 rintro v ⟨⟨hgu,hB1,hG1,-⟩,hx17⟩
 have HX:=Lib.hid hx17
 clear hx17
 clear hB hG
 have hB:=hB1
 have hG:=hG1
 clear hB1 hG1
 refine hL _ _ ?_
 clear hL L hgu
 obtain ⟨u,rfl⟩ : ∃ x,x = v:=⟨_,rfl⟩
 go_wp2_with (go_at_call 47;refine (B5R x17.1 N x17.2 B' B _).mono ?_;rintro e w5 ⟨⟨c1,c2⟩,rfl,g2,g3⟩)
 have hB5:=hB.grow g3
 have hG5:=hG.trans g3
 have HX5:=Lib.hid (And.intro (HX.out.1.grow g3) (And.intro (Nat.le_trans hG.size g2.1.1) (And.intro (Nat.le_trans hG.size g2.1.2.1) (And.intro g2.1.2.2 g2.2))))
 clear hB hG g2 g3 HX
 have hB:=hB5
 have hG:=hG5
 clear hB5 hG5
 obtain ⟨u,rfl⟩ : ∃ x,x = w5:=⟨_,rfl⟩
 refine NoK.norm (hN _ _ ?_)
 clear hN K
 refine A4 ?_
 refine wp_block ?_
 refine (wpIn_wide (n:=0)).1 ?_
 obtain ⟨wE,hwE⟩ : ∃ x,x = u:=⟨_,rfl⟩
 rw [← hwE] at hB hG HX5 ⊢
 clear hwE
 obtain ⟨hrw,hc1,hc2,hc12,hk1,hk2⟩:=HX5.out
 have hlt : b6 < wE.heap.size ∧ b4 < wE.heap.size:=⟨hB.head.lt,hB.tail.head.lt⟩
 have hw3 : w.heap.size ≤ b6 ∧ w.heap.size ≤ b4:=⟨hF.1 b6 (by simp),hF.1 b4 (by simp)⟩
 have h64 : b4 ≠ b6:=hF.ne 1 0 rfl rfl (by omega)
 have hbT : ∃ cs fr,wE.heap[b6]? = some (.cells cs 27 fr):=⟨_,_,hB.head⟩
 have h16 : c1 ≠ b6:=fun e=>by
  have h:=Option.some.inj ((e ▸ hk1 : wE.heap[b6]? = _).symm.trans hB.head)
  injection h with h8 h9
  exact absurd h9 (by decide)
 have h26 : c2 ≠ b6:=fun e=>by
  have h:=Option.some.inj ((e ▸ hk2 : wE.heap[b6]? = _).symm.trans hB.head)
  injection h with h8 h9
  exact absurd h9 (by decide)
 obtain ⟨J,hJe⟩ : ∃ J : Nat → World → Prop,J = fun i W=>∃ v,Blk W b6 27 #[v] ∧ W.ownsRow (wE.heap.size + 2) 48 10 v i ((L.take i).flatMap spL):=⟨_,rfl⟩
 have hJ0 : J 0 wE:=by rw [hJe];exact ⟨.slice none 0 0,hB.head,rfl,.inl ⟨rfl,rfl⟩⟩
 have hJp : ∀ i W o b,b = wE.heap.size ∨ b = wE.heap.size + 1 → J i W → J i (W.putObj b o):=fun i W o b hb h=>by
  rw [hJe] at h ⊢
  obtain ⟨v,h1,h2⟩:=h
  refine ⟨v,A24 h1 (by omega),A69 h2 fun g hg=>by have := (h2.lt g hg).1;omega⟩
 have hJg : ∀ i u v,KG (KP wE.heap.size) u v → J i u → J i v:=fun i u v hg h=>by
  rw [hJe] at h ⊢
  obtain ⟨x,h1,h2⟩:=h
  exact ⟨x,hg.keep _ _ (.inl hlt.1) h1,A6y h2 hg fun _ _ _ _=>.inr rfl⟩
 have HJe:=Lib.hid hJe
 have Hlt:=Lib.hid hlt
 have Hw3:=Lib.hid hw3
 have HGE:=Lib.hid hG
 have HBE:=Lib.hid hB
 clear hJe
 obtain ⟨hVb,hlo,hhi,hst,hK,hn0⟩:=HV.out
 refine A9d (gf:=111) (lb:=#[.pointer (some ⟨c1,0,none⟩),.pointer (some ⟨c2,0,none⟩)]) rfl (enters_of Tryz.func111 (by kernel_rfl) rfl) (K0 wE.heap.size b6) (KR wE.heap.size b6) (KP wE.heap.size) (fun _=>⟨⟨by omega,.inr rfl⟩,.inr rfl⟩) (fun _=>⟨⟨by omega,.inr rfl⟩,.inr rfl⟩) n0 (fun i vs=>∃ s,L[i]? = some s ∧ vs = #[spV s.1 s.2]) J (fun vs b=>{ tmps:=#[.slice A n c,undef,.slice none 0 0,.int .i64 0,.pointer (some ⟨b4,0,none⟩),.int .i64 0,.pointer (some ⟨b6,0,none⟩),.pointer (some ⟨b,0,none⟩),.tuple #[qV B,.int .i64 0],.slice A n c,.tuple #[qV B,.int .i64 0],qV B,.int .i64 0,.int .i64 0,.bool false,undef,.slice A n c,.slice x17.1 N x17.2,qV B,qV B',qV B,spV B' B,.func (.func 111) #[] #[.pointer (some ⟨c1,0,none⟩),.pointer (some ⟨c2,0,none⟩)],vs[0]!,undef,undef,undef,undef,undef],defers:=[] }) (fun b vs W=>∃ cs,vs[0]! = .agg cs ∧ Blk W b 48 cs) (fun i vs ⟨s,_,e⟩=>by rw [e];rfl) (fun lp Rd Rx W h1 h2 h3 h4 h5 h6=>B5z Ps V x17.1 x17.2 N B' B K LM n0 L c1 c2 b6 w wE hG HT hw3.1 hk1 hk2 ⟨h16,h26,hc12⟩ ⟨hc1,hc2⟩ hbT hrw hVb (hlo _ _) (hhi _ _) (fun k s r o h=>⟨(hst k s r o h).1,fun h1 h2=>⟨((hst k s r o h).2 h1 h2).1,((hst k s r o h).2 h1 h2).2 _ _⟩⟩) hLM hK hn0 lp Rd Rx W h1 h2 h3 h4 h5 h6) ?hA hJp hJg hJ0 ?assign ?body ?done
 case hA =>
  rintro b vs W o hb ⟨cs,e,hk⟩
  exact ⟨cs,e,A24 hk (by omega)⟩
 case assign =>
  rintro lp i vs W K ⟨s,hs,rfl⟩ hK
  gi_wp2
  exact hK W.heap.size _ (A3.alloc W _) (Nat.le_refl _) ⟨_,rfl,Blk.new W 48 _⟩
 case body =>
  rintro lp i vs b7 W hi hJ hgW hsz ⟨cs,e7,hk7⟩ ⟨s,hs,rfl⟩
  injection e7 with e7
  subst e7
  rw [HJe.out] at hJ
  obtain ⟨vv,hb6,hown⟩:=hJ
  obtain ⟨m1,m2⟩:=Hlt.out
  obtain ⟨n1,n2⟩:=Hw3.out
  have hk4 : Blk W b4 39 (G5 B):=hgW.keep _ _ ⟨m2,h64⟩ HBE.out.tail.head
  refine A7B fun u hg0=>?_
  have hG : A3 w u:=(A7F HGE.out hgW n1).trans hg0
  have hB : Bx u [(b7,48,W7 s),(b6,27,#[vv]),(b4,39,G5 B)]:=Bx.cons (Blk.grow hg0 hk7) (Bx.cons (Blk.grow hg0 hb6) (Bx.cons (Blk.grow hg0 hk4) (Bx.nil u)))
  have hF : Fr w [b7,b6,b4]:=⟨fun b hb=>by
   simp only [List.mem_cons,List.not_mem_nil,or_false] at hb
   rcases hb with rfl | rfl | rfl <;> omega,by
   simp only [List.nodup_cons,List.mem_cons,List.not_mem_nil,or_false,not_or,not_false_eq_true,List.nodup_nil,and_true]
   exact ⟨⟨by omega,by omega⟩,fun e=>h64 e.symm⟩⟩
  have hWs : wE.heap.size + 2 ≤ W.heap.size:=Nat.le_of_lt (Nat.lt_of_le_of_lt hsz hk7.lt)
  have Ho:=Lib.hid (F3 hown hg0)
  have Hs:=Lib.hid hs
  have hn1 : i < L.length:=by omega
  clear hs hown hb6 hk4 hk7 hgW m1 m2 n1 n2 HX5 HV hVb hlo hhi hst hK hrw hk1 hk2 hbT hJ0 hJp hJg
  refine wpIn_block ?_
  refine B6X (w:=w) C2 3 [0,0,1] (by kernel_rfl) (by simp only [List.drop_succ_cons,List.drop_zero];exact rfl) hB hG ?_
  intro K L hN hL
  simp only [List.zip_cons_cons,List.zip_nil_left]
  repeat first | refine gya ?_ | refine gyr ?_ | refine gna ?_ | refine gyb (by (rintro v ⟨hgu,hB,hG,-⟩ N hN;have r:=hB.r;simp only [BxR] at r;skip;go_simp;exact hN)) ?_
  refine gx Nat (fun b=>.slice (some ⟨b,0,none⟩) 1 1) (fun b' W=>Blk W b' 48 (W7 s)) (fun b u u' hg h=>h.grow hg) rfl ?_ (fun x26=>?_)
  ·(rintro v ⟨hgu,hB,hG,-⟩ N hN;go_simp;exact hN v.heap.size _ (Blk.new v 48 (W7 s)) (A3.alloc _ _))
  refine okf (by simp only [Act.put,List.setIfInBounds_toArray,List.set_cons_succ,List.set_cons_zero];exact rfl) ?_
  refine K8 ?_
  rintro v ⟨⟨hgu,hB1,hG1,-⟩,hx26⟩
  replace hg0:=hg0.trans hgu
  have Ho2:=Lib.hid (F3 Ho.out hgu)
  clear Ho
  have Ho:=Ho2
  clear Ho2
  clear hB hG
  have hB:=hB1
  have hG:=hG1
  clear hB1 hG1
  refine hL _ _ ?_
  clear hL L hgu
  obtain ⟨u,rfl⟩ : ∃ x,x = v:=⟨_,rfl⟩
  have r:=hB.r
  simp only [BxR] at r
  clear r
  refine B4f B6z (wE.heap.size + 2) vv i ((L.take i).flatMap spL) x26 (spL s) rfl rfl hx26 rfl rfl Ho.out (by have := HLL.out;omega) (by have := HLL.out;omega) (by have := hg0.size;omega) fun v' w' g1 g2 g3=>?_
  obtain ⟨gl,cl,rfl,-,-⟩:=A3E g1 (by omega)
  have hne6 : vv.ownBlock ≠ some b6:=fun e=>by have := (Ho.out.lt b6 e).1;have := Hlt.out.1;omega
  have hb6' : Blk w' b6 27 #[vv]:=(g2.block _ hB.tail.head.lt (fun e=>hne6 e.symm)).trans hB.tail.head
  have hKR : KG (KR wE.heap.size b6) W w':=(KG.ofGrow hg0).trans (KG.by g2 fun k o hk hp e=>by
   obtain ⟨cs,fr,h9⟩:=A2d Ho.out e
   rw [h9] at hk
   injection hk with hk
   rcases hp.2 with hp | hp
   ·have := (Ho.out.lt k e).1;omega
   ·rw [← hk] at hp;cases hp)
  clear g2 g3 hx26 hB hG hF hg0 Ho
  have hB : Bx w' [(b6,27,#[vv])]:=Bx.cons hb6' (Bx.nil w')
  have r:=hB.r
  simp only [BxR] at r
  go_wp2_with fail
  generalize hu0 : World.setCell w' _ _ = u0
  have hu1 : E9 w' b6 0 [.slice (some ⟨gl,0,none⟩) (i + 1) cl] = u0:=hu0
  have hKR2 : KG (KR wE.heap.size b6) W u0:=hKR.trans (KG.by (A1c hu1) fun k o _ hp e=>hp.1 (Option.some.inj e).symm)
  have ho2:=A2r g1 (B3D g1 hb6' (by decide)) hu1
  have hb2:=hb6'.set_ 0 (.slice (some ⟨gl,0,none⟩) (i + 1) cl)
  rw [hu0] at hb2
  clear hu0 hu1 g1 hB hb6' hKR
  clear r
  skip
  refine NoK.norm (hN _ _ ?_)
  clear hN K
  refine F0 ?_
  exact ⟨hKR2,by rw [HJe.out];exact ⟨.slice (some ⟨gl,0,none⟩) (i + 1) cl,hb2,by rw [B4p Hs.out];exact ho2⟩⟩
 case done =>
  intro W hgW hJ hK
  rw [HJe.out] at hJ
  obtain ⟨v,hb6,hown⟩:=hJ
  obtain ⟨u,hu⟩ : ∃ x,x = W:=⟨_,rfl⟩
  rw [← hu] at hb6 hown hK hgW ⊢
  clear hu
  obtain ⟨m1,m2⟩:=Hlt.out
  obtain ⟨n1,n2⟩:=Hw3.out
  have hk4 : Blk u b4 39 (G5 B):=hgW.keep _ _ ⟨m2,h64⟩ HBE.out.tail.head
  have hG : A3 w u:=A7F HGE.out hgW n1
  have hB : Bx u [(b6,27,#[v]),(b4,39,G5 B)]:=Bx.cons hb6 (Bx.cons hk4 (Bx.nil u))
  have hF : Fr w [b6,b4]:=⟨fun b hb=>by
   simp only [List.mem_cons,List.not_mem_nil,or_false] at hb
   rcases hb with rfl | rfl <;> omega,by
   simp only [List.nodup_cons,List.mem_cons,List.not_mem_nil,or_false,not_or,not_false_eq_true,List.nodup_nil,and_true]
   exact fun e=>h64 e.symm⟩
  have HK:=Lib.hid hK
  have Ho:=Lib.hid hown
  have Hn:=Lib.hid hn0
  clear hown hb6 hk4 hgW m1 m2 n1 n2 HX5 HV hVb hlo hhi hst hK hrw hk1 hk2 hbT hJ0 hJp hJg
  refine F0 ?_
  refine A4 ?_
  refine r0T ?_
  refine wp_ret ?_
  have hws : w.heap.size ≤ wE.heap.size:=HGE.out.size
  refine ⟨by simp,.inl ⟨_,_,rfl,run_takeDeferred HK.out,?_⟩⟩
  refine ⟨.tuple #[v,.int .i64 0],?_,v,rfl,?_,A65 hG hws⟩
  ·simp only [results,Tryz.results10]
   go_simp
  ·have h9:=A69 (o:=.deferred none) (k:=wE.heap.size) Ho.out fun g hg=>by have := (Ho.out.lt g hg).1;omega
   rw [Hn.out,List.take_length] at h9
   exact World.ownsRow.mono h9 (by omega)
end Go.Proofs.YtlkniebmjdoopaaGreatDoor
namespace Go.Proofs.YtlkniebmjdoopaaGreatDoor
open Go Go.RowKit
def zR (n : Nat → Nat) (S : Nat) : Nat → Nat × Nat
 | 0=>(S,S)
 | i + 1=>((zR n S i).2,(zR n S i).1 + (n i + 1 - n (i + 1)) * ((zR n S i).2 + 1))
theorem A4w {n : Nat → Nat} {S N : Nat} (hd : ∀ i,i ≤ N → n (i + 1) < n i) {i : Nat} (hi : i ≤ N) : (zR n S i).2 + 1 ≤ (S + 1) * C9 (n 0 - n i + 1) ∧ n i ≤ n 0:=by
 have h:=A5f (n:=n) (M:=fun i=>(zR n S i).1 + 1) (S:=S + 1) (N:=N) (Nat.le_refl _) (Nat.le_refl _) hd (fun i hi=>by
  show (zR n S i).1 + (n i + 1 - n (i + 1)) * ((zR n S i).2 + 1) + 1 ≤ (zR n S i).1 + 1 + (n i + 1 - n (i + 1)) * ((zR n S i).2 + 1)
  omega) i hi
 exact h
theorem A6e {n : Nat → Nat} {S N : Nat} (hd : ∀ i,i ≤ N → n (i + 1) < n i) (hp : ∀ i,i ≤ N → 1 ≤ n i) {i : Nat} (hi : i ≤ N) : (zR n S i).1 + 1 ≤ (S + 1) * C9 (n 0) ∧ (zR n S i).2 + 1 ≤ (S + 1) * C9 (n 0):=by
 have up : ∀ j,j ≤ N → (zR n S j).2 + 1 ≤ (S + 1) * C9 (n 0):=fun j hj=>by
  obtain ⟨h1,h2⟩:=A4w (S:=S) hd hj
  have h3:=hp j hj
  exact Nat.le_trans h1 (Nat.mul_le_mul_left _ (A0p (by omega)))
 refine ⟨?_,up i hi⟩
 cases i with
 | zero =>
  have := Nat.mul_le_mul_left (S + 1) (A3X (n 0))
  show S + 1 ≤ _
  omega
 | succ i=>exact up i (by omega)
theorem A12 {r b : List Rat} {Z Y : Nat} (h : DvZ r b Z) (hle : Z ≤ Y) : DvZ r b Y :=
 ⟨fun x hx=>Nat.le_trans (h.1 x hx) hle,fun s hs x hx=>Nat.le_trans (h.2.1 s hs x hx) hle,fun s hs j hj x hx=>Nat.le_trans (h.2.2 s hs j hj x hx) hle⟩
theorem A9V {a b : List Rat} {S n : Nat} (ha : Czl a S) (hb : Czl b S) (h0 : trN a ≠ 0) (hlt : trN b < trN a) (hn : trN a ≤ n) (hla : a.length ≤ 1000) (hlb : b.length ≤ 1000) (hB : 16 * ((S + 1) * C9 n) + 1000 ≤ BIG) : A0N 104 a b (C8 a b):=by
 have hp:=Nat.mul_le_mul_left (S + 1) (A3X n)
 have t0:=U7 a
 have t1:=U7 b
 obtain ⟨hN,hNz⟩:=A1S t0 t1
 obtain ⟨N,hNe⟩ : ∃ N,N = gN (E1 a) (E1 b):=⟨_,rfl⟩
 obtain ⟨G,hG⟩ : ∃ G,G = gG (E1 a) (E1 b):=⟨_,rfl⟩
 have hG2 : ∀ i,G (i + 2) = E1 (B7 (G i) (G (i + 1))).2:=by rw [hG];exact A01 _ _
 have hGt : ∀ i,Trm (G i):=by rw [hG];exact A23 t0 t1
 have hGd : ∀ i,(G (i + 1)).length ≠ 0 → (G (i + 2)).length < (G (i + 1)).length:=by rw [hG];exact A5r t0 t1
 have e0 : G 0 = E1 a:=by rw [hG];rfl
 have e1 : G 1 = E1 b:=by rw [hG];rfl
 have el : C8 a b = G N:=by unfold C8;rw [hG,hNe]
 rw [← hNe,← hG] at hN hNz
 obtain ⟨nn,hnn⟩ : ∃ nn : Nat → Nat,nn = fun i=>(G i).length:=⟨_,rfl⟩
 have hnl : ∀ i,(G i).length = nn i:=fun i=>by rw [hnn]
 have hcz : ∀ i,i ≤ N → Czl (G i) (zR nn S i).1 ∧ Czl (G (i + 1)) (zR nn S i).2:=by
  intro i
  induction i with
  | zero=>exact fun _=>⟨by rw [e0];exact A0I ha,by rw [e1];exact A0I hb⟩
  | succ i ih =>
   intro hi
   obtain ⟨c1,c2⟩:=ih (by omega)
   refine ⟨c2,?_⟩
   have hz : trN (G (i + 1)) ≠ 0:=by rw [E5 (hGt _)];exact hNz i (by omega)
   have h:=(V4 c1 c2 hz).2.1
   rw [E5 (hGt _),E5 (hGt _),hnl,hnl] at h
   rw [show i + 1 + 1 = i + 2 from rfl,hG2]
   exact A0I h
 have hn0 : nn 0 = trN a:=by rw [← hnl,e0,R7]
 have hd : ∀ i,i ≤ N → nn (i + 1) < nn i:=fun i hi=>by
  rw [← hnl,← hnl]
  cases i with
  | zero=>rw [e0,e1,R7,R7];exact hlt
  | succ i=>exact hGd i (hNz i (by omega))
 have hpos : ∀ i,i ≤ N → 1 ≤ nn i:=fun i hi=>by
  have := hd i hi;omega
 have hbd : ∀ i,i ≤ N → (zR nn S i).1 + 1 ≤ (S + 1) * C9 n ∧ (zR nn S i).2 + 1 ≤ (S + 1) * C9 n:=fun i hi=>by
  obtain ⟨b1,b2⟩:=A6e (S:=S) hd hpos hi
  have := Nat.mul_le_mul_left (S + 1) (A0p (show nn 0 ≤ n by omega))
  omega
 have hlen : ∀ i,i ≤ N + 1 → (G i).length ≤ 1000:=fun i hi=>by
  have h1 : (G 0).length ≤ 1000:=by rw [e0,R7];have := G4 a;omega
  cases i with
  | zero=>exact h1
  | succ i =>
   have h2:=hd i (by omega)
   have h3:=(A4w (S:=S) hd (show i ≤ N by omega)).2
   rw [hnl] at h1 ⊢
   omega
 rw [el]
 refine A8Z G (fun i=>(B7 (G i) (G (i + 1))).1) (fun i=>(B7 (G i) (G (i + 1))).2) N ?_ ?_ ?_ ?_ (fun i hi=>hGd i (hNz i hi)) hN
 ·rw [e0];exact A0i hla (S + 50) (by omega) (fun x hx=>Nat.le_trans (G9 ha x hx) (by omega)) (by omega)
 ·rw [e1];exact A0i hlb (S + 50) (by omega) (fun x hx=>Nat.le_trans (G9 hb x hx) (by omega)) (by omega)
 ·intro i hi
  obtain ⟨c1,c2⟩:=hcz i (by omega)
  have hz : trN (G (i + 1)) ≠ 0:=by rw [E5 (hGt _)];exact hNz i hi
  obtain ⟨-,-,h3⟩:=V4 c1 c2 hz
  obtain ⟨b1,b2⟩:=hbd i (by omega)
  obtain ⟨b3,b4⟩:=hbd (i + 1) (by omega)
  have b5 : (zR nn S i).1 + (trN (G i) + 1 - trN (G (i + 1))) * ((zR nn S i).2 + 1) = (zR nn S (i + 1)).2:=by
   rw [E5 (hGt _),E5 (hGt _),hnl,hnl];rfl
  exact A2G (hlen i (by omega)) (hlen (i + 1) (by omega)) ((S + 1) * C9 n) (fun x hx=>Nat.le_trans (G9 c1 x hx) (by omega)) (fun x hx=>Nat.le_trans (G9 c2 x hx) (by omega)) (2 * ((S + 1) * C9 n)) (by omega) (A12 h3 (by omega)) (by omega) (by omega)
 ·intro i hi
  obtain ⟨c1,c2⟩:=hcz i (by omega)
  have hz : trN (G (i + 1)) ≠ 0:=by rw [E5 (hGt _)];exact hNz i hi
  have h:=(V4 c1 c2 hz).2.1
  obtain ⟨b3,b4⟩:=hbd (i + 1) (by omega)
  rw [E5 (hGt _),E5 (hGt _),hnl,hnl] at h
  have h4 : (zR nn S i).1 + (nn i + 1 - nn (i + 1)) * ((zR nn S i).2 + 1) = (zR nn S (i + 1)).2:=rfl
  rw [h4] at h
  have hl:=A0m (G i) (G (i + 1)) hz
  have hl2:=hlen (i + 1) (by omega)
  have hl3:=G4 (G (i + 1))
  show I3 148 _ (G (i + 2))
  rw [hG2]
  exact A0i (by omega) ((S + 1) * C9 n + 50) (by omega) (fun x hx=>Nat.le_trans (G9 h x hx) (by omega)) (by omega)
theorem B17 {p : List Rat} {S Sg n : Nat} (hp : Czl p S) (h0 : trN p ≠ 0) (hn : trN p ≤ n) (hl : p.length ≤ 32) (hg : Czl (C8 p (D2 p)) Sg) (hB : 16 * ((S + 6) * C9 n) + 1000 ≤ BIG) (hB2 : 1000 * (S + Sg + 1) ≤ BIG) : I3 95 p (B4 p):=by
 have hd:=A30 (Y:=5) hp hl
 have hdl:=A3U p
 have hpl:=G4 p
 have hdt : trN (D2 p) = (D2 p).length:=E5 (A61 p)
 have h1 : I3 128 p (D2 p):=A5b (by omega) S (G9 hp) (by omega)
 have h2 : A0N 104 p (D2 p) (C8 p (D2 p)):=A9V (S:=S + 5) (n:=n) (hp.mono (by omega)) hd h0 (by omega) hn (by omega) (by omega) hB
 have hgm:=A4F (D2 p) h0
 have hgt : trN (C8 p (D2 p)) ≠ 0:=P0.1 hgm.nz
 have hgd:=A4E p (D2 p)
 have hgl:=hgd.1.len hgm (P0.2 h0)
 obtain ⟨z1,z2,z3⟩:=V4 hp hg hgt
 have hk : (trN p + 1 - trN (C8 p (D2 p))) * (Sg + 1) ≤ 33 * (Sg + 1):=Nat.mul_le_mul_right _ (by omega)
 have h3 : A1D p (C8 p (D2 p)) (B7 p (C8 p (D2 p))).1 (B7 p (C8 p (D2 p))).2:=A2G (by omega) (by omega) (S + Sg) (fun x hx=>Nat.le_trans (G9 hp x hx) (by omega)) (fun x hx=>Nat.le_trans (G9 hg x hx) (by omega)) _ (by omega) z3 (by omega) (by omega)
 have hql : (B7 p (C8 p (D2 p))).1.length ≤ 1000:=by
  unfold B7
  rw [show (trL _,trL _).1 = trL _ from rfl,F4]
  have h9:=G4 (D0 (trL p) (trL (C8 p (D2 p))) (dvK (trL p) (trL (C8 p (D2 p)))) (dvK (trL p) (trL (C8 p (D2 p))))).1
  have h8:=(A0h (trL p) (trL (C8 p (D2 p))) (dvK (trL p) (trL (C8 p (D2 p)))) (dvK (trL p) (trL (C8 p (D2 p))))).1
  have h7 : dvK (trL p) (trL (C8 p (D2 p))) ≤ (trL p).length + 1:=by unfold dvK;omega
  rw [F4] at h7
  omega
 have h4 : I3 148 (B7 p (C8 p (D2 p))).1 (B4 p):=A0i hql (S + 33 * (Sg + 1) + 50) (by omega) (fun x hx=>Nat.le_trans (G9 z1 x hx) (by omega)) (by omega)
 exact B3u h1 h2 (B1M h3 h4)
abbrev A1h (sh : List Rat → List Rat) : Prop:=∀ r Z,Czl r Z → Czl (sh r) Z
structure ChZ (sh : List Rat → List Rat) (c : List Rat) (B : Nat) : Prop where
 len : ∀ i,i ≤ cK sh c + 1 → (cC sh c i).length ≤ c.length
 kle : cK sh c ≤ c.length
 el : ∀ i,i ≤ cK sh c → Czl (cC sh c i) B ∧ Czl (cC sh c (i + 1)) B
 dv : ∀ i,i < cK sh c → Czl (B7 (cC sh c i) (cC sh c (i + 1))).1 B ∧ Czl (B7 (cC sh c i) (cC sh c (i + 1))).2 B ∧ DvZ (trL (cC sh c i)) (trL (cC sh c (i + 1))) (2 * B) ∧ (B7 (cC sh c i) (cC sh c (i + 1))).1.length ≤ c.length + 1
theorem B34 (a b : List Rat) : (B7 a b).1.length ≤ trN a + 1:=by
 unfold B7
 rw [show (trL _,trL _).1 = trL _ from rfl,F4]
 have h9:=G4 (D0 (trL a) (trL b) (dvK (trL a) (trL b)) (dvK (trL a) (trL b))).1
 have h8:=(A0h (trL a) (trL b) (dvK (trL a) (trL b)) (dvK (trL a) (trL b))).1
 have h7 : dvK (trL a) (trL b) ≤ (trL a).length + 1:=by unfold dvK;omega
 rw [F4] at h7
 omega
theorem B4A {sh : List Rat → List Rat} (hs : Shape sh) (hz : A1h sh) {c : List Rat} {S n : Nat} (hc : Czl c S) (ht : Trm c) (h0 : c ≠ []) (hl : c.length ≤ 32) (hn : c.length ≤ n) : ChZ sh c ((S + 6) * C9 n):=by
 obtain ⟨hN,hNz⟩:=A2o hs ht
 obtain ⟨K,hK⟩ : ∃ K,K = cK sh c:=⟨_,rfl⟩
 obtain ⟨C,hC⟩ : ∃ C,C = cC sh c:=⟨_,rfl⟩
 have hCt : ∀ i,Trm (C i):=by rw [hC];exact A14 hs ht
 have hCd : ∀ i,(C (i + 1)).length ≠ 0 → (C (i + 2)).length < (C (i + 1)).length:=by rw [hC];exact A4f hs ht
 have e0 : C 0 = c:=by rw [hC];rfl
 have e1 : C 1 = D2 c:=by rw [hC];rfl
 have e2 : ∀ i,C (i + 2) = sh (O8 (B7 (C i) (C (i + 1))).2):=by rw [hC];exact A1R
 have hcl:=List.length_pos_iff.2 h0
 have hdl:=A3U c
 rw [E5 ht] at hdl
 rw [← hK,← hC] at hN hNz
 obtain ⟨nn,hnn⟩ : ∃ nn : Nat → Nat,nn = fun i=>(C i).length:=⟨_,rfl⟩
 have hnl : ∀ i,(C i).length = nn i:=fun i=>by rw [hnn]
 have hcz : ∀ i,i ≤ K → Czl (C i) (zR nn (S + 5) i).1 ∧ Czl (C (i + 1)) (zR nn (S + 5) i).2:=by
  intro i
  induction i with
  | zero=>exact fun _=>⟨by rw [e0];exact hc.mono (by show S ≤ S + 5;omega),by rw [e1];exact A30 (Y:=5) hc hl⟩
  | succ i ih =>
   intro hi
   obtain ⟨c1,c2⟩:=ih (by omega)
   refine ⟨c2,?_⟩
   have hz1 : trN (C (i + 1)) ≠ 0:=by rw [E5 (hCt _)];exact hNz i (by omega)
   have h:=(V4 c1 c2 hz1).2.1
   rw [E5 (hCt _),E5 (hCt _),hnl,hnl] at h
   rw [show i + 1 + 1 = i + 2 from rfl,e2]
   exact hz _ _ (A7P h)
 have hn0 : nn 0 = c.length:=by rw [← hnl,e0]
 have hd : ∀ i,i ≤ K → nn (i + 1) < nn i:=fun i hi=>by
  rw [← hnl,← hnl]
  cases i with
  | zero=>rw [e0,e1];omega
  | succ i=>exact hCd i (hNz i (by omega))
 have hpos : ∀ i,i ≤ K → 1 ≤ nn i:=fun i hi=>by
  have := hd i hi;omega
 have hbd : ∀ i,i ≤ K → (zR nn (S + 5) i).1 + 1 ≤ (S + 6) * C9 n ∧ (zR nn (S + 5) i).2 + 1 ≤ (S + 6) * C9 n:=fun i hi=>by
  obtain ⟨b1,b2⟩:=A6e (S:=S + 5) hd hpos hi
  have := Nat.mul_le_mul_left (S + 5 + 1) (A0p (show nn 0 ≤ n by omega))
  have e : S + 5 + 1 = S + 6:=rfl
  rw [e] at b1 b2 this
  omega
 have hle : ∀ i,i ≤ K + 1 → nn i + i ≤ c.length + (if i = 0 then 0 else 0):=by
  intro i
  induction i with
  | zero=>intro _;rw [hn0];simp
  | succ i ih =>
   intro hi
   have h1:=ih (by omega)
   have h2:=hd i (by omega)
   simp at h1 ⊢
   omega
 simp only [ite_self,Nat.add_zero] at hle
 refine ⟨fun i hi=>?_,?_,fun i hi=>?_,fun i hi=>?_⟩
 ·rw [← hC,hnl]
  have := hle i (by omega)
  omega
 ·rw [← hK]
  have := hle K (by omega)
  omega
 ·rw [← hK] at hi
  rw [← hC]
  obtain ⟨c1,c2⟩:=hcz i hi
  obtain ⟨b1,b2⟩:=hbd i hi
  exact ⟨c1.mono (by omega),c2.mono (by omega)⟩
 ·rw [← hK] at hi
  rw [← hC]
  obtain ⟨c1,c2⟩:=hcz i (by omega)
  have hz1 : trN (C (i + 1)) ≠ 0:=by rw [E5 (hCt _)];exact hNz i hi
  obtain ⟨h1,h2,h3⟩:=V4 c1 c2 hz1
  obtain ⟨b1,b2⟩:=hbd i (by omega)
  obtain ⟨b3,b4⟩:=hbd (i + 1) (by omega)
  rw [E5 (hCt _),E5 (hCt _),hnl,hnl] at h1 h2 h3
  have h4 : (zR nn (S + 5) i).1 + (nn i + 1 - nn (i + 1)) * ((zR nn (S + 5) i).2 + 1) = (zR nn (S + 5) (i + 1)).2:=rfl
  rw [h4] at h1 h2
  refine ⟨h1.mono (by omega),h2.mono (by omega),A12 h3 (by omega),?_⟩
  have h5:=B34 (C i) (C (i + 1))
  have h6:=G4 (C i)
  have h7:=hle i (by omega)
  rw [hnl] at h6
  omega
theorem A7Y {sh : List Rat → List Rat} {F : FuncId} (hcf : ∀ args w,(callFunc F args).run Tryz.prog w = .ok (.enter F args) w) (hs : Shape sh) {p : List Rat} {B : Nat} (hF : I3 95 p (B4 p)) (hm : Mon (B4 p)) (hl : (B4 p).length ≤ 32) (hz : ChZ sh (B4 p) B) (hB : 16 * B + 1000 ≤ BIG)
  (hsh : ∀ r,r.length ≤ 1000 → (∀ x ∈ r,qs x ≤ B) → I3 F r (sh r)) : A2x F p (chL sh p) (cK sh (B4 p) + 1):=by
 obtain ⟨c,hc⟩ : ∃ c,c = B4 p:=⟨_,rfl⟩
 rw [← hc] at hm hl hz hF
 have ht:=hm.tr
 obtain ⟨hN,hNz⟩:=A2o hs ht
 have hCt:=A14 hs ht
 intro w A k hp HT
 unfold chL
 rw [← hc]
 have hkl:=hz.kle
 have hln : ∀ i,i ≤ cK sh c + 1 → (cC sh c i).length ≤ 32:=fun i hi=>Nat.le_trans (hz.len i hi) hl
 refine B6T F hcf (cC sh c) (fun i=>(B7 (cC sh c i) (cC sh c (i + 1))).1) (fun i=>(B7 (cC sh c i) (cC sh c (i + 1))).2) (fun i=>O8 (B7 (cC sh c i) (cC sh c (i + 1))).2) (cK sh c) (by omega) hF ?_ ?_ ?_ ?_ ?_ ?_ ?_ (fun i hi=>A4f hs ht i (hNz i hi)) w A k hp HT
 ·exact A5b (by have := hln 0 (by omega);rw [A0O] at this ⊢;omega) B (G9 (hz.el 0 (by omega)).1) (by omega)
 ·intro i hi
  exact ⟨by have := hln (i + 1) (by omega);omega,fun x hx=>Nat.le_trans (G9 (hz.el i hi).2 x hx) (by omega)⟩
 ·intro i hi
  obtain ⟨d1,d2,d3,-⟩:=hz.dv i hi
  obtain ⟨c1,c2⟩:=hz.el i (by omega)
  exact A2G (by have := hln i (by omega);omega) (by have := hln (i + 1) (by omega);omega) B (G9 c1) (G9 c2) (2 * B) (by omega) d3 (by omega) (by rw [E5 (hCt _)];exact Nat.pos_of_ne_zero (hNz i hi))
 ·intro i hi W x hx hT
  obtain ⟨d1,d2,d3,-⟩:=hz.dv i hi
  have hz1 : trN (cC sh c (i + 1)) ≠ 0:=by rw [E5 (hCt _)];exact hNz i hi
  have h1:=A0m (cC sh c i) (cC sh c (i + 1)) hz1
  have h2:=G4 (cC sh c (i + 1))
  have h3:=hln (i + 1) (by omega)
  exact (B6S x.1 (B7 (cC sh c i) (cC sh c (i + 1))).2 _ x.2 rfl (by omega) (B + 50) (by omega) (fun y hy=>Nat.le_trans (G9 d2 y hy) (by omega)) (by omega) W hx.1 hT).mono fun e w' g=>E7.of rfl g
 ·intro i hi
  obtain ⟨d1,d2,d3,-⟩:=hz.dv i hi
  have hz1 : trN (cC sh c (i + 1)) ≠ 0:=by rw [E5 (hCt _)];exact hNz i hi
  have h1:=A0m (cC sh c i) (cC sh c (i + 1)) hz1
  have h2:=G4 (cC sh c (i + 1))
  have h3:=hln (i + 1) (by omega)
  show I3 F _ (cC sh c (i + 2))
  rw [A1R]
  exact hsh _ (by rw [B0D (A3e _ _).2];omega) (G9 (A7P d2))
 ·intro i hi
  rw [E5 (hCt _)];exact Nat.pos_of_ne_zero (hNz i hi)
 ·rw [E5 (hCt _)];exact hN
end Go.Proofs.YtlkniebmjdoopaaGreatDoor
