/- Contracts and laws. -/
import Derived.Test.YtlkniebmjdoopaaGreatDoorK34
set_option linter.unusedSimpArgs false
set_option linter.unusedVariables false
set_option maxHeartbeats 4000000
set_option maxRecDepth 100000
namespace Go.Proofs.YtlkniebmjdoopaaGreatDoor
open Go Go.RowKit Go.Shelf
attribute [local go_sem] Oper.semAt_some
def O3 (l : List Rat) (x : Rat) : Nat → Rat
 | 0=>0
 | s + 1=>M4 (H9 (O3 l x s) x) (gq l (l.length - 1 - s))
def atQ (l : List Rat) (x : Rat) : Rat:=O3 l x l.length
theorem B2z (A : Option Addr) (n c : Nat) (w : World) : Calls Tryz.prog 69 #[.slice A n c] w (I1 (fun b : Nat=>.func (.func 127) #[] #[.pointer (some ⟨b,0,none⟩)]) (fun b W=>w.heap.size ≤ b ∧ Blk W b 23 #[.slice A n c]) w):=by
 go_enter Tryz.func69,Tryz.ntmps69
 refine en1 ?_
 intro u hG b1 hB hF
 refine r0T ?_
 refine rt Tryz.results69 ?_
 exact ⟨b1,rfl,⟨hF.1 b1 (by simp),hB.head⟩,hG⟩
theorem B39 (A : Option Addr) (l : List Rat) (n c : Nat) (x : Rat) (hl : l.length = n) (hm : n ≤ 1048576) (Z : Nat) (hs : ∀ y ∈ l,qs y ≤ Z) (hx : qs x ≤ Z) (hZ : ∀ i,i ≤ n → qs (O3 l x i) ≤ Z) (hBZ : 8 * Z + 10 ≤ BIG) (w : World) (h : Lq w A l) (HT : Tab w) :
  Calls Tryz.prog 20 #[.slice A n c,qV x] w fun e w'=>e = .returned (qV (atQ l x)) ∧ A3 w w':=by
 have hst : ∀ i,i < n → ∃ X E Q : Rat,X = gq l (n - 1 - i) ∧ Q = O3 l x (i + 1) ∧ (∀ W,Tab W → Calls Tryz.prog 16 #[qV (O3 l x i),qV x] W fun e w'=>e = .returned (qV E) ∧ A3 W w') ∧ (∀ W,Tab W → Calls Tryz.prog 54 #[qV E,qV X] W fun e w'=>e = .returned (qV Q) ∧ A3 W w'):=fun i hi=>by
  have z1:=hZ i (by omega)
  have z2:=P8 hs (i:=n - 1 - i) (by omega)
  have z3:=A2s (O3 l x i) x
  refine ⟨_,_,_,rfl,rfl,fun W hT=>A2I _ _ W (by omega) hT,fun W hT=>?_⟩
  have e : O3 l x (i + 1) = M4 (H9 (O3 l x i) x) (gq l (n - 1 - i)):=by rw [← hl];rfl
  rw [e]
  exact A3Z _ _ W (by unfold H9;omega) hT
 unfold atQ
 rw [hl]
 obtain ⟨H,hH⟩ : ∃ H,H = O3 l x:=⟨_,rfl⟩
 have hH0 : G5 (H 0) = #[.bool false,.int .u64 0,.string ⟨#[]⟩,.int .u64 0,.string ⟨#[]⟩]:=by rw [hH];show G5 (0 : Rat) = _;kernel_rfl
 rw [← hH]
 simp only [← hH] at hst
 have Hst:=Lib.hid hst
 have HH0:=Lib.hid hH0
 have HL:=Lib.hid h
 clear hst hH hH0 hZ hs hx hBZ h
 refine (callsIn_wide (n:=0)).1 (callsIn_of_wp_marks Tryz.func20 rfl trivial (wpIn_wide.2 ?_) rfl)
 simp only [Tryz.ntmps20,List.size_toArray,List.length_cons,List.length_nil,Nat.reduceAdd,Nat.reduceSub,Array.replicate_succ,Array.replicate_zero,List.push_toArray,List.append_toArray,List.nil_append,List.cons_append]
 refine en2 ?_
 intro u hG b4 b3 hB hF
 refine wp_seq (rsE A5 [2] hB hG fun L hL=>?_)
 refine gaa (N0 _ _ _ _ _) fun b5 hb5 hn5=>?_
 replace hF:=hF.n1 [] hB hG hb5 hn5
 refine geT hL ?_
 clear hB hG hL L
 rintro u ⟨⟨-,hB,hG,-⟩,h5⟩
 replace hB:=hB.cons' h5
 clear h5
 clear hb5 hn5
 refine wp_seq ?_
 refine wp_seq (rsE A5 [0,1] hB hG fun L hL=>?_)
 refine gs ?_
 refine gxd (X:=Nat) (fun b : Nat=>.func (.func 127) #[] #[.pointer (some ⟨b,0,none⟩)]) (fun b W=>w.heap.size ≤ b ∧ Blk W b 23 #[.slice A n c]) (fun x u u' hg h=>⟨h.1,Blk.grow hg h.2⟩) (fun x9=>?_) (C:=by (rintro v ⟨hgu,hB,hG,-⟩;exact (B2z A n c _).mono fun e W ⟨b,g1,g2,g3⟩=>⟨b,g1,⟨Nat.le_trans hG.size g2.1,g2.2⟩,g3⟩))
 refine geT hL ?_
 clear hB hG hL L
 rintro u ⟨⟨-,hB,hG,-⟩,hx9⟩
 refine wp_block ?_
 refine (wpIn_wide (n:=0)).1 ?_
 obtain ⟨wE,hwE⟩ : ∃ x,x = u:=⟨_,rfl⟩
 rw [← hwE] at hB hG hx9 ⊢
 clear hwE
 have hlt : b5 < wE.heap.size ∧ b3 < wE.heap.size ∧ b4 < wE.heap.size:=⟨hB.head.lt,hB.tail.head.lt,hB.tail.tail.head.lt⟩
 have hw3 : w.heap.size ≤ b5 ∧ w.heap.size ≤ b3 ∧ w.heap.size ≤ b4:=⟨hF.1 b5 (by simp),hF.1 b3 (by simp),hF.1 b4 (by simp)⟩
 have h53 : b3 ≠ b5:=hF.ne 1 0 rfl rfl (by omega)
 have h54 : b4 ≠ b5:=hF.ne 2 0 rfl rfl (by omega)
 have h34 : b3 ≠ b4:=hF.ne 1 2 rfl rfl (by omega)
 have h95 : x9 ≠ b5:=fun e=>by
  have h1:=hx9.2
  rw [e] at h1
  have h:=Option.some.inj (h1.symm.trans hB.head)
  injection h with h8 h9
  exact absurd h9 (by decide)
 obtain ⟨J,hJe⟩ : ∃ J : Nat → World → Prop,J = fun i W=>Blk W b5 39 (G5 (H i)):=⟨_,rfl⟩
 have hJ0 : J 0 wE:=by rw [hJe];show Blk wE b5 39 (G5 (H 0));rw [HH0.out];exact hB.head
 have hJp : ∀ i W o b,b = wE.heap.size ∨ b = wE.heap.size + 1 → J i W → J i (W.putObj b o):=fun i W o b hb h=>by
  rw [hJe] at h ⊢
  exact A24 h (by omega)
 have hJg : ∀ i u v,A3 u v → J i u → J i v:=fun i u v hg h=>by
  rw [hJe] at h ⊢
  exact Blk.grow hg h
 have HJe:=Lib.hid hJe
 have Hlt:=Lib.hid hlt
 have Hw3:=Lib.hid hw3
 have HGE:=Lib.hid hG
 have HBE:=Lib.hid hB
 have Hhh:=Lib.hid (And.intro h53 (And.intro h54 h34))
 clear hJe
 refine B5a (gf:=127) (lb:=#[.pointer (some ⟨x9,0,none⟩)]) rfl (enters_of Tryz.func127 (by kernel_rfl) rfl) (fun k _=>k ≠ b5) (fun _=>by omega) (fun _=>by omega) n (fun i vs=>vs = #[.int .i64 ((n - 1 - i : Nat) : Int),qV (gq l (n - 1 - i))]) J (fun vs b=>{ tmps:=#[.slice A n c,qV x,undef,.pointer (some ⟨b3,0,none⟩),.pointer (some ⟨b4,0,none⟩),.pointer (some ⟨b5,0,none⟩),undef,.pointer (some ⟨b,0,none⟩),.slice A n c,.func (.func 127) #[] #[.pointer (some ⟨x9,0,none⟩)],vs[0]!,vs[1]!,undef,undef,undef,undef,undef,undef],defers:=[] }) (fun b vs W=>∃ cs,vs[1]! = .agg cs ∧ Blk W b 39 cs) (fun i vs e=>by rw [e];rfl) (fun lp Rd Rx W h1 h2 h3 h4 h5 h6=>B2w l A n c x9 b5 w wE hG hw3.1 HL.out hl hm hx9.2 h95 lp Rd Rx W h1 h3 h4 h5 h6) ?hA hJp hJg hJ0 ?assign ?body ?done
 case hA =>
  rintro b vs W o hb ⟨cs,e,hk⟩
  exact ⟨cs,e,A24 hk (by omega)⟩
 case assign =>
  rintro lp i vs W K rfl hK
  gi_wp2
  exact hK W.heap.size _ (A3.alloc W _) (Nat.le_refl _) ⟨_,rfl,Blk.new W 39 _⟩
 case body =>
  rintro lp i vs b7 W hi hJ hgW hsz ⟨cs,e7,hk7⟩ rfl
  injection e7 with e7
  subst e7
  rw [HJe.out] at hJ
  obtain ⟨m1,m2,m3⟩:=Hlt.out
  obtain ⟨n1,n2,n3⟩:=Hw3.out
  obtain ⟨h53,h54,h34⟩:=Hhh.out
  have hk3 : Blk W b3 39 (G5 x):=hgW.keep _ _ h53 HBE.out.tail.head
  have hk4:=hgW.keep _ _ h54 HBE.out.tail.tail.head
  refine A7B fun u hg0=>?_
  have hG : A3 w u:=(((KG.ofGrow HGE.out).trans hgW).grow n1).trans hg0
  have hB : Bx u [(b7,39,G5 (gq l (n - 1 - i))),(b5,39,G5 (H i)),(b3,39,G5 x),(b4,39,#[.bool false,.int .u64 0,.string ⟨#[]⟩,.int .u64 0,.string ⟨#[]⟩])]:=Bx.cons (Blk.grow hg0 hk7) (Bx.cons (Blk.grow hg0 hJ) (Bx.cons (Blk.grow hg0 hk3) (Bx.cons (Blk.grow hg0 hk4) (Bx.nil u))))
  have hF : Fr w [b7,b5,b3,b4]:=⟨fun b hb=>by
   simp only [List.mem_cons,List.not_mem_nil,or_false] at hb
   rcases hb with rfl | rfl | rfl | rfl <;> omega,by
   simp only [List.nodup_cons,List.mem_cons,List.not_mem_nil,or_false,not_or,not_false_eq_true,List.nodup_nil,and_true]
   exact ⟨⟨by omega,by omega,by omega⟩,⟨fun e=>h53 e.symm,fun e=>h54 e.symm⟩,h34⟩⟩
  obtain ⟨X,E,Q,hX,hQ,hml,had⟩:=Hst.out i hi
  rw [← hX] at hB ⊢
  obtain ⟨Y,hY⟩ : ∃ Y,Y = H i:=⟨_,rfl⟩
  rw [← hY] at hB
  simp only [← hY] at hml
  have HQ:=Lib.hid hQ
  have Hml:=Lib.hid hml
  have Had:=Lib.hid had
  clear hX hQ hml had hY hJ hk3 hk4 hk7 hgW m1 m2 m3 n1 n2 n3 h53 h54 h34
  refine wpIn_block ?_
  refine B2s A5 [] [(0,0),(0,1),(0,3),(1,2),(1,4)] hB hG fun K L hN hL=>?_
  repeat first | refine gya ?_ | refine gyr ?_ | refine gna ?_ | refine gyb (by (rintro v ⟨hgu,hB,hG,-⟩ N hN;have r:=hB.r;simp only [BxR] at r;skip;go_simp;exact hN)) ?_
  refine gmd (C:=fun v ⟨hgu,hB,hG,_⟩=>Hml.out _ (HT.grow hG)) ?_
  refine gmd (C:=fun v ⟨hgu,hB,hG,_⟩=>Had.out _ (HT.grow hG)) ?_
  refine geC hL ?_
  clear hB hG hL L
  rintro u ⟨hgu,hB,hG,-⟩
  replace hg0:=hg0.trans hgu
  clear hgu
  refine gt ?_
  clear hN K
  refine sv hB hF hG 1 0 [_,_,_,_,_] ?_
  intro u2 hu hBG
  have hKO : KO b5 W u2:=(KG.ofGrow hg0).trans (KO.by (A1c hu))
  clear hB hG hu hg0
  obtain ⟨hB,hG⟩:=hBG
  obtain ⟨u,rfl⟩ : ∃ x,x = u2:=⟨_,rfl⟩
  refine F0 ?_
  exact ⟨hKO,by rw [HJe.out];show Blk u b5 39 (G5 (H (i + 1)));rw [← HQ.out];exact hB.tail.head⟩
 case done =>
  intro W hgW hJ hK
  rw [HJe.out] at hJ
  obtain ⟨u,hu⟩ : ∃ x,x = W:=⟨_,rfl⟩
  rw [← hu] at hJ hK hgW ⊢
  clear hu
  obtain ⟨n1,n2,n3⟩:=Hw3.out
  obtain ⟨h53,h54,h34⟩:=Hhh.out
  have hk3 : Blk u b3 39 (G5 x):=hgW.keep _ _ h53 HBE.out.tail.head
  have hk4:=hgW.keep _ _ h54 HBE.out.tail.tail.head
  have hG : A3 w u:=((KG.ofGrow HGE.out).trans hgW).grow n1
  have hB : Bx u [(b5,39,G5 (H n)),(b3,39,G5 x),(b4,39,#[.bool false,.int .u64 0,.string ⟨#[]⟩,.int .u64 0,.string ⟨#[]⟩])]:=Bx.cons hJ (Bx.cons hk3 (Bx.cons hk4 (Bx.nil u)))
  have hF : Fr w [b5,b3,b4]:=⟨fun b hb=>by
   simp only [List.mem_cons,List.not_mem_nil,or_false] at hb
   rcases hb with rfl | rfl | rfl <;> omega,by
   simp only [List.nodup_cons,List.mem_cons,List.not_mem_nil,or_false,not_or,not_false_eq_true,List.nodup_nil,and_true]
   exact ⟨⟨fun e=>h53 e.symm,fun e=>h54 e.symm⟩,h34⟩⟩
  obtain ⟨Y,hY⟩ : ∃ Y,Y = H n:=⟨_,rfl⟩
  rw [← hY] at hB ⊢
  clear hJ hk3 hk4 hgW n1 n2 n3 h53 h54 h34 hY
  have HK:=Lib.hid hK
  clear hK
  refine F0 ?_
  refine A4 ?_
  refine r0T ?_
  have hbk:=hB.tail.tail.head
  refine sv hB hF hG 2 0 [_,_,_,_,_] ?_
  intro u2 hu hBG
  have HK2:=Lib.hid (((A1c hu).block _ (Q8 HK.out) (fun e=>by have := Option.some.inj e;have := Hlt.out.2.2;omega)).trans HK.out)
  clear hB hG hu hbk HK
  have HK:=HK2
  clear HK2
  obtain ⟨hB,hG⟩:=hBG
  obtain ⟨u,rfl⟩ : ∃ x,x = u2:=⟨_,rfl⟩
  refine wp_ret ?_
  have hws : w.heap.size ≤ wE.heap.size:=HGE.out.size
  have hB2 : Bx (u.putObj wE.heap.size (.deferred none)) [(b4,39,G5 Y)]:=Bx.cons (A24 hB.tail.tail.head (Nat.ne_of_lt Hlt.out.2.2)) (Bx.nil _)
  refine ⟨by simp,.inl ⟨_,_,rfl,run_takeDeferred HK.out,?_⟩⟩
  have r:=hB2.r
  simp only [BxR] at r
  refine ⟨qV Y,?_,rfl,A65 hG hws⟩
  simp only [results,Tryz.results20]
  go_simp
end Go.Proofs.YtlkniebmjdoopaaGreatDoor
namespace Go.Proofs.YtlkniebmjdoopaaGreatDoor
open Go Go.RowKit
abbrev spV (lo hi : Rat) : Value:=.agg #[.bool (D1 lo.num),.int .u64 (B3 lo.num.natAbs),.string (B1 lo.num.natAbs),.int .u64 (B3 (G3 lo.den)),.string (B1 (G3 lo.den)),.bool (D1 hi.num),.int .u64 (B3 hi.num.natAbs),.string (B1 hi.num.natAbs),.int .u64 (B3 (G3 hi.den)),.string (B1 (G3 hi.den))]
theorem A4r (d : Option Tmp) (ty : TypeId) (pos : String) (af : Array Edge) (gd : Option (Nat × Bool)) : N5 Tryz.prog ⟨d,.alloc 48,ty,pos,af,gd⟩ = .cells #[.bool false,.int .u64 0,.string ⟨#[]⟩,.int .u64 0,.string ⟨#[]⟩,.bool false,.int .u64 0,.string ⟨#[]⟩,.int .u64 0,.string ⟨#[]⟩] 48:=by kernel_rfl
theorem A3a (d : Option Tmp) (ty : TypeId) (pos : String) (af : Array Edge) (gd : Option (Nat × Bool)) : N5 Tryz.prog ⟨d,.alloc 152,ty,pos,af,gd⟩ = .cells #[.bool false,.int .u64 0,.string ⟨#[]⟩,.int .u64 0,.string ⟨#[]⟩,.bool false,.int .u64 0,.string ⟨#[]⟩,.int .u64 0,.string ⟨#[]⟩,.int .i64 0,.int .i64 0] 152:=by kernel_rfl
theorem A7J (d : Option Tmp) (ty : TypeId) (pos : String) (af : Array Edge) (gd : Option (Nat × Bool)) : N5 Tryz.prog ⟨d,.alloc 27,ty,pos,af,gd⟩ = .cells #[.slice none 0 0] 27:=by kernel_rfl
theorem C2 : ∀ t ∈ [39,48,152,27],M8 Tryz.prog t:=by
 intro t ht
 simp only [List.mem_cons,List.not_mem_nil,or_false] at ht
 rcases ht with rfl | rfl | rfl | rfl
 ·exact A5 _ (by simp)
 ·exact fun _ _ _ _ _ _=>by rw [A4r];kernel_rfl
 ·exact fun _ _ _ _ _ _=>by rw [A3a];kernel_rfl
 ·exact fun _ _ _ _ _ _=>by rw [A7J];kernel_rfl
def S5 (l : List Rat) : Int:=if trN l = 0 then 6 else if 25 < trN l then 4 else 0
theorem A3M (A : Option Addr) (l : List Rat) (n c : Nat) (hl : l.length = n) (hc : n ≤ c) (hm : n ≤ 1048576) (hs : ∀ x ∈ l,qs x ≤ BIG) (w : World) (h : Lq w A l) :
  Calls Tryz.prog 50 #[.slice A n c] w fun e w'=>e = .returned (.int .i64 (S5 l)) ∧ A3 w w':=by
 have hdg:=fun W (hg : A3 w W)=>A2c A l n c hl hc hm hs W (h.grow hg)
 have hle : trN l ≤ 1048576:=by have := G4 l;omega
 obtain ⟨D,hD⟩ : ∃ D : Int,D = (trN l : Int) - 1:=⟨_,rfl⟩
 simp only [← hD] at hdg
 have hr : S5 l = if D < 0 then 6 else if D > 24 then 4 else 0:=by
  unfold S5
  by_cases h0 : trN l = 0
  ·rw [if_pos h0,if_pos (show D < 0 by omega)]
  ·rw [if_neg h0,if_neg (show ¬ D < 0 by omega)]
   by_cases h1 : 25 < trN l
   ·rw [if_pos h1,if_pos (show D > 24 by omega)]
   ·rw [if_neg h1,if_neg (show ¬ D > 24 by omega)]
 rw [hr]
 have Hdg:=Lib.hid hdg
 clear hdg hD hle hr hs h hl hc hm
 go_enter Tryz.func50,Tryz.ntmps50
 refine en0 ?_
 intro u hG hB hF
 refine wp_seq ?_
 refine wp_seq (rsE A5 [0,1,0] hB hG fun L hL=>?_)
 refine gs ?_
 refine gmd (C:=fun v ⟨hgu,hB,hG,_⟩=>Hdg.out _ hG) ?_
 refine gs ?_
 refine geT hL ?_
 clear hB hG hL L
 rintro u ⟨-,hB,hG,-⟩
 refine wp_block ?_
 rcases Int.lt_or_le D 0 with h0 | h0
 ·have f1 : decide (D < 0) = true:=decide_eq_true h0
  rw [if_pos h0]
  refine r0T ?_
  refine wp_cond_true (rfl) ?_
  refine r0T ?_
  refine rt Tryz.results50 ?_
  exact ⟨rfl,hG⟩
 ·have f1 : decide (D < 0) = false:=decide_eq_false (by omega)
  rw [if_neg (show ¬ D < 0 by omega)]
  rcases Int.lt_or_le 24 D with h1 | h1
  ·have f2 : decide (D > 24) = true:=decide_eq_true h1
   rw [if_pos (show D > 24 from h1)]
   refine r0T ?_
   refine wp_cond_false (rfl) ?_
   refine r0T ?_
   refine wp_cond_true (rfl) ?_
   refine r0T ?_
   refine rt Tryz.results50 ?_
   exact ⟨rfl,hG⟩
  ·have f2 : decide (D > 24) = false:=decide_eq_false (by omega)
   rw [if_neg (show ¬ D > 24 by omega)]
   refine r0T ?_
   refine wp_cond_false (rfl) ?_
   refine r0T ?_
   refine wp_cond_false (rfl) ?_
   refine wp_skip ?_
   refine F0 ?_
   refine A4 ?_
   refine r0T ?_
   refine rt Tryz.results50 ?_
   exact ⟨rfl,hG⟩
def D6 (lo hi : Rat) : Rat:=J5 (M4 lo hi) (A8 2)
theorem A8K (lo hi : Rat) (Z : Nat) (h1 : qs lo ≤ Z) (h2 : qs hi ≤ Z) (hB : 8 * Z + 100 ≤ BIG) (w : World) (HT : Tab w) : Calls Tryz.prog 113 #[spV lo hi] w fun e w'=>e = .returned (qV (D6 lo hi)) ∧ A3 w w':=by
 have had:=fun (W : World) (hT : Tab W)=>A3Z lo hi W (by omega) hT
 have z1:=A9f lo hi
 have z2 : qs (A8 2) ≤ 2:=by decide
 have hdv:=fun (W : World) (hT : Tab W)=>A2v (a:=M4 lo hi) (b:=A8 2) (w:=W) (by unfold M4;omega) hT
 unfold D6
 obtain ⟨S,hS⟩ : ∃ S,S = M4 lo hi:=⟨_,rfl⟩
 rw [← hS]
 simp only [← hS] at had hdv
 obtain ⟨M,hM⟩ : ∃ M,M = J5 S (A8 2):=⟨_,rfl⟩
 rw [← hM]
 simp only [← hM] at hdv
 obtain ⟨ok,hok⟩ : ∃ x,x = nzq (A8 2):=⟨_,rfl⟩
 simp only [← hok] at hdv
 have Had:=Lib.hid had
 have Hdv:=Lib.hid hdv
 clear had hdv hS hM hok z1 z2 h1 h2 hB
 go_enter Tryz.func113,Tryz.ntmps113
 refine en2 ?_
 intro u hG b2 b1 hB hF
 refine wp_seq (rsC C2 [0,0,0,0,1,1,1,0,0,0,2] hB hG fun K L hN hL=>?_)
 refine gs ?_
 refine gmd (C:=fun v ⟨hgu,hB,hG,_⟩=>Had.out _ (HT.grow hG)) ?_
 refine gmw (C:=fun v=>O7 2 (by omega) (by omega) _) ?_
 refine gmd (C:=fun v ⟨hgu,hB,hG,_⟩=>Hdv.out _ (HT.grow hG)) ?_
 refine gs ?_
 refine gaa (N0 _ _ _ _ _) fun b3 hb3 hn3=>?_
 replace hF:=hF.n1 [] hB hG hb3 hn3
 refine geC hL ?_
 clear hB hG hL L
 rintro u ⟨⟨-,hB,hG,-⟩,h3⟩
 replace hB:=hB.cons' h3
 clear h3
 clear hb3 hn3
 refine gtT ?_
 clear hN K
 refine st hB hF hG 0 0 [_,_,_,_,_] ?_
 clear hB hG
 intro u hB hG
 refine r0T ?_
 refine st hB hF hG 2 0 [_,_,_,_,_] ?_
 clear hB hG
 intro u hB hG
 refine rt Tryz.results113 ?_
 exact ⟨rfl,hG⟩
def T3 (l : List Rat) (x : Rat) : Prop:=l.length ≤ 1000 ∧ ∃ Z,(∀ y ∈ l,qs y ≤ Z) ∧ qs x ≤ Z ∧ (∀ i,i ≤ l.length → qs (O3 l x i) ≤ Z) ∧ 8 * Z + 10 ≤ BIG
def sgQ (l : List Rat) (x : Rat) : Int:=(atQ l x).num.sign
theorem A2w {l : List Rat} {x : Rat} (h : T3 l x) (W : World) (A : Ax) (hl : Lq W A.1 l) (HT : Tab W) : Calls Tryz.prog 20 #[.slice A.1 l.length A.2,qV x] W fun e w'=>e = .returned (qV (atQ l x)) ∧ A3 W w':=by
 obtain ⟨h0,Z,h1,h2,h3,h4⟩:=h
 exact B39 A.1 l l.length A.2 x rfl (by omega) Z h1 h2 h3 h4 W hl HT
theorem A2A {l : List Rat} {x : Rat} (h : T3 l x) (W : World) : Calls Tryz.prog 21 #[qV (atQ l x)] W fun e w'=>e = .returned (.int .i64 (sgQ l x)) ∧ A3 W w':=by
 obtain ⟨h0,Z,h1,h2,h3,h4⟩:=h
 exact Q7 _ (by have h5:=h3 l.length (Nat.le_refl _);have h6:=F8 (atQ l x);unfold atQ at h6 ⊢;have h7:=K9;omega) W
def R1 (f : List Rat) (x : Rat) : Int:=if sgQ f x = 0 then sgQ (D2 f) x else sgQ f x
theorem B4c (A : Option Addr) (c n : Nat) (f : List Rat) (hn : f.length = n) (x : Rat) (h1 : T3 f x) (h2 : I3 128 f (D2 f)) (h3 : T3 (D2 f) x) (w : World) (h : PR f (A,c) w) (HT : Tab w) : Calls Tryz.prog 96 #[.slice A n c,qV x] w fun e w'=>e = .returned (.int .i64 (R1 f x)) ∧ A3 w w':=by
 have ha:=fun W (hg : A3 w W)=>A2w h1 W (A,c) (h.grow hg).1 (HT.grow hg)
 have hs:=fun W=>A2A h1 W
 have hd : ∀ W,A3 w W → Calls Tryz.prog 128 #[.slice A f.length c] W (E7 (D2 f) W):=fun W hg=>h2 W (A,c) (h.grow hg) (HT.grow hg)
 have ha2:=fun W (B : Ax) (hB : PR (D2 f) B W) (hT : Tab W)=>A2w h3 W B hB.1 hT
 have hs2:=fun W=>A2A h3 W
 unfold E7 at hd
 unfold R1
 obtain ⟨V,hV⟩ : ∃ V,V = atQ f x:=⟨_,rfl⟩
 obtain ⟨S,hS⟩ : ∃ V,V = sgQ f x:=⟨_,rfl⟩
 obtain ⟨D,hD⟩ : ∃ V,V = D2 f:=⟨_,rfl⟩
 rw [← hS,← hD]
 simp only [← hn,← hV,← hS] at ha hs
 simp only [← hD] at hd ha2 hs2
 obtain ⟨V2,hV2⟩ : ∃ V,V = atQ D x:=⟨_,rfl⟩
 obtain ⟨S2,hS2⟩ : ∃ V,V = sgQ D x:=⟨_,rfl⟩
 obtain ⟨m,hm⟩ : ∃ m,m = D.length:=⟨_,rfl⟩
 rw [← hS2]
 simp only [← hV2,← hS2,← hm] at ha2 hs2
 simp only [← hm] at hd
 rw [hn] at ha hd
 have Ha:=Lib.hid ha
 have Hs:=Lib.hid hs
 have Hd:=Lib.hid hd
 have Ha2:=Lib.hid ha2
 have Hs2:=Lib.hid hs2
 clear ha hs hd ha2 hs2 hV hS hD hV2 hS2 hm h1 h2 h3 h hn
 go_enter Tryz.func96,Tryz.ntmps96
 refine en1 ?_
 intro u hG b3 hB hF
 refine wp_seq ?_
 refine wp_seq (rsE C2 [0,0,1,1,0] hB hG fun L hL=>?_)
 refine gs ?_
 refine gmd (C:=fun v ⟨hgu,hB,hG,_⟩=>Ha.out _ hG) ?_
 refine gmw (C:=fun v=>Hs.out _) ?_
 refine gs ?_
 refine geT hL ?_
 clear hB hG hL L
 rintro u ⟨-,hB,hG,-⟩
 by_cases hx : S = 0
 ·have f1 : (S != 0) = false:=by simp [hx]
  have f1n : (S == 0) = true:=by simp [hx]
  rw [if_pos hx]
  have Hx:=Lib.hid hx
  clear hx
  refine r0T ?_
  refine wp_cond_false (rfl) ?_
  refine wp_skip ?_
  refine A4 ?_
  refine wp_seq (rdC C2 [] [(0,0),(0,2),(1,1),(1,3),(1,4)] hB hG fun K L hN hL=>?_)
  refine gs ?_
  refine gxd (X:=Ax) (fun x : Ax=>.slice x.1 m x.2) (fun x W=>PR D x W) (fun x u u' hg h=>h.grow hg) (fun x14=>?_) (C:=by (rintro v ⟨hgu,hB,hG,-⟩;exact Hd.out _ hG))
  refine gmd (C:=fun v ⟨⟨hgu,hB,hG,_⟩,hx14⟩=>Ha2.out _ x14 hx14 (HT.grow hG)) ?_
  refine gmw (C:=fun v=>Hs2.out _) ?_
  refine geC hL ?_
  clear hB hG hL L
  rintro u ⟨⟨-,hB,hG,-⟩,hx14⟩
  refine gtT ?_
  clear hN K
  refine rt Tryz.results96 ?_
  exact ⟨rfl,hG⟩
 ·have f1 : (S != 0) = true:=by simp [hx]
  have f1n : (S == 0) = false:=by simp [hx]
  rw [if_neg hx]
  have Hx:=Lib.hid hx
  clear hx
  refine r0T ?_
  refine wp_cond_true (rfl) ?_
  refine r0T ?_
  refine rt Tryz.results96 ?_
  exact ⟨rfl,hG⟩
def A2Q (f : List Rat) (side : Int) (s : Rat × Rat) : Rat × Rat:=if sgQ f (D6 s.1 s.2) = side then (D6 s.1 s.2,s.2) else (s.1,D6 s.1 s.2)
theorem B5T (A : Option Addr) (c n : Nat) (f : List Rat) (hn : f.length = n) (side : Int) (lo hi : Rat) (Z : Nat) (z1 : qs lo ≤ Z) (z2 : qs hi ≤ Z) (hB : 8 * Z + 100 ≤ BIG) (h1 : T3 f (D6 lo hi)) (w : World) (h : PR f (A,c) w) (HT : Tab w) : Calls Tryz.prog 98 #[.slice A n c,.int .i64 side,spV lo hi] w fun e w'=>e = .returned (spV (A2Q f side (lo,hi)).1 (A2Q f side (lo,hi)).2) ∧ A3 w w':=by
 have hmd:=fun (W : World) (hT : Tab W)=>A8K lo hi Z z1 z2 hB W hT
 have ha:=fun W (hg : A3 w W)=>A2w h1 W (A,c) (h.grow hg).1 (HT.grow hg)
 have hs:=fun W=>A2A h1 W
 unfold A2Q
 show Calls _ _ _ _ fun e w'=>e = .returned (spV (if sgQ f (D6 lo hi) = side then (D6 lo hi,hi) else (lo,D6 lo hi)).1 (if sgQ f (D6 lo hi) = side then (D6 lo hi,hi) else (lo,D6 lo hi)).2) ∧ A3 w w'
 obtain ⟨M,hM⟩ : ∃ V,V = D6 lo hi:=⟨_,rfl⟩
 rw [← hM]
 simp only [← hM] at hmd ha hs
 obtain ⟨V,hV⟩ : ∃ V,V = atQ f M:=⟨_,rfl⟩
 obtain ⟨S,hS⟩ : ∃ V,V = sgQ f M:=⟨_,rfl⟩
 rw [← hS]
 simp only [← hV,← hS] at ha hs
 rw [hn] at ha
 have Hmd:=Lib.hid hmd
 have Ha:=Lib.hid ha
 have Hs:=Lib.hid hs
 clear hmd ha hs hM hV hS h1 h hn z1 z2 hB
 go_enter Tryz.func98,Tryz.ntmps98
 refine en2 ?_
 intro u hG b6 b5 hB hF
 refine wp_seq (rsC C2 [0,1,2] hB hG fun K L hN hL=>?_)
 refine gs ?_
 refine gmd (C:=fun v ⟨hgu,hB,hG,_⟩=>Hmd.out _ (HT.grow hG)) ?_
 refine gaa (N0 _ _ _ _ _) fun b7 hb7 hn7=>?_
 replace hF:=hF.n1 [] hB hG hb7 hn7
 refine geC hL ?_
 clear hB hG hL L
 rintro u ⟨⟨-,hB,hG,-⟩,h7⟩
 replace hB:=hB.cons' h7
 clear h7
 clear hb7 hn7
 refine gtT ?_
 clear hN K
 refine st hB hF hG 0 0 [_,_,_,_,_] ?_
 clear hB hG
 intro u hB hG
 refine wp_seq ?_
 by_cases hx : S = side
 ·have f1 : (S == side) = true:=by simp [hx]
  rw [if_pos hx]
  have Hx:=Lib.hid hx
  clear hx
  refine wp_seq (rsE C2 [0,0,1,1,0,0] hB hG fun L hL=>?_)
  refine gs ?_
  refine gmd (C:=fun v ⟨hgu,hB,hG,_⟩=>Ha.out _ hG) ?_
  refine gmw (C:=fun v=>Hs.out _) ?_
  refine gs ?_
  refine geT hL ?_
  clear hB hG hL L
  rintro u ⟨-,hB,hG,-⟩
  refine wp_cond_true (rfl) ?_
  refine r0T ?_
  refine st hB hF hG 2 0 [_,_,_,_,_,_,_,_,_,_] ?_
  clear hB hG
  intro u hB hG
  refine rt Tryz.results98 ?_
  exact ⟨rfl,hG⟩
 ·have f1 : (S == side) = false:=by simp [hx]
  rw [if_neg hx]
  have Hx:=Lib.hid hx
  clear hx
  refine wp_seq (rsE C2 [0,0,1,1,0,0] hB hG fun L hL=>?_)
  refine gs ?_
  refine gmd (C:=fun v ⟨hgu,hB,hG,_⟩=>Ha.out _ hG) ?_
  refine gmw (C:=fun v=>Hs.out _) ?_
  refine gs ?_
  refine geT hL ?_
  clear hB hG hL L
  rintro u ⟨-,hB,hG,-⟩
  refine wp_cond_false (rfl) ?_
  refine wp_skip ?_
  refine A4 ?_
  refine r0T ?_
  refine st hB hF hG 2 0 [_,_,_,_,_,_,_,_,_,_] ?_
  clear hB hG
  intro u hB hG
  refine rt Tryz.results98 ?_
  exact ⟨rfl,hG⟩
end Go.Proofs.YtlkniebmjdoopaaGreatDoor
