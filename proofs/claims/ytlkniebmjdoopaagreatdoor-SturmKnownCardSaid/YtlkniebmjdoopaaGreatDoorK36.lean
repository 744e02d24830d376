/- Contracts and laws. -/
import Derived.Test.YtlkniebmjdoopaaGreatDoorK35
set_option linter.unusedSimpArgs false
set_option linter.unusedVariables false
set_option maxHeartbeats 4000000
set_option maxRecDepth 100000
namespace Go.Proofs.YtlkniebmjdoopaaGreatDoor
open Go Go.RowKit
def N6 (W : World) (rs : List Rq) : Prop:=∀ r ∈ rs,PR r.2.2 (r.1,r.2.1) W
theorem N6.grow {u v : World} {rs : List Rq} (h : N6 u rs) (hg : A3 u v) : N6 v rs:=fun r hr=>(h r hr).grow hg
theorem PR.kept {l : List Rat} {x : Ax} {u w' : World} {g : Option Nat} (h : PR l x u) (hg : u.grownBy w' g) (hn : ∀ a,x.1 = some a → g ≠ some a.block) : PR l x w':=by
 obtain ⟨h1,h2,h3⟩:=h
 refine ⟨fun hne=>?_,h2,fun a ha=>?_⟩
 ·obtain ⟨b,off,e,hb,hrd⟩:=h1 hne
  have hc : ∀ o,w'.cell? ⟨b,o,none⟩ = u.cell? ⟨b,o,none⟩:=fun o=>by
   unfold World.cell?
   rw [hg.block b hb (fun e2=>hn _ e e2.symm)]
  exact ⟨b,off,e,Nat.lt_of_lt_of_le hb hg.size,fun i q hi j v hj=>(hc _).trans (hrd i q hi j v hj)⟩
 ·obtain ⟨cs,fr,e⟩:=h3 a ha
  exact ⟨cs,fr,(hg.block _ (Array.getElem?_eq_some_iff.1 e).1 (fun e2=>hn a ha e2.symm)).trans e⟩
theorem A2d {u : World} {B size n g : Nat} {T : TypeId} {v : Value} {xs : List Value} (h : u.ownsRow B T size v n xs) (hg : v.ownBlock = some g) : ∃ cs fr,u.heap[g]? = some (.cells cs T fr):=by
 obtain ⟨_,h | ⟨g',cap,cur,e,hb,hh,hn,hc,hs,ht⟩⟩:=h
 ·rw [h.1] at hg
  simp [Value.ownBlock] at hg
 ·rw [e] at hg
  simp only [Value.ownBlock] at hg
  cases hg
  exact ⟨_,_,hh⟩
theorem PR.off {l : List Rat} {x : Ax} {u w' : World} {B size n : Nat} {T : TypeId} {v : Value} {xs : List Value} (h : PR l x u) (ho : u.ownsRow B T size v n xs) (hT : T ≠ 39) (hg : u.grownBy w' v.ownBlock) : PR l x w' :=
 h.kept hg fun a ha e=>by
  obtain ⟨cs,fr,e1⟩:=A2d ho e
  obtain ⟨cs2,fr2,e2⟩:=h.2.2 a ha
  rw [e1] at e2
  have e3:=Option.some.inj e2
  injection e3 with _ e4
  exact hT e4
theorem N6.off {u w' : World} {rs : List Rq} {B size n : Nat} {T : TypeId} {v : Value} {xs : List Value} (h : N6 u rs) (ho : u.ownsRow B T size v n xs) (hT : T ≠ 39) (hg : u.grownBy w' v.ownBlock) : N6 w' rs:=fun r hr=>(h r hr).off ho hT hg
theorem PR.put {l : List Rat} {x : Ax} {u u' : World} {b i : Nat} {T : TypeId} {cs : Array Value} {vs : List Value} (h : PR l x u) (hb : Blk u b T cs) (hT : T ≠ 39) (hu : E9 u b i vs = u') : PR l x u' :=
 h.kept (A1c hu) fun a ha e=>by
  obtain ⟨cs2,fr2,e2⟩:=h.2.2 a ha
  have e:=Option.some.inj e
  rw [← e] at e2
  have e3:=Option.some.inj (hb.symm.trans e2)
  injection e3 with _ e4
  exact hT e4
def RW (Ps : List (List Rat)) (A : Option Addr) (W : World) : Prop:=∃ rs : List Rq,rs.map (·.2.2) = Ps ∧ Lrq W A rs ∧ N6 W rs ∧ ∀ a,A = some a → ∃ cs fr,W.heap[a.block]? = some (.cells cs 23 fr)
theorem RW.grow {Ps : List (List Rat)} {A : Option Addr} {u v : World} (h : RW Ps A u) (hg : A3 u v) : RW Ps A v:=by
 obtain ⟨rs,e,h,h2,h3⟩:=h
 exact ⟨rs,e,h.grow hg,N6.grow h2 hg,fun a ha=>by
  obtain ⟨cs,fr,e⟩:=h3 a ha
  exact ⟨cs,fr,(hg.block _ (Array.getElem?_eq_some_iff.1 e).1).trans e⟩⟩
theorem RW.kept {Ps : List (List Rat)} {A : Option Addr} {u v : World} (h : RW Ps A u) (hsz : u.heap.size ≤ v.heap.size) (hk : ∀ (k : Nat) (cs : Array Value) (T : TypeId) (fr : Nat × Nat),T = 39 ∨ T = 23 → u.heap[k]? = some (.cells cs T fr) → v.heap[k]? = some (.cells cs T fr)) : RW Ps A v:=by
 obtain ⟨rs,e,h,h2,h3⟩:=h
 have hp : ∀ (l : List Rat) (x : Ax),PR l x u → PR l x v:=fun l x ⟨p1,p2,p3⟩=>⟨fun hne=>by
  obtain ⟨b,off,e,hb,hrd⟩:=p1 hne
  obtain ⟨cs,fr,e1⟩:=p3 _ e
  have hc : ∀ o,v.cell? ⟨b,o,none⟩ = u.cell? ⟨b,o,none⟩:=fun o=>by
   unfold World.cell?
   rw [hk b cs 39 fr (.inl rfl) e1,e1]
  exact ⟨b,off,e,Nat.lt_of_lt_of_le hb hsz,fun i q hi j v hj=>(hc _).trans (hrd i q hi j v hj)⟩,p2,fun a ha=>by
  obtain ⟨cs,fr,e1⟩:=p3 a ha
  exact ⟨cs,fr,hk _ cs 39 fr (.inl rfl) e1⟩⟩
 refine ⟨rs,e,fun hne=>?_,fun r hr=>hp _ _ (h2 r hr),fun a ha=>?_⟩
 ·obtain ⟨b,off,e,hb,hrd⟩:=h hne
  obtain ⟨cs,fr,e1⟩:=h3 _ e
  have hc : ∀ o,v.cell? ⟨b,o,none⟩ = u.cell? ⟨b,o,none⟩:=fun o=>by
   unfold World.cell?
   rw [hk b cs 23 fr (.inr rfl) e1,e1]
  exact ⟨b,off,e,Nat.lt_of_lt_of_le hb hsz,fun i r hi=>⟨(hc _).trans (hrd i r hi).1,(hp r.2.2 (r.1,r.2.1) (h2 r (List.mem_of_getElem? hi))).1⟩⟩
 ·obtain ⟨cs,fr,e1⟩:=h3 a ha
  exact ⟨cs,fr,hk _ cs 23 fr (.inr rfl) e1⟩
theorem RW.put {Ps : List (List Rat)} {A : Option Addr} {u u' : World} {b i : Nat} {T : TypeId} {cs : Array Value} {vs : List Value} (h : RW Ps A u) (hb : Blk u b T cs) (hT : T ≠ 39 ∧ T ≠ 23) (hu : E9 u b i vs = u') : RW Ps A u' :=
 h.kept (A1c hu).size fun k c2 T2 fr hT2 e=>by
  refine ((A1c hu).block k (Array.getElem?_eq_some_iff.1 e).1 fun e2=>?_).trans e
  have e2:=Option.some.inj e2
  rw [e2] at e
  have e3:=Option.some.inj (hb.symm.trans e)
  injection e3 with _ e4
  rcases hT2 with h2 | h2 <;> rw [h2] at e4
  ·exact hT.1 e4
  ·exact hT.2 e4
theorem RW.at {Ps : List (List Rat)} {A : Option Addr} {w : World} (h : RW Ps A w) {i : Nat} (hi : i < Ps.length) : ∃ (bb ob : Nat) (P : Ax),A = some ⟨bb,ob,none⟩ ∧ ∀ W,A3 w W → W.cell? ⟨bb,ob + i,none⟩ = some (.slice P.1 (Q9 Ps i).length P.2) ∧ Lq W P.1 (Q9 Ps i):=by
 obtain ⟨rs,rfl,h,-,-⟩:=h
 rw [List.length_map] at hi
 obtain ⟨bb,ob,rfl⟩:=h.addr (by omega)
 refine ⟨bb,ob,(rs[i].1,rs[i].2.1),rfl,fun W hg=>?_⟩
 have h3:=(h.grow hg).read (List.getElem?_eq_getElem hi)
 have e : Q9 (rs.map (·.2.2)) i = rs[i].2.2:=by unfold Q9;rw [List.getElem?_map,List.getElem?_eq_getElem hi];rfl
 rw [e]
 exact h3
def E2 (s : Nat → Int) : Nat → Nat × Int
 | 0=>(0,0)
 | i + 1=>if s i = 0 then E2 s i else (if s i = -(E2 s i).2 then (E2 s i).1 + 1 else (E2 s i).1,s i)
def Y1 (Ps : List (List Rat)) (x : Rat) : Nat:=(E2 (fun i=>sgQ (Q9 Ps i) x) Ps.length).1
theorem A5M (s : Nat → Int) : ∀ i,(E2 s i).1 ≤ i
 | 0=>Nat.le_refl _
 | i + 1=>by
  have ih:=A5M s i
  unfold E2
  split
  ·omega
  ·show (if _ then _ else _ : Nat) ≤ _
   split
   ·exact Nat.succ_le_succ ih
   ·exact Nat.le_succ_of_le ih
theorem A8e (s : Nat → Int) (h : ∀ i,s i = 1 ∨ s i = -1 ∨ s i = 0) : ∀ i,(E2 s i).2 = 1 ∨ (E2 s i).2 = -1 ∨ (E2 s i).2 = 0
 | 0=>.inr (.inr rfl)
 | i + 1=>by
  unfold E2
  split
  ·exact A8e s h i
  ·exact h i
theorem B2H (a : Rat) : a.num.sign = 1 ∨ a.num.sign = -1 ∨ a.num.sign = 0:=by
 rcases Int.lt_trichotomy a.num 0 with h | h | h
 ·exact .inr (.inl (Int.sign_eq_neg_one_of_neg h))
 ·exact .inr (.inr (by rw [h];rfl))
 ·exact .inl (Int.sign_eq_one_of_pos h)
theorem B6k {Ps : List (List Rat)} {i : Nat} (h : i < Ps.length) : Q9 Ps i ∈ Ps:=by
 unfold Q9
 rw [List.getElem?_eq_getElem h]
 exact List.getElem_mem h
theorem A4l (A : Option Addr) (c N : Nat) (Ps : List (List Rat)) (hN : Ps.length = N) (hm : N ≤ 1000) (x : Rat) (hat : ∀ p ∈ Ps,T3 p x) (w : World) (h : RW Ps A w) (HT : Tab w) : Calls Tryz.prog 112 #[.slice A N c,qV x] w fun e w'=>e = .returned (.int .i64 (Y1 Ps x : Nat)) ∧ A3 w w':=by
 have hrd : ∀ i,i < N → ∃ (bb ob : Nat) (P : Ax) (n : Nat) (V : Rat),A = some ⟨bb,ob,none⟩ ∧ (∀ W,A3 w W → W.cell? ⟨bb,ob + i,none⟩ = some (.slice P.1 n P.2)) ∧ (∀ W,A3 w W → Calls Tryz.prog 20 #[.slice P.1 n P.2,qV x] W fun e w'=>e = .returned (qV V) ∧ A3 W w') ∧ ∀ W,Calls Tryz.prog 21 #[qV V] W fun e w'=>e = .returned (.int .i64 (sgQ (Q9 Ps i) x)) ∧ A3 W w':=fun i hi=>by
  obtain ⟨bb,ob,P,rfl,hr⟩:=h.at (i:=i) (by omega)
  have ha:=hat _ (B6k (i:=i) (by omega))
  exact ⟨bb,ob,P,(Q9 Ps i).length,atQ (Q9 Ps i) x,rfl,fun W hg=>(hr W hg).1,fun W hg=>A2w ha W P (hr W hg).2 (HT.grow hg),fun W=>A2A ha W⟩
 unfold Y1
 rw [hN]
 obtain ⟨s,hs⟩ : ∃ s : Nat → Int,s = fun i=>sgQ (Q9 Ps i) x:=⟨_,rfl⟩
 have hsi : ∀ i,sgQ (Q9 Ps i) x = s i:=by rw [hs];exact fun _=>rfl
 have hs3 : ∀ i,s i = 1 ∨ s i = -1 ∨ s i = 0:=fun i=>by rw [← hsi];exact B2H _
 have hl:=A8e s hs3
 have hle:=A5M s
 have hst : ∀ i,E2 s (i + 1) = if s i = 0 then E2 s i else (if s i = -(E2 s i).2 then (E2 s i).1 + 1 else (E2 s i).1,s i):=fun _=>rfl
 rw [← hs]
 simp only [hsi] at hrd
 have Hrd:=Lib.hid hrd
 have Hl:=Lib.hid hl
 have Hle:=Lib.hid hle
 have Hst:=Lib.hid hst
 clear hrd hl hle hst hs3 hsi hs hat h hN
 go_enter Tryz.func112,Tryz.ntmps112
 refine en1 ?_
 intro u hG b3 hB hF
 refine wp_seq ?_
 have h3w:=hF.1 b3 (by simp)
 refine r0N ?_
 refine wp_seq ?_
 refine r0T ?_
 refine wp_block ?_
 clear hF
 go_loopw [12,5,6] (fun s0 s1 s2 wr=>∃ i : Nat,i ≤ N ∧ s0 = .int .i64 i ∧ s1 = .int .i64 ((E2 s i).1 : Nat) ∧ s2 = .int .i64 (E2 s i).2 ∧ Bx wr [(b3,39,G5 x)] ∧ A3 w wr) (fun s0 _ _ _=>N - (intOf s0).toNat)
 case atStart=>exact ⟨0,Nat.zero_le _,rfl,rfl,rfl,hB,hG⟩
 case round =>
  clear hG hB
  obtain ⟨i,hi,rfl,rfl,rfl,hB,hG⟩:=hrel
  obtain ⟨u,rfl⟩ : ∃ x,x = wr:=⟨_,rfl⟩
  have hF : Fr w [b3]:=⟨fun b hb=>by
   simp only [List.mem_cons,List.not_mem_nil,or_false] at hb
   subst hb
   exact h3w,by simp⟩
  rcases Nat.lt_or_ge i N with hlt | hge
  ·have hdec : decide ((i : Int) < (N : Int)) = true:=by simp;omega
   have hin : (i : Int) < (N : Int):=by omega
   obtain ⟨bb,ob,⟨P1,P2⟩,n,V,rfl,hrd,hat,hsg⟩:=Hrd.out i hlt
   have hst:=Hst.out i
   have hle:=Hle.out i
   have hl:=Hl.out i
   obtain ⟨T,hT⟩ : ∃ T,T = E2 s i:=⟨_,rfl⟩
   rw [← hT] at hst hle hl
   simp only [← hT]
   obtain ⟨t,L0⟩:=T
   simp only at hst hle hl ⊢
   obtain ⟨S,hS⟩ : ∃ S,S = s i:=⟨_,rfl⟩
   rw [← hS] at hst
   simp only [← hS] at hsg
   have fw : IntKind.i64.wrap (-L0) = -L0:=IntWalk.i64_in _ (by omega)
   have fw1 : IntKind.i64.wrap ((t : Int) + 1) = ((t + 1 : Nat) : Int):=by rw [IntWalk.i64_in _ (by omega)];omega
   have Hrd1:=Lib.hid hrd
   have Hat:=Lib.hid hat
   have Hsg:=Lib.hid hsg
   have Hle1:=Lib.hid hle
   clear hrd hat hsg hT hS hl hle
   by_cases hx : S = 0
   ·have f21 : (S == 0) = true:=by simp [hx]
    have HN:=Lib.hid (show E2 s (i + 1) = (t,L0) by rw [hst,if_pos hx])
    clear hst hx
    refine r0T ?_
    refine wp_seq ?_
    refine wp_cond_true (rfl) ?_
    refine wp_skip ?_
    refine A4 ?_
    refine wp_seq ?_
    refine wp_block ?_
    refine wp_seq ?_
    have c1:=Hrd1.out u hG
    refine r0N ?_
    clear c1
    refine wp_seq (rsE A5 [0,0,1,1,0] hB hG fun L hL=>?_)
    refine gs ?_
    refine gmd (C:=fun v ⟨hgu,hB,hG,_⟩=>Hat.out _ hG) ?_
    refine gmw (C:=fun v=>Hsg.out _) ?_
    refine gs ?_
    refine geT hL ?_
    clear hB hG hL L
    rintro u ⟨-,hB,hG,-⟩
    refine wp_seq ?_
    refine r0T ?_
    refine wp_cond_true (rfl) ?_
    refine wp_exit ?_
    refine D7 ?_
    refine G8 ?_
    refine A4 ?_
    refine r0E ?_
    refine A4 ?_
    go_roundw
    case rel=>exact ⟨i + 1,by omega,by go_num,by rw [HN.out];first | done | go_num,by rw [HN.out],hB,hG⟩
    case measure=>simp [intOf];omega
   ·have f21 : (S == 0) = false:=by simp [hx]
    by_cases hy : S = -L0
    ·have f25 : (S == -L0) = true:=by simp [hy]
     have HN:=Lib.hid (show E2 s (i + 1) = (t + 1,S) by rw [hst,if_neg hx,if_pos hy])
     clear hst hx hy
     refine r0T ?_
     refine wp_seq ?_
     refine wp_cond_true (rfl) ?_
     refine wp_skip ?_
     refine A4 ?_
     refine wp_seq ?_
     refine wp_block ?_
     refine wp_seq ?_
     have c1:=Hrd1.out u hG
     refine r0N ?_
     clear c1
     refine wp_seq (rsE A5 [0,0,1,1,0] hB hG fun L hL=>?_)
     refine gs ?_
     refine gmd (C:=fun v ⟨hgu,hB,hG,_⟩=>Hat.out _ hG) ?_
     refine gmw (C:=fun v=>Hsg.out _) ?_
     refine gs ?_
     refine geT hL ?_
     clear hB hG hL L
     rintro u ⟨-,hB,hG,-⟩
     refine wp_seq ?_
     refine r0T ?_
     refine wp_cond_false (rfl) ?_
     refine wp_skip ?_
     refine A4 ?_
     refine wp_seq ?_
     refine r0T ?_
     refine wp_cond_true (rfl) ?_
     refine r0N ?_
     refine r0E ?_
     refine F0 ?_
     refine A4 ?_
     refine r0E ?_
     refine A4 ?_
     go_roundw
     case rel=>exact ⟨i + 1,by omega,by go_num,by rw [HN.out];first | done | go_num,by rw [HN.out],hB,hG⟩
     case measure=>simp [intOf];omega
    ·have f25 : (S == -L0) = false:=by simp [hy]
     have HN:=Lib.hid (show E2 s (i + 1) = (t,S) by rw [hst,if_neg hx,if_neg hy])
     clear hst hx hy
     refine r0T ?_
     refine wp_seq ?_
     refine wp_cond_true (rfl) ?_
     refine wp_skip ?_
     refine A4 ?_
     refine wp_seq ?_
     refine wp_block ?_
     refine wp_seq ?_
     have c1:=Hrd1.out u hG
     refine r0N ?_
     clear c1
     refine wp_seq (rsE A5 [0,0,1,1,0] hB hG fun L hL=>?_)
     refine gs ?_
     refine gmd (C:=fun v ⟨hgu,hB,hG,_⟩=>Hat.out _ hG) ?_
     refine gmw (C:=fun v=>Hsg.out _) ?_
     refine gs ?_
     refine geT hL ?_
     clear hB hG hL L
     rintro u ⟨-,hB,hG,-⟩
     refine wp_seq ?_
     refine r0T ?_
     refine wp_cond_false (rfl) ?_
     refine wp_skip ?_
     refine A4 ?_
     refine wp_seq ?_
     refine r0T ?_
     refine wp_cond_false (rfl) ?_
     refine wp_skip ?_
     refine A4 ?_
     refine r0E ?_
     refine F0 ?_
     refine A4 ?_
     refine r0E ?_
     refine A4 ?_
     go_roundw
     case rel=>exact ⟨i + 1,by omega,by go_num,by rw [HN.out];first | done | go_num,by rw [HN.out],hB,hG⟩
     case measure=>simp [intOf];omega
  ·obtain rfl : N = i:=by omega
   have hdec : decide ((N : Int) < (N : Int)) = false:=by simp
   clear hge hi
   refine r0T ?_
   refine wp_seq ?_
   refine wp_cond_false (rfl) ?_
   refine wp_exit ?_
   refine D7 ?_
   refine D7 ?_
   refine G8 ?_
   refine A4 ?_
   refine r0T ?_
   refine rt Tryz.results112 ?_
   exact ⟨rfl,hG⟩
def J7 (Ps : List (List Rat)) (lo hi : Rat) : Int:=if hi ≤ lo then 0 else (Y1 Ps lo : Int) - Y1 Ps hi
theorem A6P (Ps : List (List Rat)) (x : Rat) : Y1 Ps x ≤ Ps.length:=A5M _ _
theorem B1W (A : Option Addr) (c N : Nat) (lo hi : Rat) (t1 t2 : Nat) (w : World) (HT : Tab w) (fw : IntKind.i64.wrap ((t1 : Int) - (t2 : Int)) = (t1 : Int) - (t2 : Int)) (hcm : ∀ W,Calls Tryz.prog 18 #[qV lo,qV hi] W fun e w'=>e = .returned (.int .i64 (-1)) ∧ A3 W w')
  (ht1 : ∀ W,A3 w W → Calls Tryz.prog 112 #[.slice A N c,qV lo] W fun e w'=>e = .returned (.int .i64 (t1 : Nat)) ∧ A3 W w') (ht2 : ∀ W,A3 w W → Calls Tryz.prog 112 #[.slice A N c,qV hi] W fun e w'=>e = .returned (.int .i64 (t2 : Nat)) ∧ A3 W w') : Calls Tryz.prog 55 #[.slice A N c,spV lo hi] w fun e w'=>e = .returned (.int .i64 ((t1 : Int) - t2)) ∧ A3 w w':=by
 have Hcm:=Lib.hid hcm
 have Ht1:=Lib.hid ht1
 have Ht2:=Lib.hid ht2
 clear hcm ht1 ht2
 go_enter Tryz.func55,Tryz.ntmps55
 refine en1 ?_
 intro u hG b3 hB hF
 refine wp_seq ?_
 refine wp_seq (rsE A5 [0,0,0,0,1,0] hB hG fun L hL=>?_)
 refine gs ?_
 refine gmw (C:=fun v=>Hcm.out _) ?_
 refine gs ?_
 refine geT hL ?_
 clear hB hG hL L
 rintro u ⟨-,hB,hG,-⟩
 refine wp_cond_false (rfl) ?_
 refine wp_skip ?_
 refine A4 ?_
 refine wp_seq (rdC A5 [] [(0,0),(0,1),(0,2),(0,4),(0,5),(0,6),(1,3),(1,7),(0,8)] hB hG fun K L hN hL=>?_)
 refine gs ?_
 refine gmd (C:=fun v ⟨hgu,hB,hG,_⟩=>Ht1.out _ hG) ?_
 refine gmd (C:=fun v ⟨hgu,hB,hG,_⟩=>Ht2.out _ hG) ?_
 refine gs ?_
 refine geC hL ?_
 clear hB hG hL L
 rintro u ⟨-,hB,hG,-⟩
 refine gtT ?_
 clear hN K
 refine rt Tryz.results55 ?_
 exact ⟨rfl,hG⟩
theorem B2k (A : Option Addr) (c N : Nat) (lo hi : Rat) (C : Int) (w : World) (hC : 0 ≤ C) (hcm : ∀ W,Calls Tryz.prog 18 #[qV lo,qV hi] W fun e w'=>e = .returned (.int .i64 C) ∧ A3 W w') : Calls Tryz.prog 55 #[.slice A N c,spV lo hi] w fun e w'=>e = .returned (.int .i64 0) ∧ A3 w w':=by
 have Hcm:=Lib.hid hcm
 have f10 : decide (C ≥ 0) = true:=decide_eq_true hC
 clear hcm
 go_enter Tryz.func55,Tryz.ntmps55
 refine en1 ?_
 intro u hG b3 hB hF
 refine wp_seq ?_
 refine wp_seq (rsE A5 [0,0,0,0,1,0] hB hG fun L hL=>?_)
 refine gs ?_
 refine gmw (C:=fun v=>Hcm.out _) ?_
 refine gs ?_
 refine geT hL ?_
 clear hB hG hL L
 rintro u ⟨-,hB,hG,-⟩
 refine wp_cond_true (rfl) ?_
 refine r0T ?_
 refine rt Tryz.results55 ?_
 exact ⟨rfl,hG⟩
theorem B3l (A : Option Addr) (c N : Nat) (Ps : List (List Rat)) (hN : Ps.length = N) (hm : N ≤ 1000) (lo hi : Rat) (hc : qs lo + qs hi + 10 ≤ BIG) (ha1 : lo < hi → ∀ p ∈ Ps,T3 p lo) (ha2 : lo < hi → ∀ p ∈ Ps,T3 p hi) (w : World) (h : RW Ps A w) (HT : Tab w) : Calls Tryz.prog 55 #[.slice A N c,spV lo hi] w fun e w'=>e = .returned (.int .i64 (J7 Ps lo hi)) ∧ A3 w w':=by
 have hcm:=fun W=>A2S lo hi (w:=W) (by omega)
 have ht1:=fun (hlt : lo < hi) W (hg : A3 w W)=>A4l A c N Ps hN hm lo (ha1 hlt) W (h.grow hg) (HT.grow hg)
 have ht2:=fun (hlt : lo < hi) W (hg : A3 w W)=>A4l A c N Ps hN hm hi (ha2 hlt) W (h.grow hg) (HT.grow hg)
 have b1:=A6P Ps lo
 have b2:=A6P Ps hi
 unfold J7
 by_cases hlt : lo < hi
 ·rw [if_neg (fun hle=>absurd hlt (Rat.not_lt.2 hle))]
  have hcv : K6 lo hi = -1:=by unfold K6;rw [if_pos hlt]
  simp only [hcv] at hcm
  replace ht1:=ht1 hlt
  replace ht2:=ht2 hlt
  obtain ⟨t1,h1⟩ : ∃ C,C = Y1 Ps lo:=⟨_,rfl⟩
  obtain ⟨t2,h2⟩ : ∃ C,C = Y1 Ps hi:=⟨_,rfl⟩
  rw [← h1] at b1 ⊢
  rw [← h2] at b2 ⊢
  simp only [← h1] at ht1
  simp only [← h2] at ht2
  have fw : IntKind.i64.wrap ((t1 : Int) - (t2 : Int)) = (t1 : Int) - (t2 : Int):=IntWalk.i64_in _ (by omega)
  have Hcm:=Lib.hid hcm
  have Ht1:=Lib.hid ht1
  have Ht2:=Lib.hid ht2
  clear hcm ht1 ht2 h1 h2 b1 b2 h ha1 ha2 hc hN hcv hlt
  exact B1W A c N lo hi t1 t2 w HT fw Hcm.out Ht1.out Ht2.out
 ·have hle:=Rat.not_lt.1 hlt
  rw [if_pos hle]
  have hcv : 0 ≤ K6 lo hi:=by unfold K6;rw [if_neg hlt];split <;> decide
  exact B2k A c N lo hi _ w hcv hcm
end Go.Proofs.YtlkniebmjdoopaaGreatDoor
