/- Contracts and laws. -/
import Derived.Test.YtjmopgepnndckaaGreatDoorK47
set_option linter.unusedSimpArgs false
set_option linter.unusedVariables false
set_option maxHeartbeats 4000000
set_option maxRecDepth 100000
namespace Go.Proofs.YtjmopgepnndckaaGreatDoor
open Go Go.RowKit
def X1 (B L : Nat) (ws : List Zw) (W : World) : Prop:=∀ r ∈ ws,I7 W r.2 ∧ W.ownsRow B 57 3 (zwV r) r.2.length (r.2.flatMap zrL) ∧ r.2.length = L ∧ ∀ z ∈ r.2,qs z.2 ≤ 50
theorem X1.grow {B L : Nat} {ws : List Zw} {u u' : World} (hg : A3 u u') (h : X1 B L ws u) : X1 B L ws u':=fun r hr=>⟨(h r hr).1.grow hg,E5 (h r hr).2.1 hg,(h r hr).2.2⟩
theorem X1.kept {B0 L : Nat} {ws : List Zw} {u w' : World} {B : Nat} {v : Value} {n : Nat} {xs : List Value} (hl : X1 B0 L ws u) (h : u.ownsRow B 26 1 v n xs) (hg : u.grownBy w' v.ownBlock) : X1 B0 L ws w':=fun r hr=>by
 obtain ⟨h1,h2,h3⟩:=hl r hr
 refine ⟨B3L h1 h (by decide) hg,h2.kept hg ?_,h3⟩
 cases hb : (zwV r).ownBlock with
 | none=>exact .inl rfl
 | some g=>exact .inr fun e1=>A1d h h2 (by decide) g e1.symm hb
theorem X1.set {B L : Nat} {ws : List Zw} {W : World} (h : X1 B L ws W) (i : Nat) {r : Zw} (hr : r ∈ ws) : X1 B L (ws.set i r) W:=fun x hx=>by
 rcases List.mem_or_eq_of_mem_set hx with h1 | rfl
 ·exact h x h1
 ·exact h _ hr
theorem X0 (w : World) (l : List Rat) : Lq (w.alloc (.cells (l.flatMap qL).toArray 49)) (some ⟨w.heap.size,0,none⟩) l:=fun _ =>
 ⟨w.heap.size,0,rfl,by rw [E9];omega,fun i q hi j v hj=>by
  have hj5 : j < 5:=(List.getElem?_eq_some_iff.1 hj).1
  rw [Nat.zero_add,Blk.cell (Blk.new w 49 _),List.getElem?_toArray,A2M l hi hj5,hj]⟩
theorem A6u (w : World) (rs : List Rq) (h : ∀ r ∈ rs,Lq w r.1 r.2.2) : Lrq (w.alloc (.cells (rs.map S7).toArray 35)) (some ⟨w.heap.size,0,none⟩) rs:=fun _ =>
 ⟨w.heap.size,0,rfl,by rw [E9];omega,fun i r hi=>⟨by rw [Nat.zero_add,Blk.cell (Blk.new w 35 _),List.getElem?_toArray,List.getElem?_map,hi];rfl,(h r (List.mem_of_getElem? hi)).grow (A3.alloc w _)⟩⟩
def A2j (i : Nat) : Rat:=O6 (L8 [[B3 0],[B3 3],[B3 4]] i) [B3 2] 1
theorem B0b : D4 2 (G0 A2j 3) = [(1,D3 1 1),(0,D3 4 1)]:=by
 have e : G0 A2j 3 = [(0,D3 4 1),(1,D3 1 1),(2,D3 4 1)]:=by decide +kernel
 have h : [(1,D3 1 1),(0,D3 4 1),(2,D3 4 1)] = srt (G0 A2j 3):=by
  rw [e]
  refine A1L ?_ ?_
  ·exact List.Perm.swap _ _ _
  ·decide +kernel
 unfold D4
 rw [← h]
 rfl
theorem B4A (w : World) (HT : Tab w) : Calls Tryz.prog 18 #[] w fun e w'=>e = .returned (.bool true) ∧ A3 w w':=by
 have hBB : 100000 ≤ BIG:=by unfold BIG;omega
 have q0 : qs (B3 0) ≤ 41:=T3 0 (by omega)
 have q2 : qs (B3 2) ≤ 41:=T3 2 (by omega)
 have q3 : qs (B3 3) ≤ 41:=T3 3 (by omega)
 have q4 : qs (B3 4) ≤ 41:=T3 4 (by omega)
 have hpl : ∀ (W : World) (b1 b2 b3 b4 b5 : Nat),Lrq W (some ⟨b4,0,none⟩) [(some ⟨b1,0,none⟩,1,[B3 0]),(some ⟨b2,0,none⟩,1,[B3 3]),(some ⟨b3,0,none⟩,1,[B3 4])] → Lq W (some ⟨b5,0,none⟩) [B3 2] → Tab W → Calls Tryz.prog 15 #[.slice (some ⟨b4,0,none⟩) 3 3,.slice (some ⟨b5,0,none⟩) 1 1,.int .i64 2] W (N9 (fun x : Ax=>.tuple #[.slice x.1 2 x.2,.int .i64 0]) (fun x W=>Lh W x.1 [(1,D3 1 1),(0,D3 4 1)]) W):=fun W b1 b2 b3 b4 b5 h1 h2 hT=>by
  have h:=B04 (some ⟨b4,0,none⟩) (some ⟨b5,0,none⟩) [(some ⟨b1,0,none⟩,1,[B3 0]),(some ⟨b2,0,none⟩,1,[B3 3]),(some ⟨b3,0,none⟩,1,[B3 4])] 3 1 3 1 2 [B3 2] rfl (by omega) (by omega) (by omega) (by omega) (fun r hr=>by
   simp only [List.mem_cons,List.not_mem_nil,or_false] at hr
   rcases hr with rfl | rfl | rfl <;> rfl) rfl (by omega) (by omega) 41 (fun r hr x hx=>by
   simp only [List.mem_cons,List.not_mem_nil,or_false] at hr
   rcases hr with rfl | rfl | rfl <;> (simp only [List.mem_cons,List.not_mem_nil,or_false] at hx;subst hx;assumption)) (fun x hx=>by
   simp only [List.mem_cons,List.not_mem_nil,or_false] at hx
   subst hx
   assumption) (by omega) W h1 h2 hT
  have e : (fun i=>O6 (L8 ([((some ⟨b1,0,none⟩,1,[B3 0]) : Rq),(some ⟨b2,0,none⟩,1,[B3 3]),(some ⟨b3,0,none⟩,1,[B3 4])].map (·.2.2)) i) [B3 2] 1) = A2j:=rfl
  rw [e,B0b] at h
  exact h
 have z11 : qs (D3 1 1) ≤ LIM:=Nat.le_trans (A3Q 0 0 1 1 5 (by omega) (by omega) (by omega)) (by unfold LIM;omega)
 have z41 : qs (D3 4 1) ≤ LIM:=Nat.le_trans (A3Q 0 0 4 1 5 (by omega) (by omega) (by omega)) (by unfold LIM;omega)
 have Hpl:=Lib.hid hpl
 clear hpl q0 q2 q3 q4
 go_enter Tryz.func18,Tryz.ntmps18
 refine en0 ?_
 intro u hG hB hF
 refine wp_seq (rsE A6 [1,1,1,1,1,1,1,0] hB hG fun L hL=>?_)
 refine gmw (C:=fun v=>Q3 0 (by omega) (by omega) _) ?_
 refine gx Nat (fun b=>.slice (some ⟨b,0,none⟩) 1 1) (fun b W=>Lq W (some ⟨b,0,none⟩) [B3 0]) (fun _ _ _ hg h=>h.grow hg) rfl ?_ (fun x5=>?_)
 ·(rintro v ⟨hgu,hB,hG,-⟩ N hN;go_simp;exact hN v.heap.size _ (X0 v [B3 0]) (A3.alloc _ _))
 refine okf (by simp only [Act.put,List.setIfInBounds_toArray,List.set_cons_succ,List.set_cons_zero];exact rfl) ?_
 refine gmw (C:=fun v=>Q3 3 (by omega) (by omega) _) ?_
 refine gx Nat (fun b=>.slice (some ⟨b,0,none⟩) 1 1) (fun b W=>Lq W (some ⟨b,0,none⟩) [B3 3]) (fun _ _ _ hg h=>h.grow hg) rfl ?_ (fun x7=>?_)
 ·(rintro v ⟨⟨hgu,hB,hG,-⟩,hx5⟩ N hN;go_simp;exact hN v.heap.size _ (X0 v [B3 3]) (A3.alloc _ _))
 refine okf (by simp only [Act.put,List.setIfInBounds_toArray,List.set_cons_succ,List.set_cons_zero];exact rfl) ?_
 refine gmw (C:=fun v=>Q3 4 (by omega) (by omega) _) ?_
 refine gx Nat (fun b=>.slice (some ⟨b,0,none⟩) 1 1) (fun b W=>Lq W (some ⟨b,0,none⟩) [B3 4]) (fun _ _ _ hg h=>h.grow hg) rfl ?_ (fun x9=>?_)
 ·(rintro v ⟨⟨⟨hgu,hB,hG,-⟩,hx5⟩,hx7⟩ N hN;go_simp;exact hN v.heap.size _ (X0 v [B3 4]) (A3.alloc _ _))
 refine okf (by simp only [Act.put,List.setIfInBounds_toArray,List.set_cons_succ,List.set_cons_zero];exact rfl) ?_
 refine gx Nat (fun b=>.slice (some ⟨b,0,none⟩) 3 3) (fun b W=>Lrq W (some ⟨b,0,none⟩) [(some ⟨x5,0,none⟩,1,[B3 0]),(some ⟨x7,0,none⟩,1,[B3 3]),(some ⟨x9,0,none⟩,1,[B3 4])]) (fun _ _ _ hg h=>h.grow hg) rfl ?_ (fun x10=>?_)
 ·(rintro v ⟨⟨⟨⟨hgu,hB,hG,-⟩,hx5⟩,hx7⟩,hx9⟩ N hN;go_simp;exact hN v.heap.size _ (A6u v [(some ⟨x5,0,none⟩,1,[B3 0]),(some ⟨x7,0,none⟩,1,[B3 3]),(some ⟨x9,0,none⟩,1,[B3 4])] (fun r hr=>by simp only [List.mem_cons,List.not_mem_nil,or_false] at hr;rcases hr with rfl | rfl | rfl <;> assumption)) (A3.alloc _ _))
 refine okf (by simp only [Act.put,List.setIfInBounds_toArray,List.set_cons_succ,List.set_cons_zero];exact rfl) ?_
 refine gs ?_
 refine geT hL ?_
 clear hB hG hL L
 rintro u ⟨⟨⟨⟨⟨hgu,hB,hG,-⟩,hx5⟩,hx7⟩,hx9⟩,hx10⟩
 have HR:=Lib.hid hx10
 clear hx5 hx7 hx9 hx10
 clear hgu
 refine wp_seq (rsE A6 [0,1,1,1,0,0,0,0,0] hB hG fun L hL=>?_)
 refine gs ?_
 refine gmw (C:=fun v=>Q3 2 (by omega) (by omega) _) ?_
 refine gx Nat (fun b=>.slice (some ⟨b,0,none⟩) 1 1) (fun b W=>Lq W (some ⟨b,0,none⟩) [B3 2]) (fun _ _ _ hg h=>h.grow hg) rfl ?_ (fun x14=>?_)
 ·(rintro v ⟨hgu,hB,hG,-⟩ N hN;go_simp;exact hN v.heap.size _ (X0 v [B3 2]) (A3.alloc _ _))
 refine okf (by simp only [Act.put,List.setIfInBounds_toArray,List.set_cons_succ,List.set_cons_zero];exact rfl) ?_
 refine gxd (X:=Ax) (fun x : Ax=>.tuple #[.slice x.1 2 x.2,.int .i64 0]) (fun x W=>Lh W x.1 [(1,D3 1 1),(0,D3 4 1)]) (fun x u u' hg h=>Lh.grow h hg) (fun x15=>?_) (C:=by (rintro v ⟨⟨hgu,hB,hG,-⟩,hx14⟩;exact Hpl.out _ _ _ _ x10 x14 (HR.out.grow hgu) hx14 (HT.grow hG)))
 refine gs ?_
 refine geT hL ?_
 clear hB hG hL L
 rintro u ⟨⟨⟨hgu,hB,hG,-⟩,hx14⟩,hx15⟩
 have HL:=Lib.hid hx15
 clear HR hx14 hx15
 clear hgu
 obtain ⟨A15,c15⟩:=x15
 obtain ⟨g,off,rfl,hgl,hc⟩:=HL.out (by simp)
 have hcl : ∀ W,A3 u W → ∀ i h,[((1,D3 1 1) : Ht),(0,D3 4 1)][i]? = some h → ∀ j v,(htL h)[j]? = some v → W.cell? ⟨g,off + i * 6 + j,none⟩ = some v:=fun W hg i h hi j v hj=>(hg.cell (p:=⟨g,off + i * 6 + j,none⟩) hgl).trans (hc i h hi j v hj)
 have hA : ∀ W,A3 u W → _:=fun W hg=>And.intro (hcl W hg 0 _ rfl 0 _ rfl) (And.intro (hcl W hg 0 _ rfl 1 _ rfl) (And.intro (hcl W hg 0 _ rfl 2 _ rfl) (And.intro (hcl W hg 0 _ rfl 3 _ rfl) (And.intro (hcl W hg 0 _ rfl 4 _ rfl) (hcl W hg 0 _ rfl 5 _ rfl)))))
 have hB' : ∀ W,A3 u W → _:=fun W hg=>And.intro (hcl W hg 1 _ rfl 0 _ rfl) (And.intro (hcl W hg 1 _ rfl 1 _ rfl) (And.intro (hcl W hg 1 _ rfl 2 _ rfl) (And.intro (hcl W hg 1 _ rfl 3 _ rfl) (And.intro (hcl W hg 1 _ rfl 4 _ rfl) (hcl W hg 1 _ rfl 5 _ rfl)))))
 simp only [Nat.zero_mul,Nat.one_mul,Nat.add_zero,Nat.add_assoc,Nat.reduceAdd] at hA hB'
 have HA:=Lib.hid hA
 have HB:=Lib.hid hB'
 clear hcl hc hA hB' HL hgl
 refine wp_seq (rsE A6 [0,0,0,0,0,0,0,0,0,0,0,0,0,0,0,0,0,0,0,1,0,0,0,0,0,0,0,0,0,0,0,0,0,1,0,0] hB hG fun L hL=>?_)
 repeat first | refine gya ?_ | refine gyr ?_ | refine gna ?_ | refine gyb (by (rintro v ⟨hgu,hB,hG,-⟩ N hN;have r:=hB.r;simp only [BxR] at r;obtain ⟨a0,a1,a2,a3,a4,a5⟩:=HA.out v hgu;obtain ⟨b0,b1,b2,b3,b4,b5⟩:=HB.out v hgu;go_simp;exact hN)) ?_
 first | refine gmw (C:=fun v=>A3S 1 1 (by omega) (by omega) (by omega) (by omega) (by omega) z11 _) ?_ | refine E8 ?_
 repeat first | refine gya ?_ | refine gyr ?_ | refine gna ?_ | refine gyb (by (rintro v ⟨hgu,hB,hG,-⟩ N hN;have r:=hB.r;simp only [BxR] at r;obtain ⟨a0,a1,a2,a3,a4,a5⟩:=HA.out v hgu;obtain ⟨b0,b1,b2,b3,b4,b5⟩:=HB.out v hgu;go_simp;exact hN)) ?_
 first | refine gmw (C:=fun v=>A3S 4 1 (by omega) (by omega) (by omega) (by omega) (by omega) z41 _) ?_ | refine E8 ?_
 refine gs ?_
 refine geT hL ?_
 clear hB hG hL L
 rintro u ⟨-,hB,hG,-⟩
 refine rt Tryz.results18 ?_
 exact ⟨rfl,hG⟩
theorem A9V (R N : Ax) (rs : List Rq) (n Lw m : Nat) (ns : List NdT) (hn : rs.length = n) (hn1 : 1 ≤ n) (hn2 : n ≤ 300) (hL1 : 1 ≤ Lw) (hL2 : Lw ≤ 20) (hrl : ∀ r ∈ rs,r.2.2.length = Lw) (hm : ns.length = m) (hm2 : m ≤ 300) (s : Nat) (hs : ∀ r ∈ rs,∀ x ∈ r.2.2,qs x ≤ s) (hBz : 2 * s + 1 ≤ BIG) (w : World) (h : Lrq w R.1 rs) (hN : Le ndL 4 w N.1 ns) :
  Calls Tryz.prog 30 #[M0 R n N m] w fun e w'=>e = .returned (.int .i64 (if G4 (rs.map (·.2.2)) Lw ns = 0 then N5 (C4 ns 0) else 0 : Nat)) ∧ A3 w w':=by
 have hck:=fun W (hg : A3 w W)=>A5W R N rs n Lw m ns hn hn1 hn2 hL1 hL2 hrl hm hm2 s hs hBz W (h.grow hg) (hN.grow hg)
 have hen : ∀ W,A3 w W → Calls Tryz.prog 64 #[M0 R n N m,.int .i64 0] W fun e w'=>e = .returned (.tuple #[.int .i64 (G5 (C4 ns 0) : Nat),.int .i64 (N5 (C4 ns 0) : Nat),.bool (C4 ns 0).isSome]) ∧ A3 W w':=fun W hg=>A7X R N n m ns hm (by omega) w hN (ns.length + 1) 0 W hg (by omega) (by omega)
 obtain ⟨RA,RC⟩:=R
 obtain ⟨NA,NC⟩:=N
 obtain ⟨C,hC⟩ : ∃ C,C = G4 (rs.map (·.2.2)) Lw ns:=⟨_,rfl⟩
 obtain ⟨E,hE⟩ : ∃ C,C = G5 (C4 ns 0):=⟨_,rfl⟩
 obtain ⟨D,hD⟩ : ∃ C,C = N5 (C4 ns 0):=⟨_,rfl⟩
 obtain ⟨O,hO⟩ : ∃ C,C = (C4 ns 0).isSome:=⟨_,rfl⟩
 simp only [← hC] at hck
 simp only [← hE,← hD,← hO] at hen
 rw [← hC,← hD]
 have Hck:=Lib.hid hck
 have Hen:=Lib.hid hen
 clear hck hen h hN hs hrl hn hm hBz hC hE hD hO
 by_cases h0 : C = 0
 ·subst h0
  rw [if_pos rfl]
  have Hck2:=Lib.hid (fun W hg=>(Hck.out W hg : Calls Tryz.prog 32 #[M0 (RA,RC) n (NA,NC) m] W fun e w'=>e = .returned (.int .i64 0) ∧ A3 W w'))
  clear Hck
  go_enter Tryz.func30,Tryz.ntmps30
  refine en1 ?_
  intro u hG b1 hB hF
  refine wp_seq ?_
  refine wp_seq (rsE A6 [0,1,0] hB hG fun L hL=>?_)
  refine gs ?_
  refine gmd (C:=fun v ⟨hgu,hB,hG,_⟩=>Hck2.out _ hG) ?_
  refine gs ?_
  refine geT hL ?_
  clear hB hG hL L
  rintro u ⟨-,hB,hG,-⟩
  refine wp_cond_false (rfl) ?_
  refine wp_skip ?_
  refine A4 ?_
  refine wp_seq (rsE A6 [0,1,0,0,0,0,0,0,0] hB hG fun L hL=>?_)
  refine gs ?_
  refine gmd (C:=fun v ⟨hgu,hB,hG,_⟩=>Hen.out _ hG) ?_
  refine gs ?_
  refine geT hL ?_
  clear hB hG hL L
  rintro u ⟨-,hB,hG,-⟩
  refine r0T ?_
  refine rt Tryz.results30 ?_
  exact ⟨rfl,hG⟩
 ·rw [if_neg h0]
  have f0 : ((C : Int) != 0) = true:=by simp;omega
  have H0:=Lib.hid h0
  clear h0
  show Calls Tryz.prog 30 #[M0 (RA,RC) n (NA,NC) m] w fun e w'=>e = .returned (.int .i64 0) ∧ A3 w w'
  go_enter Tryz.func30,Tryz.ntmps30
  refine en1 ?_
  intro u hG b1 hB hF
  refine wp_seq ?_
  refine wp_seq (rsE A6 [0,1,0] hB hG fun L hL=>?_)
  refine gs ?_
  refine gmd (C:=fun v ⟨hgu,hB,hG,_⟩=>Hck.out _ hG) ?_
  refine gs ?_
  refine geT hL ?_
  clear hB hG hL L
  rintro u ⟨-,hB,hG,-⟩
  refine wp_cond_true (rfl) ?_
  refine r0T ?_
  refine rt Tryz.results30 ?_
  exact ⟨rfl,hG⟩
theorem B4Q {x y : Rat} : (E2 x y < 0) ↔ x < y:=by
 unfold E2
 by_cases h1 : x < y
 ·simp [h1]
 ·by_cases h2 : y < x <;> simp [h1,h2]
structure GrR (w1 : World) (S : Nat → Prop) (b99 gl B : Nat) (ls : List Int) (NA : Option Addr) (NC kk : Nat) (ns : List NdT) (u : World) : Prop where
 K : KepS S w1 u
 l : Li u (some ⟨gl,0,none⟩) ls
 gu : gl < u.heap.size
 own : u.ownsRow B 118 4 (.slice NA kk NC) kk (ns.flatMap ndL)
 len : ns.length = kk
 n9 : nbk NA ≠ some b99
 gn : nbk NA ≠ some gl
theorem GrR.grow {w1 : World} {S : Nat → Prop} {b99 gl B : Nat} {ls : List Int} {NA : Option Addr} {NC kk : Nat} {ns : List NdT} {u u' : World} (h : GrR w1 S b99 gl B ls NA NC kk ns u) (hg : A3 u u') : GrR w1 S b99 gl B ls NA NC kk ns u' :=
 ⟨h.K.grow hg,h.l.grow hg,Nat.lt_of_lt_of_le h.gu hg.size,E5 h.own hg,h.len,h.n9,h.gn⟩
end Go.Proofs.YtjmopgepnndckaaGreatDoor
namespace Go.Proofs.YtjmopgepnndckaaGreatDoor
open Go.RowKit
section
variable {P : Program} {ops : Array Oper} {Q : Exit → Act → World → Prop} {L : Act → World → Prop}
end
section
variable {P : Program} {Q : Exit → Act → World → Prop}
end
end Go.Proofs.YtjmopgepnndckaaGreatDoor
namespace Go.Proofs.YtjmopgepnndckaaGreatDoor
open Go Go.RowKit
def KT.sh : KT → Sh
 | .none=>.no
 | .node _ _ a b=>.nd a.sh b.sh
theorem Z1 : ∀ t : KT,t.sh.size = t.size
 | .none=>rfl
 | .node _ _ a b=>by show a.sh.size + b.sh.size + 1 = a.size + b.size + 1;rw [Z1 a,Z1 b]
theorem A3e : ∀ t : KT,t.sh.deep = t.deep
 | .none=>rfl
 | .node _ _ a b=>by
  have ha:=A3e a
  have hb:=A3e b
  cases a <;> cases b <;> simp_all [KT.sh,Sh.deep,KT.deep]
def A0F (ns : List NdT) (t : KT) (i : Nat) : Prop:=∀ j,j < t.size → ns[i + j]? = (D7 t i)[j]?
theorem A3a {ns : List NdT} {r c : Nat} {a b : KT} {i : Nat} (h : A0F ns (.node r c a b) i) : ns[i]? = some ⟨r,c,if a.size = 0 then 0 else (i + 1 : Nat),if b.size = 0 then 0 else (i + 1 + a.size : Nat)⟩ ∧ A0F ns a (i + 1) ∧ A0F ns b (i + 1 + a.size):=by
 refine ⟨?_,fun j hj=>?_,fun j hj=>?_⟩
 ·have := h 0 (Nat.succ_pos _)
  rw [Nat.add_zero] at this
  rw [this]
  rfl
 ·have := h (j + 1) (by show j + 1 < a.size + b.size + 1;omega)
  rw [show i + 1 + j = i + (j + 1) by omega,this]
  show (D7 a (i + 1) ++ D7 b (i + 1 + a.size))[j]? = _
  rw [List.getElem?_append_left (by rw [V3];exact hj)]
 ·have := h (a.size + j + 1) (by show a.size + j + 1 < a.size + b.size + 1;omega)
  rw [show i + 1 + a.size + j = i + (a.size + j + 1) by omega,this]
  show (D7 a (i + 1) ++ D7 b (i + 1 + a.size))[a.size + j]? = _
  rw [List.getElem?_append_right (by rw [V3];omega),V3,Nat.add_sub_cancel_left]
theorem A18 {ns : List NdT} : ∀ (t : KT) (i : Nat),A0F ns t i → Lay ns t.sh i
 | .none,_,_=>trivial
 | .node r c a b,i,h=>by
  obtain ⟨h1,h2,h3⟩:=A3a h
  refine ⟨_,h1,?_,?_,A18 a _ h2,?_⟩
  ·rw [Z1]
  ·rw [Z1,Z1]
  ·rw [Z1];exact A18 b _ h3
theorem A2F {ns : List NdT} : ∀ (t : KT) (i : Nat),A0F ns t i → ∀ j,j < t.size → ∃ x,ns[i + j]? = some x ∧ ∃ r ∈ t.rows,x.r = (r : Nat)
 | .none,_,_,j,hj=>absurd hj (Nat.not_lt_zero _)
 | .node r c a b,i,h,j,hj=>by
  obtain ⟨h1,h2,h3⟩:=A3a h
  have hs : (KT.node r c a b).size = a.size + b.size + 1:=rfl
  rw [hs] at hj
  cases j with
  | zero=>exact ⟨_,h1,r,List.mem_cons_self,rfl⟩
  | succ j =>
   rcases Nat.lt_or_ge j a.size with hja | hja
   ·obtain ⟨x,hx,q,hq,e⟩:=A2F a (i + 1) h2 j hja
    exact ⟨x,by rw [show i + (j + 1) = i + 1 + j by omega];exact hx,q,List.mem_cons_of_mem _ (List.mem_append_left _ hq),e⟩
   ·obtain ⟨x,hx,q,hq,e⟩:=A2F b (i + 1 + a.size) h3 (j - a.size) (by omega)
    exact ⟨x,by rw [show i + (j + 1) = i + 1 + a.size + (j - a.size) by omega];exact hx,q,List.mem_cons_of_mem _ (List.mem_append_right _ hq),e⟩
theorem A77 {x y : Rat} (h : x ≤ y) : decide (0 < E2 x y) = false:=decide_eq_false fun h1=>by
 unfold E2 at h1
 split at h1
 ·omega
 ·split at h1
  ·rename_i h2 h3
   exact absurd h (Rat.not_le.2 h3)
  ·omega
theorem B2M {x y : Rat} (h : y ≤ x) : decide (E2 x y < 0) = false:=decide_eq_false fun h1=>absurd h (Rat.not_le.2 (B4Q.1 h1))
theorem A3M {X : List (List Rat)} {ns : List NdT} : ∀ (t : KT) (i : Nat),A0F ns t i → t.ok X → ∀ k,i ≤ k → k < i + t.size → T9 X ns k = false
 | .none,i,_,_,k,h1,h2=>by simp [KT.size] at h2;omega
 | .node r c a b,i,h,⟨ha,hb,hla,hlb⟩,k,h1,h2=>by
  obtain ⟨g1,g2,g3⟩:=A3a h
  have hs : (KT.node r c a b).size = a.size + b.size + 1:=rfl
  rw [hs] at h2
  rcases Nat.eq_or_lt_of_le h1 with rfl | h1
  ·have hlay:=A18 _ _ h
   have hz : (KT.node r c a b).sh.size = a.size + b.size + 1:=Z1 _
   have hln:=A0h _ _ hlay (by omega)
   have hp : C4 ns i = some (i + (a.size + b.size + 1),(KT.node r c a b).sh.deep):=by
    have := A1n ns _ i (ns.length + 1) (by omega) hlay (by omega)
    rw [hz] at this
    exact this
   refine A6A fun j hj1 hj2=>?_
   rw [hp] at hj2
   have hj2 : j < i + (a.size + b.size + 1):=hj2
   have hr:=A3D g1
   rw [hp] at hr
   have hr : Q7 ns i = if (if b.size = 0 then (0 : Int) else (i + 1 + a.size : Nat)) = 0 then ((i + (a.size + b.size + 1) : Nat) : Int) else (if b.size = 0 then 0 else (i + 1 + a.size : Nat)):=hr
   rcases Nat.lt_or_ge j (i + 1 + a.size) with hja | hja
   ·obtain ⟨x,hx,q,hq,e⟩:=A2F a (i + 1) g2 (j - (i + 1)) (by omega)
    rw [show i + 1 + (j - (i + 1)) = j by omega] at hx
    rw [A2o g1 hx]
    have hle:=hla q hq
    have h3 : Q7 ns i = ((i + 1 + a.size : Nat) : Int):=by
     rw [hr]
     by_cases hb0 : b.size = 0
     ·simp [hb0];omega
     ·rw [if_neg hb0,if_neg (by omega)]
    have d1 : decide (Q7 ns i ≤ (j : Int)) = false:=decide_eq_false (by omega)
    rw [d1,e]
    simp only [Int.toNat_natCast]
    rw [A77 hle]
    simp
   ·have hb0 : b.size ≠ 0:=by omega
    obtain ⟨x,hx,q,hq,e⟩:=A2F b (i + 1 + a.size) g3 (j - (i + 1 + a.size)) (by omega)
    rw [show i + 1 + a.size + (j - (i + 1 + a.size)) = j by omega] at hx
    rw [A2o g1 hx]
    have hle:=hlb q hq
    have h3 : Q7 ns i = ((i + 1 + a.size : Nat) : Int):=by
     rw [hr,if_neg hb0,if_neg (by omega)]
    have d1 : decide ((j : Int) < Q7 ns i) = false:=decide_eq_false (by omega)
    rw [d1,e]
    simp only [Int.toNat_natCast]
    rw [B2M hle]
    simp
  ·rcases Nat.lt_or_ge k (i + 1 + a.size) with h4 | h4
   ·exact A3M a (i + 1) g2 ha k (by omega) (by omega)
   ·exact A3M b (i + 1 + a.size) g3 hb k (by omega) (by omega)
theorem A1J : ∀ (t : KT) (i : Nat),(D7 t i).map (·.r) = t.rows.map fun (r : Nat)=>(r : Int)
 | .none,_=>rfl
 | .node r c a b,i=>by
  show (_ :: (D7 a (i + 1) ++ D7 b (i + 1 + a.size))).map _ = (r :: (a.rows ++ b.rows)).map _
  simp [A1J a,A1J b]
theorem A3b {w : Nat} : ∀ (t : KT) (i : Nat),t.cols w → ∀ x ∈ D7 t i,0 ≤ x.c ∧ x.c < (w : Int)
 | .none,_,_,x,hx=>by cases hx
 | .node r c a b,i,⟨hc,ha,hb⟩,x,hx=>by
  have hx : x ∈ _ :: (D7 a (i + 1) ++ D7 b (i + 1 + a.size)):=hx
  rcases List.mem_cons.1 hx with rfl | hx
  ·exact ⟨Int.natCast_nonneg _,by show (c : Int) < w;omega⟩
  ·rcases List.mem_append.1 hx with hx | hx
   ·exact A3b a _ ha x hx
   ·exact A3b b _ hb x hx
theorem A9X {X : List (List Rat)} {w : Nat} {t : KT} (hok : t.ok X) (hc : t.cols w) (hr : t.rows.Perm (List.range X.length)) (h0 : 0 < X.length) : G4 X w (D7 t 0) = 0 ∧ C4 (D7 t 0) 0 = some (X.length,t.deep):=by
 have hpl : A0F (D7 t 0) t 0:=fun j _=>by rw [Nat.zero_add]
 have hrl : t.rows.length = t.size:=by
  have h:=congrArg List.length (A1J t 0)
  simp only [List.length_map,V3] at h
  exact h.symm
 have hsz : t.size = X.length:=by rw [← hrl,hr.length_eq,List.length_range]
 have hlen : (D7 t 0).length = X.length:=by rw [V3,hsz]
 have hlay:=A18 _ _ hpl
 have hz:=Z1 t
 have hp : C4 (D7 t 0) 0 = some (X.length,t.deep):=by
  have := A1n (D7 t 0) t.sh 0 ((D7 t 0).length + 1) (by omega) hlay (by omega)
  rw [Nat.zero_add,hz,hsz,A3e] at this
  exact this
 have hnd : t.rows.Nodup:=hr.nodup_iff.2 List.nodup_range
 refine ⟨A5z hlen (fun h=>?_) (fun k hk=>?_) (fun i hi=>?_),hp⟩
 ·rw [hp] at h
  rcases h with h | h
  ·cases h
  ·exact h hlen.symm
 ·have hx:=List.getElem?_eq_getElem hk
  rw [A5A hx]
  have h1:=A3b t 0 hc _ (List.getElem_mem hk)
  have h2 : (D7 t 0)[k].r ∈ (D7 t 0).map (·.r):=List.mem_map_of_mem (f:=fun x : NdT=>x.r) (List.getElem_mem hk)
  rw [A1J] at h2
  obtain ⟨q,hq,e⟩:=List.mem_map.1 h2
  have hqn : q < X.length:=List.mem_range.1 (hr.mem_iff.1 hq)
  have h3 : M1 (D7 t 0) k (D7 t 0)[k].r = false:=by
   unfold M1
   rw [List.any_eq_false]
   intro y hy he
   have he:=of_decide_eq_true he
   have hnd2 : ((D7 t 0).map (·.r)).Nodup:=by
    rw [A1J]
    refine List.Pairwise.map _ (fun a b hab h=>hab (Int.ofNat.inj h)) hnd
   obtain ⟨j,hj,rfl⟩:=List.getElem_of_mem hy
   rw [List.length_take] at hj
   rw [List.getElem_take] at he
   have h4:=List.pairwise_iff_getElem.1 hnd2 j k (by simp;omega) (by simpa using hk) (by omega)
   simp only [List.getElem_map] at h4
   exact h4 he
  rw [h3,← e]
  simp
  omega
 ·exact A3M t 0 hpl hok i (Nat.zero_le _) (by rw [Nat.zero_add,← V3 t 0];exact hi)
theorem A9B (X : List (List Rat)) (w : Nat) (hw : 0 < w) (h0 : 0 < X.length) : G4 X w (D7 (E3 X w (List.range X.length) 0) 0) = 0 ∧ C4 (D7 (E3 X w (List.range X.length) 0) 0) 0 = some (X.length,(E3 X w (List.range X.length) 0).deep) ∧ 2 ^ (E3 X w (List.range X.length) 0).deep ≤ X.length:=by
 obtain ⟨h1,h2⟩:=B0f X w hw X.length (List.range X.length) 0 List.length_range hw
 obtain ⟨h3,h4⟩:=A9X h1 h2 (A2K X w X.length (List.range X.length) 0 List.length_range) h0
 exact ⟨h3,h4,A8j X w X.length (List.range X.length) 0 List.length_range h0⟩
structure PartW (bw ge EC n m : Nat) (R N : Ax) (B : Nat) (far : Nat) (es : List Int) (W : World) : Prop where
 blk : Blk W bw 122 #[.slice R.1 n R.2,.slice N.1 m N.2,.slice (some ⟨ge,0,none⟩) m EC,.int .i64 (far : Nat)]
 own : W.ownsRow B 3 1 (.slice (some ⟨ge,0,none⟩) m EC) m (iv es)
theorem PartW.kep {bw ge EC n m : Nat} {R N : Ax} {B : Nat} {far : Nat} {es : List Int} {S : Nat → Prop} {W W' : World} (h : PartW bw ge EC n m R N B far es W) (hk : KepS S W W') (h1 : ¬ S bw) (h2 : ¬ S ge) : PartW bw ge EC n m R N B far es W' :=
 ⟨hk.blk h.blk h1,A0j hk h.own (fun b hb=>by have := Option.some.inj hb;subst this;exact h2)⟩
theorem PartW.grow {bw ge EC n m : Nat} {R N : Ax} {B : Nat} {far : Nat} {es : List Int} {W W' : World} (h : PartW bw ge EC n m R N B far es W) (hg : A3 W W') : PartW bw ge EC n m R N B far es W':=⟨h.blk.grow hg,E5 h.own hg⟩
theorem KepS.over {S : Nat → Prop} {w1 u u' : World} {b i : Nat} {vs : List Value} (h : KepS S w1 u) (hb : w1.heap.size ≤ b ∨ S b) (hu : E1 u b i vs = u') : KepS S w1 u':=by
 subst hu
 have h1 : KepS (fun k=>k = b) u (E1 u b i vs):=A16 (S:=fun k=>k = b) rfl vs i u
 exact ⟨h1.os.trans h.os,h1.tape.trans h.tape,h1.output.trans h.output,Nat.le_trans h.size h1.size,fun k hk hs=>(h1.block k (Nat.lt_of_lt_of_le hk h.size) (fun e=>hb.elim (fun h=>by omega) (fun h=>hs (e ▸ h)))).trans (h.block k hk hs)⟩
theorem TreeO.parts {B n : Nat} {R N : Ax} {rs : List Rq} {ns : List NdT} {W : World} (h : TreeO B n R N rs ns W) : Lrq W R.1 rs ∧ Le ndL 4 W N.1 ns:=by
 obtain ⟨A,c,e,-,hL,-⟩:=A5i h.row h.rows
 obtain ⟨A2,c2,e2,-,hN,-⟩:=B2K (enc:=ndL) (k:=4) (fun _=>rfl) (by omega) h.nodes
 cases e
 cases e2
 exact ⟨hL,hN⟩
theorem A8z {u : World} {B n b k : Nat} {e t : TypeId} {v : Value} {xs : List Value} {cs : Array Value} (h : u.ownsRow B e k v n xs) (hb : Blk u b t cs) (ht : e ≠ t) : v.ownBlock ≠ some b:=fun e1=>by
 obtain ⟨_,h | ⟨g,cap,cur,rfl,_,hh,_⟩⟩:=h
 ·rw [h.1] at e1;cases e1
 ·have e2 : g = b:=Option.some.inj e1
  subst e2
  have hb' : u.heap[g]? = _:=hb
  rw [hh] at hb'
  cases hb'
  exact ht rfl
theorem A3K {u u' : World} {B n b k i : Nat} {e t : TypeId} {v : Value} {xs vs : List Value} {cs : Array Value} (h : u.ownsRow B e k v n xs) (hb : Blk u b t cs) (ht : e ≠ t) (hu : E1 u b i vs = u') : u'.ownsRow B e k v n xs:=O7 h (A8z h hb ht) hu
theorem TreeO.put {B n b i : Nat} {R N : Ax} {rs : List Rq} {ns : List NdT} {W W' : World} {t : TypeId} {cs : Array Value} {vs : List Value} (h : TreeO B n R N rs ns W) (hb : Blk W b t cs) (h1 : 35 ≠ t) (h2 : 49 ≠ t) (h3 : 88 ≠ t) (hu : E1 W b i vs = W') : TreeO B n R N rs ns W' :=
 ⟨fun r hr=>A3K (h.rows r hr) hb h2 hu,A3K h.row hb h1 hu,A3K h.nodes hb h3 hu⟩
end Go.Proofs.YtjmopgepnndckaaGreatDoor
