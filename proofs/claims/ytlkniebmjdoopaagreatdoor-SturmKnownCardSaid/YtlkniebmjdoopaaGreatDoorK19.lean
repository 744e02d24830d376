/- Contracts and laws. -/
import Derived.Test.YtlkniebmjdoopaaGreatDoorK17
import Derived.Test.YtlkniebmjdoopaaGreatDoorK18
set_option linter.unusedSimpArgs false
set_option linter.unusedVariables false
set_option maxHeartbeats 4000000
set_option maxRecDepth 100000
namespace Go.Proofs.YtlkniebmjdoopaaGreatDoor
open Go.RowKit
theorem A3S (a : Nat) (ha : a < W64) (w : World) : Calls Tryz.prog 120 #[A6 a] w fun e w'=>e = .returned (.tuple #[.int .u64 (a : Nat),.bool true]) ∧ A3 w w':=by
 have := A9m a w
 rw [if_pos ha] at this
 exact this
theorem A75 (a : Nat) (ha : ¬ a < W64) (w : World) : Calls Tryz.prog 120 #[A6 a] w fun e w'=>e = .returned (.tuple #[.int .u64 0,.bool false]) ∧ A3 w w':=by
 have := A9m a w
 rw [if_neg ha] at this
 exact this
theorem U8 (x y g : Nat) (h : Nat.gcd x y = g) : Nat.gcd y (x % y) = g:=by
 rw [Nat.gcd_comm,← Nat.gcd_rec,Nat.gcd_comm];exact h
theorem A2O {w u : World} {l : List (Nat × TypeId × Array Value)} (hB : Bx u l) (hF : Fr w (l.map (·.1))) (hG : A3 w u) (t1 : TypeId) (c1 : Array Value) (t2 : TypeId) (c2 : Array Value) :
  Bx ((u.alloc (.cells c1 t1)).alloc (.cells c2 t2)).drew ((u.heap.size + 1,t2,c2) :: (u.heap.size,t1,c1) :: l) ∧ Fr w ((u.heap.size + 1) :: u.heap.size :: l.map (·.1)) ∧ A3 w ((u.alloc (.cells c1 t1)).alloc (.cells c2 t2)).drew:=by
 have g1:=A3.alloc u (.cells c1 t1)
 have g2:=A3.alloc (u.alloc (.cells c1 t1)) (.cells c2 t2)
 have h1:=Blk.new u t1 c1
 have h2:=Blk.new (u.alloc (.cells c1 t1)) t2 c2
 rw [H8] at h2
 have hs:=hG.size
 have hlt : ∀ b ∈ l.map (·.1),b < u.heap.size:=fun b hb=>by
  obtain ⟨e,he,rfl⟩:=List.mem_map.1 hb
  exact (hB e he).lt
 refine ⟨Bx.grow (A3.drew _) (Bx.cons h2 (Bx.cons (h1.grow g2) (hB.grow (g1.trans g2)))),?_,(hG.trans (g1.trans g2)).trans (A3.drew _)⟩
 refine Fr.cons (Fr.cons hF (by omega) (fun h=>Nat.lt_irrefl _ (hlt _ h))) (by omega) (fun h=>?_)
 rcases List.mem_cons.1 h with h | h
 ·omega
 ·have := hlt _ h;omega
theorem A3n {w u : World} {l : List (Nat × TypeId × Array Value)} (hB : Bx u l) (hF : Fr w (l.map (·.1))) (hG : A3 w u) (t1 : TypeId) (c1 : Array Value) (t2 : TypeId) (c2 : Array Value) :
  Bx ((u.alloc (.cells c1 t1)).alloc (.cells c2 t2)).drew ((u.heap.size,t1,c1) :: (u.heap.size + 1,t2,c2) :: l) ∧ Fr w (u.heap.size :: (u.heap.size + 1) :: l.map (·.1)) ∧ A3 w ((u.alloc (.cells c1 t1)).alloc (.cells c2 t2)).drew:=by
 obtain ⟨h1,h2,h3⟩:=A2O hB hF hG t1 c1 t2 c2
 exact ⟨Bx.cons h1.tail.head (Bx.cons h1.head h1.tail.tail),⟨fun b hb=>h2.1 b (by simp only [List.mem_cons] at hb ⊢;exact (or_left_comm.1 hb)),(List.Perm.swap _ _ _).nodup_iff.1 h2.2⟩,h3⟩
theorem B49 (na nb : Bool) (p q : Nat) (hp : bl p ≤ BIG) (hq : q < W64) (hpq : q ≤ p) (w : World) : Calls Tryz.prog 59 #[.agg #[.bool na,.int .u64 (B3 p),.string (B1 p)],.agg #[.bool nb,.int .u64 (B3 q),.string (B1 q)]] w fun e w'=>e = .returned (A6 (Nat.gcd p q)) ∧ A3 w w':=by
 have hb1:=M7 hp
 have hb2 : bl q ≤ 1099511627776:=Nat.le_trans (W5 hq) (by omega)
 have hb3 : bl (p % q) ≤ 1099511627776:=Nat.le_trans (A1r _ _) hb1
 have hqB : bl q ≤ BIG:=Nat.le_trans (W5 hq) A45
 have hc : decide (E6 p q < 0) = false:=by unfold E6;rw [if_neg (by omega)];split <;> rfl
 obtain ⟨g,hg⟩ : ∃ g,g = Nat.gcd p q:=⟨_,rfl⟩
 rw [← hg]
 have hgs : Nat.gcd p q = g:=by rw [hg]
 have Hg:=Lib.hid hgs
 clear hg hgs
 go_enter Tryz.func59,Tryz.ntmps59
 refine en3 ?_
 intro u hG b4 b3 b2 hB hF
 refine wp_seq ?_
 refine Code.wp_mono NoP.up ?_
 have r:=hB.r
 simp only [BxR] at r
 have hn2 : b2 < u.heap.size:=(hB.head).lt
 have hn3 : b3 < u.heap.size:=(hB.tail.head).lt
 have hn4 : b4 < u.heap.size:=(hB.tail.tail.head).lt
 go_region
 all_goals clear r hn2 hn3 hn4
 have hT:=A2O hB hF hG 35 #[.int .u64 (B3 p),.string (B1 p)] 35 #[.int .u64 (B3 q),.string (B1 q)]
 clear hB hF hG
 obtain ⟨hB,hF,hG⟩:=hT
 generalize World.drew _ = v at hB hG ⊢
 generalize u.heap.size + 1 = b6 at hB hF ⊢
 generalize u.heap.size = b5 at hB hF ⊢
 obtain ⟨u,rfl⟩ : ∃ x,x = v:=⟨_,rfl⟩
 refine NoP.norm ?_
 rotate_left
 have hT:=A3n hB hF hG 35 #[.int .u64 (B3 q),.string (B1 q)] 35 #[.int .u64 (B3 p),.string (B1 p)]
 clear hB hF hG
 obtain ⟨hB,hF,hG⟩:=hT
 generalize World.drew _ = v at hB hG ⊢
 generalize u.heap.size + 1 = b5 at hB hF ⊢
 generalize u.heap.size = b6 at hB hF ⊢
 obtain ⟨u,rfl⟩ : ∃ x,x = v:=⟨_,rfl⟩
 refine NoP.norm ?_
 rotate_left
 skip
 all_goals
  refine A4 ?_
  refine wp_seq ?_
  refine wp_seq (rsE A5 [0,0,1,0] hB hG fun L hL=>?_)
  refine gs ?_
  refine gmw (C:=fun v=>T7 _ _ (by first | assumption | omega) _) ?_
  refine gs ?_
  refine geT hL ?_
  clear hB hG hL L
  rintro u ⟨-,hB,hG,-⟩
  refine wp_cond_false (rfl) ?_
  refine wp_skip ?_
  refine A4 ?_
  refine wp_seq ?_
  refine wp_seq (rsE A5 [0,1,0] hB hG fun L hL=>?_)
  refine gs ?_
  refine gmw (C:=fun v=>M1 _ (by first | assumption | omega) _) ?_
  refine gs ?_
  refine geT hL ?_
  clear hB hG hL L
  rintro u ⟨-,hB,hG,-⟩
  refine wp_cond_split rfl ?_ ?_
  ·intro ht
   have ht26:=ht
   have hY : q = 0:=T0.1 (by simpa using ht)
   refine r0T ?_
   refine st hB hF hG 4 0 [_,_] ?_
   clear hB hG
   intro u hB hG
   refine rt Tryz.results59 ?_
   have hgx:=Hg.out
   rw [hY,Nat.gcd_zero_right] at hgx
   exact ⟨by rw [hgx],hG⟩
  ·intro ht
   have ht26:=ht
   have hY0 : q ≠ 0:=fun h=>(by rw [h] at ht;simp [Y9] at ht)
   have hm : p % q < W64:=Nat.lt_trans (Nat.mod_lt p (Nat.pos_of_ne_zero hY0)) hq
   refine wp_skip ?_
   refine A4 ?_
   refine wp_seq (rsC A5 [0,0,1,0,0,0,0,2,2] hB hG fun K L hN hL=>?_)
   refine gs ?_
   refine gmw (C:=fun v=>A11 p q hp hqB hY0 _) ?_
   refine gs ?_
   refine gaa (I8 _ _ _ _ _) fun b7 hb7 hn7=>?_
   refine gaa (I8 _ _ _ _ _) fun b8 hb8 hn8=>?_
   replace hF:=hF.n1 [] hB hG hb7 hn7
   replace hF:=hF.n1 [b7] hB hG hb8 hn8
   refine geC hL ?_
   clear hB hG hL L
   rintro u ⟨⟨⟨-,hB,hG,-⟩,h7⟩,h8⟩
   replace hB:=hB.cons' h7
   replace hB:=hB.cons' h8
   clear h7 h8
   clear hb7 hn7 hb8 hn8
   have hD : b7 ≠ b8 ∧ b8 ≠ b7:=⟨hF.ne 1 0 rfl rfl (by decide),hF.ne 0 1 rfl rfl (by decide)⟩
   refine gtT ?_
   clear hN K
   clear hD
   refine st2 hB hF hG 1 0 [_,_] 0 0 [_,_] ?_
   clear hB hG
   intro u hB hG
   refine wp_seq ?_
   refine Code.wp_mono NoP.up ?_
   have r:=hB.r
   simp only [BxR] at r
   have hD : b2 ≠ b5 ∧ b2 ≠ b6 ∧ b3 ≠ b5 ∧ b3 ≠ b6 ∧ b4 ≠ b5 ∧ b4 ≠ b6 ∧ b5 ≠ b2 ∧ b5 ≠ b3 ∧ b5 ≠ b4 ∧ b5 ≠ b6 ∧ b5 ≠ b7 ∧ b5 ≠ b8 ∧ b6 ≠ b2 ∧ b6 ≠ b3 ∧ b6 ≠ b4 ∧ b6 ≠ b5 ∧ b6 ≠ b7 ∧ b6 ≠ b8 ∧ b7 ≠ b5 ∧ b7 ≠ b6 ∧ b8 ≠ b5 ∧ b8 ≠ b6:=⟨hF.ne 4 3 rfl rfl (by decide),hF.ne 4 2 rfl rfl (by decide),hF.ne 5 3 rfl rfl (by decide),hF.ne 5 2 rfl rfl (by decide),hF.ne 6 3 rfl rfl (by decide),hF.ne 6 2 rfl rfl (by decide),hF.ne 3 4 rfl rfl (by decide),hF.ne 3 5 rfl rfl (by decide),hF.ne 3 6 rfl rfl (by decide),hF.ne 3 2 rfl rfl (by decide),hF.ne 3 1 rfl rfl (by decide),hF.ne 3 0 rfl rfl (by decide),hF.ne 2 4 rfl rfl (by decide),hF.ne 2 5 rfl rfl (by decide),hF.ne 2 6 rfl rfl (by decide),hF.ne 2 3 rfl rfl (by decide),hF.ne 2 1 rfl rfl (by decide),hF.ne 2 0 rfl rfl (by decide),hF.ne 1 3 rfl rfl (by decide),hF.ne 1 2 rfl rfl (by decide),hF.ne 0 3 rfl rfl (by decide),hF.ne 0 2 rfl rfl (by decide)⟩
   go_region
   clear r hD
   generalize hu0 : World.setCell (World.setCell u _ _) _ _ = u0
   have hBG:=S6 hB hF hG 3 rfl 0 [_,_] hu0
   clear hB hG hu0
   obtain ⟨hB,hG⟩:=hBG
   clear u
   generalize hu1 : World.setCell (World.setCell u0 _ _) _ _ = u1
   have hBG:=S6 hB hF hG 2 rfl 0 [_,_] hu1
   clear hB hG hu1
   obtain ⟨hB,hG⟩:=hBG
   clear u0
   obtain ⟨u,rfl⟩ : ∃ x,x = u1:=⟨_,rfl⟩
   replace hB:=hB.grow (A3.drew u)
   replace hG:=hG.trans (A3.drew u)
   obtain ⟨u,rfl⟩ : ∃ x,x = u.drew:=⟨_,rfl⟩
   refine NoP.norm ?_
   refine A4 ?_
   refine wp_seq ?_
   refine wp_seq (rsE A5 [0,1,0] hB hG fun L hL=>?_)
   refine gs ?_
   refine gmw (C:=fun v=>M1 _ (by first | assumption | omega) _) ?_
   refine gs ?_
   refine geT hL ?_
   clear hB hG hL L
   rintro u ⟨-,hB,hG,-⟩
   refine wp_cond_split rfl ?_ ?_
   ·intro ht
    have ht39:=ht
    have hY : p % q = 0:=T0.1 (by simpa using ht)
    refine r0T ?_
    refine st hB hF hG 6 0 [_,_] ?_
    clear hB hG
    intro u hB hG
    refine rt Tryz.results59 ?_
    have hgx:=U8 p q g Hg.out
    rw [hY,Nat.gcd_zero_right] at hgx
    exact ⟨by rw [hgx],hG⟩
   ·intro ht
    have ht39:=ht
    refine wp_skip ?_
    refine A4 ?_
    refine wp_seq ?_
    refine wp_seq (rsE A5 [0,1,0,0,0,0,0] hB hG fun L hL=>?_)
    refine gs ?_
    refine gmw (C:=fun v=>A3S _ (by assumption) _) ?_
    refine gs ?_
    refine geT hL ?_
    clear hB hG hL L
    rintro u ⟨-,hB,hG,-⟩
    refine r0T ?_
    refine wp_cond_true (rfl) ?_
    refine wp_seq (rsE A5 [0,1,0,0,0,0,0] hB hG fun L hL=>?_)
    refine gs ?_
    refine gmw (C:=fun v=>A3S _ (by assumption) _) ?_
    refine gs ?_
    refine geT hL ?_
    clear hB hG hL L
    rintro u ⟨-,hB,hG,-⟩
    refine wp_seq ?_
    refine wp_block ?_
    have hF4 : Fr w [b4]:=⟨fun b hb=>hF.1 b (by simp at hb;subst hb;simp),by simp⟩
    have hB4 : Bx u [(b4,35,#[.int .u64 0,.string ⟨#[]⟩])]:=Bx.cons (hB (b4,35,#[.int .u64 0,.string ⟨#[]⟩]) (by simp)) (Bx.nil _)
    clear hB hF
    go_loopw [10,12] (fun m n wr=>∃ x y : Nat,x < W64 ∧ y < W64 ∧ Nat.gcd x y = g ∧ m = .int .u64 x ∧ n = .int .u64 y ∧ Bx wr [(b4,35,#[.int .u64 0,.string ⟨#[]⟩])] ∧ A3 w wr) (fun _ n _=>(intOf n).toNat)
    case atStart=>exact ⟨q,p % q,hq,hm,U8 p q g Hg.out,rfl,rfl,hB4,hG⟩
    case round =>
     obtain ⟨x,y,hx,hy,hgc,rfl,rfl,hB,hG⟩:=hrel
     have Hgc:=Lib.hid hgc
     clear hgc
     obtain ⟨u,rfl⟩ : ∃ x,x = wr:=⟨_,rfl⟩
     have hF:=hF4
     refine wp_seq ?_
     refine wp_seq ?_
     skip
     refine r0N ?_
     refine wp_cond_split rfl ?_ ?_
     ·intro ht
      have ht53:=ht
      have hy0 : ¬ (y : Int) = 0:=by simp at ht;omega
      have hyp : 0 < y:=by omega
      have hyn : ¬ y = 0:=by omega
      have hw4 : (x : Int).tmod (y : Int) = ((x % y : Nat) : Int):=rfl
      refine wp_skip ?_
      refine A4 ?_
      refine wp_block ?_
      refine rdC A5 [] [(0,0),(0,1),(0,2),(0,3),(0,4)] hB hG fun K L hN hL=>?_
      refine gs ?_
      refine geC hL ?_
      clear hB hG hL L
      rintro u ⟨-,hB,hG,-⟩
      refine gt ?_
      clear hN K
      refine F0 ?_
      refine A4 ?_
      go_roundw
      case rel=>exact ⟨y,x % y,hy,Nat.lt_trans (Nat.mod_lt _ hyp) hy,U8 x y g Hgc.out,rfl,rfl,hB,hG⟩
      case measure=>simp [intOf];exact Nat.mod_lt _ hyp
     ·intro ht
      have ht53:=ht
      have hy0 : y = 0:=by simp at ht;omega
      refine wp_exit ?_
      refine D7 ?_
      refine D7 ?_
      refine G8 ?_
      refine A4 ?_
      refine wp_seq (rsC A5 [0,1] hB hG fun K L hN hL=>?_)
      refine gs ?_
      refine gmw (C:=fun v=>A2Z x hx _) ?_
      refine geC hL ?_
      clear hB hG hL L
      rintro u ⟨-,hB,hG,-⟩
      refine gtT ?_
      clear hN K
      refine st hB hF hG 0 0 [_,_] ?_
      clear hB hG
      intro u hB hG
      refine rt Tryz.results59 ?_
      have hgx:=Hgc.out
      rw [hy0,Nat.gcd_zero_right] at hgx
      exact ⟨by rw [hgx],hG⟩
theorem B20 (na nb : Bool) (p q : Nat) (hp : p < W64) (hq : bl q ≤ BIG) (hpq : p < q) (w : World) : Calls Tryz.prog 59 #[.agg #[.bool na,.int .u64 (B3 p),.string (B1 p)],.agg #[.bool nb,.int .u64 (B3 q),.string (B1 q)]] w fun e w'=>e = .returned (A6 (Nat.gcd p q)) ∧ A3 w w':=by
 have hb1 : bl p ≤ 1099511627776:=Nat.le_trans (W5 hp) (by omega)
 have hb2:=M7 hq
 have hb3 : bl (q % p) ≤ 1099511627776:=Nat.le_trans (A1r _ _) hb2
 have hpB : bl p ≤ BIG:=Nat.le_trans (W5 hp) A45
 have hc : decide (E6 p q < 0) = true:=by rw [O6 hpq];rfl
 obtain ⟨g,hg⟩ : ∃ g,g = Nat.gcd p q:=⟨_,rfl⟩
 rw [← hg]
 have hgs : Nat.gcd q p = g:=by rw [hg,Nat.gcd_comm]
 have Hg:=Lib.hid hgs
 clear hg hgs
 go_enter Tryz.func59,Tryz.ntmps59
 refine en3 ?_
 intro u hG b4 b3 b2 hB hF
 refine wp_seq ?_
 refine Code.wp_mono NoP.up ?_
 have r:=hB.r
 simp only [BxR] at r
 have hn2 : b2 < u.heap.size:=(hB.head).lt
 have hn3 : b3 < u.heap.size:=(hB.tail.head).lt
 have hn4 : b4 < u.heap.size:=(hB.tail.tail.head).lt
 go_region
 all_goals clear r hn2 hn3 hn4
 have hT:=A2O hB hF hG 35 #[.int .u64 (B3 p),.string (B1 p)] 35 #[.int .u64 (B3 q),.string (B1 q)]
 clear hB hF hG
 obtain ⟨hB,hF,hG⟩:=hT
 generalize World.drew _ = v at hB hG ⊢
 generalize u.heap.size + 1 = b6 at hB hF ⊢
 generalize u.heap.size = b5 at hB hF ⊢
 obtain ⟨u,rfl⟩ : ∃ x,x = v:=⟨_,rfl⟩
 refine NoP.norm ?_
 rotate_left
 have hT:=A3n hB hF hG 35 #[.int .u64 (B3 q),.string (B1 q)] 35 #[.int .u64 (B3 p),.string (B1 p)]
 clear hB hF hG
 obtain ⟨hB,hF,hG⟩:=hT
 generalize World.drew _ = v at hB hG ⊢
 generalize u.heap.size + 1 = b5 at hB hF ⊢
 generalize u.heap.size = b6 at hB hF ⊢
 obtain ⟨u,rfl⟩ : ∃ x,x = v:=⟨_,rfl⟩
 refine NoP.norm ?_
 rotate_left
 skip
 all_goals
  refine A4 ?_
  refine wp_seq ?_
  refine wp_seq (rsE A5 [0,0,1,0] hB hG fun L hL=>?_)
  refine gs ?_
  refine gmw (C:=fun v=>T7 _ _ (by first | assumption | omega) _) ?_
  refine gs ?_
  refine geT hL ?_
  clear hB hG hL L
  rintro u ⟨-,hB,hG,-⟩
  refine wp_cond_true (rfl) ?_
  have hD : b5 ≠ b6 ∧ b6 ≠ b5:=⟨hF.ne 1 0 rfl rfl (by decide),hF.ne 0 1 rfl rfl (by decide)⟩
  refine r0N ?_
  clear hD
  refine st2 hB hF hG 1 0 [_,_] 0 0 [_,_] ?_
  clear hB hG
  intro u hB hG
  refine wp_seq ?_
  refine wp_seq (rsE A5 [0,1,0] hB hG fun L hL=>?_)
  refine gs ?_
  refine gmw (C:=fun v=>M1 _ (by first | assumption | omega) _) ?_
  refine gs ?_
  refine geT hL ?_
  clear hB hG hL L
  rintro u ⟨-,hB,hG,-⟩
  refine wp_cond_split rfl ?_ ?_
  ·intro ht
   have ht26:=ht
   have hY : p = 0:=T0.1 (by simpa using ht)
   refine r0T ?_
   refine st hB hF hG 4 0 [_,_] ?_
   clear hB hG
   intro u hB hG
   refine rt Tryz.results59 ?_
   have hgx:=Hg.out
   rw [hY,Nat.gcd_zero_right] at hgx
   exact ⟨by rw [hgx],hG⟩
  ·intro ht
   have ht26:=ht
   have hY0 : p ≠ 0:=fun h=>(by rw [h] at ht;simp [Y9] at ht)
   have hm : q % p < W64:=Nat.lt_trans (Nat.mod_lt q (Nat.pos_of_ne_zero hY0)) hp
   refine wp_skip ?_
   refine A4 ?_
   refine wp_seq (rsC A5 [0,0,1,0,0,0,0,2,2] hB hG fun K L hN hL=>?_)
   refine gs ?_
   refine gmw (C:=fun v=>A11 q p hq hpB hY0 _) ?_
   refine gs ?_
   refine gaa (I8 _ _ _ _ _) fun b7 hb7 hn7=>?_
   refine gaa (I8 _ _ _ _ _) fun b8 hb8 hn8=>?_
   replace hF:=hF.n1 [] hB hG hb7 hn7
   replace hF:=hF.n1 [b7] hB hG hb8 hn8
   refine geC hL ?_
   clear hB hG hL L
   rintro u ⟨⟨⟨-,hB,hG,-⟩,h7⟩,h8⟩
   replace hB:=hB.cons' h7
   replace hB:=hB.cons' h8
   clear h7 h8
   clear hb7 hn7 hb8 hn8
   have hD : b7 ≠ b8 ∧ b8 ≠ b7:=⟨hF.ne 1 0 rfl rfl (by decide),hF.ne 0 1 rfl rfl (by decide)⟩
   refine gtT ?_
   clear hN K
   clear hD
   refine st2 hB hF hG 1 0 [_,_] 0 0 [_,_] ?_
   clear hB hG
   intro u hB hG
   refine wp_seq ?_
   refine Code.wp_mono NoP.up ?_
   have r:=hB.r
   simp only [BxR] at r
   have hD : b2 ≠ b5 ∧ b2 ≠ b6 ∧ b3 ≠ b5 ∧ b3 ≠ b6 ∧ b4 ≠ b5 ∧ b4 ≠ b6 ∧ b5 ≠ b2 ∧ b5 ≠ b3 ∧ b5 ≠ b4 ∧ b5 ≠ b6 ∧ b5 ≠ b7 ∧ b5 ≠ b8 ∧ b6 ≠ b2 ∧ b6 ≠ b3 ∧ b6 ≠ b4 ∧ b6 ≠ b5 ∧ b6 ≠ b7 ∧ b6 ≠ b8 ∧ b7 ≠ b5 ∧ b7 ≠ b6 ∧ b8 ≠ b5 ∧ b8 ≠ b6:=⟨hF.ne 4 3 rfl rfl (by decide),hF.ne 4 2 rfl rfl (by decide),hF.ne 5 3 rfl rfl (by decide),hF.ne 5 2 rfl rfl (by decide),hF.ne 6 3 rfl rfl (by decide),hF.ne 6 2 rfl rfl (by decide),hF.ne 3 4 rfl rfl (by decide),hF.ne 3 5 rfl rfl (by decide),hF.ne 3 6 rfl rfl (by decide),hF.ne 3 2 rfl rfl (by decide),hF.ne 3 1 rfl rfl (by decide),hF.ne 3 0 rfl rfl (by decide),hF.ne 2 4 rfl rfl (by decide),hF.ne 2 5 rfl rfl (by decide),hF.ne 2 6 rfl rfl (by decide),hF.ne 2 3 rfl rfl (by decide),hF.ne 2 1 rfl rfl (by decide),hF.ne 2 0 rfl rfl (by decide),hF.ne 1 3 rfl rfl (by decide),hF.ne 1 2 rfl rfl (by decide),hF.ne 0 3 rfl rfl (by decide),hF.ne 0 2 rfl rfl (by decide)⟩
   go_region
   clear r hD
   generalize hu0 : World.setCell (World.setCell u _ _) _ _ = u0
   have hBG:=S6 hB hF hG 3 rfl 0 [_,_] hu0
   clear hB hG hu0
   obtain ⟨hB,hG⟩:=hBG
   clear u
   generalize hu1 : World.setCell (World.setCell u0 _ _) _ _ = u1
   have hBG:=S6 hB hF hG 2 rfl 0 [_,_] hu1
   clear hB hG hu1
   obtain ⟨hB,hG⟩:=hBG
   clear u0
   obtain ⟨u,rfl⟩ : ∃ x,x = u1:=⟨_,rfl⟩
   replace hB:=hB.grow (A3.drew u)
   replace hG:=hG.trans (A3.drew u)
   obtain ⟨u,rfl⟩ : ∃ x,x = u.drew:=⟨_,rfl⟩
   refine NoP.norm ?_
   refine A4 ?_
   refine wp_seq ?_
   refine wp_seq (rsE A5 [0,1,0] hB hG fun L hL=>?_)
   refine gs ?_
   refine gmw (C:=fun v=>M1 _ (by first | assumption | omega) _) ?_
   refine gs ?_
   refine geT hL ?_
   clear hB hG hL L
   rintro u ⟨-,hB,hG,-⟩
   refine wp_cond_split rfl ?_ ?_
   ·intro ht
    have ht39:=ht
    have hY : q % p = 0:=T0.1 (by simpa using ht)
    refine r0T ?_
    refine st hB hF hG 6 0 [_,_] ?_
    clear hB hG
    intro u hB hG
    refine rt Tryz.results59 ?_
    have hgx:=U8 q p g Hg.out
    rw [hY,Nat.gcd_zero_right] at hgx
    exact ⟨by rw [hgx],hG⟩
   ·intro ht
    have ht39:=ht
    refine wp_skip ?_
    refine A4 ?_
    refine wp_seq ?_
    refine wp_seq (rsE A5 [0,1,0,0,0,0,0] hB hG fun L hL=>?_)
    refine gs ?_
    refine gmw (C:=fun v=>A3S _ (by assumption) _) ?_
    refine gs ?_
    refine geT hL ?_
    clear hB hG hL L
    rintro u ⟨-,hB,hG,-⟩
    refine r0T ?_
    refine wp_cond_true (rfl) ?_
    refine wp_seq (rsE A5 [0,1,0,0,0,0,0] hB hG fun L hL=>?_)
    refine gs ?_
    refine gmw (C:=fun v=>A3S _ (by assumption) _) ?_
    refine gs ?_
    refine geT hL ?_
    clear hB hG hL L
    rintro u ⟨-,hB,hG,-⟩
    refine wp_seq ?_
    refine wp_block ?_
    have hF4 : Fr w [b4]:=⟨fun b hb=>hF.1 b (by simp at hb;subst hb;simp),by simp⟩
    have hB4 : Bx u [(b4,35,#[.int .u64 0,.string ⟨#[]⟩])]:=Bx.cons (hB (b4,35,#[.int .u64 0,.string ⟨#[]⟩]) (by simp)) (Bx.nil _)
    clear hB hF
    go_loopw [10,12] (fun m n wr=>∃ x y : Nat,x < W64 ∧ y < W64 ∧ Nat.gcd x y = g ∧ m = .int .u64 x ∧ n = .int .u64 y ∧ Bx wr [(b4,35,#[.int .u64 0,.string ⟨#[]⟩])] ∧ A3 w wr) (fun _ n _=>(intOf n).toNat)
    case atStart=>exact ⟨p,q % p,hp,hm,U8 q p g Hg.out,rfl,rfl,hB4,hG⟩
    case round =>
     obtain ⟨x,y,hx,hy,hgc,rfl,rfl,hB,hG⟩:=hrel
     have Hgc:=Lib.hid hgc
     clear hgc
     obtain ⟨u,rfl⟩ : ∃ x,x = wr:=⟨_,rfl⟩
     have hF:=hF4
     refine wp_seq ?_
     refine wp_seq ?_
     skip
     refine r0N ?_
     refine wp_cond_split rfl ?_ ?_
     ·intro ht
      have ht53:=ht
      have hy0 : ¬ (y : Int) = 0:=by simp at ht;omega
      have hyp : 0 < y:=by omega
      have hyn : ¬ y = 0:=by omega
      have hw4 : (x : Int).tmod (y : Int) = ((x % y : Nat) : Int):=rfl
      refine wp_skip ?_
      refine A4 ?_
      refine wp_block ?_
      refine rdC A5 [] [(0,0),(0,1),(0,2),(0,3),(0,4)] hB hG fun K L hN hL=>?_
      refine gs ?_
      refine geC hL ?_
      clear hB hG hL L
      rintro u ⟨-,hB,hG,-⟩
      refine gt ?_
      clear hN K
      refine F0 ?_
      refine A4 ?_
      go_roundw
      case rel=>exact ⟨y,x % y,hy,Nat.lt_trans (Nat.mod_lt _ hyp) hy,U8 x y g Hgc.out,rfl,rfl,hB,hG⟩
      case measure=>simp [intOf];exact Nat.mod_lt _ hyp
     ·intro ht
      have ht53:=ht
      have hy0 : y = 0:=by simp at ht;omega
      refine wp_exit ?_
      refine D7 ?_
      refine D7 ?_
      refine G8 ?_
      refine A4 ?_
      refine wp_seq (rsC A5 [0,1] hB hG fun K L hN hL=>?_)
      refine gs ?_
      refine gmw (C:=fun v=>A2Z x hx _) ?_
      refine geC hL ?_
      clear hB hG hL L
      rintro u ⟨-,hB,hG,-⟩
      refine gtT ?_
      clear hN K
      refine st hB hF hG 0 0 [_,_] ?_
      clear hB hG
      intro u hB hG
      refine rt Tryz.results59 ?_
      have hgx:=Hgc.out
      rw [hy0,Nat.gcd_zero_right] at hgx
      exact ⟨by rw [hgx],hG⟩
theorem B1f (na nb : Bool) (p q : Nat) (hp : bl p ≤ BIG) (hq : bl q ≤ BIG) (hs : ¬ q < W64) (hpq : q ≤ p) (w : World) (hT : Tab w) : Calls Tryz.prog 59 #[.agg #[.bool na,.int .u64 (B3 p),.string (B1 p)],.agg #[.bool nb,.int .u64 (B3 q),.string (B1 q)]] w fun e w'=>e = .returned (A6 (Nat.gcd p q)) ∧ A3 w w':=by
 have hb1:=M7 hp
 have hb2:=M7 hq
 have hb3 : bl (p % q) ≤ 1099511627776:=Nat.le_trans (A1r _ _) hb1
 have hc : decide (E6 p q < 0) = false:=by unfold E6;rw [if_neg (by omega)];split <;> rfl
 obtain ⟨g,hg⟩ : ∃ g,g = Nat.gcd p q:=⟨_,rfl⟩
 rw [← hg]
 have hgs : Nat.gcd p q = g:=by rw [hg]
 have Hg:=Lib.hid hgs
 have hY0 : q ≠ 0:=fun h=>hs (h ▸ B6)
 have hbin : ∀ W,A3 w W → p % q ≠ 0 → Calls Tryz.prog 122 #[A6 q,A6 (p % q)] W fun e w'=>e = .returned (A6 g) ∧ A3 W w':=fun W hg h0=>by
  have := A7A q (p % q) hY0 h0 hq (Nat.le_trans (A1r _ _) hp) W (hT.grow hg)
  rw [U8 p q g hgs] at this
  exact this
 have Hbin:=Lib.hid hbin
 clear hg hgs hbin
 go_enter Tryz.func59,Tryz.ntmps59
 refine en3 ?_
 intro u hG b4 b3 b2 hB hF
 refine wp_seq ?_
 refine Code.wp_mono NoP.up ?_
 have r:=hB.r
 simp only [BxR] at r
 have hn2 : b2 < u.heap.size:=(hB.head).lt
 have hn3 : b3 < u.heap.size:=(hB.tail.head).lt
 have hn4 : b4 < u.heap.size:=(hB.tail.tail.head).lt
 go_region
 all_goals clear r hn2 hn3 hn4
 have hT:=A2O hB hF hG 35 #[.int .u64 (B3 p),.string (B1 p)] 35 #[.int .u64 (B3 q),.string (B1 q)]
 clear hB hF hG
 obtain ⟨hB,hF,hG⟩:=hT
 generalize World.drew _ = v at hB hG ⊢
 generalize u.heap.size + 1 = b6 at hB hF ⊢
 generalize u.heap.size = b5 at hB hF ⊢
 obtain ⟨u,rfl⟩ : ∃ x,x = v:=⟨_,rfl⟩
 refine NoP.norm ?_
 rotate_left
 have hT:=A3n hB hF hG 35 #[.int .u64 (B3 q),.string (B1 q)] 35 #[.int .u64 (B3 p),.string (B1 p)]
 clear hB hF hG
 obtain ⟨hB,hF,hG⟩:=hT
 generalize World.drew _ = v at hB hG ⊢
 generalize u.heap.size + 1 = b5 at hB hF ⊢
 generalize u.heap.size = b6 at hB hF ⊢
 obtain ⟨u,rfl⟩ : ∃ x,x = v:=⟨_,rfl⟩
 refine NoP.norm ?_
 rotate_left
 skip
 all_goals
  refine A4 ?_
  refine wp_seq ?_
  refine wp_seq (rsE A5 [0,0,1,0] hB hG fun L hL=>?_)
  refine gs ?_
  refine gmw (C:=fun v=>T7 _ _ (by first | assumption | omega) _) ?_
  refine gs ?_
  refine geT hL ?_
  clear hB hG hL L
  rintro u ⟨-,hB,hG,-⟩
  refine wp_cond_false (rfl) ?_
  refine wp_skip ?_
  refine A4 ?_
  refine wp_seq ?_
  refine wp_seq (rsE A5 [0,1,0] hB hG fun L hL=>?_)
  refine gs ?_
  refine gmw (C:=fun v=>M1 _ (by first | assumption | omega) _) ?_
  refine gs ?_
  refine geT hL ?_
  clear hB hG hL L
  rintro u ⟨-,hB,hG,-⟩
  refine wp_cond_split rfl ?_ ?_
  ·intro ht
   exact absurd (T0.1 (by simpa using ht)) hY0
  ·intro ht
   have ht26:=ht
   refine wp_skip ?_
   refine A4 ?_
   refine wp_seq (rsC A5 [0,0,1,0,0,0,0,2,2] hB hG fun K L hN hL=>?_)
   refine gs ?_
   refine gmw (C:=fun v=>A11 p q hp hq hY0 _) ?_
   refine gs ?_
   refine gaa (I8 _ _ _ _ _) fun b7 hb7 hn7=>?_
   refine gaa (I8 _ _ _ _ _) fun b8 hb8 hn8=>?_
   replace hF:=hF.n1 [] hB hG hb7 hn7
   replace hF:=hF.n1 [b7] hB hG hb8 hn8
   refine geC hL ?_
   clear hB hG hL L
   rintro u ⟨⟨⟨-,hB,hG,-⟩,h7⟩,h8⟩
   replace hB:=hB.cons' h7
   replace hB:=hB.cons' h8
   clear h7 h8
   clear hb7 hn7 hb8 hn8
   have hD : b7 ≠ b8 ∧ b8 ≠ b7:=⟨hF.ne 1 0 rfl rfl (by decide),hF.ne 0 1 rfl rfl (by decide)⟩
   refine gtT ?_
   clear hN K
   clear hD
   refine st2 hB hF hG 1 0 [_,_] 0 0 [_,_] ?_
   clear hB hG
   intro u hB hG
   refine wp_seq ?_
   refine Code.wp_mono NoP.up ?_
   have r:=hB.r
   simp only [BxR] at r
   have hD : b2 ≠ b5 ∧ b2 ≠ b6 ∧ b3 ≠ b5 ∧ b3 ≠ b6 ∧ b4 ≠ b5 ∧ b4 ≠ b6 ∧ b5 ≠ b2 ∧ b5 ≠ b3 ∧ b5 ≠ b4 ∧ b5 ≠ b6 ∧ b5 ≠ b7 ∧ b5 ≠ b8 ∧ b6 ≠ b2 ∧ b6 ≠ b3 ∧ b6 ≠ b4 ∧ b6 ≠ b5 ∧ b6 ≠ b7 ∧ b6 ≠ b8 ∧ b7 ≠ b5 ∧ b7 ≠ b6 ∧ b8 ≠ b5 ∧ b8 ≠ b6:=⟨hF.ne 4 3 rfl rfl (by decide),hF.ne 4 2 rfl rfl (by decide),hF.ne 5 3 rfl rfl (by decide),hF.ne 5 2 rfl rfl (by decide),hF.ne 6 3 rfl rfl (by decide),hF.ne 6 2 rfl rfl (by decide),hF.ne 3 4 rfl rfl (by decide),hF.ne 3 5 rfl rfl (by decide),hF.ne 3 6 rfl rfl (by decide),hF.ne 3 2 rfl rfl (by decide),hF.ne 3 1 rfl rfl (by decide),hF.ne 3 0 rfl rfl (by decide),hF.ne 2 4 rfl rfl (by decide),hF.ne 2 5 rfl rfl (by decide),hF.ne 2 6 rfl rfl (by decide),hF.ne 2 3 rfl rfl (by decide),hF.ne 2 1 rfl rfl (by decide),hF.ne 2 0 rfl rfl (by decide),hF.ne 1 3 rfl rfl (by decide),hF.ne 1 2 rfl rfl (by decide),hF.ne 0 3 rfl rfl (by decide),hF.ne 0 2 rfl rfl (by decide)⟩
   go_region
   clear r hD
   generalize hu0 : World.setCell (World.setCell u _ _) _ _ = u0
   have hBG:=S6 hB hF hG 3 rfl 0 [_,_] hu0
   clear hB hG hu0
   obtain ⟨hB,hG⟩:=hBG
   clear u
   generalize hu1 : World.setCell (World.setCell u0 _ _) _ _ = u1
   have hBG:=S6 hB hF hG 2 rfl 0 [_,_] hu1
   clear hB hG hu1
   obtain ⟨hB,hG⟩:=hBG
   clear u0
   obtain ⟨u,rfl⟩ : ∃ x,x = u1:=⟨_,rfl⟩
   replace hB:=hB.grow (A3.drew u)
   replace hG:=hG.trans (A3.drew u)
   obtain ⟨u,rfl⟩ : ∃ x,x = u.drew:=⟨_,rfl⟩
   refine NoP.norm ?_
   refine A4 ?_
   refine wp_seq ?_
   refine wp_seq (rsE A5 [0,1,0] hB hG fun L hL=>?_)
   refine gs ?_
   refine gmw (C:=fun v=>M1 _ (by first | assumption | omega) _) ?_
   refine gs ?_
   refine geT hL ?_
   clear hB hG hL L
   rintro u ⟨-,hB,hG,-⟩
   refine wp_cond_split rfl ?_ ?_
   ·intro ht
    have ht39:=ht
    have hY : p % q = 0:=T0.1 (by simpa using ht)
    refine r0T ?_
    refine st hB hF hG 6 0 [_,_] ?_
    clear hB hG
    intro u hB hG
    refine rt Tryz.results59 ?_
    have hgx:=U8 p q g Hg.out
    rw [hY,Nat.gcd_zero_right] at hgx
    exact ⟨by rw [hgx],hG⟩
   ·intro ht
    have ht39:=ht
    have hYr : p % q ≠ 0:=fun h=>(by rw [h] at ht;simp [Y9] at ht)
    refine wp_skip ?_
    refine A4 ?_
    refine wp_seq ?_
    refine wp_seq (rsE A5 [0,1,0,0,0,0,0] hB hG fun L hL=>?_)
    refine gs ?_
    refine gmw (C:=fun v=>A75 _ hs _) ?_
    refine gs ?_
    refine geT hL ?_
    clear hB hG hL L
    rintro u ⟨-,hB,hG,-⟩
    refine r0T ?_
    refine wp_cond_false (rfl) ?_
    refine wp_skip ?_
    refine A4 ?_
    refine wp_seq (rsC A5 [0,0,1] hB hG fun K L hN hL=>?_)
    refine gs ?_
    refine gmd (C:=fun v ⟨hgu,hB,hG,_⟩=>Hbin.out _ hG hYr) ?_
    refine geC hL ?_
    clear hB hG hL L
    rintro u ⟨-,hB,hG,-⟩
    refine gtT ?_
    clear hN K
    refine st hB hF hG 6 0 [_,_] ?_
    clear hB hG
    intro u hB hG
    refine rt Tryz.results59 ?_
    exact ⟨rfl,hG⟩
theorem B3h (na nb : Bool) (p q : Nat) (hp : bl p ≤ BIG) (hq : bl q ≤ BIG) (hs : ¬ p < W64) (hpq : p < q) (w : World) (hT : Tab w) : Calls Tryz.prog 59 #[.agg #[.bool na,.int .u64 (B3 p),.string (B1 p)],.agg #[.bool nb,.int .u64 (B3 q),.string (B1 q)]] w fun e w'=>e = .returned (A6 (Nat.gcd p q)) ∧ A3 w w':=by
 have hb1:=M7 hp
 have hb2:=M7 hq
 have hb3 : bl (q % p) ≤ 1099511627776:=Nat.le_trans (A1r _ _) hb2
 have hc : decide (E6 p q < 0) = true:=by rw [O6 hpq];rfl
 obtain ⟨g,hg⟩ : ∃ g,g = Nat.gcd p q:=⟨_,rfl⟩
 rw [← hg]
 have hgs : Nat.gcd q p = g:=by rw [hg,Nat.gcd_comm]
 have Hg:=Lib.hid hgs
 have hY0 : p ≠ 0:=fun h=>hs (h ▸ B6)
 have hbin : ∀ W,A3 w W → q % p ≠ 0 → Calls Tryz.prog 122 #[A6 p,A6 (q % p)] W fun e w'=>e = .returned (A6 g) ∧ A3 W w':=fun W hg h0=>by
  have := A7A p (q % p) hY0 h0 hp (Nat.le_trans (A1r _ _) hq) W (hT.grow hg)
  rw [U8 q p g hgs] at this
  exact this
 have Hbin:=Lib.hid hbin
 clear hg hgs hbin
 go_enter Tryz.func59,Tryz.ntmps59
 refine en3 ?_
 intro u hG b4 b3 b2 hB hF
 refine wp_seq ?_
 refine Code.wp_mono NoP.up ?_
 have r:=hB.r
 simp only [BxR] at r
 have hn2 : b2 < u.heap.size:=(hB.head).lt
 have hn3 : b3 < u.heap.size:=(hB.tail.head).lt
 have hn4 : b4 < u.heap.size:=(hB.tail.tail.head).lt
 go_region
 all_goals clear r hn2 hn3 hn4
 have hT:=A2O hB hF hG 35 #[.int .u64 (B3 p),.string (B1 p)] 35 #[.int .u64 (B3 q),.string (B1 q)]
 clear hB hF hG
 obtain ⟨hB,hF,hG⟩:=hT
 generalize World.drew _ = v at hB hG ⊢
 generalize u.heap.size + 1 = b6 at hB hF ⊢
 generalize u.heap.size = b5 at hB hF ⊢
 obtain ⟨u,rfl⟩ : ∃ x,x = v:=⟨_,rfl⟩
 refine NoP.norm ?_
 rotate_left
 have hT:=A3n hB hF hG 35 #[.int .u64 (B3 q),.string (B1 q)] 35 #[.int .u64 (B3 p),.string (B1 p)]
 clear hB hF hG
 obtain ⟨hB,hF,hG⟩:=hT
 generalize World.drew _ = v at hB hG ⊢
 generalize u.heap.size + 1 = b5 at hB hF ⊢
 generalize u.heap.size = b6 at hB hF ⊢
 obtain ⟨u,rfl⟩ : ∃ x,x = v:=⟨_,rfl⟩
 refine NoP.norm ?_
 rotate_left
 skip
 all_goals
  refine A4 ?_
  refine wp_seq ?_
  refine wp_seq (rsE A5 [0,0,1,0] hB hG fun L hL=>?_)
  refine gs ?_
  refine gmw (C:=fun v=>T7 _ _ (by first | assumption | omega) _) ?_
  refine gs ?_
  refine geT hL ?_
  clear hB hG hL L
  rintro u ⟨-,hB,hG,-⟩
  refine wp_cond_true (rfl) ?_
  have hD : b5 ≠ b6 ∧ b6 ≠ b5:=⟨hF.ne 1 0 rfl rfl (by decide),hF.ne 0 1 rfl rfl (by decide)⟩
  refine r0N ?_
  clear hD
  refine st2 hB hF hG 1 0 [_,_] 0 0 [_,_] ?_
  clear hB hG
  intro u hB hG
  refine wp_seq ?_
  refine wp_seq (rsE A5 [0,1,0] hB hG fun L hL=>?_)
  refine gs ?_
  refine gmw (C:=fun v=>M1 _ (by first | assumption | omega) _) ?_
  refine gs ?_
  refine geT hL ?_
  clear hB hG hL L
  rintro u ⟨-,hB,hG,-⟩
  refine wp_cond_split rfl ?_ ?_
  ·intro ht
   exact absurd (T0.1 (by simpa using ht)) hY0
  ·intro ht
   have ht26:=ht
   refine wp_skip ?_
   refine A4 ?_
   refine wp_seq (rsC A5 [0,0,1,0,0,0,0,2,2] hB hG fun K L hN hL=>?_)
   refine gs ?_
   refine gmw (C:=fun v=>A11 q p hq hp hY0 _) ?_
   refine gs ?_
   refine gaa (I8 _ _ _ _ _) fun b7 hb7 hn7=>?_
   refine gaa (I8 _ _ _ _ _) fun b8 hb8 hn8=>?_
   replace hF:=hF.n1 [] hB hG hb7 hn7
   replace hF:=hF.n1 [b7] hB hG hb8 hn8
   refine geC hL ?_
   clear hB hG hL L
   rintro u ⟨⟨⟨-,hB,hG,-⟩,h7⟩,h8⟩
   replace hB:=hB.cons' h7
   replace hB:=hB.cons' h8
   clear h7 h8
   clear hb7 hn7 hb8 hn8
   have hD : b7 ≠ b8 ∧ b8 ≠ b7:=⟨hF.ne 1 0 rfl rfl (by decide),hF.ne 0 1 rfl rfl (by decide)⟩
   refine gtT ?_
   clear hN K
   clear hD
   refine st2 hB hF hG 1 0 [_,_] 0 0 [_,_] ?_
   clear hB hG
   intro u hB hG
   refine wp_seq ?_
   refine Code.wp_mono NoP.up ?_
   have r:=hB.r
   simp only [BxR] at r
   have hD : b2 ≠ b5 ∧ b2 ≠ b6 ∧ b3 ≠ b5 ∧ b3 ≠ b6 ∧ b4 ≠ b5 ∧ b4 ≠ b6 ∧ b5 ≠ b2 ∧ b5 ≠ b3 ∧ b5 ≠ b4 ∧ b5 ≠ b6 ∧ b5 ≠ b7 ∧ b5 ≠ b8 ∧ b6 ≠ b2 ∧ b6 ≠ b3 ∧ b6 ≠ b4 ∧ b6 ≠ b5 ∧ b6 ≠ b7 ∧ b6 ≠ b8 ∧ b7 ≠ b5 ∧ b7 ≠ b6 ∧ b8 ≠ b5 ∧ b8 ≠ b6:=⟨hF.ne 4 3 rfl rfl (by decide),hF.ne 4 2 rfl rfl (by decide),hF.ne 5 3 rfl rfl (by decide),hF.ne 5 2 rfl rfl (by decide),hF.ne 6 3 rfl rfl (by decide),hF.ne 6 2 rfl rfl (by decide),hF.ne 3 4 rfl rfl (by decide),hF.ne 3 5 rfl rfl (by decide),hF.ne 3 6 rfl rfl (by decide),hF.ne 3 2 rfl rfl (by decide),hF.ne 3 1 rfl rfl (by decide),hF.ne 3 0 rfl rfl (by decide),hF.ne 2 4 rfl rfl (by decide),hF.ne 2 5 rfl rfl (by decide),hF.ne 2 6 rfl rfl (by decide),hF.ne 2 3 rfl rfl (by decide),hF.ne 2 1 rfl rfl (by decide),hF.ne 2 0 rfl rfl (by decide),hF.ne 1 3 rfl rfl (by decide),hF.ne 1 2 rfl rfl (by decide),hF.ne 0 3 rfl rfl (by decide),hF.ne 0 2 rfl rfl (by decide)⟩
   go_region
   clear r hD
   generalize hu0 : World.setCell (World.setCell u _ _) _ _ = u0
   have hBG:=S6 hB hF hG 3 rfl 0 [_,_] hu0
   clear hB hG hu0
   obtain ⟨hB,hG⟩:=hBG
   clear u
   generalize hu1 : World.setCell (World.setCell u0 _ _) _ _ = u1
   have hBG:=S6 hB hF hG 2 rfl 0 [_,_] hu1
   clear hB hG hu1
   obtain ⟨hB,hG⟩:=hBG
   clear u0
   obtain ⟨u,rfl⟩ : ∃ x,x = u1:=⟨_,rfl⟩
   replace hB:=hB.grow (A3.drew u)
   replace hG:=hG.trans (A3.drew u)
   obtain ⟨u,rfl⟩ : ∃ x,x = u.drew:=⟨_,rfl⟩
   refine NoP.norm ?_
   refine A4 ?_
   refine wp_seq ?_
   refine wp_seq (rsE A5 [0,1,0] hB hG fun L hL=>?_)
   refine gs ?_
   refine gmw (C:=fun v=>M1 _ (by first | assumption | omega) _) ?_
   refine gs ?_
   refine geT hL ?_
   clear hB hG hL L
   rintro u ⟨-,hB,hG,-⟩
   refine wp_cond_split rfl ?_ ?_
   ·intro ht
    have ht39:=ht
    have hY : q % p = 0:=T0.1 (by simpa using ht)
    refine r0T ?_
    refine st hB hF hG 6 0 [_,_] ?_
    clear hB hG
    intro u hB hG
    refine rt Tryz.results59 ?_
    have hgx:=U8 q p g Hg.out
    rw [hY,Nat.gcd_zero_right] at hgx
    exact ⟨by rw [hgx],hG⟩
   ·intro ht
    have ht39:=ht
    have hYr : q % p ≠ 0:=fun h=>(by rw [h] at ht;simp [Y9] at ht)
    refine wp_skip ?_
    refine A4 ?_
    refine wp_seq ?_
    refine wp_seq (rsE A5 [0,1,0,0,0,0,0] hB hG fun L hL=>?_)
    refine gs ?_
    refine gmw (C:=fun v=>A75 _ hs _) ?_
    refine gs ?_
    refine geT hL ?_
    clear hB hG hL L
    rintro u ⟨-,hB,hG,-⟩
    refine r0T ?_
    refine wp_cond_false (rfl) ?_
    refine wp_skip ?_
    refine A4 ?_
    refine wp_seq (rsC A5 [0,0,1] hB hG fun K L hN hL=>?_)
    refine gs ?_
    refine gmd (C:=fun v ⟨hgu,hB,hG,_⟩=>Hbin.out _ hG hYr) ?_
    refine geC hL ?_
    clear hB hG hL L
    rintro u ⟨-,hB,hG,-⟩
    refine gtT ?_
    clear hN K
    refine st hB hF hG 6 0 [_,_] ?_
    clear hB hG
    intro u hB hG
    refine rt Tryz.results59 ?_
    exact ⟨rfl,hG⟩
theorem B2G (a b : Int) (ha : bl a.natAbs ≤ BIG) (hb : bl b.natAbs ≤ BIG) (w : World) (hT : Tab w) : Calls Tryz.prog 59 #[D4 a,D4 b] w fun e w'=>e = .returned (A6 (Nat.gcd a.natAbs b.natAbs)) ∧ A3 w w':=by
 by_cases h : a.natAbs < b.natAbs
 ·by_cases hs : a.natAbs < W64
  ·exact B20 _ _ _ _ hs hb h w
  ·exact B3h _ _ _ _ ha hb hs h w hT
 ·by_cases hs : b.natAbs < W64
  ·exact B49 _ _ _ _ ha hs (by omega) w
  ·exact B1f _ _ _ _ ha hb hs (by omega) w hT
end Go.Proofs.YtlkniebmjdoopaaGreatDoor
