/- Contracts and laws. -/
import Derived.Test.YtlkniebmjdoopaaGreatDoorK33
import Derived.RangeFuncRecord
import Derived.RangeFuncSeq
import Derived.ControlIn
import Derived.RangeFuncNested
import Derived.RangeFuncBound
import Derived.RangeFuncCalls
import Derived.RangeFuncLeaves
import Derived.Shelf.Abstract
import Derived.Shelf.RegionOpen
import Derived.WalkKit
import Derived.OwnWalkIn
import Derived.TacticsInMore
import Derived.LoopNIn
import Derived.LoopIn
import Derived.OrdersIn
set_option linter.unusedSimpArgs false
set_option linter.unusedVariables false
set_option maxHeartbeats 4000000
set_option maxRecDepth 100000
namespace Go.Proofs.YtlkniebmjdoopaaGreatDoor
open Go Go.RowKit
def I3 (F : FuncId) (l r : List Rat) : Prop:=∀ (W : World) (x : Ax),PR l x W → Tab W → Calls Tryz.prog F #[.slice x.1 l.length x.2] W (E7 r W)
def A0N (F : FuncId) (l m r : List Rat) : Prop:=∀ (W : World) (x y : Ax),PR l x W → PR m y W → Tab W → Calls Tryz.prog F #[.slice x.1 l.length x.2,.slice y.1 m.length y.2] W (E7 r W)
def A1D (l m q r : List Rat) : Prop:=∀ (W : World) (x y : Ax),PR l x W → PR m y W → Tab W → Calls Tryz.prog 129 #[.slice x.1 l.length x.2,.slice y.1 m.length y.2] W (I1 (fun z : Ax × Ax=>.tuple #[.slice z.1.1 q.length z.1.2,.slice z.2.1 r.length z.2.2,.bool true]) (fun z W'=>PR q z.1 W' ∧ PR r z.2 W') W)
theorem A0i {l : List Rat} (hm : l.length ≤ 1000) (s : Nat) (hs1 : 50 ≤ s) (hs : ∀ x ∈ l,qs x ≤ s) (hB : 4 * s + 100 ≤ BIG) : I3 148 l (E1 l):=fun W x h HT=>B2n x.1 l l.length x.2 rfl h.2.1 hm s hs1 hs hB W h.1 HT
theorem A5b {l : List Rat} (hm : l.length ≤ 1000) (s : Nat) (hs : ∀ x ∈ l,qs x ≤ s) (hB : 2 * s + 100 ≤ BIG) : I3 128 l (D2 l):=fun W x h HT=>B5h x.1 l l.length x.2 rfl h.2.1 hm s hs hB W h.1 HT
theorem A2G {l m : List Rat} (hb1 : l.length ≤ 1000) (hb2 : m.length ≤ 1000) (s : Nat) (hs1 : ∀ x ∈ l,qs x ≤ s) (hs2 : ∀ x ∈ m,qs x ≤ s) (Z : Nat) (hsZ : s ≤ Z) (hZ : DvZ (trL l) (trL m) Z) (hBZ : 8 * Z + 10 ≤ BIG) (hn0 : 0 < trN m) : A1D l m (B7 l m).1 (B7 l m).2:=fun W x y h1 h2 HT =>
 B4B x.1 y.1 l m l.length m.length x.2 y.2 rfl rfl h1.2.1 h2.2.1 hb1 hb2 s hs1 hs2 Z hsZ hZ hBZ hn0 W h1.1 h2.1 HT
theorem B1M {a b q r m : List Rat} (hd : A1D a b q r) (hm : I3 148 q m) : A0N 143 a b m:=by
 intro w x y h1 h2 HT
 obtain ⟨A1,c1⟩:=x
 obtain ⟨A2,c2⟩:=y
 have hd:=fun W (hg : A3 w W)=>hd W (A1,c1) (A2,c2) (h1.grow hg) (h2.grow hg) (HT.grow hg)
 have hm : ∀ W (x : Ax),PR q x W → Tab W → Calls Tryz.prog 148 #[.slice x.1 q.length x.2] W (E7 m W):=hm
 unfold E7 at hm ⊢
 obtain ⟨na,hna⟩ : ∃ n,n = a.length:=⟨_,rfl⟩
 obtain ⟨nb,hnb⟩ : ∃ n,n = b.length:=⟨_,rfl⟩
 obtain ⟨nq,hnq⟩ : ∃ n,n = q.length:=⟨_,rfl⟩
 obtain ⟨nr,hnr⟩ : ∃ n,n = r.length:=⟨_,rfl⟩
 obtain ⟨nm,hnm⟩ : ∃ n,n = m.length:=⟨_,rfl⟩
 simp only [← hna,← hnb,← hnq,← hnr] at hd
 simp only [← hnq,← hnm] at hm
 rw [← hna,← hnb,← hnm]
 have Hd:=Lib.hid hd
 have Hm:=Lib.hid hm
 clear hd hm hna hnb hnq hnr hnm h1 h2
 go_enter Tryz.func143,Tryz.ntmps143
 refine en0 ?_
 intro u hG hB hF
 refine wp_seq (rsE A5 [0,0,1,0,0,0,0,0,0,0] hB hG fun L hL=>?_)
 refine gs ?_
 refine gxd (X:=(Ax × Ax)) (fun z : Ax × Ax=>.tuple #[.slice z.1.1 nq z.1.2,.slice z.2.1 nr z.2.2,.bool true]) (fun z W'=>PR q z.1 W' ∧ PR r z.2 W') (fun x u u' hg h=>⟨h.1.grow hg,h.2.grow hg⟩) (fun x11=>?_) (C:=by (rintro v ⟨hgu,hB,hG,-⟩;exact Hd.out _ hG))
 refine gs ?_
 refine geT hL ?_
 clear hB hG hL L
 rintro u ⟨⟨hgu,hB,hG,-⟩,hx11⟩
 obtain ⟨w1,hw1⟩ : ∃ x,x = u:=⟨_,rfl⟩
 have HQ:=Lib.hid (show PR q x11.1 w1 from hw1 ▸ hx11.1)
 have hG1 : A3 w1 u:=hw1 ▸ A3.refl u
 clear hx11 hw1
 clear hgu
 refine wp_seq (rsE A5 [0,1,0] hB hG fun L hL=>?_)
 refine gs ?_
 refine gxd (X:=Ax) (fun x : Ax=>.slice x.1 nm x.2) (fun x W=>PR m x W) (fun x u u' hg h=>h.grow hg) (fun x16=>?_) (C:=by (rintro v ⟨hgu,hB,hG,-⟩;exact Hm.out _ x11.1 (HQ.out.grow (hG1.trans hgu)) (HT.grow hG)))
 refine gs ?_
 refine geT hL ?_
 clear hB hG hL L
 rintro u ⟨⟨hgu,hB,hG,-⟩,hx16⟩
 have HP:=Lib.hid hx16
 clear hx16
 clear hgu
 refine rt Tryz.results143 ?_
 exact ⟨x16,rfl,HP.out,hG⟩
theorem B3u {p d g f : List Rat} (h1 : I3 128 p d) (h2 : A0N 104 p d g) (h3 : A0N 143 p g f) : I3 95 p f:=by
 intro w x hp HT
 obtain ⟨A1,c1⟩:=x
 have h1:=fun W (hg : A3 w W)=>h1 W (A1,c1) (hp.grow hg) (HT.grow hg)
 have h2:=fun W (y : Ax) (hg : A3 w W) (hy : PR d y W)=>h2 W (A1,c1) y (hp.grow hg) hy (HT.grow hg)
 have h3:=fun W (y : Ax) (hg : A3 w W) (hy : PR g y W)=>h3 W (A1,c1) y (hp.grow hg) hy (HT.grow hg)
 unfold E7 at h1 h2 h3 ⊢
 obtain ⟨np,hnp⟩ : ∃ n,n = p.length:=⟨_,rfl⟩
 obtain ⟨nd,hnd⟩ : ∃ n,n = d.length:=⟨_,rfl⟩
 obtain ⟨ng,hng⟩ : ∃ n,n = g.length:=⟨_,rfl⟩
 obtain ⟨nf,hnf⟩ : ∃ n,n = f.length:=⟨_,rfl⟩
 simp only [← hnp,← hnd] at h1
 simp only [← hnp,← hnd,← hng] at h2
 simp only [← hnp,← hng,← hnf] at h3
 rw [← hnp,← hnf]
 have H1:=Lib.hid h1
 have H2:=Lib.hid h2
 have H3:=Lib.hid h3
 clear h1 h2 h3 hnp hnd hng hnf hp
 go_enter Tryz.func95,Tryz.ntmps95
 refine en0 ?_
 intro u hG hB hF
 refine wp_seq (rsE A5 [0,0,0,1,1,1,0] hB hG fun L hL=>?_)
 refine gs ?_
 refine gxd (X:=Ax) (fun x : Ax=>.slice x.1 nd x.2) (fun x W=>PR d x W) (fun x u u' hg h=>h.grow hg) (fun x6=>?_) (C:=by (rintro v ⟨hgu,hB,hG,-⟩;exact H1.out _ hG))
 refine gxd (X:=Ax) (fun x : Ax=>.slice x.1 ng x.2) (fun x W=>PR g x W) (fun x u u' hg h=>h.grow hg) (fun x7=>?_) (C:=by (rintro v ⟨⟨hgu,hB,hG,-⟩,hx6⟩;exact H2.out _ x6 hG hx6))
 refine gxd (X:=Ax) (fun x : Ax=>.slice x.1 nf x.2) (fun x W=>PR f x W) (fun x u u' hg h=>h.grow hg) (fun x8=>?_) (C:=by (rintro v ⟨⟨⟨hgu,hB,hG,-⟩,hx6⟩,hx7⟩;exact H3.out _ x7 hG hx7))
 refine gs ?_
 refine geT hL ?_
 clear hB hG hL L
 rintro u ⟨⟨⟨⟨hgu,hB,hG,-⟩,hx6⟩,hx7⟩,hx8⟩
 have HP:=Lib.hid hx8
 clear hx6 hx7 hx8
 clear hgu
 refine rt Tryz.results95 ?_
 exact ⟨x8,rfl,HP.out,hG⟩
def A3p : Value → Nat
 | .slice _ n _=>n
 | _=>0
theorem A8Z {a b : List Rat} (G Q R : Nat → List Rat) (N : Nat) (h0 : I3 148 a (G 0)) (h1 : I3 148 b (G 1)) (hd : ∀ i,i < N → A1D (G i) (G (i + 1)) (Q i) (R i)) (hm : ∀ i,i < N → I3 148 (R i) (G (i + 2))) (hdec : ∀ i,i < N → (G (i + 2)).length < (G (i + 1)).length) (hN : (G (N + 1)).length = 0) : A0N 104 a b (G N):=by
 intro w x y hx hy HT
 obtain ⟨A1,c1⟩:=x
 obtain ⟨A2,c2⟩:=y
 have h0:=fun W (hg : A3 w W)=>h0 W (A1,c1) (hx.grow hg) (HT.grow hg)
 have h1:=fun W (hg : A3 w W)=>h1 W (A2,c2) (hy.grow hg) (HT.grow hg)
 have hd : ∀ i,i < N → ∀ (W : World) (x y : Ax),PR (G i) x W → PR (G (i + 1)) y W → Tab W → Calls Tryz.prog 129 #[.slice x.1 (G i).length x.2,.slice y.1 (G (i + 1)).length y.2] W (I1 (fun z : Ax × Ax=>.tuple #[.slice z.1.1 (Q i).length z.1.2,.slice z.2.1 (R i).length z.2.2,.bool true]) (fun z W'=>PR (Q i) z.1 W' ∧ PR (R i) z.2 W') W):=hd
 have hm : ∀ i,i < N → ∀ (W : World) (x : Ax),PR (R i) x W → Tab W → Calls Tryz.prog 148 #[.slice x.1 (R i).length x.2] W (E7 (G (i + 2)) W):=hm
 unfold E7 at h0 h1 hm ⊢
 obtain ⟨Ln,hL⟩ : ∃ Ln : Nat → Nat,Ln = fun i=>(G i).length:=⟨_,rfl⟩
 have hLi : ∀ i,(G i).length = Ln i:=by rw [hL];exact fun _=>rfl
 obtain ⟨na,hna⟩ : ∃ n,n = a.length:=⟨_,rfl⟩
 obtain ⟨nb,hnb⟩ : ∃ n,n = b.length:=⟨_,rfl⟩
 simp only [hLi] at h0 h1 hd hm hdec hN ⊢
 rw [← hna,← hnb]
 simp only [← hna] at h0
 simp only [← hnb] at h1
 have H0:=Lib.hid h0
 have H1:=Lib.hid h1
 have Hd:=Lib.hid hd
 have Hm:=Lib.hid hm
 have Hdec:=Lib.hid hdec
 have HN:=Lib.hid hN
 clear h0 h1 hd hm hdec hN hL hLi hna hnb hx hy
 go_enter Tryz.func104,Tryz.ntmps104
 refine en0 ?_
 intro u hG hB hF
 refine wp_seq (rsE A5 [0,1,0,1,0,0] hB hG fun L hL=>?_)
 refine gs ?_
 refine gxd (X:=Ax) (fun x : Ax=>.slice x.1 (Ln 0) x.2) (fun x W=>PR (G 0) x W) (fun x u u' hg h=>h.grow hg) (fun x9=>?_) (C:=by (rintro v ⟨hgu,hB,hG,-⟩;exact H0.out _ hG))
 refine gs ?_
 refine gxd (X:=Ax) (fun x : Ax=>.slice x.1 (Ln 1) x.2) (fun x W=>PR (G 1) x W) (fun x u u' hg h=>h.grow hg) (fun x11=>?_) (C:=by (rintro v ⟨⟨hgu,hB,hG,-⟩,hx9⟩;exact H1.out _ hG))
 refine gs ?_
 refine geT hL ?_
 clear hB hG hL L
 rintro u ⟨⟨⟨hgu,hB,hG,-⟩,hx9⟩,hx11⟩
 have HP:=Lib.hid (And.intro hx9 hx11)
 clear hx9 hx11
 clear hgu
 refine wp_seq ?_
 refine wp_block ?_
 clear hB hF
 go_loopw [0,1] (fun s0 s1 wr=>∃ (i : Nat) (x y : Ax),i ≤ N ∧ s0 = .slice x.1 (Ln i) x.2 ∧ s1 = .slice y.1 (Ln (i + 1)) y.2 ∧ PR (G i) x wr ∧ PR (G (i + 1)) y wr ∧ A3 w wr) (fun _ s1 _=>A3p s1)
 case atStart=>exact ⟨0,x9,x11,Nat.zero_le _,rfl,rfl,HP.out.1,HP.out.2,hG⟩
 case round =>
  clear hG HP
  obtain ⟨i,x,y,hi,rfl,rfl,hx,hy,hG⟩:=hrel
  obtain ⟨u,rfl⟩ : ∃ x,x = wr:=⟨_,rfl⟩
  have hB:=Bx.nil u
  have hF:=Fr.nil w
  have HX:=Lib.hid hx
  have HY:=Lib.hid hy
  clear hx hy
  rcases Nat.lt_or_ge i N with hlt | hge
  ·have hdc:=Hdec.out i hlt
   have hd1:=Hd.out i hlt
   have hm1:=Hm.out i hlt
   obtain ⟨l0,hl0⟩ : ∃ n,n = Ln i:=⟨_,rfl⟩
   obtain ⟨l1,hl1⟩ : ∃ n,n = Ln (i + 1):=⟨_,rfl⟩
   obtain ⟨l2,hl2⟩ : ∃ n,n = Ln (i + 2):=⟨_,rfl⟩
   obtain ⟨nq,hnq⟩ : ∃ n,n = (Q i).length:=⟨_,rfl⟩
   obtain ⟨nr,hnr⟩ : ∃ n,n = (R i).length:=⟨_,rfl⟩
   rw [← hl1,← hl2] at hdc
   simp only [← hl0,← hl1,← hnq,← hnr] at hd1
   simp only [← hl2,← hnr] at hm1
   rw [← hl0,← hl1]
   have f14 : decide ((0 : Int) < (l1 : Int)) = true:=by simp;omega
   have f14n : decide (0 < l1) = true:=by simp;omega
   have HL:=Lib.hid (And.intro hl1 hl2)
   have Hd1:=Lib.hid hd1
   have Hm1:=Lib.hid hm1
   clear hd1 hm1 hl0 hl1 hl2 hnq hnr
   refine wp_seq ?_
   refine r0T ?_
   refine wp_cond_true (rfl) ?_
   refine wp_skip ?_
   refine A4 ?_
   refine wp_block ?_
   refine wp_seq (rsE A5 [0,0,1,0,0,0,0,0,0,0] hB hG fun L hL=>?_)
   refine gs ?_
   refine gxd (X:=(Ax × Ax)) (fun z : Ax × Ax=>.tuple #[.slice z.1.1 nq z.1.2,.slice z.2.1 nr z.2.2,.bool true]) (fun z W'=>PR (Q i) z.1 W' ∧ PR (R i) z.2 W') (fun x u u' hg h=>⟨h.1.grow hg,h.2.grow hg⟩) (fun x18=>?_) (C:=by (rintro v ⟨hgu,hB,hG,-⟩;exact Hd1.out _ x y (HX.out.grow hgu) (HY.out.grow hgu) (HT.grow hG)))
   refine gs ?_
   refine geT hL ?_
   clear hB hG hL L
   rintro u ⟨⟨hgu,hB,hG,-⟩,hx18⟩
   have HR:=Lib.hid hx18.2
   have HY2:=Lib.hid (HY.out.grow hgu)
   clear hx18 HX HY
   have HY:=HY2
   clear HY2
   obtain ⟨w3,hw3⟩ : ∃ x,x = u:=⟨_,rfl⟩
   rw [← hw3] at HR HY
   have hG3 : A3 w3 u:=hw3 ▸ A3.refl u
   clear hw3
   clear hgu
   refine rsE A5 [0,0,1,0,0] hB hG fun L hL=>?_
   refine gs ?_
   refine gxd (X:=Ax) (fun x : Ax=>.slice x.1 l2 x.2) (fun x W=>PR (G (i + 2)) x W) (fun x u u' hg h=>h.grow hg) (fun x24=>?_) (C:=by (rintro v ⟨hgu,hB,hG,-⟩;exact Hm1.out _ x18.2 (HR.out.grow (hG3.trans hgu)) (HT.grow hG)))
   refine gs ?_
   refine geE hL ?_
   clear hB hG hL L
   rintro u ⟨⟨hgu,hB,hG,-⟩,hx24⟩
   have HP:=Lib.hid (And.intro (HY.out.grow (hG3.trans hgu)) hx24)
   clear hx24
   clear hgu
   refine F0 ?_
   refine A4 ?_
   go_roundw
   case rel=>exact ⟨i + 1,y,x24,by omega,by rw [← HL.out.1],by rw [show i + 1 + 1 = i + 2 from rfl,← HL.out.2],HP.out.1,HP.out.2,hG⟩
   case measure=>simp [A3p];omega
  ·obtain rfl : N = i:=by omega
   have hN0:=HN.out
   rw [hN0]
   have f14 : decide ((0 : Int) < ((0 : Nat) : Int)) = false:=by simp
   clear hN0 hge hi
   refine wp_seq ?_
   refine r0T ?_
   refine wp_cond_false (rfl) ?_
   refine wp_exit ?_
   refine D7 ?_
   refine D7 ?_
   refine G8 ?_
   refine A4 ?_
   refine r0T ?_
   refine rt Tryz.results104 ?_
   exact ⟨x,rfl,HX.out,hG⟩
theorem A65 {B b : Nat} {w W : World} {o : Obj} (h : Below B w W) (hb : B ≤ b) : Below B w (W.putObj b o) :=
 ⟨h.os,h.tape,h.output,by rw [World.putObj_size];exact h.size,fun k hk=>(World.putObj_heap_other (by omega)).trans (h.block k hk)⟩
theorem A98 {P : Program} {o : Oper} {a : Act} {w : World} {N N' K : Act → World → Prop} {l0 : Nat} (hd : ∀ c,o.op ≠ .defer c) (hN : ∀ a w,N a w → N' a w) (h : o.wp P a w N (NoK K)) : o.wpIn (Fence.wide.inRound l0) 0 P a w N' (NoK K):=by
 refine ⟨fun _ _=>trivial,?_⟩
 rw [show (Fence.wide.inRound l0).round = some l0 from rfl,Oper.semAt_some l0 _ _ hd]
 unfold Oper.wp at h
 revert h
 generalize (execOp a.eval o).run P w = res
 intro h
 cases res with
 | ok n w' =>
  cases n with
  | value v=>exact hN _ _ h
  | skip=>exact hN _ _ h
  | defer d=>exact hN _ _ h
  | enter g args =>
   refine ⟨fun e=>(by cases e),CallsIn.inRound l0 (callsIn_wide.2 (Calls.mono h fun e w'' he=>?_))⟩
   cases e with
   | returned v=>exact hN _ _ he
   | panicked ch=>exact he
   | outgrown=>exact he
  | row r args =>
   exact ⟨fun e=>(by cases e),fun c cs _=>let ⟨v,w',r,s⟩:=(h : Rows P r args w' _) c cs;⟨v,w',hN _ _ r,stepsIn_wide.2 s⟩⟩
  | _=>exact (h : False).elim
 | halt x w' =>
  cases x with
  | panic v=>exact h
  | _=>exact (h : False).elim
theorem A84 {P : Program} {ops : Array Oper} {K : Act → World → Prop} {l0 : Nat} : ∀ (l : List Oper) (a : Act) (w : World),(∀ o ∈ l,∀ c,o.op ≠ .defer c) → wpList P ops (NoK K) l a w → wpListIn (Fence.wide.inRound l0) 0 P ops (NoK K) l a w
 | [],_,_,_,h=>h
 | o :: l,a,w,hd,h=>by
  unfold wpList at h
  unfold wpListIn
  have ih:=fun a w (h : wpList P ops (NoK K) l a w)=>A84 (l0:=l0) l a w (fun x hx=>hd x (List.mem_cons_of_mem _ hx)) h
  split at h
  ·rename_i hw
   rw [if_pos hw]
   rcases h with h | ⟨_,h⟩
   ·exact A98 (hd o (by simp)) ih h
   ·exact absurd h (by
     intro h
     unfold LetsOut at h
     obtain ⟨_,_,h⟩:=h
     exact h)
  ·rename_i hw
   rw [if_neg hw]
   exact ⟨fun _ _=>trivial,ih _ _ h⟩
def A3J (l : List Oper) : Bool:=l.all fun o=>match o.op with
 | .defer _=>false
 | _=>true
theorem A7p {l : List Oper} (h : A3J l = true) : ∀ o ∈ l,∀ c,o.op ≠ .defer c:=fun o ho c e=>by
 have := List.all_eq_true.1 h o ho
 rw [e] at this
 cases this
section
variable {P : Program} {Q : Exit → Act → World → Prop} {a : Act} {w u : World} {id l0 : Nat} {l tl : List Oper} {ts : List TypeId} {bl : List (Nat × TypeId × Array Value)} {s : List (Nat × Oper)}
theorem B6X (hts : ∀ t ∈ ts,M8 P t) (n : Nat) (ks : List Nat) (hB : Y7 ts l n ks = true) (htl : l.drop n = tl)
  (hb : Bx u bl) (hG : A3 w u)
  (h : ∀ K L : Act → World → Prop,(∀ a w,Q .normal a w → K a w) → (∀ a' w',wpList P l.toArray (NoK K) tl a' w' → L a' w') → OKs P l.toArray L u.heap.size (ks.zip l) [] a (fun v=>A3 u v ∧ Bx v bl ∧ A3 w v ∧ True)) (hd : A3J l = true:=by kernel_rfl) : (Code.region id l.toArray false).wpIn (Fence.wide.inRound l0) 0 P Q a u:=by
 replace h:=h (Q .normal) (fun a' w'=>wpList P l.toArray (NoK (Q .normal)) (l.drop n) a' w') (fun _ _ h=>h) (fun _ _ h=>by rw [htl];exact h)
 simp only [Y7,Bool.and_eq_true,decide_eq_true_eq] at hB
 obtain ⟨⟨hlen,hn⟩,hall⟩:=hB
 refine wpIn_mono (Q:=NoP Q) (wpIn_region_lit ?_) NoP.up
 rw [NoK.eq]
 refine A84 l a u (A7p hd) ?_
 rw [← NoK.eq] at h ⊢
 have hz : ks.zip l = ks.zip (l.take n):=by
  rw [← hlen]
  clear hlen hn hall h htl hd
  induction ks generalizing l with
  | nil=>simp
  | cons k ks ih=>cases l with
   | nil=>simp
   | cons o l=>simp only [List.length_cons,List.take_succ_cons,List.zip_cons_cons];rw [ih]
 rw [hz] at h
 have H:=OKs.seq (Q:=Q) (B:=u.heap.size) (tl:=l.drop n) (ks.zip (l.take n)) [] a (fun v=>A3 u v ∧ Bx v bl ∧ A3 w v ∧ True) u (fun e he hk=>?_) (fun u u' hu hh=>⟨hh.1.trans hu,hh.2.1.grow hu,hh.2.2.1.trans hu,trivial⟩) ⟨A3.refl u,hb,hG,trivial⟩ (fun u hu=>⟨hu.1.size,fun b hb=>by cases hb⟩) h
 ·rw [A4n ks (l.take n) (by simp;omega),List.take_append_drop] at H
  exact H
 ·obtain ⟨i,hi,hie⟩:=List.mem_iff_getElem.1 he
  simp only [List.length_zip,List.length_take] at hi
  have h2 : e = (ks[i]'(by omega),l[i]'(by omega)):=by rw [← hie];simp
  have h3 : (ks[i]'(by omega),i) ∈ ks.zip (List.range n):=List.mem_iff_getElem.2 ⟨i,by simp;omega,by simp⟩
  have hk' : 2 ≤ ks[i]'(by omega):=by rw [h2] at hk;exact hk
  have h4:=A2L (P:=P) hts hall _ h3 hk' (l[i]'(by omega)) (by simp)
  rw [h2]
  exact h4
end
section
variable {P : Program} {Q : Exit → Act → World → Prop}
theorem A83 {md : Region.Mode} {ops : Array Oper} {K : Act → World → Prop} {l0 : Nat} : ∀ (fuel : Nat) (listed : Array Bool) (a : Act) (w : World),(∀ o ∈ ops.toList,∀ c,o.op ≠ .defer c) → wpAny P md ops (NoK K) fuel listed a w → wpAnyIn (Fence.wide.inRound l0) 0 P md ops (NoK K) fuel listed a w
 | 0,_,_,_,_,h=>h
 | fuel + 1,listed,a,w,hd,h=>by
  refine ⟨h.1,fun i hi=>?_⟩
  have h2:=h.2 i hi
  have ih:=fun a w (h : wpAny P md ops (NoK K) fuel (listed.setIfInBounds i true) a w)=>A83 (l0:=l0) fuel _ a w hd h
  unfold wpOp at h2
  unfold wpOpIn
  split at h2
  ·rename_i ho
   simp only [ho]
   exact ih _ _ h2
  ·rename_i o ho
   simp only [ho]
   split at h2
   ·rename_i hw
    rw [if_pos hw]
    rcases h2 with h2 | ⟨_,h2⟩
    ·exact A98 (hd o (by have := Array.mem_of_getElem? ho;simpa using this)) ih h2
    ·exact absurd h2 (by
      intro h
      unfold LetsOut at h
      obtain ⟨_,_,h⟩:=h
      exact h)
   ·rename_i hw
    rw [if_neg hw]
    exact ⟨fun _ _=>trivial,ih _ _ h2⟩
theorem B2A {id l0 : Nat} {a : Act} {w : World} {l : List Oper} {ts : List TypeId} (hts : ∀ t ∈ ts,M8 P t) (n : Nat) (fl : List Nat) (s : List (Nat × Nat)) (hd : A3J l = true) (F : World → Prop) (hm : P.follows .mixedOrders = true) (hB : A1H ts l n fl s = true)
  (hmono : ∀ w w',A3 w w' → F w → F w') (hF : F w) (h : OKs P l.toArray (fun a' w'=>wpList P l.toArray (NoP Q) (l.drop n) a' w') w.heap.size (E8 l.toArray s) [] a (fun u=>A3 w u ∧ F u)) : (Code.region id l.toArray true).wpIn (Fence.wide.inRound l0) 0 P Q a w:=by
 simp only [A1H,A2k,Bool.and_eq_true,decide_eq_true_eq,List.all_eq_true,List.mem_range,List.contains_iff_mem] at hB
 obtain ⟨⟨⟨⟨⟨⟨⟨⟨⟨⟨hsel,hn⟩,hs⟩,hc⟩,⟨⟨hset1,hset2⟩,hnd⟩⟩,hpair⟩,hback⟩,hseq⟩,hall⟩,hfl⟩,hk⟩:=hB
 have hdl : (l.drop n).length = l.toArray.size - n:=by simp
 have inv0 : HeadInv .any l.toArray n (Array.replicate l.toArray.size false) :=
  ⟨by simp,fun j oj _ hl=>(by rw [getD_replicate_false] at hl;cases hl),fun t _ ht=>getD_in (by simpa using ht) (getD_replicate_false _ _)⟩
 have hun0 : ∀ i,i < n → (Array.replicate l.toArray.size false).getD i true = false:=fun i hi=>getD_in (by simp at hn ⊢;omega) (getD_replicate_false _ _)
 have hlen : s.length = n:=by
  have h1 : (s.map (·.2)).Perm (List.range n):=(List.perm_ext_iff_of_nodup hnd List.nodup_range).2 fun i=>⟨fun hi=>List.mem_range.2 (hset2 i hi),fun hi=>hset1 i (List.mem_range.1 hi)⟩
  simpa using h1.length_eq
 refine wpIn_mono (Q:=NoP Q) (wpIn_region_any hm ?_) NoP.up
 rw [NoK.eq]
 refine A83 _ _ _ _ (A7p hd) ?_
 rw [← NoK.eq]
 have H:=A96 (P:=P) (Q:=Q) (B:=w.heap.size) (L:=fun a' w'=>wpList P l.toArray (NoP Q) (l.drop n) a' w') (g:=l.toArray.size - n) hfl hsel (Nat.le_of_lt hn) hback (fun listed inv i hi hf hun t ht=>A9o hs hc hn inv (n - i) i rfl hi hf hun t ht)
  (fun listed a' w' inv hall hK=>by
   have hl : listed = V8 n l.toArray.size:=by
    refine Array.ext (by simp [V8,inv.size]) fun i h1 h2=>?_
    have hi : i < l.toArray.size:=by rw [← inv.size];exact h1
    simp only [V8,Array.getElem_ofFn]
    by_cases hin : i < n
    ·have := hall i hin
     simpa [h1,hin] using this
    ·have := inv.tail i (by omega) hi
     simpa [h1,hin] using this
   have := wpAny_of_seq (md:=.any) (Q':=NoP Q) (l.drop n) n listed a' w' (fun j=>by simp [List.getElem?_drop]) (by rw [hdl,hl];exact hseq) hK
   rwa [hdl] at this)
  n s (Array.replicate l.toArray.size false) [] a (fun u=>A3 w u ∧ F u) w.drew hlen (fun i=>⟨fun hi=>⟨hset2 i hi,hun0 i (hset2 i hi)⟩,fun hi=>hset1 i hi.1⟩) hnd inv0 hpair (A2L hts hall) (fun e he hf=>by
   have h1:=hk e he
   simp only [Bool.or_eq_true,Bool.not_eq_true',List.contains_eq_mem,decide_eq_false_iff_not,decide_eq_true_eq] at h1
   rcases h1 with h1 | h1
   ·exact absurd hf h1
   ·omega)
  (fun u u' hu hh=>⟨hh.1.trans hu,hmono u u' hu hh.2⟩) ⟨A3.drew w,hmono _ _ (A3.drew w) hF⟩ (fun u hu=>⟨hu.1.size,fun b hb=>by cases hb⟩) h
 rw [show n + (l.toArray.size - n) = l.toArray.size by omega] at H
 exact H
end
section
variable {P : Program} {Q : Exit → Act → World → Prop} {a : Act} {w u : World} {id l0 : Nat} {l tl : List Oper} {ts : List TypeId} {bl : List (Nat × TypeId × Array Value)} {s : List (Nat × Oper)}
theorem B2s (hts : ∀ t ∈ ts,M8 P t) (fl : List Nat) (sc : List (Nat × Nat)) (hB : Bx u bl) (hG : A3 w u) (h : ∀ K L : Act → World → Prop,(∀ a w,Q .normal a w → K a w) → (∀ a' w',wpList P l.toArray (NoK K) tl a' w' → L a' w') → OKs P l.toArray L u.heap.size s [] a (fun v=>A3 u v ∧ Bx v bl ∧ A3 w v ∧ True))
  (hm : P.follows .mixedOrders = true:=by kernel_rfl) (hs : A1H ts l sc.length fl sc = true:=by kernel_rfl) (hd : l.drop sc.length = tl:=by (simp only [List.length_cons,List.length_nil,Nat.zero_add,Nat.reduceAdd,List.drop_succ_cons,List.drop_zero,List.drop_nil];exact rfl))
  (hz : E8 l.toArray sc = s:=by (simp only [E8,List.getElem?_toArray,List.getElem?_cons_zero,List.getElem?_cons_succ];exact rfl)) (hf : A3J l = true:=by kernel_rfl) : (Code.region id l.toArray true).wpIn (Fence.wide.inRound l0) 0 P Q a u:=by
 subst hz
 exact B2A hts sc.length fl sc hf (fun v=>Bx v bl ∧ A3 w v ∧ True) hm hs (fun _ _ hg hh=>⟨hh.1.grow hg,hh.2.1.trans hg,trivial⟩) ⟨hB,hG,trivial⟩ (h _ _ (fun _ _ h=>h) fun _ _ h=>by rw [NoK.eq,hd];exact h)
end
end Go.Proofs.YtlkniebmjdoopaaGreatDoor
namespace Go.Proofs.YtlkniebmjdoopaaGreatDoor
open Go Go.RowKit Go.Shelf
attribute [local go_sem] Oper.semAt_some
structure KG (p : Nat → Obj → Prop) (u v : World) : Prop where
 os : v.os = u.os
 tape : v.tape = u.tape
 output : v.output = u.output
 size : u.heap.size ≤ v.heap.size
 keep : ∀ (k : Nat) (o : Obj),p k o → u.heap[k]? = some o → v.heap[k]? = some o
section
variable {p : Nat → Obj → Prop}
theorem KG.ofGrow {u v : World} (h : A3 u v) : KG p u v:=⟨h.os,h.tape,h.output,h.size,fun k o _ hk=>(h.block k (Array.getElem?_eq_some_iff.1 hk).1).trans hk⟩
theorem KG.trans {u v w : World} (h : KG p u v) (h2 : KG p v w) : KG p u w:=⟨h2.os.trans h.os,h2.tape.trans h.tape,h2.output.trans h.output,Nat.le_trans h.size h2.size,fun k o hc hk=>h2.keep k o hc (h.keep k o hc hk)⟩
theorem KG.put {b : Nat} {w W : World} {o : Obj} (hB : w.heap.size ≤ b) (h : KG p w W) : KG p w (W.putObj b o) :=
 ⟨h.os,h.tape,h.output,by rw [World.putObj_size];exact h.size,fun k o' hc hk=>by
  have hlt:=(Array.getElem?_eq_some_iff.1 hk).1
  exact (World.putObj_heap_other (by omega)).trans (h.keep k o' hc hk)⟩
theorem KG.by {g : Option Nat} {u v : World} (h : u.grownBy v g) (hp : ∀ k o,u.heap[k]? = some o → p k o → g ≠ some k) : KG p u v :=
 ⟨h.os,h.tape,h.output,h.size,fun k o hc hk=>(h.block k (Array.getElem?_eq_some_iff.1 hk).1 (fun e=>hp k o hk hc e.symm)).trans hk⟩
end
abbrev KO (b : Nat) : World → World → Prop:=KG fun k _=>k ≠ b
theorem KO.by {b : Nat} {u v : World} (h : u.grownBy v (some b)) : KO b u v:=KG.by h fun k o _ hc e=>hc (Option.some.inj e).symm
theorem KG.grow {b : Nat} {w u : World} (h : KG (fun k _=>k ≠ b) w u) (hb : w.heap.size ≤ b) : A3 w u :=
 ⟨h.os,h.tape,h.output,h.size,fun k hk=>by
  obtain ⟨o,ho⟩ : ∃ o,w.heap[k]? = some o:=⟨w.heap[k]'hk,Array.getElem?_eq_getElem hk⟩
  rw [ho]
  exact h.keep k o (show k ≠ b by omega) ho⟩
def A79 (p : Nat → Obj → Prop) (J : Nat → World → Prop) (i : Nat) (W : World) : Exit → Act → World → Prop
 | .normal,_,W'=>KG p W W' ∧ J (i + 1) W'
 | _,_,_=>False
theorem A9d {P : Program} {g : Operand} {ps : Array Tmp} {assign body : Code} {Q : Exit → Act → World → Prop} {a : Act} {wE : World} {gf : Nat} {lb : Array Value} (hg : a.eval g = .func (.func gf) #[] lb) (eg : ∀ args w,(callFunc gf args).run P w = .ok (.enter gf args) w)
  (p0 p pi : Nat → Obj → Prop) (hpD : ∀ d,p wE.heap.size (.deferred d) ∧ pi wE.heap.size (.deferred d)) (hpL : ∀ r,p (wE.heap.size + 1) (.loop r) ∧ pi (wE.heap.size + 1) (.loop r)) (N : Nat) (C : Nat → Array Value → Prop) (J : Nat → World → Prop) (a₁ : Array Value → Nat → Act) (AF : Nat → Array Value → World → Prop) (hcs : ∀ i vs,C i vs → vs.size = ps.size)
  (it : ∀ (l : Nat) (Rd : Nat → World → Prop) (Rx : World → Prop) (W : World),KG p0 wE W → wE.heap.size + 2 ≤ W.heap.size → (∀ i u v,KG pi u v → Rd i u → Rd i v) → (∀ u v,KG pi u v → Rx u → Rx v) →
   (∀ i vs W1,i < N → KG p0 wE W1 → Rd i W1 → C i vs → YieldAt Fence.wide 0 P l vs W1 fun e W'=>(e = .returned (.bool true) ∧ KG p W1 W' ∧ Rd (i + 1) W') ∨ (e = .returned (.bool false) ∧ Rx W')) →
   Rd 0 W → CallsIn Fence.wide 0 P gf (#[.func (.yield l) #[] #[]] ++ lb) W fun e W'=>(∃ v,e = .returned v) ∧ ((KG p0 wE W' ∧ Rd N W') ∨ Rx W'))
  (hA : ∀ b vs W o,wE.heap.size + 2 ≤ b → AF b vs W → AF b vs (W.putObj (wE.heap.size + 1) o)) (hJp : ∀ i W o b,b = wE.heap.size ∨ b = wE.heap.size + 1 → J i W → J i (W.putObj b o)) (hJg : ∀ i u v,KG pi u v → J i u → J i v) (h0 : J 0 wE)
  (hassign : ∀ (l i : Nat) (vs : Array Value) (W : World) (K : Act → World → Prop),C i vs → (∀ b W2,A3 W W2 → W.heap.size ≤ b → AF b vs W2 → K (a₁ vs b) W2) → assign.wpIn (Fence.wide.inRound l) 0 P (Exit.then K (fun _ _ _=>False)) { tmps:=(ps.zip vs).foldl (fun t (p,v)=>t.setIfInBounds p v) a.tmps,defers:=[] } W)
  (hbody : ∀ (l i : Nat) (vs : Array Value) (b : Nat) (W : World),i < N → J i W → KG p0 wE W → wE.heap.size + 2 ≤ b → AF b vs W → C i vs → body.wpIn (Fence.wide.inRound l) 0 P (A79 p J i W) (a₁ vs b) W)
  (hdone : ∀ W,KG p0 wE W → J N W → W.heap[wE.heap.size]? = some (.deferred (some [])) → Q .normal { a with defers:={ target:=.collected wE.heap.size,args:=#[] } :: a.defers } W) :
  (Code.rangeFunc g ps assign body).wpIn Fence.wide 0 P Q a wE:=by
 refine wpIn_rangeFunc ?_
 intro fn hfn
 obtain ⟨rec,hrec⟩ : ∃ rec : LoopState → Option Code → Loop,rec = fun st pe=>{ state:=st,pending:=pe,fn,tmps:=a.tmps,params:=ps,assign,body,defers:=wE.heap.size }:=⟨_,rfl⟩
 obtain ⟨W1,hW1⟩ : ∃ W1,(wE.alloc (.deferred (some []))).alloc (.loop (rec .ready none)) = W1:=⟨_,rfl⟩
 have hL1 : W1.heap[wE.heap.size + 1]? = some (.loop (rec .ready none)):=by
  rw [← hW1];have := World.alloc_heap_new (wE.alloc (.deferred (some []))) (.loop (rec .ready none));rwa [World.size_alloc] at this
 have hK1 : W1.heap[wE.heap.size]? = some (.deferred (some [])):=by
  rw [← hW1];exact (Below.heap_alloc _ _ _ (by simp)).trans (World.alloc_heap_new wE _)
 have hG1 : A3 wE W1:=by rw [← hW1];exact (A3.alloc _ _).trans (A3.alloc _ _)
 have hS1 : wE.heap.size + 2 ≤ W1.heap.size:=by rw [← hW1];simp
 have keep : ∀ {u v : World} {k : Nat} {o : Obj},A3 u v → u.heap[k]? = some o → v.heap[k]? = some o:=fun hg h=>(hg.block _ (Array.getElem?_eq_some_iff.1 h).1).trans h
 have hJG : ∀ i u v,A3 u v → J i u → J i v:=fun i u v hg=>hJg i u v (KG.ofGrow hg)
 refine ⟨wE.heap.size + 1,[{ target:=.collected wE.heap.size,args:=#[] }],W1,{ target:=.fn (.func gf) lb,args:=#[.func (.yield (wE.heap.size + 1)) #[] #[]] },W1,gf,
  #[.func (.yield (wE.heap.size + 1)) #[] #[]] ++ lb,W1,?_,?_,fun _ _=>trivial,?_,fun h=>(by cases h),?_⟩
 ·rw [← hW1,hrec];exact run_enterLoop_outer _ _ _ _ _
 ·simp only [resolve,hg]
  simp [go_sem]
 ·simp [invoke,go_sem,eg]
 ·refine (it (wE.heap.size + 1)
   (fun i W=>J i W ∧ W.heap[wE.heap.size + 1]? = some (.loop (rec .ready none)) ∧ W.heap[wE.heap.size]? = some (.deferred (some [])))
   (fun _=>False)
   W1 (KG.ofGrow hG1) hS1 (fun i u v hg h=>⟨hJg _ _ _ hg h.1,hg.keep _ _ (hpL _).2 h.2.1,hg.keep _ _ (hpD _).2 h.2.2⟩) (fun _ _ _ h=>h) ?_ ⟨hJG _ _ _ hG1 h0,hL1,hK1⟩).mono ?_
  ·rintro i vs W hi hGW ⟨hj,hl,hk⟩ hc
   have hlt : wE.heap.size + 1 < W.heap.size:=(Array.getElem?_eq_some_iff.1 hl).1
   have hy:=run_yield (P:=P) (args:=vs) hl (by rw [hrec];exact hcs i vs hc)
   rw [hrec] at hy
   refine ⟨fn,_,assign,body,hy,roundIn_of_wpIn hfn (hassign _ i vs W _ hc fun ba W2 hgA hba hAF=>?_)⟩
   have hl : W2.heap[wE.heap.size + 1]? = some (.loop (rec .ready none)):=keep hgA hl
   have hk : W2.heap[wE.heap.size]? = some (.deferred (some [])):=keep hgA hk
   have hKA : KG p W W2:=KG.ofGrow hgA
   have hGW : KG p0 wE W2:=hGW.trans (KG.ofGrow hgA)
   have hlt : wE.heap.size + 1 < W2.heap.size:=(Array.getElem?_eq_some_iff.1 hl).1
   refine ⟨_,run_beginRound hl (by rw [hrec]),?_⟩
   obtain ⟨Wb,hWb⟩ : ∃ Wb,Wb = W2.putObj (wE.heap.size + 1) (.loop { rec .ready none with state:=.busy }):=⟨_,rfl⟩
   have hl2 : Wb.heap[wE.heap.size + 1]? = some (.loop { rec .ready none with state:=.busy }):=by rw [hWb];exact World.putObj_heap_same hlt
   have hk2 : Wb.heap[wE.heap.size]? = some (.deferred (some [])):=by rw [hWb];exact (World.putObj_heap_other (by omega)).trans hk
   have hg2 : KG p0 wE Wb:=by rw [hWb];exact KG.put (by omega) hGW
   have hj2 : J i Wb:=by rw [hWb];exact hJp _ _ _ _ (.inr rfl) (hJG _ _ _ hgA hj)
   have hb2 : wE.heap.size + 2 ≤ ba:=by omega
   have ha2 : AF ba vs Wb:=by rw [hWb];exact hA ba vs W2 _ hb2 hAF
   have hs2 : Wb.heap.size = W2.heap.size:=by rw [hWb];exact World.putObj_size
   rw [← hWb]
   refine wpIn_mono (hbody _ i vs ba Wb hi hj2 hg2 hb2 ha2 hc) ?_
   rintro e a3 W3 hp
   cases e with
   | normal =>
    obtain ⟨hk3,hj3⟩:=hp
    have hl3:=hk3.keep _ _ (hpL _).1 hl2
    have hr:=run_endRound (P:=P) none hl3
    have hlt3:=(Array.getElem?_eq_some_iff.1 hl3).1
    have e1 : (W3.putObj (wE.heap.size + 1) (.loop { rec .ready none with state:=.ready,pending:=none })).heap[wE.heap.size + 1]? = some (.loop (rec .ready none)):=by
     rw [World.putObj_heap_same hlt3,hrec]
    refine ⟨_,_,hr,.inl ⟨rfl,hKA.trans ⟨?_,?_,?_,?_,fun k o hc hk=>?_⟩,hJp _ _ _ _ (.inr rfl) hj3,e1,(World.putObj_heap_other (by omega)).trans (hk3.keep _ _ (hpD _).1 hk2)⟩⟩
    ·exact hk3.os.trans (by rw [hWb];rfl)
    ·exact hk3.tape.trans (by rw [hWb];rfl)
    ·exact hk3.output.trans (by rw [hWb];rfl)
    ·rw [World.putObj_size];have := hk3.size;omega
    ·by_cases hkk : k = wE.heap.size + 1
     ·rw [hkk] at hk ⊢
      exact e1.trans (hl.symm.trans hk)
     ·refine (World.putObj_heap_other hkk).trans (hk3.keep k o hc ?_)
      rw [hWb]
      exact (World.putObj_heap_other hkk).trans hk
   | ret=>exact hp.elim
   | exit id=>exact hp.elim
   | goto t=>exact hp.elim
   | panic ch=>exact hp.elim
   | outgrown=>exact hp.elim
  ·rintro e W2 ⟨⟨v,rfl⟩,(⟨hg2,hj2,hl,hk⟩ | hx)⟩
   ·refine ⟨none,_,by have := run_endLoop (P:=P) hl (by rw [hrec];simp);rw [hrec] at this;exact this,hdone _ (KG.put (by omega) hg2) (hJp _ _ _ _ (.inr rfl) hj2) ((World.putObj_heap_other (by omega)).trans hk)⟩
   ·exact hx.elim
theorem KG.all {u v : World} (h : KG (fun _ _=>True) u v) : A3 u v :=
 ⟨h.os,h.tape,h.output,h.size,fun k hk=>by
  obtain ⟨o,ho⟩ : ∃ o,u.heap[k]? = some o:=⟨u.heap[k]'hk,Array.getElem?_eq_getElem hk⟩
  rw [ho]
  exact h.keep k o trivial ho⟩
theorem B5a {P : Program} {g : Operand} {ps : Array Tmp} {assign body : Code} {Q : Exit → Act → World → Prop} {a : Act} {wE : World} {gf : Nat} {lb : Array Value} (hg : a.eval g = .func (.func gf) #[] lb) (eg : ∀ args w,(callFunc gf args).run P w = .ok (.enter gf args) w)
  (p : Nat → Obj → Prop) (hpD : ∀ d,p wE.heap.size (.deferred d)) (hpL : ∀ r,p (wE.heap.size + 1) (.loop r)) (N : Nat) (C : Nat → Array Value → Prop) (J : Nat → World → Prop) (a₁ : Array Value → Nat → Act) (AF : Nat → Array Value → World → Prop) (hcs : ∀ i vs,C i vs → vs.size = ps.size)
  (it : ∀ (l : Nat) (Rd : Nat → World → Prop) (Rx : World → Prop) (W : World),KG p wE W → wE.heap.size + 2 ≤ W.heap.size → (∀ i u v,A3 u v → Rd i u → Rd i v) → (∀ u v,A3 u v → Rx u → Rx v) →
   (∀ i vs W1,i < N → KG p wE W1 → Rd i W1 → C i vs → YieldAt Fence.wide 0 P l vs W1 fun e W'=>(e = .returned (.bool true) ∧ KG p W1 W' ∧ Rd (i + 1) W') ∨ (e = .returned (.bool false) ∧ Rx W')) →
   Rd 0 W → CallsIn Fence.wide 0 P gf (#[.func (.yield l) #[] #[]] ++ lb) W fun e W'=>(∃ v,e = .returned v) ∧ ((KG p wE W' ∧ Rd N W') ∨ Rx W'))
  (hA : ∀ b vs W o,wE.heap.size + 2 ≤ b → AF b vs W → AF b vs (W.putObj (wE.heap.size + 1) o)) (hJp : ∀ i W o b,b = wE.heap.size ∨ b = wE.heap.size + 1 → J i W → J i (W.putObj b o)) (hJg : ∀ i u v,A3 u v → J i u → J i v) (h0 : J 0 wE)
  (hassign : ∀ (l i : Nat) (vs : Array Value) (W : World) (K : Act → World → Prop),C i vs → (∀ b W2,A3 W W2 → W.heap.size ≤ b → AF b vs W2 → K (a₁ vs b) W2) → assign.wpIn (Fence.wide.inRound l) 0 P (Exit.then K (fun _ _ _=>False)) { tmps:=(ps.zip vs).foldl (fun t (p,v)=>t.setIfInBounds p v) a.tmps,defers:=[] } W)
  (hbody : ∀ (l i : Nat) (vs : Array Value) (b : Nat) (W : World),i < N → J i W → KG p wE W → wE.heap.size + 2 ≤ b → AF b vs W → C i vs → body.wpIn (Fence.wide.inRound l) 0 P (A79 p J i W) (a₁ vs b) W)
  (hdone : ∀ W,KG p wE W → J N W → W.heap[wE.heap.size]? = some (.deferred (some [])) → Q .normal { a with defers:={ target:=.collected wE.heap.size,args:=#[] } :: a.defers } W) :
  (Code.rangeFunc g ps assign body).wpIn Fence.wide 0 P Q a wE:=A9d hg eg p p (fun _ _=>True) (fun d=>⟨hpD d,trivial⟩) (fun r=>⟨hpL r,trivial⟩) N C J a₁ AF hcs (fun l Rd Rx W h1 h2 h3 h4 h5 h6=>it l Rd Rx W h1 h2 (fun i u v hg=>h3 i u v (KG.ofGrow hg)) (fun u v hg=>h4 u v (KG.ofGrow hg)) h5 h6) hA hJp (fun i u v hg=>hJg i u v hg.all) h0 hassign hbody hdone
theorem A24 {W : World} {b k : Nat} {t : TypeId} {cs : Array Value} {o : Obj} (h : Blk W b t cs) (hk : b ≠ k) : Blk (W.putObj k o) b t cs:=(World.putObj_heap_other hk).trans h
theorem A1c {u u' : World} {b i : Nat} {vs : List Value} (hu : E9 u b i vs = u') : u.grownBy u' (some b):=by
 subst hu;exact A5w b vs i u
theorem A7B {F : Fence} {n : Nat} {P : Program} {c : Code} {Q : Exit → Act → World → Prop} {a : Act} {W : World} (h : ∀ u,A3 W u → c.wpIn F n P Q a u) : c.wpIn F n P Q a W:=h W (A3.refl W)
theorem B2w (l : List Rat) (A : Option Addr) (n c b1 bb : Nat) (w wE : World) (hw : A3 w wE) (hbb : w.heap.size ≤ bb) (hL : Lq w A l) (hl : l.length = n) (hm : n ≤ 1048576) (hb : Blk wE b1 23 #[.slice A n c]) (hne : b1 ≠ bb) (lp : Nat) (Rd : Nat → World → Prop) (Rx : World → Prop) (W : World) (hGW : KO bb wE W) (hRd : ∀ i u v,A3 u v → Rd i u → Rd i v) (hRx : ∀ u v,A3 u v → Rx u → Rx v)
  (hY : ∀ i vs W1,i < n → KO bb wE W1 → Rd i W1 → vs = #[.int .i64 ((n - 1 - i : Nat) : Int),qV (gq l (n - 1 - i))] → YieldAt Fence.wide 0 Tryz.prog lp vs W1 fun e W'=>(e = .returned (.bool true) ∧ KO bb W1 W' ∧ Rd (i + 1) W') ∨ (e = .returned (.bool false) ∧ Rx W')) (h0 : Rd 0 W) :
  CallsIn Fence.wide 0 Tryz.prog 127 (#[.func (.yield lp) #[] #[]] ++ #[.pointer (some ⟨b1,0,none⟩)]) W fun e W'=>(∃ v,e = .returned v) ∧ ((KO bb wE W' ∧ Rd n W') ∨ Rx W'):=by
 refine callsIn_wide.2 (callsIn_wide (n:=1).1 ?_)
 refine callsIn_of_wp Tryz.func127 rfl trivial ?_ rfl
 have hbl : ∀ V,KO bb wE V → V.cell? ⟨b1,0,none⟩ = some (.slice A n c) ∧ V.frozen? ⟨b1,0,none⟩ = false:=fun V hg=>by
  have hb2 : Blk V b1 23 #[.slice A n c]:=hg.keep _ _ hne hb
  exact ⟨by rw [hb2.cell 0];rfl,hb2.frozen 0⟩
 have hrd : ∀ i,i < n → ∃ b o,A = some ⟨b,o,none⟩ ∧ ∀ V,KO bb wE V → Cq V b (o + i * 5) (gq l i):=fun i hi=>by
  obtain ⟨b,o,e⟩:=hL.addr (by omega)
  subst e
  exact ⟨b,o,rfl,fun V hg=>(hL.grow (((KG.ofGrow hw).trans hg).grow hbb)).read (by omega)⟩
 have HY:=Lib.hid hY
 have Hbl:=Lib.hid hbl
 have Hrd:=Lib.hid hrd
 clear hY hb hbl hrd hL hl
 simp only [Tryz.ntmps127,List.size_toArray,List.length_cons,List.length_nil,Nat.reduceAdd,Nat.reduceSub,Array.replicate_succ,Array.replicate_zero,List.push_toArray,List.append_toArray,List.nil_append,List.cons_append]
 obtain ⟨q0,q1⟩:=Hbl.out W hGW
 have fw : IntKind.i64.wrap ((n : Int) - 1) = (n : Int) - 1:=IntWalk.i64_in _ (by omega)
 gi_wp2
 clear q0 q1
 gi_loopw [3] (fun s0 wr=>∃ i : Nat,i ≤ n ∧ s0 = .int .i64 ((n : Int) - 1 - (i : Int)) ∧ KO bb wE wr ∧ Rd i wr) (fun s0 _=>(intOf s0 + 1).toNat)
 case atStart=>exact ⟨0,Nat.zero_le _,by simp,hGW,h0⟩
 case round =>
  clear hGW h0
  obtain ⟨i,hi,rfl,hGW,h0⟩:=hrel
  rcases Nat.lt_or_ge i n with hlt | hge
  ·obtain ⟨k,hk⟩ : ∃ k,k = n - 1 - i:=⟨_,rfl⟩
   have hki : (n : Int) - 1 - (i : Int) = (k : Int):=by omega
   rw [hki]
   have hkn : (k : Int) < (n : Int):=by omega
   have hdec : decide ((k : Int) ≥ (0 : Int)) = true:=by simp
   have fw2 : IntKind.i64.wrap ((k : Int) - 1) = (k : Int) - 1:=IntWalk.i64_in _ (by omega)
   obtain ⟨b,o,rfl,hrd⟩:=Hrd.out k (by omega)
   obtain ⟨q0,q1⟩:=Hbl.out wr hGW
   obtain ⟨fn,tmps,assign,body,hy,hRd3⟩:=HY.out i _ wr hlt hGW h0 rfl
   rw [← hk] at hy
   obtain ⟨X,hX⟩ : ∃ X,X = gq l k:=⟨_,rfl⟩
   simp only [← hX] at hrd hy
   obtain ⟨x1,x2,x3,x4,x5⟩:=hrd wr hGW
   have Hk:=Lib.hid hk
   clear hX hk hki hrd
   gi_wp2
   refine hRd3.mono ?_
   rintro e W3 (⟨rfl,hg4,hrd⟩ | ⟨rfl,hx⟩)
   ·gi_wp2
    go_roundw
    case rel=>exact ⟨i + 1,by omega,by have e9:=Hk.out;congr 1;omega,hGW.trans hg4,hrd⟩
    case measure=>have e9:=Hk.out;simp [intOf] <;> omega
   ·gi_wp2
    refine bodyPost_ret (results_none rfl _ _ _) rfl ?_
    exact ⟨⟨_,rfl⟩,.inr hx⟩
  ·obtain rfl : n = i:=by omega
   have f35 : (n : Int) - 1 - (n : Int) = -1:=by omega
   rw [f35]
   clear f35 hge hi
   gi_wp2
   go_end0
   exact ⟨⟨_,rfl⟩,.inl ⟨hGW,h0⟩⟩
end Go.Proofs.YtlkniebmjdoopaaGreatDoor
