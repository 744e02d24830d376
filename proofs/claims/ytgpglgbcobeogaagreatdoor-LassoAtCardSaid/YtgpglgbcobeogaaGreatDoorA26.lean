/- Contracts and laws. -/
import Derived.Test.YtgpglgbcobeogaaGreatDoorA25
set_option linter.unusedSimpArgs false
set_option linter.unusedVariables false
set_option maxHeartbeats 1000000
set_option maxRecDepth 100000
namespace Go.Proofs.YtgpglgbcobeogaaGreatDoor
open Go.RowKit
theorem A5A (x y : Ax) (a b : Nat) (w : World) (hx : Rn w x a) (hy : Rn w y b) (h0 : b ≠ 0) (ha : bl a ≤ BIG) : Calls Tryz.prog 138 #[nvV x a,nvV y b] w (Ret (nnR (a / b) (a % b)) w):=by
 by_cases hs : b < W32
 ·exact A8X x y a b w hx hy h0 hs
 ·by_cases hlt : a < b
  ·exact A6p x y a b w hx hy hlt
  ·refine A8Y x y a b w hx hy (by omega) ?_ ha
   have h1:=A5b (Nat.not_lt.1 hs)
   have h2 : ln W32 = 2:=by decide +kernel
   omega
theorem B0C (x y : Ax) (a b : Nat) (w : World) (hx : Rn w x a) (hy : Rn w y b) (ha : bl a ≤ BIG) (hb : bl b ≤ BIG) : Calls Tryz.prog 137 #[nvV x a,nvV y b] w (Ret (J4 (Nat.gcd a b)) w):=by
 have Hx:=Lib.hid hx
 have Hy:=Lib.hid hy
 have Ha:=Lib.hid ha
 have Hb:=Lib.hid hb
 obtain ⟨g,hg⟩ : ∃ g,g = Nat.gcd a b:=⟨_,rfl⟩
 rw [← hg]
 have Hg:=Lib.hid hg.symm
 clear hx hy ha hb hg
 go_enter Tryz.func137,Tryz.ntmps137
 go_wp2_with fail
 go_loopg [0,1] b (fun k s t wr=>∃ (x y : Ax) (a : Nat),s = nvV x a ∧ t = nvV y k ∧ Nat.gcd a k = g ∧ (bl a ≤ BIG ∧ bl k ≤ BIG) ∧ Rn wr x a ∧ Rn wr y k ∧ A4 w wr)
 case atStart=>exact ⟨x,y,a,rfl,rfl,Hg.out,⟨Ha.out,Hb.out⟩,Hx.out,Hy.out,A4.refl _⟩
 case round =>
  obtain ⟨x,y,a,rfl,rfl,hgc,hs,hx,hy,hG⟩:=hrel
  rcases Nat.eq_zero_or_pos gk with h0 | h0
  ·have hl : ¬ 0 < ln gk:=by rw [h0,A4d];omega
   have Hgc : Hid (a = g):=by rw [h0,Nat.gcd_zero_right] at hgc;exact Lib.hid hgc
   have Hr:=Lib.hid hx
   clear hgc hs hx hy h0
   go_wp2_with fail
   go_ret
   exact ⟨x,by rw [← Hgc.out];rfl,by rw [← Hgc.out];exact Hr.out,hG⟩
  ·have hl : 0 < ln gk:=A1N.2 (by omega)
   have hdv:=A5A x y a gk wr hx hy (by omega) hs.1
   obtain ⟨q,hq⟩ : ∃ q,q = a / gk:=⟨_,rfl⟩
   obtain ⟨m,hm⟩ : ∃ m,m = a % gk:=⟨_,rfl⟩
   have hmlt : m < gk:=by rw [hm];exact Nat.mod_lt _ h0
   have Hgc : Hid (Nat.gcd gk m = g):=by rw [hm];exact Lib.hid (A0D a gk g hgc)
   rw [← hq,← hm] at hdv
   have Hdv:=Lib.hid (Ret.nn hdv)
   have Hy:=Lib.hid hy
   have Hs : Hid (bl gk ≤ BIG ∧ bl m ≤ BIG):=Lib.hid ⟨hs.2,Nat.le_trans (O0 (Nat.le_of_lt hmlt)) hs.2⟩
   clear hgc hs hx hy hq hm hdv
   go_wp2_with (go_at_call 138;((with_reducible refine (Hdv.out).mono ?_);rintro e w1 ⟨y1,y2,rfl,hr1,hr2,hg1⟩))
   go_roundg m
   case rel=>exact ⟨y,y2,gk,rfl,rfl,Hgc.out,Hs.out,Hy.out.grow hg1,hr2,hG.trans hg1⟩
   case measure=>exact hmlt
theorem B3v (d : Option Tmp) (ty : TypeId) (pos : String) (af : Array Edge) (gd : Option (Nat × Bool)) : M7 Tryz.prog ⟨d,.alloc 31,ty,pos,af,gd⟩ = .cells #[.bool false,.slice none 0 0] 31:=by kernel_rfl
theorem A3p (d : Option Tmp) (ty : TypeId) (pos : String) (af : Array Edge) (gd : Option (Nat × Bool)) : M7 Tryz.prog ⟨d,.alloc 33,ty,pos,af,gd⟩ = .cells #[.bool false,.slice none 0 0,.slice none 0 0] 33:=by kernel_rfl
theorem A21 (x : Ax) (neg : Bool) (a : Nat) : riV x (sgn neg a) = .agg #[.bool (neg && decide (a ≠ 0)),.slice x.1 (ln a) x.2]:=by
 unfold riV;rw [A66,O2]
theorem B2n (x : Ax) (a : Nat) (w : World) : Calls Tryz.prog 78 #[.bool false,nvV x a] w fun e w'=>e = .returned (riV x (sgn false a)) ∧ A4 w w':=by
 rw [A21,Bool.false_and]
 go_enter Tryz.func78,Tryz.ntmps78
 refine en1 ?_
 intro u hG b4 hB hF
 refine r0T ?_
 refine st hB hF hG 0 0 [_,_] ?_
 clear hB hG
 intro u hB hG
 refine rt Tryz.results78 ?_
 exact ⟨rfl,hG⟩
theorem B3x (x : Ax) (a : Nat) (w : World) : Calls Tryz.prog 78 #[.bool true,nvV x a] w fun e w'=>e = .returned (riV x (sgn true a)) ∧ A4 w w':=by
 rw [A21,Bool.true_and]
 have hd : decide (a ≠ 0) = decide (0 < ln a):=by
  have := @A1N a
  rw [decide_eq_decide];exact this.symm
 rw [hd]
 clear hd
 go_enter Tryz.func78,Tryz.ntmps78
 refine en1 ?_
 intro u hG b4 hB hF
 refine r0T ?_
 refine st hB hF hG 0 0 [_,_] ?_
 clear hB hG
 intro u hB hG
 refine rt Tryz.results78 ?_
 exact ⟨rfl,hG⟩
theorem U9 (x : Ax) (neg : Bool) (a : Nat) (w : World) : Calls Tryz.prog 78 #[.bool neg,nvV x a] w fun e w'=>e = .returned (riV x (sgn neg a)) ∧ A4 w w':=by
 cases neg
 ·exact B2n x a w
 ·exact B3x x a w
theorem A8y (n : Int) (h0 : n < 0) (h1 : -9223372036854775808 ≤ n) (w : World) : Calls Tryz.prog 77 #[.int .i64 n] w (Ret (J5 n) w):=by
 have hw1 : IntKind.u64.wrap n = n + 18446744073709551616:=by
  simp [IntKind.wrap,IntKind.signed,IntKind.bits];omega
 have hw2 : IntKind.u64.wrap (-(n + 18446744073709551616)) = (n.natAbs : Nat):=by
  simp [IntKind.wrap,IntKind.signed,IntKind.bits];omega
 have hlt : n.natAbs < W64:=by unfold W64;omega
 have hd : decide (n < 0) = true:=by simpa using h0
 have hn : sgn true n.natAbs = n:=by rw [B4F];omega
 have Hn:=Lib.hid hn
 clear hn
 go_enter Tryz.func77,Tryz.ntmps77
 refine en1 ?_
 intro u hG b2 hB hF
 refine wp_seq ?_
 refine r0T ?_
 refine wp_cond_true (rfl) ?_
 refine wp_seq (rsC A8 [0,0,0,1,1] hB hG fun K L hN hL=>?_)
 refine gs ?_
 refine grd (J4 n.natAbs) (fun (x8 : Ax)=>?_) (C:=fun v _=>A3O n.natAbs hlt _)
 refine gmd (C:=by (rintro v ⟨⟨hgu,hB,hG,-⟩,hx8⟩;have hx8 : Rn v x8 _:=hx8;exact U9 x8 true n.natAbs _)) ?_
 refine geC hL ?_
 clear hB hG hL L
 rintro u ⟨⟨-,hB,hG,-⟩,hx8⟩
 replace hx8 : Rn u x8 _:=hx8
 refine gtT ?_
 clear hN K
 refine sv hB hF hG 0 0 [_,_] ?_
 intro u hu hBG
 replace hx8:=hx8.put hB 0 rfl (by first | decide | simp) _ _ hu
 clear hB hG hu
 obtain ⟨hB,hG⟩:=hBG
 refine rt Tryz.results77 ?_
 exact ⟨x8,congrArg (fun z : Int=>Ending.returned (riV x8 z)) Hn.out,hx8,hG⟩
theorem B2h (n : Int) (h0 : 0 ≤ n) (h1 : n ≤ 9223372036854775807) (w : World) : Calls Tryz.prog 77 #[.int .i64 n] w (Ret (J5 n) w):=by
 have hw1 : IntKind.u64.wrap n = (n.natAbs : Nat):=by
  simp [IntKind.wrap,IntKind.signed,IntKind.bits];omega
 have hlt : n.natAbs < W64:=by unfold W64;omega
 have hd : decide (n < 0) = false:=by simpa using h0
 have hn : sgn false n.natAbs = n:=by rw [A0H];omega
 have Hn:=Lib.hid hn
 clear hn
 go_enter Tryz.func77,Tryz.ntmps77
 refine en1 ?_
 intro u hG b2 hB hF
 refine wp_seq ?_
 refine r0T ?_
 refine wp_cond_false (rfl) ?_
 refine wp_skip ?_
 refine A6 ?_
 refine wp_seq (rsC A8 [0,0,1,1] hB hG fun K L hN hL=>?_)
 refine gs ?_
 refine grd (J4 n.natAbs) (fun (x12 : Ax)=>?_) (C:=fun v _=>A3O n.natAbs hlt _)
 refine gmd (C:=by (rintro v ⟨⟨hgu,hB,hG,-⟩,hx12⟩;have hx12 : Rn v x12 _:=hx12;exact U9 x12 false n.natAbs _)) ?_
 refine geC hL ?_
 clear hB hG hL L
 rintro u ⟨⟨-,hB,hG,-⟩,hx12⟩
 replace hx12 : Rn u x12 _:=hx12
 refine gtT ?_
 clear hN K
 refine sv hB hF hG 0 0 [_,_] ?_
 intro u hu hBG
 replace hx12:=hx12.put hB 0 rfl (by first | decide | simp) _ _ hu
 clear hB hG hu
 obtain ⟨hB,hG⟩:=hBG
 refine rt Tryz.results77 ?_
 exact ⟨x12,congrArg (fun z : Int=>Ending.returned (riV x12 z)) Hn.out,hx12,hG⟩
theorem A5X (n : Int) (h0 : -9223372036854775808 ≤ n) (h1 : n ≤ 9223372036854775807) (w : World) : Calls Tryz.prog 77 #[.int .i64 n] w (Ret (J5 n) w):=by
 by_cases h : n < 0
 ·exact A8y n h h0 w
 ·exact B2h n (by omega) h1 w
theorem A3o {x y : Ax} {z : Int} {d : Nat} {q : Rat} (h1 : q.num = z) (h2 : q.den = d) : Ending.returned (.agg #[.bool (E4 z),.slice x.1 (ln z.natAbs) x.2,.slice y.1 (ln d) y.2]) = .returned (rqV x y q):=by subst h1;subst h2;rfl
theorem A6A (n d : Int) (h : d ≠ 0) : (G5 n d).num = sgn (E4 n != E4 d) (n.natAbs / Nat.gcd n.natAbs d.natAbs):=by
 have hd : d.natAbs ≠ 0:=by omega
 by_cases hn : d < 0
 ·rw [A4n n d hn,A5F _ _ hd,← A4P]
  have e1 : (P9 n).natAbs = n.natAbs:=by unfold P9;exact Int.natAbs_neg n
  rw [e1]
  have e2 : E4 d = true:=decide_eq_true hn
  rw [e2]
  by_cases h0 : n = 0
  ·subst h0;simp [sgn]
  ·congr 1
   unfold E4 P9
   rw [Bool.eq_iff_iff]
   simp
   omega
 ·rw [A4o n d hn,A5F _ _ hd,← A4P]
  have e2 : E4 d = false:=decide_eq_false hn
  rw [e2]
  simp
theorem A8M (n d : Int) (h : d ≠ 0) : (G5 n d).den = d.natAbs / Nat.gcd n.natAbs d.natAbs:=by
 have hd : d.natAbs ≠ 0:=by omega
 by_cases hn : d < 0
 ·rw [A4n n d hn,A5G _ _ hd]
  unfold P9;rw [Int.natAbs_neg]
 ·rw [A4o n d hn,A5G _ _ hd]
theorem A5I (x y : Ax) (n d : Int) (w : World) (hx : Rn w x n.natAbs) (hy : Rn w y d.natAbs) (h0 : d ≠ 0) (hn : bl n.natAbs ≤ BIG) (hd : bl d.natAbs ≤ BIG) : Calls Tryz.prog 76 #[riV x n,riV y d] w (Ret (H6 (G5 n d)) w):=by
 have He:=Lib.hid (And.intro (A6A n d h0) (A8M n d h0))
 have hd0 : d.natAbs ≠ 0:=by omega
 have g0 : Nat.gcd n.natAbs d.natAbs ≠ 0:=fun e=>hd0 (Nat.eq_zero_of_gcd_eq_zero_right e)
 go_enter Tryz.func76,Tryz.ntmps76
 refine en3 ?_
 intro u hG b4 b3 b2 hB hF
 replace hx:=hx.grow hG
 replace hy:=hy.grow hG
 refine wp_seq (rsE A8 [0,0,0,0,1,0] hB hG fun L hL=>?_)
 refine gs ?_
 refine grd (J4 (Nat.gcd n.natAbs d.natAbs)) (fun (x14 : Ax)=>?_) (C:=by (rintro v ⟨hgu,hB,hG,-⟩;exact B0C x y n.natAbs d.natAbs _ (hx.grow hgu) (hy.grow hgu) hn hd))
 refine gs ?_
 refine geT hL ?_
 clear hB hG hL L
 rintro u ⟨⟨hgu,hB,hG,-⟩,hx14⟩
 replace hx:=hx.grow hgu
 replace hy:=hy.grow hgu
 replace hx14 : Rn u x14 _:=hx14
 clear hgu
 refine wp_seq (rsE A8 [0,0,0,1,0,0,0,0,0] hB hG fun L hL=>?_)
 refine gs ?_
 refine grd (nnR (n.natAbs / Nat.gcd n.natAbs d.natAbs) (n.natAbs % Nat.gcd n.natAbs d.natAbs)) (fun (x19 : Ax × Ax)=>?_) (C:=by (rintro v ⟨hgu,hB,hG,-⟩;exact A5A x x14 n.natAbs _ _ (hx.grow hgu) (hx14.grow hgu) g0 hn))
 refine gs ?_
 refine geT hL ?_
 clear hB hG hL L
 rintro u ⟨⟨hgu,hB,hG,-⟩,hx19⟩
 replace hx:=hx.grow hgu
 replace hy:=hy.grow hgu
 replace hx14:=hx14.grow hgu
 obtain ⟨hx19a,hx19b⟩ : Rn u x19.1 _ ∧ Rn u x19.2 _:=hx19
 clear hgu
 refine wp_seq (rsE A8 [0,0,0,1,0,0,0,0,0] hB hG fun L hL=>?_)
 refine gs ?_
 refine grd (nnR (d.natAbs / Nat.gcd n.natAbs d.natAbs) (d.natAbs % Nat.gcd n.natAbs d.natAbs)) (fun (x26 : Ax × Ax)=>?_) (C:=by (rintro v ⟨hgu,hB,hG,-⟩;exact A5A y x14 d.natAbs _ _ (hy.grow hgu) (hx14.grow hgu) g0 hd))
 refine gs ?_
 refine geT hL ?_
 clear hB hG hL L
 rintro u ⟨⟨hgu,hB,hG,-⟩,hx26⟩
 replace hx:=hx.grow hgu
 replace hy:=hy.grow hgu
 replace hx14:=hx14.grow hgu
 replace hx19a:=hx19a.grow hgu
 replace hx19b:=hx19b.grow hgu
 obtain ⟨hx26a,hx26b⟩ : Rn u x26.1 _ ∧ Rn u x26.2 _:=hx26
 clear hgu
 refine wp_seq (rsC A8 [0,0,0,0,0,0,1,0,0] hB hG fun K L hN hL=>?_)
 refine gs ?_
 refine gmw (C:=fun v=>U9 x19.1 _ (n.natAbs / Nat.gcd n.natAbs d.natAbs) _) ?_
 refine gs ?_
 refine geC hL ?_
 clear hB hG hL L
 rintro u ⟨hgu,hB,hG,-⟩
 replace hx:=hx.grow hgu
 replace hy:=hy.grow hgu
 replace hx14:=hx14.grow hgu
 replace hx19a:=hx19a.grow hgu
 replace hx19b:=hx19b.grow hgu
 replace hx26a:=hx26a.grow hgu
 replace hx26b:=hx26b.grow hgu
 clear hgu
 refine gtT ?_
 clear hN K
 refine sv hB hF hG 2 0 [_,_,_] ?_
 intro u hu hBG
 replace hx:=hx.put hB 2 rfl (by first | decide | simp) _ _ hu
 replace hy:=hy.put hB 2 rfl (by first | decide | simp) _ _ hu
 replace hx14:=hx14.put hB 2 rfl (by first | decide | simp) _ _ hu
 replace hx19a:=hx19a.put hB 2 rfl (by first | decide | simp) _ _ hu
 replace hx19b:=hx19b.put hB 2 rfl (by first | decide | simp) _ _ hu
 replace hx26a:=hx26a.put hB 2 rfl (by first | decide | simp) _ _ hu
 replace hx26b:=hx26b.put hB 2 rfl (by first | decide | simp) _ _ hu
 clear hB hG hu
 obtain ⟨hB,hG⟩:=hBG
 refine rt Tryz.results76 ?_
 exact ⟨(x19.1,x26.1),A3o He.out.1 He.out.2,⟨by rw [He.out.1,O2];exact hx19a,by rw [He.out.2];exact hx26a⟩,hG⟩
theorem A6F (n d : Int) (h0 : -9223372036854775808 ≤ n) (h1 : n ≤ 9223372036854775807) (h2 : -9223372036854775808 ≤ d) (h3 : d ≤ 9223372036854775807) (hd : d ≠ 0) (w : World) : Calls Tryz.prog 25 #[.int .i64 n,.int .i64 d] w (Ret (H6 (G5 n d)) w):=by
 go_enter Tryz.func25,Tryz.ntmps25
 refine en1 ?_
 intro u hG b4 hB hF
 refine wp_seq (rsC A8 [0,1,0,1,1] hB hG fun K L hN hL=>?_)
 refine gs ?_
 refine grd (J5 n) (fun (x6 : Ax)=>?_) (C:=fun v _=>A5X n h0 h1 _)
 refine gs ?_
 refine grd (J5 d) (fun (x8 : Ax)=>?_) (C:=by (rintro v ⟨⟨hgu,hB,hG,-⟩,hx6⟩;have hx6 : Rn v x6 _:=hx6;exact A5X d h2 h3 _))
 refine grd (H6 (G5 n d)) (fun (x9 : Ax × Ax)=>?_) (C:=by (rintro v ⟨⟨⟨hgu,hB,hG,-⟩,hx6⟩,hx8⟩;have hx6 : Rn v x6 _:=hx6;have hx8 : Rn v x8 _:=hx8;exact A5I x6 x8 n d _ hx6 hx8 hd (A6b h0 h1) (A6b h2 h3)))
 refine geC hL ?_
 clear hB hG hL L
 rintro u ⟨⟨⟨⟨-,hB,hG,-⟩,hx6⟩,hx8⟩,hx9⟩
 replace hx6 : Rn u x6 _:=hx6
 replace hx8 : Rn u x8 _:=hx8
 obtain ⟨hx9a,hx9b⟩ : Rn u x9.1 _ ∧ Rn u x9.2 _:=hx9
 refine gtT ?_
 clear hN K
 refine sv hB hF hG 0 0 [_,_,_] ?_
 intro u hu hBG
 replace hx6:=hx6.put hB 0 rfl (by first | decide | simp) _ _ hu
 replace hx8:=hx8.put hB 0 rfl (by first | decide | simp) _ _ hu
 replace hx9a:=hx9a.put hB 0 rfl (by first | decide | simp) _ _ hu
 replace hx9b:=hx9b.put hB 0 rfl (by first | decide | simp) _ _ hu
 clear hB hG hu
 obtain ⟨hB,hG⟩:=hBG
 refine rt Tryz.results25 ?_
 exact ⟨x9,rfl,⟨hx9a,hx9b⟩,hG⟩
theorem B1S (w : World) : Calls Tryz.prog 109 #[.int .u64 1] w (Ret (J4 1) w):=A3O 1 (by unfold W64;omega) w
theorem A7Y (n : Int) (h0 : -9223372036854775808 ≤ n) (h1 : n ≤ 9223372036854775807) (w : World) : Calls Tryz.prog 42 #[.int .i64 n] w (Ret (H6 (C5 n)) w):=by
 go_enter Tryz.func42,Tryz.ntmps42
 refine en1 ?_
 intro u hG b2 hB hF
 refine wp_seq (rsC A8 [0,1,1,0] hB hG fun K L hN hL=>?_)
 refine gs ?_
 refine grd (J5 n) (fun (x4 : Ax)=>?_) (C:=fun v _=>A5X n h0 h1 _)
 refine grd (J4 1) (fun (x5 : Ax)=>?_) (C:=by (rintro v ⟨⟨hgu,hB,hG,-⟩,hx4⟩;have hx4 : Rn v x4 _:=hx4;exact B1S _))
 refine gs ?_
 refine geC hL ?_
 clear hB hG hL L
 rintro u ⟨⟨⟨-,hB,hG,-⟩,hx4⟩,hx5⟩
 replace hx4 : Rn u x4 _:=hx4
 replace hx5 : Rn u x5 _:=hx5
 refine gtT ?_
 clear hN K
 refine sv hB hF hG 0 0 [_,_,_] ?_
 intro u hu hBG
 replace hx4:=hx4.put hB 0 rfl (by first | decide | simp) _ _ hu
 replace hx5:=hx5.put hB 0 rfl (by first | decide | simp) _ _ hu
 clear hB hG hu
 obtain ⟨hB,hG⟩:=hBG
 refine rt Tryz.results42 ?_
 exact ⟨(x4,x5),A3o (A4e n) (A37 n),⟨by rw [A4e];exact hx4,by rw [A37];exact hx5⟩,hG⟩
theorem A6y {x : Ax} {y z : Int} (h : y = z) : Ending.returned (riV x y) = .returned (riV x z):=by rw [h]
theorem B4Q {u : World} {x : Ax} {neg : Bool} {n : Nat} {z : Int} (h : sgn neg n = z) (hr : Rn u x n) : Rn u x z.natAbs:=by rw [← h,O2];exact hr
theorem A24 {w u : World} {x : Ax} {neg : Bool} {n : Nat} {z : Int} (h : sgn neg n = z) (hr : Rn u x n) (hG : A4 w u) : Ret (J5 z) w (.returned (riV x (sgn neg n))) u:=⟨x,A6y h,B4Q h hr,hG⟩
theorem B0L {a b : Nat} (h : decide (0 ≤ F5 a b) = true) : b ≤ a:=by
 have h:=of_decide_eq_true h
 unfold F5 at h
 split at h
 ·omega
 ·omega
theorem B2x {a b : Nat} (h : decide (0 ≤ F5 a b) = false) : a < b:=by
 have h:=of_decide_eq_false h
 unfold F5 at h
 split at h
 ·assumption
 ·split at h <;> omega
theorem A4W (a b : Int) : bl (H7 a b).natAbs ≤ bl a.natAbs + bl b.natAbs:=by unfold H7;rw [Int.natAbs_mul];exact N4 _ _
theorem B3q (a b : Int) : bl (S9 a b).natAbs ≤ max (bl a.natAbs) (bl b.natAbs) + 1:=Nat.le_trans (O0 (Int.natAbs_add_le a b)) (A5C _ _)
theorem A91 {u : World} {x : Ax} {z : Int} (h : Rn u x z.natAbs) : Rn u x (P9 z).natAbs:=by unfold P9;rw [Int.natAbs_neg];exact h
theorem A1b (x y : Ax) (q : Rat) (w : World) : Calls Tryz.prog 154 #[rqV x y q] w fun e w'=>e = .returned (riV y (sgn false q.den)) ∧ A4 w w':=by
 rw [A21,Bool.false_and]
 have hI:=fun W=>U9 y false q.den W
 simp only [A21,Bool.false_and] at hI
 go_enter Tryz.func154,Tryz.ntmps154
 refine en2 ?_
 intro u hG b2 b1 hB hF
 refine wp_seq (rsC A8 [0,0,1] hB hG fun K L hN hL=>?_)
 refine gs ?_
 refine gmw (C:=fun v=>hI _) ?_
 refine geC hL ?_
 clear hB hG hL L
 rintro u ⟨-,hB,hG,-⟩
 refine gtT ?_
 clear hN K
 refine st hB hF hG 1 0 [_,_] ?_
 clear hB hG
 intro u hB hG
 refine rt Tryz.results154 ?_
 exact ⟨rfl,hG⟩
theorem A8L (x : Ax) (z : Int) (w : World) : Calls Tryz.prog 136 #[riV x z] w fun e w'=>e = .returned (riV x (P9 z)) ∧ A4 w w':=by
 go_enter Tryz.func136,Tryz.ntmps136
 refine en2 ?_
 intro u hG b2 b1 hB hF
 refine wp_seq (rsC A8 [0,0,0,0,0,1] hB hG fun K L hN hL=>?_)
 refine gs ?_
 refine gmw (C:=fun v=>U9 x _ z.natAbs _) ?_
 refine geC hL ?_
 clear hB hG hL L
 rintro u ⟨-,hB,hG,-⟩
 refine gtT ?_
 clear hN K
 refine st hB hF hG 1 0 [_,_] ?_
 clear hB hG
 intro u hB hG
 refine rt Tryz.results136 ?_
 exact ⟨A6y (A56 z),hG⟩
theorem A5w (x : Ax) (z : Int) (w : World) : Calls Tryz.prog 69 #[riV x z] w fun e w'=>e = .returned (.int .i64 z.sign) ∧ A4 w w':=by
 go_enter Tryz.func69,Tryz.ntmps69
 refine en1 ?_
 intro u hG b1 hB hF
 refine wp_seq ?_
 refine wp_block ?_
 refine r0T ?_
 refine wp_cond_split rfl ?_ ?_
 ·intro ht
  have ht3:=ht
  refine r0T ?_
  refine rt Tryz.results69 ?_
  have h2 : ln z.natAbs = 0:=by simpa using ht3
  have h3 : z = 0:=by have := @A4j z.natAbs;omega
  exact ⟨J9 (by rw [h3];rfl),hG⟩
 ·intro ht
  have ht3:=ht
  refine r0T ?_
  refine wp_cond_split rfl ?_ ?_
  ·intro ht
   have ht8:=ht
   refine r0T ?_
   refine rt Tryz.results69 ?_
   have h : z < 0:=of_decide_eq_true ht8
   exact ⟨J9 (Int.sign_eq_neg_one_of_neg h).symm,hG⟩
  ·intro ht
   have ht8:=ht
   refine wp_skip ?_
   refine D4 ?_
   refine A6 ?_
   refine r0T ?_
   refine rt Tryz.results69 ?_
   have h : ¬ z < 0:=of_decide_eq_false ht8
   have h2 : ¬ ln z.natAbs = 0:=by simpa using ht3
   have h3 : z ≠ 0:=by have := @A4j z.natAbs;omega
   exact ⟨J9 (Int.sign_eq_one_of_pos (by omega)).symm,hG⟩
theorem A5Z (x y : Ax) (a b : Int) (w : World) (hx : Rn w x a.natAbs) (hy : Rn w y b.natAbs) (ha : bl a.natAbs ≤ 1099511627776) (hb : bl b.natAbs ≤ 1099511627776) : Calls Tryz.prog 79 #[riV x a,riV y b] w (Ret (J5 (H7 a b)) w):=by
 go_enter Tryz.func79,Tryz.ntmps79
 refine en3 ?_
 intro u hG b4 b3 b2 hB hF
 replace hx:=hx.grow hG
 replace hy:=hy.grow hG
 refine wp_seq (rdC A8 [] [(0,0),(0,1),(0,2),(0,3),(0,4),(0,5),(0,6),(0,7),(0,8),(1,9),(1,10)] hB hG fun K L hN hL=>?_)
 refine gs ?_
 refine grd (J4 (a.natAbs * b.natAbs)) (fun (x14 : Ax)=>?_) (C:=by (rintro v ⟨hgu,hB,hG,-⟩;exact A45 x y a.natAbs b.natAbs _ (hx.grow hgu) (hy.grow hgu) ha hb))
 refine gmd (C:=by (rintro v ⟨⟨hgu,hB,hG,-⟩,hx14⟩;have hx14 : Rn v x14 _:=hx14;exact U9 x14 _ (a.natAbs * b.natAbs) _)) ?_
 refine geC hL ?_
 clear hB hG hL L
 rintro u ⟨⟨hgu,hB,hG,-⟩,hx14⟩
 replace hx:=hx.grow hgu
 replace hy:=hy.grow hgu
 replace hx14 : Rn u x14 _:=hx14
 clear hgu
 refine gtT ?_
 clear hN K
 refine sv hB hF hG 2 0 [_,_] ?_
 intro u hu hBG
 replace hx:=hx.put hB 2 rfl (by first | decide | simp) _ _ hu
 replace hy:=hy.put hB 2 rfl (by first | decide | simp) _ _ hu
 replace hx14:=hx14.put hB 2 rfl (by first | decide | simp) _ _ hu
 clear hB hG hu
 obtain ⟨hB,hG⟩:=hBG
 refine rt Tryz.results79 ?_
 exact A24 (A8K a b) hx14 hG
theorem A6T (x y : Ax) (a b : Int) (w : World) (hx : Rn w x a.natAbs) (hy : Rn w y b.natAbs) (ha : bl a.natAbs ≤ 1099511627776) (hb : bl b.natAbs ≤ 1099511627776) : Calls Tryz.prog 155 #[riV x a,riV y b] w (Ret (J5 (S9 a b)) w):=by
 go_enter Tryz.func155,Tryz.ntmps155
 refine en3 ?_
 intro u hG b4 b3 b2 hB hF
 replace hx:=hx.grow hG
 replace hy:=hy.grow hG
 refine wp_seq ?_
 refine r0T ?_
 refine wp_cond_split rfl ?_ ?_
 ·intro ht
  have ht9:=ht
  refine wp_seq (rdC A8 [] [(0,0),(0,1),(0,2),(0,3),(0,4),(0,5),(1,6),(1,7)] hB hG fun K L hN hL=>?_)
  refine gs ?_
  refine grd (J4 (a.natAbs + b.natAbs)) (fun (x16 : Ax)=>?_) (C:=by (rintro v ⟨hgu,hB,hG,-⟩;exact B33 x y a.natAbs b.natAbs _ (hx.grow hgu) (hy.grow hgu) ha hb))
  refine gmd (C:=by (rintro v ⟨⟨hgu,hB,hG,-⟩,hx16⟩;have hx16 : Rn v x16 _:=hx16;exact U9 x16 _ (a.natAbs + b.natAbs) _)) ?_
  refine geC hL ?_
  clear hB hG hL L
  rintro u ⟨⟨hgu,hB,hG,-⟩,hx16⟩
  replace hx:=hx.grow hgu
  replace hy:=hy.grow hgu
  replace hx16 : Rn u x16 _:=hx16
  clear hgu
  refine gtT ?_
  clear hN K
  refine sv hB hF hG 2 0 [_,_] ?_
  intro u hu hBG
  replace hx:=hx.put hB 2 rfl (by first | decide | simp) _ _ hu
  replace hy:=hy.put hB 2 rfl (by first | decide | simp) _ _ hu
  replace hx16:=hx16.put hB 2 rfl (by first | decide | simp) _ _ hu
  clear hB hG hu
  obtain ⟨hB,hG⟩:=hBG
  refine rt Tryz.results155 ?_
  exact A24 (A7i (by simpa using ht9)) hx16 hG
 ·intro ht
  have ht9:=ht
  refine wp_skip ?_
  refine A6 ?_
  refine wp_seq ?_
  refine wp_seq (rsE A8 [0,0,0,0,1,0] hB hG fun L hL=>?_)
  refine gs ?_
  refine gmd (C:=fun v ⟨hgu,hB,hG,_⟩=>A2b x y a.natAbs b.natAbs _ (hx.grow hgu) (hy.grow hgu)) ?_
  refine gs ?_
  refine geT hL ?_
  clear hB hG hL L
  rintro u ⟨hgu,hB,hG,-⟩
  replace hx:=hx.grow hgu
  replace hy:=hy.grow hgu
  clear hgu
  refine wp_cond_split rfl ?_ ?_
  ·intro ht
   have ht23:=ht
   have hle:=B0L ht
   refine wp_seq (rdC A8 [] [(0,0),(0,1),(0,2),(0,3),(0,4),(0,5),(1,6),(1,7)] hB hG fun K L hN hL=>?_)
   refine gs ?_
   refine grd (J4 (a.natAbs - b.natAbs)) (fun (x30 : Ax)=>?_) (C:=by (rintro v ⟨hgu,hB,hG,-⟩;exact A7d x y a.natAbs b.natAbs _ (hx.grow hgu) (hy.grow hgu) hle ha))
   refine gmd (C:=by (rintro v ⟨⟨hgu,hB,hG,-⟩,hx30⟩;have hx30 : Rn v x30 _:=hx30;exact U9 x30 _ (a.natAbs - b.natAbs) _)) ?_
   refine geC hL ?_
   clear hB hG hL L
   rintro u ⟨⟨hgu,hB,hG,-⟩,hx30⟩
   replace hx:=hx.grow hgu
   replace hy:=hy.grow hgu
   replace hx30 : Rn u x30 _:=hx30
   clear hgu
   refine gtT ?_
   clear hN K
   refine sv hB hF hG 2 0 [_,_] ?_
   intro u hu hBG
   replace hx:=hx.put hB 2 rfl (by first | decide | simp) _ _ hu
   replace hy:=hy.put hB 2 rfl (by first | decide | simp) _ _ hu
   replace hx30:=hx30.put hB 2 rfl (by first | decide | simp) _ _ hu
   clear hB hG hu
   obtain ⟨hB,hG⟩:=hBG
   refine rt Tryz.results155 ?_
   exact A24 (A31 (by simpa using ht9) hle) hx30 hG
  ·intro ht
   have ht23:=ht
   have hlt:=B2x ht
   refine wp_skip ?_
   refine A6 ?_
   refine wp_seq (rdC A8 [] [(0,0),(0,1),(0,2),(0,3),(0,4),(0,5),(1,6),(1,7)] hB hG fun K L hN hL=>?_)
   refine gs ?_
   refine grd (J4 (b.natAbs - a.natAbs)) (fun (x38 : Ax)=>?_) (C:=by (rintro v ⟨hgu,hB,hG,-⟩;exact A7d y x b.natAbs a.natAbs _ (hy.grow hgu) (hx.grow hgu) (Nat.le_of_lt hlt) hb))
   refine gmd (C:=by (rintro v ⟨⟨hgu,hB,hG,-⟩,hx38⟩;have hx38 : Rn v x38 _:=hx38;exact U9 x38 _ (b.natAbs - a.natAbs) _)) ?_
   refine geC hL ?_
   clear hB hG hL L
   rintro u ⟨⟨hgu,hB,hG,-⟩,hx38⟩
   replace hx:=hx.grow hgu
   replace hy:=hy.grow hgu
   replace hx38 : Rn u x38 _:=hx38
   clear hgu
   refine gtT ?_
   clear hN K
   refine sv hB hF hG 2 0 [_,_] ?_
   intro u hu hBG
   replace hx:=hx.put hB 2 rfl (by first | decide | simp) _ _ hu
   replace hy:=hy.put hB 2 rfl (by first | decide | simp) _ _ hu
   replace hx38:=hx38.put hB 2 rfl (by first | decide | simp) _ _ hu
   clear hB hG hu
   obtain ⟨hB,hG⟩:=hBG
   refine rt Tryz.results155 ?_
   exact A24 (A7C (by simpa using ht9) (Nat.not_le.2 hlt)) hx38 hG
def A06 (a b : Int) : Int:=a - b
theorem B2u (a b : Int) : S9 a (P9 b) = A06 a b:=by unfold S9 P9 A06;omega
theorem B1W (a b : Int) : (A06 a b).sign = N0 a b:=by
 unfold A06 N0
 split
 ·exact Int.sign_eq_neg_one_of_neg (by omega)
 ·split
  ·exact Int.sign_eq_one_of_pos (by omega)
  ·rw [show a - b = 0 by omega];rfl
theorem B0D (x y : Ax) (a b : Int) (w : World) (hx : Rn w x a.natAbs) (hy : Rn w y b.natAbs) (ha : bl a.natAbs ≤ 1099511627776) (hb : bl b.natAbs ≤ 1099511627776) : Calls Tryz.prog 188 #[riV x a,riV y b] w (Ret (J5 (A06 a b)) w):=by
 have hy':=A91 hy
 have hb' : bl (P9 b).natAbs ≤ 1099511627776:=by rw [A64];exact hb
 have had:=fun W h1 h2=>A6T x y a (P9 b) W h1 h2 ha hb'
 rw [B2u] at had
 clear hy
 go_enter Tryz.func188,Tryz.ntmps188
 refine en3 ?_
 intro u hG b4 b3 b2 hB hF
 replace hx:=hx.grow hG
 replace hy':=hy'.grow hG
 refine wp_seq (rdC A8 [] [(0,0),(0,1),(1,2),(1,3)] hB hG fun K L hN hL=>?_)
 refine gs ?_
 refine gmw (C:=fun v=>A8L _ _ _) ?_
 refine grd (J5 (A06 a b)) (fun (x8 : Ax)=>?_) (C:=by (rintro v ⟨hgu,hB,hG,-⟩;exact had _ (hx.grow hgu) (hy'.grow hgu)))
 refine geC hL ?_
 clear hB hG hL L
 rintro u ⟨⟨hgu,hB,hG,-⟩,hx8⟩
 replace hx:=hx.grow hgu
 replace hy':=hy'.grow hgu
 replace hx8 : Rn u x8 _:=hx8
 clear hgu
 refine gtT ?_
 clear hN K
 refine sv hB hF hG 2 0 [_,_] ?_
 intro u hu hBG
 replace hx:=hx.put hB 2 rfl (by first | decide | simp) _ _ hu
 replace hy':=hy'.put hB 2 rfl (by first | decide | simp) _ _ hu
 replace hx8:=hx8.put hB 2 rfl (by first | decide | simp) _ _ hu
 clear hB hG hu
 obtain ⟨hB,hG⟩:=hBG
 refine rt Tryz.results188 ?_
 exact ⟨x8,rfl,hx8,hG⟩
theorem B0x (x y : Ax) (a b : Int) (w : World) (hx : Rn w x a.natAbs) (hy : Rn w y b.natAbs) (ha : bl a.natAbs ≤ 1099511627776) (hb : bl b.natAbs ≤ 1099511627776) : Calls Tryz.prog 153 #[riV x a,riV y b] w fun e w'=>e = .returned (.int .i64 (N0 a b)) ∧ A4 w w':=by
 rw [← B1W]
 go_enter Tryz.func153,Tryz.ntmps153
 refine en2 ?_
 intro u hG b3 b2 hB hF
 replace hx:=hx.grow hG
 replace hy:=hy.grow hG
 refine wp_seq (rsE A8 [0,0,1,1,0] hB hG fun L hL=>?_)
 refine gs ?_
 refine grd (J5 (A06 a b)) (fun (x7 : Ax)=>?_) (C:=by (rintro v ⟨hgu,hB,hG,-⟩;exact B0D x y a b _ (hx.grow hgu) (hy.grow hgu) ha hb))
 refine gmd (C:=by (rintro v ⟨⟨hgu,hB,hG,-⟩,hx7⟩;have hx7 : Rn v x7 _:=hx7;exact A5w x7 (A06 a b) _)) ?_
 refine gs ?_
 refine geT hL ?_
 clear hB hG hL L
 rintro u ⟨⟨hgu,hB,hG,-⟩,hx7⟩
 replace hx:=hx.grow hgu
 replace hy:=hy.grow hgu
 replace hx7 : Rn u x7 _:=hx7
 clear hgu
 refine rt Tryz.results153 ?_
 exact ⟨rfl,hG⟩
end Go.Proofs.YtgpglgbcobeogaaGreatDoor
