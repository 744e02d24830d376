/- Contracts and laws. -/
import Derived.Test.YtlkniebmjdoopaaGreatDoorK26
import Derived.StillTailTactics
set_option linter.unusedSimpArgs false
set_option linter.unusedVariables false
set_option maxHeartbeats 1000000
set_option maxRecDepth 100000
namespace Go.Proofs.YtlkniebmjdoopaaGreatDoor
open Go.RowKit
theorem A6N (x y : Ax) (a b : Nat) (w : World) (hx : Rn w x a) (hy : Rn w y b) (h0 : b ≠ 0) (ha : bl a ≤ BIG) : Calls Tryz.prog 141 #[nvV x a,nvV y b] w (Ret (nnR (a / b) (a % b)) w):=by
 by_cases hs : b < W32
 ·exact B2d x y a b w hx hy h0 hs
 ·by_cases hlt : a < b
  ·exact A6o x y a b w hx hy hlt
  ·refine B1y x y a b w hx hy (by omega) ?_ ha
   have h1:=A7C (Nat.not_lt.1 hs)
   have h2 : ln W32 = 2:=by decide +kernel
   omega
theorem B2o (x y : Ax) (a b : Nat) (w : World) (hx : Rn w x a) (hy : Rn w y b) (ha : bl a ≤ BIG) (hb : bl b ≤ BIG) : Calls Tryz.prog 140 #[nvV x a,nvV y b] w (Ret (P4 (Nat.gcd a b)) w):=by
 have Hx:=Lib.hid hx
 have Hy:=Lib.hid hy
 have Ha:=Lib.hid ha
 have Hb:=Lib.hid hb
 obtain ⟨g,hg⟩ : ∃ g,g = Nat.gcd a b:=⟨_,rfl⟩
 rw [← hg]
 have Hg:=Lib.hid hg.symm
 clear hx hy ha hb hg
 go_enter Tryz.func140,Tryz.ntmps140
 go_wp2_with fail
 go_loopg [0,1] b (fun k s t wr=>∃ (x y : Ax) (a : Nat),s = nvV x a ∧ t = nvV y k ∧ Nat.gcd a k = g ∧ (bl a ≤ BIG ∧ bl k ≤ BIG) ∧ Rn wr x a ∧ Rn wr y k ∧ A3 w wr)
 case atStart=>exact ⟨x,y,a,rfl,rfl,Hg.out,⟨Ha.out,Hb.out⟩,Hx.out,Hy.out,A3.refl _⟩
 case round =>
  obtain ⟨x,y,a,rfl,rfl,hgc,hs,hx,hy,hG⟩:=hrel
  rcases Nat.eq_zero_or_pos gk with h0 | h0
  ·have hl : ¬ 0 < ln gk:=by rw [h0,A5W];omega
   have Hgc : Hid (a = g):=by rw [h0,Nat.gcd_zero_right] at hgc;exact Lib.hid hgc
   have Hr:=Lib.hid hx
   clear hgc hs hx hy h0
   go_wp2_with fail
   go_ret
   exact ⟨x,by rw [← Hgc.out];rfl,by rw [← Hgc.out];exact Hr.out,hG⟩
  ·have hl : 0 < ln gk:=A0s.2 (by omega)
   have hdv:=A6N x y a gk wr hx hy (by omega) hs.1
   obtain ⟨q,hq⟩ : ∃ q,q = a / gk:=⟨_,rfl⟩
   obtain ⟨m,hm⟩ : ∃ m,m = a % gk:=⟨_,rfl⟩
   have hmlt : m < gk:=by rw [hm];exact Nat.mod_lt _ h0
   have Hgc : Hid (Nat.gcd gk m = g):=by rw [hm];exact Lib.hid (U8 a gk g hgc)
   rw [← hq,← hm] at hdv
   have Hdv:=Lib.hid (Ret.nn hdv)
   have Hy:=Lib.hid hy
   have Hs : Hid (bl gk ≤ BIG ∧ bl m ≤ BIG):=Lib.hid ⟨hs.2,Nat.le_trans (N8 (Nat.le_of_lt hmlt)) hs.2⟩
   clear hgc hs hx hy hq hm hdv
   go_wp2_with (go_at_call 141;((with_reducible refine (Hdv.out).mono ?_);rintro e w1 ⟨y1,y2,rfl,hr1,hr2,hg1⟩))
   go_roundg m
   case rel=>exact ⟨y,y2,gk,rfl,rfl,Hgc.out,Hs.out,Hy.out.grow hg1,hr2,hG.trans hg1⟩
   case measure=>exact hmlt
theorem B0v (d : Option Tmp) (ty : TypeId) (pos : String) (af : Array Edge) (gd : Option (Nat × Bool)) : N5 Tryz.prog ⟨d,.alloc 64,ty,pos,af,gd⟩ = .cells #[.bool false,.slice none 0 0] 64:=by kernel_rfl
theorem A7v (d : Option Tmp) (ty : TypeId) (pos : String) (af : Array Edge) (gd : Option (Nat × Bool)) : N5 Tryz.prog ⟨d,.alloc 66,ty,pos,af,gd⟩ = .cells #[.bool false,.slice none 0 0,.slice none 0 0] 66:=by kernel_rfl
theorem A4S (x : Ax) (neg : Bool) (a : Nat) : riV x (sgn neg a) = .agg #[.bool (neg && decide (a ≠ 0)),.slice x.1 (ln a) x.2]:=by
 unfold riV;rw [A8H,A0k]
theorem B4y (x : Ax) (a : Nat) (w : World) : Calls Tryz.prog 134 #[.bool false,nvV x a] w fun e w'=>e = .returned (riV x (sgn false a)) ∧ A3 w w':=by
 rw [A4S,Bool.false_and]
 go_enter Tryz.func134,Tryz.ntmps134
 refine en1 ?_
 intro u hG b4 hB hF
 refine r0T ?_
 refine st hB hF hG 0 0 [_,_] ?_
 clear hB hG
 intro u hB hG
 refine rt Tryz.results134 ?_
 exact ⟨rfl,hG⟩
theorem B4M (x : Ax) (a : Nat) (w : World) : Calls Tryz.prog 134 #[.bool true,nvV x a] w fun e w'=>e = .returned (riV x (sgn true a)) ∧ A3 w w':=by
 rw [A4S,Bool.true_and]
 have hd : decide (a ≠ 0) = decide (0 < ln a):=by
  have := @A0s a
  rw [decide_eq_decide];exact this.symm
 rw [hd]
 clear hd
 go_enter Tryz.func134,Tryz.ntmps134
 refine en1 ?_
 intro u hG b4 hB hF
 refine r0T ?_
 refine st hB hF hG 0 0 [_,_] ?_
 clear hB hG
 intro u hB hG
 refine rt Tryz.results134 ?_
 exact ⟨rfl,hG⟩
theorem A07 (x : Ax) (neg : Bool) (a : Nat) (w : World) : Calls Tryz.prog 134 #[.bool neg,nvV x a] w fun e w'=>e = .returned (riV x (sgn neg a)) ∧ A3 w w':=by
 cases neg
 ·exact B4y x a w
 ·exact B4M x a w
theorem B1i (n : Int) (h0 : n < 0) (h1 : -9223372036854775808 ≤ n) (w : World) : Calls Tryz.prog 91 #[.int .i64 n] w (Ret (Y5 n) w):=by
 have hw1 : IntKind.u64.wrap n = n + 18446744073709551616:=by
  simp [IntKind.wrap,IntKind.signed,IntKind.bits];omega
 have hw2 : IntKind.u64.wrap (-(n + 18446744073709551616)) = (n.natAbs : Nat):=by
  simp [IntKind.wrap,IntKind.signed,IntKind.bits];omega
 have hlt : n.natAbs < W64:=by unfold W64;omega
 have hd : decide (n < 0) = true:=by simpa using h0
 have hn : sgn true n.natAbs = n:=by rw [B2q];omega
 have Hn:=Lib.hid hn
 clear hn
 go_enter Tryz.func91,Tryz.ntmps91
 refine en1 ?_
 intro u hG b2 hB hF
 refine wp_seq ?_
 refine r0T ?_
 refine wp_cond_true (rfl) ?_
 refine wp_seq (rsC A5 [0,0,0,1,1] hB hG fun K L hN hL=>?_)
 refine gs ?_
 refine grd (P4 n.natAbs) (fun (x8 : Ax)=>?_) (C:=fun v _=>A3i n.natAbs hlt _)
 refine gmd (C:=by (rintro v ⟨⟨hgu,hB,hG,-⟩,hx8⟩;have hx8 : Rn v x8 _:=hx8;exact A07 x8 true n.natAbs _)) ?_
 refine geC hL ?_
 clear hB hG hL L
 rintro u ⟨⟨-,hB,hG,-⟩,hx8⟩
 replace hx8 : Rn u x8 _:=hx8
 refine gtT ?_
 clear hN K
 refine sv hB hF hG 0 0 [_,_] ?_
 intro u hu hBG
 replace hx8:=hx8.put hB 0 rfl (by first | decide | simp) _ _ hu
 clear hB hG hu
 obtain ⟨hB,hG⟩:=hBG
 refine rt Tryz.results91 ?_
 exact ⟨x8,congrArg (fun z : Int=>Ending.returned (riV x8 z)) Hn.out,hx8,hG⟩
theorem B3b (n : Int) (h0 : 0 ≤ n) (h1 : n ≤ 9223372036854775807) (w : World) : Calls Tryz.prog 91 #[.int .i64 n] w (Ret (Y5 n) w):=by
 have hw1 : IntKind.u64.wrap n = (n.natAbs : Nat):=by
  simp [IntKind.wrap,IntKind.signed,IntKind.bits];omega
 have hlt : n.natAbs < W64:=by unfold W64;omega
 have hd : decide (n < 0) = false:=by simpa using h0
 have hn : sgn false n.natAbs = n:=by rw [A6p];omega
 have Hn:=Lib.hid hn
 clear hn
 go_enter Tryz.func91,Tryz.ntmps91
 refine en1 ?_
 intro u hG b2 hB hF
 refine wp_seq ?_
 refine r0T ?_
 refine wp_cond_false (rfl) ?_
 refine wp_skip ?_
 refine A4 ?_
 refine wp_seq (rsC A5 [0,0,1,1] hB hG fun K L hN hL=>?_)
 refine gs ?_
 refine grd (P4 n.natAbs) (fun (x12 : Ax)=>?_) (C:=fun v _=>A3i n.natAbs hlt _)
 refine gmd (C:=by (rintro v ⟨⟨hgu,hB,hG,-⟩,hx12⟩;have hx12 : Rn v x12 _:=hx12;exact A07 x12 false n.natAbs _)) ?_
 refine geC hL ?_
 clear hB hG hL L
 rintro u ⟨⟨-,hB,hG,-⟩,hx12⟩
 replace hx12 : Rn u x12 _:=hx12
 refine gtT ?_
 clear hN K
 refine sv hB hF hG 0 0 [_,_] ?_
 intro u hu hBG
 replace hx12:=hx12.put hB 0 rfl (by first | decide | simp) _ _ hu
 clear hB hG hu
 obtain ⟨hB,hG⟩:=hBG
 refine rt Tryz.results91 ?_
 exact ⟨x12,congrArg (fun z : Int=>Ending.returned (riV x12 z)) Hn.out,hx12,hG⟩
theorem A4k (n : Int) (h0 : -9223372036854775808 ≤ n) (h1 : n ≤ 9223372036854775807) (w : World) : Calls Tryz.prog 91 #[.int .i64 n] w (Ret (Y5 n) w):=by
 by_cases h : n < 0
 ·exact B1i n h h0 w
 ·exact B3b n (by omega) h1 w
theorem A3c {x y : Ax} {z : Int} {d : Nat} {q : Rat} (h1 : q.num = z) (h2 : q.den = d) : Ending.returned (.agg #[.bool (D1 z),.slice x.1 (ln z.natAbs) x.2,.slice y.1 (ln d) y.2]) = .returned (rqV x y q):=by subst h1;subst h2;rfl
theorem B3H (n d : Int) (h : d ≠ 0) : (B5 n d).num = sgn (D1 n != D1 d) (n.natAbs / Nat.gcd n.natAbs d.natAbs):=by
 have hd : d.natAbs ≠ 0:=by omega
 by_cases hn : d < 0
 ·rw [A5m n d hn,A5v _ _ hd,← A5B]
  have e1 : (V5 n).natAbs = n.natAbs:=by unfold V5;exact Int.natAbs_neg n
  rw [e1]
  have e2 : D1 d = true:=decide_eq_true hn
  rw [e2]
  by_cases h0 : n = 0
  ·subst h0;simp [sgn]
  ·congr 1
   unfold D1 V5
   rw [Bool.eq_iff_iff]
   simp
   omega
 ·rw [A6K n d hn,A5v _ _ hd,← A5B]
  have e2 : D1 d = false:=decide_eq_false hn
  rw [e2]
  simp
theorem B5W (n d : Int) (h : d ≠ 0) : (B5 n d).den = d.natAbs / Nat.gcd n.natAbs d.natAbs:=by
 have hd : d.natAbs ≠ 0:=by omega
 by_cases hn : d < 0
 ·rw [A5m n d hn,A6Z _ _ hd]
  unfold V5;rw [Int.natAbs_neg]
 ·rw [A6K n d hn,A6Z _ _ hd]
theorem B0o (x y : Ax) (n d : Int) (w : World) (hx : Rn w x n.natAbs) (hy : Rn w y d.natAbs) (h0 : d ≠ 0) (hn : bl n.natAbs ≤ BIG) (hd : bl d.natAbs ≤ BIG) : Calls Tryz.prog 88 #[riV x n,riV y d] w (Ret (L6 (B5 n d)) w):=by
 have He:=Lib.hid (And.intro (B3H n d h0) (B5W n d h0))
 have hd0 : d.natAbs ≠ 0:=by omega
 have g0 : Nat.gcd n.natAbs d.natAbs ≠ 0:=fun e=>hd0 (Nat.eq_zero_of_gcd_eq_zero_right e)
 go_enter Tryz.func88,Tryz.ntmps88
 refine en3 ?_
 intro u hG b4 b3 b2 hB hF
 replace hx:=hx.grow hG
 replace hy:=hy.grow hG
 refine wp_seq (rsE A5 [0,0,0,0,1,0] hB hG fun L hL=>?_)
 refine gs ?_
 refine grd (P4 (Nat.gcd n.natAbs d.natAbs)) (fun (x14 : Ax)=>?_) (C:=by (rintro v ⟨hgu,hB,hG,-⟩;exact B2o x y n.natAbs d.natAbs _ (hx.grow hgu) (hy.grow hgu) hn hd))
 refine gs ?_
 refine geT hL ?_
 clear hB hG hL L
 rintro u ⟨⟨hgu,hB,hG,-⟩,hx14⟩
 replace hx:=hx.grow hgu
 replace hy:=hy.grow hgu
 replace hx14 : Rn u x14 _:=hx14
 clear hgu
 refine wp_seq (rsE A5 [0,0,0,1,0,0,0,0,0] hB hG fun L hL=>?_)
 refine gs ?_
 refine grd (nnR (n.natAbs / Nat.gcd n.natAbs d.natAbs) (n.natAbs % Nat.gcd n.natAbs d.natAbs)) (fun (x19 : Ax × Ax)=>?_) (C:=by (rintro v ⟨hgu,hB,hG,-⟩;exact A6N x x14 n.natAbs _ _ (hx.grow hgu) (hx14.grow hgu) g0 hn))
 refine gs ?_
 refine geT hL ?_
 clear hB hG hL L
 rintro u ⟨⟨hgu,hB,hG,-⟩,hx19⟩
 replace hx:=hx.grow hgu
 replace hy:=hy.grow hgu
 replace hx14:=hx14.grow hgu
 obtain ⟨hx19a,hx19b⟩ : Rn u x19.1 _ ∧ Rn u x19.2 _:=hx19
 clear hgu
 refine wp_seq (rsE A5 [0,0,0,1,0,0,0,0,0] hB hG fun L hL=>?_)
 refine gs ?_
 refine grd (nnR (d.natAbs / Nat.gcd n.natAbs d.natAbs) (d.natAbs % Nat.gcd n.natAbs d.natAbs)) (fun (x26 : Ax × Ax)=>?_) (C:=by (rintro v ⟨hgu,hB,hG,-⟩;exact A6N y x14 d.natAbs _ _ (hy.grow hgu) (hx14.grow hgu) g0 hd))
 refine gs ?_
 refine geT hL ?_
 clear hB hG hL L
 rintro u ⟨⟨hgu,hB,hG,-⟩,hx26⟩
 replace hx:=hx.grow hgu
 replace hy:=hy.grow hgu
 replace hx14:=hx14.grow hgu
 replace hx19a:=hx19a.grow hgu
 replace hx19b:=hx19b.grow hgu
 obtain ⟨hx26a,hx26b⟩ : Rn u x26.1 _ ∧ Rn u x26.2 _:=hx26
 clear hgu
 refine wp_seq (rsC A5 [0,0,0,0,0,0,1,0,0] hB hG fun K L hN hL=>?_)
 refine gs ?_
 refine gmw (C:=fun v=>A07 x19.1 _ (n.natAbs / Nat.gcd n.natAbs d.natAbs) _) ?_
 refine gs ?_
 refine geC hL ?_
 clear hB hG hL L
 rintro u ⟨hgu,hB,hG,-⟩
 replace hx:=hx.grow hgu
 replace hy:=hy.grow hgu
 replace hx14:=hx14.grow hgu
 replace hx19a:=hx19a.grow hgu
 replace hx19b:=hx19b.grow hgu
 replace hx26a:=hx26a.grow hgu
 replace hx26b:=hx26b.grow hgu
 clear hgu
 refine gtT ?_
 clear hN K
 refine sv hB hF hG 2 0 [_,_,_] ?_
 intro u hu hBG
 replace hx:=hx.put hB 2 rfl (by first | decide | simp) _ _ hu
 replace hy:=hy.put hB 2 rfl (by first | decide | simp) _ _ hu
 replace hx14:=hx14.put hB 2 rfl (by first | decide | simp) _ _ hu
 replace hx19a:=hx19a.put hB 2 rfl (by first | decide | simp) _ _ hu
 replace hx19b:=hx19b.put hB 2 rfl (by first | decide | simp) _ _ hu
 replace hx26a:=hx26a.put hB 2 rfl (by first | decide | simp) _ _ hu
 replace hx26b:=hx26b.put hB 2 rfl (by first | decide | simp) _ _ hu
 clear hB hG hu
 obtain ⟨hB,hG⟩:=hBG
 refine rt Tryz.results88 ?_
 exact ⟨(x19.1,x26.1),A3c He.out.1 He.out.2,⟨by rw [He.out.1,A0k];exact hx19a,by rw [He.out.2];exact hx26a⟩,hG⟩
theorem B2m (n d : Int) (h0 : -9223372036854775808 ≤ n) (h1 : n ≤ 9223372036854775807) (h2 : -9223372036854775808 ≤ d) (h3 : d ≤ 9223372036854775807) (hd : d ≠ 0) (w : World) : Calls Tryz.prog 82 #[.int .i64 n,.int .i64 d] w (Ret (L6 (B5 n d)) w):=by
 go_enter Tryz.func82,Tryz.ntmps82
 refine en1 ?_
 intro u hG b4 hB hF
 refine wp_seq (rsC A5 [0,1,0,1,1] hB hG fun K L hN hL=>?_)
 refine gs ?_
 refine grd (Y5 n) (fun (x6 : Ax)=>?_) (C:=fun v _=>A4k n h0 h1 _)
 refine gs ?_
 refine grd (Y5 d) (fun (x8 : Ax)=>?_) (C:=by (rintro v ⟨⟨hgu,hB,hG,-⟩,hx6⟩;have hx6 : Rn v x6 _:=hx6;exact A4k d h2 h3 _))
 refine grd (L6 (B5 n d)) (fun (x9 : Ax × Ax)=>?_) (C:=by (rintro v ⟨⟨⟨hgu,hB,hG,-⟩,hx6⟩,hx8⟩;have hx6 : Rn v x6 _:=hx6;have hx8 : Rn v x8 _:=hx8;exact B0o x6 x8 n d _ hx6 hx8 hd (A6j h0 h1) (A6j h2 h3)))
 refine geC hL ?_
 clear hB hG hL L
 rintro u ⟨⟨⟨⟨-,hB,hG,-⟩,hx6⟩,hx8⟩,hx9⟩
 replace hx6 : Rn u x6 _:=hx6
 replace hx8 : Rn u x8 _:=hx8
 obtain ⟨hx9a,hx9b⟩ : Rn u x9.1 _ ∧ Rn u x9.2 _:=hx9
 refine gtT ?_
 clear hN K
 refine sv hB hF hG 0 0 [_,_,_] ?_
 intro u hu hBG
 replace hx6:=hx6.put hB 0 rfl (by first | decide | simp) _ _ hu
 replace hx8:=hx8.put hB 0 rfl (by first | decide | simp) _ _ hu
 replace hx9a:=hx9a.put hB 0 rfl (by first | decide | simp) _ _ hu
 replace hx9b:=hx9b.put hB 0 rfl (by first | decide | simp) _ _ hu
 clear hB hG hu
 obtain ⟨hB,hG⟩:=hBG
 refine rt Tryz.results82 ?_
 exact ⟨x9,rfl,⟨hx9a,hx9b⟩,hG⟩
theorem B2y (w : World) : Calls Tryz.prog 92 #[.int .u64 1] w (Ret (P4 1) w):=A3i 1 (by unfold W64;omega) w
theorem W8 (n : Int) (h0 : -9223372036854775808 ≤ n) (h1 : n ≤ 9223372036854775807) (w : World) : Calls Tryz.prog 33 #[.int .i64 n] w (Ret (L6 (A8 n)) w):=by
 go_enter Tryz.func33,Tryz.ntmps33
 refine en1 ?_
 intro u hG b2 hB hF
 refine wp_seq (rsC A5 [0,1,1,0] hB hG fun K L hN hL=>?_)
 refine gs ?_
 refine grd (Y5 n) (fun (x4 : Ax)=>?_) (C:=fun v _=>A4k n h0 h1 _)
 refine grd (P4 1) (fun (x5 : Ax)=>?_) (C:=by (rintro v ⟨⟨hgu,hB,hG,-⟩,hx4⟩;have hx4 : Rn v x4 _:=hx4;exact B2y _))
 refine gs ?_
 refine geC hL ?_
 clear hB hG hL L
 rintro u ⟨⟨⟨-,hB,hG,-⟩,hx4⟩,hx5⟩
 replace hx4 : Rn u x4 _:=hx4
 replace hx5 : Rn u x5 _:=hx5
 refine gtT ?_
 clear hN K
 refine sv hB hF hG 0 0 [_,_,_] ?_
 intro u hu hBG
 replace hx4:=hx4.put hB 0 rfl (by first | decide | simp) _ _ hu
 replace hx5:=hx5.put hB 0 rfl (by first | decide | simp) _ _ hu
 clear hB hG hu
 obtain ⟨hB,hG⟩:=hBG
 refine rt Tryz.results33 ?_
 exact ⟨(x4,x5),A3c (A6E n) (A4x n),⟨by rw [A6E];exact hx4,by rw [A4x];exact hx5⟩,hG⟩
theorem B4g (zs : List Nat) (V k y : Nat) (hd : Dig W32 zs) (hk : k / 4 < zs.length) (hv : val W32 zs = V * 256 ^ (k + 1)) (hy : y < 256) :
  dg zs (k / 4) ||| y * 2 ^ (8 * (k % 4)) = dg zs (k / 4) + y * 2 ^ (8 * (k % 4)) ∧ dg zs (k / 4) + y * 2 ^ (8 * (k % 4)) < W32 ∧ val W32 (zs.set (k / 4) (dg zs (k / 4) + y * 2 ^ (8 * (k % 4)))) = (V * 256 + y) * 256 ^ k:=by
 have e1 : (256 : Nat) ^ k = W32 ^ (k / 4) * 2 ^ (8 * (k % 4)):=by
  rw [show W32 = 2 ^ 32 from rfl,show (256 : Nat) = 2 ^ 8 from rfl,← Nat.pow_mul,← Nat.pow_mul,← Nat.pow_add]
  congr 1
  omega
 have hdv : 2 ^ (8 * (k % 4) + 8) ∣ dg zs (k / 4):=by
  have h1 : dg zs (k / 4) = val W32 zs / W32 ^ (k / 4) % W32:=by
   have h2:=I7 W32 zs (k / 4)
   have h3 : val W32 zs = val W32 (zs.take (k / 4 + 1)) + W32 ^ (k / 4 + 1) * val W32 (zs.drop (k / 4 + 1)):=by
    have := S7 W32 (zs.take (k / 4 + 1)) (zs.drop (k / 4 + 1))
    rw [List.take_append_drop,List.length_take,Nat.min_eq_left (by omega)] at this
    exact this
   have h4 : val W32 (zs.take (k / 4)) < W32 ^ (k / 4):=by
    have := H5 (B:=W32) (l:=zs.take (k / 4)) (fun x hx=>hd x (List.mem_of_mem_take hx))
    rwa [List.length_take,Nat.min_eq_left (by omega)] at this
   have h5:=B9 E0 hd (k / 4)
   rw [h3,h2,Nat.pow_succ,Nat.mul_assoc,Nat.add_assoc,← Nat.mul_add,Nat.add_mul_div_left _ _ (Nat.pow_pos E0),Nat.div_eq_of_lt h4,Nat.zero_add,Nat.add_mul_mod_self_left,Nat.mod_eq_of_lt h5]
  rw [h1,hv]
  have e2 : V * 256 ^ (k + 1) = W32 ^ (k / 4) * (V * 2 ^ (8 * (k % 4) + 8)):=by
   rw [Nat.pow_succ,e1,Nat.pow_add]
   simp only [show (256 : Nat) = 2 ^ 8 from rfl]
   grind
  rw [e2,Nat.mul_div_cancel_left _ (Nat.pow_pos E0)]
  refine (Nat.dvd_mod_iff ?_).2 (Nat.dvd_mul_left _ _)
  rw [show W32 = 2 ^ 32 from rfl]
  exact Nat.pow_dvd_pow 2 (by omega)
 have hlt : y * 2 ^ (8 * (k % 4)) < 2 ^ (8 * (k % 4) + 8):=by
  rw [Nat.pow_add,Nat.mul_comm]
  exact Nat.mul_lt_mul_of_pos_left hy (Nat.two_pow_pos _)
 refine ⟨A1z hlt hdv,?_,?_⟩
 ·obtain ⟨c,hc⟩:=hdv
  have h5:=B9 E0 hd (k / 4)
  rw [hc] at h5 ⊢
  have e3 : W32 = 2 ^ (8 * (k % 4) + 8) * 2 ^ (24 - 8 * (k % 4)):=by
   rw [← Nat.pow_add,show W32 = 2 ^ 32 from rfl]
   congr 1
   omega
  rw [e3] at h5 ⊢
  have h6:=Nat.lt_of_mul_lt_mul_left h5
  calc 2 ^ (8 * (k % 4) + 8) * c + y * 2 ^ (8 * (k % 4)) < 2 ^ (8 * (k % 4) + 8) * c + 2 ^ (8 * (k % 4) + 8):=by omega
   _ = 2 ^ (8 * (k % 4) + 8) * (c + 1):=by rw [Nat.mul_add,Nat.mul_one]
   _ ≤ _:=Nat.mul_le_mul_left _ h6
 ·have h7:=S3 W32 zs (k / 4) (dg zs (k / 4) + y * 2 ^ (8 * (k % 4))) hk
  rw [hv,Nat.mul_add] at h7
  have e4 : (V * 256 + y) * 256 ^ k = V * 256 ^ (k + 1) + W32 ^ (k / 4) * (y * 2 ^ (8 * (k % 4))):=by
   rw [Nat.add_mul,Nat.pow_succ,e1]
   grind
  omega
theorem B6N (a b : Nat) (ha : a < 4294967296) (hb : b < 4294967296) : bits .or .u32 (a : Int) (b : Int) = ((a ||| b : Nat) : Int):=by
 have hx : a ||| b < 2 ^ 32:=Nat.or_lt_two_pow (by omega) (by omega)
 have h1 : (BitVec.ofInt 32 (a : Int)).toNat = a:=by
  rw [BitVec.ofInt_natCast,BitVec.toNat_ofNat];exact Nat.mod_eq_of_lt (by omega)
 have h2 : (BitVec.ofInt 32 (b : Int)).toNat = b:=by
  rw [BitVec.ofInt_natCast,BitVec.toNat_ofNat];exact Nat.mod_eq_of_lt (by omega)
 show IntKind.u32.wrap ((BitVec.ofInt 32 (a : Int) ||| BitVec.ofInt 32 (b : Int)).toNat : Int) = _
 rw [BitVec.toNat_or,h1,h2]
 simp [IntKind.wrap,IntKind.signed,IntKind.bits]
 omega
theorem A6s (n : Nat) (h : n < 4294967296) : IntKind.u32.wrap (n : Int) = (n : Int):=by
 simp [IntKind.wrap,IntKind.signed,IntKind.bits];omega
theorem B6l (A : Option Addr) (a : Nat) (w : World) (ha : bl a ≤ 1099511627760) (hA : By w A (byt a).reverse) : Calls Tryz.prog 175 #[.slice A (byt a).length (byt a).length] w (Ret (P4 a) w):=by
 obtain ⟨n,hn⟩ : ∃ n,n = (byt a).length:=⟨_,rfl⟩
 have hnb : n ≤ 137438953471:=by rw [hn,A1u];omega
 obtain ⟨m,hm⟩ : ∃ m,m = (n + 3) / 4:=⟨_,rfl⟩
 have hmi : ((n : Int) + 3) / 4 = (m : Int):=by omega
 have hmt : ((n : Int) + 3).tdiv 4 = (m : Int):=by rw [Int.tdiv_eq_ediv_of_nonneg (by omega)];exact hmi
 have hmk:=A31 m (by omega) (m : Int) rfl
 rw [← hn]
 have HA:=Lib.hid hA
 have Hn:=Lib.hid hn
 have Hm:=Lib.hid hm
 have hmb : m ≤ 34359738368:=by omega
 clear hA hn hm
 go_enter Tryz.func175,Tryz.ntmps175
 go_wp2_with fail
 clear hmk hmi hmt
 go_loopw [4] (fun s wr=>∃ (i : Nat) (zs : List Nat),i ≤ n ∧ s = .int .i64 i ∧ zs.length = m ∧ Dig W32 zs ∧ val W32 zs = a / 256 ^ (n - i) * 256 ^ (n - i) ∧ O5 wr w.heap.size zs ∧ A3 w wr) (fun s _=>n - (intOf s).toNat)
 case atStart=>exact ⟨0,List.replicate m 0,Nat.zero_le _,rfl,by simp,fun z hz=>(by rw [(List.mem_replicate.1 hz).2];exact E0),by
   rw [A0c,Nat.sub_zero,Nat.div_eq_of_lt,Nat.zero_mul]
   have := H5 (A1K a)
   rw [← Hn.out] at this
   unfold byt at this
   rwa [D5 (by omega)] at this,Blk.new w 176 _,A3.alloc _ _⟩
 case round =>
  obtain ⟨i,zs,hi,rfl,hl,hd,hv,hR,hG⟩:=hrel
  have HR:=Lib.hid hR
  have HG:=Lib.hid hG
  have Hd:=Lib.hid hd
  have Hv:=Lib.hid hv
  have Hl:=Lib.hid hl
  clear hl hd hv hR hG
  rcases Nat.lt_or_ge i n with hlt | hge
  ·obtain ⟨k,hk⟩ : ∃ k,k = n - 1 - i:=⟨_,rfl⟩
   have hni : n - i = k + 1:=by omega
   have hki : (n : Int) - 1 - (i : Int) = (k : Int):=by omega
   have hkq : k / 4 < zs.length:=by rw [Hl.out,Hm.out];omega
   obtain ⟨b1,o1,rfl,hc1⟩:=(HA.out.grow HG.out).cell (i:=i) (by rw [List.length_reverse,← Hn.out];exact hlt)
   rw [A80 (by rw [← Hn.out];exact hlt),← Hn.out,← hk] at hc1
   have hby:=B9 (by omega) (A1K a) k
   have hv1:=Hv.out
   rw [hni] at hv1
   obtain ⟨l1,l2,l3⟩:=B4g zs _ k _ Hd.out hkq hv1 hby
   have hc2:=HR.out.cell hkq
   have hf2:=HR.out.frozen (k / 4)
   have hzl:=B9 E0 Hd.out (k / 4)
   have hkm : k / 4 < m:=by rw [← Hl.out];exact hkq
   have hstep : a / 256 ^ (k + 1) * 256 + dg (byt a) k = a / 256 ^ k:=by
    unfold byt
    rw [A2y (by omega),Nat.pow_succ,← Nat.div_div_eq_div_mul]
    omega
   rw [hstep] at l3
   obtain ⟨q,hq⟩ : ∃ q,q = k / 4:=⟨_,rfl⟩
   obtain ⟨r,hr⟩ : ∃ r,r = k % 4:=⟨_,rfl⟩
   have hr8 : r < 4:=by omega
   have hqi : (k : Int) / 4 = (q : Int):=by omega
   have hri : (k : Int) % 4 = (r : Int):=by omega
   obtain ⟨y,hy⟩ : ∃ y,y = dg (byt a) k:=⟨_,rfl⟩
   obtain ⟨x,hx⟩ : ∃ x,x = dg zs (k / 4):=⟨_,rfl⟩
   rw [← hx] at hc2 l1 l2 l3 hzl
   rw [← hy] at hc1 hby l1 l2 l3
   rw [← hq] at hc2 hf2 hkm l3
   rw [← hr] at l1 l2 l3
   have L1:=Lib.hid l1
   have L2:=Lib.hid l2
   have L3:=Lib.hid l3
   unfold W32 at hzl
   have hw1 : IntKind.i64.wrap (q : Int) = (q : Int):=IntWalk.i64_in _ (by omega)
   have hw2 : IntKind.i64.wrap (r : Int) = (r : Int):=IntWalk.i64_in _ (by omega)
   have hw3 : IntKind.i64.wrap (8 * (r : Int)) = 8 * (r : Int):=IntWalk.i64_in _ (by omega)
   have hw4 : IntKind.u64.wrap (8 * (r : Int)) = 8 * (r : Int):=u64_wrap_id (x:=8 * (r : Int)) (by omega) (by omega)
   have hw5 : (8 * (r : Int)).toNat = 8 * r:=by omega
   have hw6 : (k : Int).tmod 4 = (r : Int):=by rw [Int.tmod_eq_emod_of_nonneg (by omega)];exact hri
   have hw7:=A6s y (by omega)
   have hw8 : min (8 * r) 32 = 8 * r:=by omega
   obtain ⟨z,hz⟩ : ∃ z,z = y * 2 ^ (8 * r):=⟨_,rfl⟩
   have hzlt : z < 4294967296:=by unfold W32 at l2;omega
   have hw9 : IntKind.u32.wrap ((y : Int) * 2 ^ (8 * r)) = (z : Int):=by
    rw [show ((y : Int) * 2 ^ (8 * r)) = ((z : Nat) : Int) by rw [hz];simp];exact A6s z hzlt
   rw [← hz] at l1 l2 l3
   have hw10 : bits BinOp.or IntKind.u32 (x : Int) (z : Int) = ((x + z : Nat) : Int):=by
    rw [B6N x z hzl hzlt,l1]
   obtain ⟨s,hs⟩ : ∃ s,s = x + z:=⟨_,rfl⟩
   rw [← hs] at l2 l3 hw10
   have L4:=Lib.hid l3
   have L5:=Lib.hid l2
   clear hk hni hstep hv1 l1 l2 l3 hx hy hq hr hkq hz hs L1 L2 L3
   go_wp2_with fail
   go_still_tail 19,(by kernel_rfl)
   go_wp2_with fail
   have hnk : n - (i + 1) = k:=by omega
   exact ⟨⟨i + 1,zs.set q s,by omega,by go_num,by rw [List.length_set];exact Hl.out,M3 Hd.out q L5.out,by rw [hnk];exact L4.out,(HR.out.set q s).grow (A3.drew _),(HG.out.setCell (p:=⟨w.heap.size,q,none⟩) (Nat.le_refl _) _).trans (A3.drew _)⟩,by simp [intOf];omega⟩
  ·obtain rfl : i = n:=by omega
   have hva : val W32 zs = a:=by have := Hv.out;simpa using this
   have htr : Calls Tryz.prog 142 #[.slice (some ⟨w.heap.size,0,none⟩) m m] wr fun e w'=>e = .returned (.slice (some ⟨w.heap.size,0,none⟩) (ln a) m) ∧ Rn w' (some ⟨w.heap.size,0,none⟩,m) a ∧ A3 w w':=by
    have h1:=A1I (some ⟨w.heap.size,0,none⟩) zs m wr HR.out.lim (Nat.le_of_eq Hl.out) (by omega)
    rw [Hl.out] at h1
    refine h1.mono fun e w' ⟨he,hg⟩=>?_
    obtain ⟨hr1,hlen⟩:=A2B (a:=a) (c:=m) (HR.out.lim.grow hg) Hd.out hva (Nat.le_of_eq Hl.out) (by omega)
    rw [hlen] at he
    exact ⟨he,hr1,HG.out.trans hg⟩
   have Htr:=Lib.hid htr
   clear htr hva
   go_wp2_with (go_at_call 142;((with_reducible refine (Htr.out).mono ?_);rintro e w1 ⟨rfl,hr1,hg⟩))
   go_ret
   exact ⟨(some ⟨w.heap.size,0,none⟩,m),rfl,hr1,hg⟩
def LIM : Nat:=1099511627760
theorem B0K : ∀ t ∈ [35,37,39,64,66],M8 Tryz.prog t:=by
 intro t ht
 simp only [List.mem_cons,List.not_mem_nil,or_false] at ht
 rcases ht with rfl | rfl | rfl | rfl | rfl
 ·exact fun _ _ _ _ _ _=>by rw [I8];kernel_rfl
 ·exact fun _ _ _ _ _ _=>by rw [A4o];kernel_rfl
 ·exact fun _ _ _ _ _ _=>by rw [N0];kernel_rfl
 ·exact fun _ _ _ _ _ _=>by rw [B0v];kernel_rfl
 ·exact fun _ _ _ _ _ _=>by rw [A7v];kernel_rfl
theorem A9x (a : Nat) (ha : bl a ≤ LIM) (w : World) : Calls Tryz.prog 139 #[A6 a] w (Ret (P4 a) w):=by
 unfold LIM at ha
 have hby : ∀ W,Calls Tryz.prog 176 #[A6 a] W fun e w'=>∃ A,e = .returned (.slice A (byt a).length (byt a).length) ∧ By w' A (byt a).reverse ∧ A3 W w':=fun W=>A9v a ha W
 have hfr : ∀ A W,By W A (byt a).reverse → Calls Tryz.prog 175 #[.slice A (byt a).length (byt a).length] W (Ret (P4 a) W):=fun A W h=>B6l A a W ha h
 obtain ⟨n,hn⟩ : ∃ n,n = (byt a).length:=⟨_,rfl⟩
 rw [← hn] at hby hfr
 have Hby:=Lib.hid hby
 have Hfr:=Lib.hid hfr
 clear hby hfr hn
 go_enter Tryz.func139,Tryz.ntmps139
 go_wp2_with (first
  | (go_at_call 176;((with_reducible refine (Hby.out _).mono ?_);rintro e w1 ⟨A,rfl,hA,hg1⟩))
  | (go_at_call 175;((with_reducible refine (Hfr.out _ _ hA).mono ?_);rintro e w2 ⟨x,rfl,hx,hg2⟩)))
 go_ret
 exact ⟨x,rfl,hx,(A3.alloc _ _).trans (hg1.trans hg2)⟩
theorem B5m (z : Int) (ha : bl z.natAbs ≤ LIM) (w : World) : Calls Tryz.prog 137 #[D4 z] w (Ret (Y5 z) w):=by
 have ha' : bl z.natAbs ≤ 1099511627776:=by unfold LIM at ha;omega
 go_enter Tryz.func137,Tryz.ntmps137
 refine en2 ?_
 intro u hG b2 b1 hB hF
 refine wp_seq (rdC A5 [] [(0,0),(0,3),(1,1),(0,2),(1,4),(1,5),(1,6)] hB hG fun K L hN hL=>?_)
 refine gs ?_
 refine gmw (C:=fun v=>A16 _ (by assumption) _) ?_
 refine gs ?_
 refine gmw (C:=fun v=>A1f _ _) ?_
 refine grd (P4 z.natAbs) (fun (x8 : Ax)=>?_) (C:=fun v _=>A9x z.natAbs ha _)
 refine gmd (C:=by (rintro v ⟨⟨hgu,hB,hG,-⟩,hx8⟩;have hx8 : Rn v x8 _:=hx8;exact A07 x8 _ z.natAbs _)) ?_
 refine geC hL ?_
 clear hB hG hL L
 rintro u ⟨⟨-,hB,hG,-⟩,hx8⟩
 replace hx8 : Rn u x8 _:=hx8
 refine gtT ?_
 clear hN K
 refine sv hB hF hG 1 0 [_,_] ?_
 intro u hu hBG
 replace hx8:=hx8.put hB 1 rfl (by first | decide | simp) _ _ hu
 clear hB hG hu
 obtain ⟨hB,hG⟩:=hBG
 refine rt Tryz.results137 ?_
 exact ⟨x8,congrArg (fun y : Int=>Ending.returned (riV x8 y)) (A0S z),hx8,hG⟩
theorem B2W (q : Rat) (ha : qs q ≤ LIM) (w : World) : Calls Tryz.prog 86 #[qV q] w (Ret (L6 q) w):=by
 have h1 : bl q.num.natAbs ≤ LIM:=Nat.le_trans (F8 q) ha
 have h2 : bl q.den ≤ LIM:=Nat.le_trans (F6 q) ha
 have h3 : bl q.den ≤ 1099511627776:=by unfold LIM at h2;omega
 go_enter Tryz.func86,Tryz.ntmps86
 refine en2 ?_
 intro u hG b2 b1 hB hF
 refine wp_seq (rdC A5 [] [(0,0),(0,3),(1,1),(1,2),(1,4),(1,5),(0,6)] hB hG fun K L hN hL=>?_)
 refine gs ?_
 refine gmw (C:=fun v=>B3y _ _) ?_
 refine grd (Y5 q.num) (fun (x5 : Ax)=>?_) (C:=fun v _=>B5m q.num h1 _)
 refine gmd (C:=by (rintro v ⟨⟨hgu,hB,hG,-⟩,hx5⟩;have hx5 : Rn v x5 _:=hx5;exact Q4 _ (by assumption) _)) ?_
 refine grd (P4 q.den) (fun (x8 : Ax)=>?_) (C:=by (rintro v ⟨⟨hgu,hB,hG,-⟩,hx5⟩;have hx5 : Rn v x5 _:=hx5;exact A9x q.den h2 _))
 refine gs ?_
 refine geC hL ?_
 clear hB hG hL L
 rintro u ⟨⟨⟨-,hB,hG,-⟩,hx5⟩,hx8⟩
 replace hx5 : Rn u x5 _:=hx5
 replace hx8 : Rn u x8 _:=hx8
 refine gtT ?_
 clear hN K
 refine sv hB hF hG 1 0 [_,_,_] ?_
 intro u hu hBG
 replace hx5:=hx5.put hB 1 rfl (by first | decide | simp) _ _ hu
 replace hx8:=hx8.put hB 1 rfl (by first | decide | simp) _ _ hu
 clear hB hG hu
 obtain ⟨hB,hG⟩:=hBG
 refine rt Tryz.results86 ?_
 exact ⟨(x5,x8),rfl,⟨hx5,hx8⟩,hG⟩
theorem A7R (x y : Ax) (a : Nat) (w : World) (hx : Rn w x a) (hy : Rn w y a) : Calls Tryz.prog 87 #[nvV x a,nvV y a] w fun e w'=>e = .returned (.int .i64 0) ∧ A3 w w':=by
 have := A4X x y a a w hx hy
 rw [A0v rfl] at this
 exact this
theorem B6Z (q : Rat) (x y : Ax) (ha : qs q ≤ LIM) (w : World) (hx : Rn w x q.num.natAbs) (hy : Rn w y q.den) : Calls Tryz.prog 29 #[qV q,rqV x y q] w fun e w'=>e = .returned (.bool true) ∧ A3 w w':=by
 have hl : 0 < ln q.den:=A0s.2 q.den_nz
 have hlb : ((ln q.den : Int) == 0) = false:=by simp;omega
 go_enter Tryz.func29,Tryz.ntmps29
 refine en2 ?_
 intro u hG b3 b2 hB hF
 replace hx:=hx.grow hG
 replace hy:=hy.grow hG
 refine wp_seq (rsC B0K [0,1,2] hB hG fun K L hN hL=>?_)
 refine gs ?_
 refine grd (L6 q) (fun (x7 : Ax × Ax)=>?_) (C:=fun v _=>B2W q ha _)
 refine gaa (A7v _ _ _ _ _) fun b5 hb5 hn5=>?_
 replace hF:=hF.n1 [] hB hG hb5 hn5
 refine geC hL ?_
 clear hB hG hL L
 rintro u ⟨⟨⟨hgu,hB,hG,-⟩,hx7⟩,h5⟩
 replace hB:=hB.cons' h5
 clear h5
 replace hx:=hx.grow hgu
 replace hy:=hy.grow hgu
 obtain ⟨hx7a,hx7b⟩ : Rn u x7.1 _ ∧ Rn u x7.2 _:=hx7
 clear hb5 hn5
 clear hgu
 refine gtT ?_
 clear hN K
 refine sv hB hF hG 0 0 [_,_,_] ?_
 intro u hu hBG
 replace hx:=hx.put hB 0 rfl (by first | decide | simp) _ _ hu
 replace hy:=hy.put hB 0 rfl (by first | decide | simp) _ _ hu
 replace hx7a:=hx7a.put hB 0 rfl (by first | decide | simp) _ _ hu
 replace hx7b:=hx7b.put hB 0 rfl (by first | decide | simp) _ _ hu
 clear hB hG hu
 obtain ⟨hB,hG⟩:=hBG
 refine wp_seq ?_
 refine r0T ?_
 refine wp_cond_false (rfl) ?_
 refine wp_skip ?_
 refine A4 ?_
 refine wp_seq (rsE B0K [0,0,0,0,0,0,1,0,0,0,0,0,0,0,0,0,0,0,0,0,0,0,1,0,0,0] hB hG fun L hL=>?_)
 refine gs ?_
 refine gmd (C:=fun v ⟨hgu,hB,hG,_⟩=>A7R x7.1 x q.num.natAbs _ (hx7a.grow hgu) (hx.grow hgu)) ?_
 refine gs ?_
 first | refine gmd (C:=fun v ⟨hgu,hB,hG,_⟩=>A7R x7.2 y q.den _ (hx7b.grow hgu) (hy.grow hgu)) ?_ | refine G7 ?_
 refine gs ?_
 refine geT hL ?_
 clear hB hG hL L
 rintro u ⟨hgu,hB,hG,-⟩
 replace hx:=hx.grow hgu
 replace hy:=hy.grow hgu
 replace hx7a:=hx7a.grow hgu
 replace hx7b:=hx7b.grow hgu
 clear hgu
 refine rt Tryz.results29 ?_
 exact ⟨rfl,hG⟩
theorem A7r (n d : Int) (h0 : -9223372036854775808 ≤ n) (h1 : n ≤ 9223372036854775807) (h2 : -9223372036854775808 ≤ d) (h3 : d ≤ 9223372036854775807) (hd : d ≠ 0) (ha : qs (B5 n d) ≤ LIM) (w : World) : Calls Tryz.prog 43 #[qV (B5 n d),.int .i64 n,.int .i64 d] w fun e w'=>e = .returned (.bool true) ∧ A3 w w':=by
 go_enter Tryz.func43,Tryz.ntmps43
 refine en1 ?_
 intro u hG b3 hB hF
 refine wp_seq (rdC A5 [] [(0,0),(0,1),(0,2),(1,3),(1,4)] hB hG fun K L hN hL=>?_)
 refine gs ?_
 refine grd (L6 (B5 n d)) (fun (x10 : Ax × Ax)=>?_) (C:=fun v _=>B2m n d h0 h1 h2 h3 hd _)
 refine gmd (C:=by (rintro v ⟨⟨hgu,hB,hG,-⟩,hx10⟩;obtain ⟨hx10a,hx10b⟩ : Rn v x10.1 _ ∧ Rn v x10.2 _:=hx10;exact B6Z (B5 n d) x10.1 x10.2 ha _ hx10a hx10b)) ?_
 refine geC hL ?_
 clear hB hG hL L
 rintro u ⟨⟨-,hB,hG,-⟩,hx10⟩
 obtain ⟨hx10a,hx10b⟩ : Rn u x10.1 _ ∧ Rn u x10.2 _:=hx10
 refine gtT ?_
 clear hN K
 refine rt Tryz.results43 ?_
 exact ⟨rfl,hG⟩
def A4I (n m : Int) : Int:=n % m
theorem B2F (n m : Int) (hm : 0 < m) (hm2 : m ≤ 9223372036854775807) (w : World) : Calls Tryz.prog 31 #[.int .i64 n,.int .i64 m] w fun e w'=>e = .returned (.int .i64 (A4I n m)) ∧ w = w':=by
 have h0 : ¬ m = 0:=by omega
 obtain ⟨t,ht⟩ : ∃ t,t = n.tmod m:=⟨_,rfl⟩
 have hp : A4I n m = if t < 0 then t + m else t:=by
  rw [ht]
  unfold A4I
  have h1:=Int.emod_nonneg n (show m ≠ 0 by omega)
  have h2:=Int.emod_lt_of_pos n hm
  rw [Int.tmod_eq_emod]
  split <;> split <;> omega
 have hb : -m < t ∧ t < m:=by
  rw [ht]
  have h1:=Int.emod_nonneg n (show m ≠ 0 by omega)
  have h2:=Int.emod_lt_of_pos n hm
  rw [Int.tmod_eq_emod]
  split <;> omega
 have htm : n.tmod m = t:=ht.symm
 have hw1 : IntKind.i64.wrap t = t:=IntWalk.i64_in _ (by omega)
 clear ht
 by_cases hneg : t < 0
 ·rw [if_pos hneg] at hp
  have hw2 : IntKind.i64.wrap (t + m) = t + m:=IntWalk.i64_in _ (by omega)
  have Hp:=Lib.hid hp
  clear hp
  go_enter Tryz.func31,Tryz.ntmps31
  go_wp2_with fail
  go_ret
  exact ⟨I5 Hp.out.symm,rfl⟩
 ·rw [if_neg hneg] at hp
  have Hp:=Lib.hid hp
  clear hp
  go_enter Tryz.func31,Tryz.ntmps31
  go_wp2_with fail
  go_ret
  exact ⟨I5 Hp.out.symm,rfl⟩
def Li (u : World) (A : Option Addr) (l : List Int) : Prop :=
 l ≠ [] → ∃ b off,A = some ⟨b,off,none⟩ ∧ b < u.heap.size ∧ ∀ i x,l[i]? = some x → u.cell? ⟨b,off + i,none⟩ = some (.int .i64 x)
theorem Li.nil (u : World) (A : Option Addr) : Li u A []:=fun h=>absurd rfl h
theorem Li.grow {u u' : World} {A : Option Addr} {l : List Int} (h : Li u A l) (hg : A3 u u') : Li u' A l:=fun hn=>by
 obtain ⟨b,off,e,hb,hc⟩:=h hn
 exact ⟨b,off,e,Nat.lt_of_lt_of_le hb hg.size,fun i x hi=>(hg.cell (p:=⟨b,off + i,none⟩) hb).trans (hc i x hi)⟩
def gi (l : List Int) (i : Nat) : Int:=(l[i]?).getD 0
theorem B2h {l : List Int} {i : Nat} (h : i < l.length) : l[i]? = some (gi l i):=by
 unfold gi;rw [List.getElem?_eq_getElem h];rfl
theorem Li.cell {u : World} {A : Option Addr} {l : List Int} (h : Li u A l) {i : Nat} (hi : i < l.length) : ∃ b off,A = some ⟨b,off,none⟩ ∧ u.cell? ⟨b,off + i,none⟩ = some (.int .i64 (gi l i)):=by
 obtain ⟨b,off,e,hb,hc⟩:=h (fun h0=>by rw [h0] at hi;cases hi)
 exact ⟨b,off,e,hc i _ (B2h hi)⟩
def cnt (t : Nat → Bool) : Nat → Nat
 | 0=>0
 | n + 1=>cnt t n + (if t n then 1 else 0)
def A13 (b2 b3 : Nat) (A B : Option Addr) (m c d : Nat) (l l' : List Int) (W : World) : Prop :=
 Blk W b2 22 #[.slice A m c] ∧ Blk W b3 22 #[.slice B m d] ∧ Li W A l ∧ Li W B l'
theorem A13.mk {b2 b3 : Nat} {A B : Option Addr} {m c d : Nat} {l l' : List Int} {u : World} (h1 : Blk u b2 22 #[.slice A m c]) (h2 : Blk u b3 22 #[.slice B m d]) (h3 : Li u A l) (h4 : Li u B l') : A13 b2 b3 A B m c d l l' u:=⟨h1,h2,h3,h4⟩
theorem A13.grow {b2 b3 : Nat} {A B : Option Addr} {m c d : Nat} {l l' : List Int} {u u' : World} (hg : A3 u u') (h : A13 b2 b3 A B m c d l l' u) : A13 b2 b3 A B m c d l l' u':=⟨h.1.grow hg,h.2.1.grow hg,h.2.2.1.grow hg,h.2.2.2.grow hg⟩
abbrev Rw:=Option Addr × Nat × List Int
def A3V (u : World) (A : Option Addr) (rs : List Rw) : Prop :=
 rs ≠ [] → ∃ b off,A = some ⟨b,off,none⟩ ∧ b < u.heap.size ∧ ∀ i r,rs[i]? = some r → u.cell? ⟨b,off + i,none⟩ = some (.slice r.1 r.2.2.length r.2.1) ∧ Li u r.1 r.2.2
theorem A3V.grow {u u' : World} {A : Option Addr} {rs : List Rw} (h : A3V u A rs) (hg : A3 u u') : A3V u' A rs:=fun hn=>by
 obtain ⟨b,off,e,hb,hc⟩:=h hn
 exact ⟨b,off,e,Nat.lt_of_lt_of_le hb hg.size,fun i r hi=>⟨(hg.cell (p:=⟨b,off + i,none⟩) hb).trans (hc i r hi).1,(hc i r hi).2.grow hg⟩⟩
def X4 (l : List Int) : Array Value:=(l.map fun x=>Value.int .i64 x).toArray
theorem B1d (l : List Int) (i : Nat) : (X4 l)[i]? = (l[i]?).map fun x=>Value.int .i64 x:=by
 unfold X4;simp
theorem B3I (l : List Int) (i : Nat) (y : Int) : (X4 l).setIfInBounds i (.int .i64 y) = X4 (l.set i y):=by
 unfold X4
 rw [List.setIfInBounds_toArray,List.map_set]
theorem B0O {u : World} {b : Nat} {l : List Int} (h : Blk u b 3 (X4 l)) : Li u (some ⟨b,0,none⟩) l:=fun _ =>
 ⟨b,0,rfl,h.lt,fun i x hi=>by rw [Nat.zero_add,h.cell,B1d,hi];rfl⟩
def A00 (l : List Value) : Array Value:=l.toArray
def A0z (l l' : List Int) (r i j : Nat) : Int:=(cnt (fun s=>gi l s == (i : Int) && gi l' s == (j : Int)) r : Nat)
def Z3 (l l' : List Int) (r k i : Nat) : List Int:=(List.range k).map (A0z l l' r i)
theorem A9U (l l' : List Int) (r i j : Nat) : A0z l l' (r + 1) i j = A0z l l' r i j + if gi l r = (i : Int) ∧ gi l' r = (j : Int) then 1 else 0:=by
 unfold A0z
 simp only [cnt]
 by_cases h : gi l r = (i : Int) ∧ gi l' r = (j : Int)
 ·rw [if_pos h,if_pos (by simp [h.1,h.2])];omega
 ·rw [if_neg h,if_neg (by simpa using h)];omega
theorem B3n (l l' : List Int) (r k i j : Nat) (h1 : gi l r = (i : Int)) (h2 : gi l' r = (j : Int)) : (Z3 l l' r k i).set j (A0z l l' r i j + 1) = Z3 l l' (r + 1) k i:=by
 unfold Z3
 refine List.ext_getElem (by simp) fun t g1 g2=>?_
 rw [List.getElem_set]
 simp only [List.getElem_map,List.getElem_range,A9U,h1,h2,true_and]
 by_cases e : j = t
 ·subst e;simp
 ·rw [if_neg e,if_neg (by omega)];omega
theorem B1L (l l' : List Int) (r k i : Nat) (h1 : gi l r ≠ (i : Int)) : Z3 l l' r k i = Z3 l l' (r + 1) k i:=by
 unfold Z3
 refine List.map_congr_left fun t _=>?_
 rw [A9U,if_neg (fun h=>h1 h.1)]
 omega
end Go.Proofs.YtlkniebmjdoopaaGreatDoor
