/- Contracts and laws. -/
import Derived.Test.YtlkniebmjdoopaaGreatDoorR24
set_option linter.unusedSimpArgs false
set_option linter.unusedVariables false
set_option maxHeartbeats 1000000
set_option maxRecDepth 100000
namespace Go.Proofs.YtlkniebmjdoopaaGreatDoor
open Go.RowKit
theorem A5M (x y : Ax) (a b : Nat) (w : World) (hx : Rn w x a) (hy : Rn w y b) (h0 : b ≠ 0) (ha : bl a ≤ BIG) : Calls Tryz.prog 141 #[nvV x a,nvV y b] w (Ret (nnR (a / b) (a % b)) w):=by
 by_cases hs : b < W32
 ·exact B4q x y a b w hx hy h0 hs
 ·by_cases hlt : a < b
  ·exact B0I x y a b w hx hy hlt
  ·refine B39 x y a b w hx hy (by omega) ?_ ha
   have h1:=A6W (Nat.not_lt.1 hs)
   have h2 : ln W32 = 2:=by decide +kernel
   omega
theorem B2m (x y : Ax) (a b : Nat) (w : World) (hx : Rn w x a) (hy : Rn w y b) (ha : bl a ≤ BIG) (hb : bl b ≤ BIG) : Calls Tryz.prog 140 #[nvV x a,nvV y b] w (Ret (I8 (Nat.gcd a b)) w):=by
 have Hx:=Lib.hid hx
 have Hy:=Lib.hid hy
 have Ha:=Lib.hid ha
 have Hb:=Lib.hid hb
 obtain ⟨g,hg⟩ : ∃ g,g = Nat.gcd a b:=⟨_,rfl⟩
 rw [← hg]
 have Hg:=Lib.hid hg.symm
 clear hx hy ha hb hg
 go_enter Tryz.func140,Tryz.ntmps140
 go_wp2_with fail
 go_loopg [0,1] b (fun k s t wr=>∃ (x y : Ax) (a : Nat),s = nvV x a ∧ t = nvV y k ∧ Nat.gcd a k = g ∧ (bl a ≤ BIG ∧ bl k ≤ BIG) ∧ Rn wr x a ∧ Rn wr y k ∧ A3 w wr)
 case atStart=>exact ⟨x,y,a,rfl,rfl,Hg.out,⟨Ha.out,Hb.out⟩,Hx.out,Hy.out,A3.refl _⟩
 case round =>
  obtain ⟨x,y,a,rfl,rfl,hgc,hs,hx,hy,hG⟩:=hrel
  rcases Nat.eq_zero_or_pos gk with h0 | h0
  ·have hl : ¬ 0 < ln gk:=by rw [h0,A5C];omega
   have Hgc : Hid (a = g):=by rw [h0,Nat.gcd_zero_right] at hgc;exact Lib.hid hgc
   have Hr:=Lib.hid hx
   clear hgc hs hx hy h0
   go_wp2_with fail
   go_ret
   exact ⟨x,by rw [← Hgc.out];rfl,by rw [← Hgc.out];exact Hr.out,hG⟩
  ·have hl : 0 < ln gk:=A05.2 (by omega)
   have hdv:=A5M x y a gk wr hx hy (by omega) hs.1
   obtain ⟨q,hq⟩ : ∃ q,q = a / gk:=⟨_,rfl⟩
   obtain ⟨m,hm⟩ : ∃ m,m = a % gk:=⟨_,rfl⟩
   have hmlt : m < gk:=by rw [hm];exact Nat.mod_lt _ h0
   have Hgc : Hid (Nat.gcd gk m = g):=by rw [hm];exact Lib.hid (W9 a gk g hgc)
   rw [← hq,← hm] at hdv
   have Hdv:=Lib.hid (Ret.nn hdv)
   have Hy:=Lib.hid hy
   have Hs : Hid (bl gk ≤ BIG ∧ bl m ≤ BIG):=Lib.hid ⟨hs.2,Nat.le_trans (N6 (Nat.le_of_lt hmlt)) hs.2⟩
   clear hgc hs hx hy hq hm hdv
   go_wp2_with (go_at_call 141;((with_reducible refine (Hdv.out).mono ?_);rintro e w1 ⟨y1,y2,rfl,hr1,hr2,hg1⟩))
   go_roundg m
   case rel=>exact ⟨y,y2,gk,rfl,rfl,Hgc.out,Hs.out,Hy.out.grow hg1,hr2,hG.trans hg1⟩
   case measure=>exact hmlt
theorem B2G (d : Option Tmp) (ty : TypeId) (pos : String) (af : Array Edge) (gd : Option (Nat × Bool)) : O3 Tryz.prog ⟨d,.alloc 64,ty,pos,af,gd⟩ = .cells #[.bool false,.slice none 0 0] 64:=by kernel_rfl
theorem B1I (d : Option Tmp) (ty : TypeId) (pos : String) (af : Array Edge) (gd : Option (Nat × Bool)) : O3 Tryz.prog ⟨d,.alloc 66,ty,pos,af,gd⟩ = .cells #[.bool false,.slice none 0 0,.slice none 0 0] 66:=by kernel_rfl
theorem A3Q (x : Ax) (neg : Bool) (a : Nat) : riV x (sgn neg a) = .agg #[.bool (neg && decide (a ≠ 0)),.slice x.1 (ln a) x.2]:=by
 unfold riV;rw [A8B,R0]
theorem B6Y (x : Ax) (a : Nat) (w : World) : Calls Tryz.prog 134 #[.bool false,nvV x a] w fun e w'=>e = .returned (riV x (sgn false a)) ∧ A3 w w':=by
 rw [A3Q,Bool.false_and]
 go_enter Tryz.func134,Tryz.ntmps134
 refine en1 ?_
 intro u hG b4 hB hF
 refine r0T ?_
 refine st hB hF hG 0 0 [_,_] ?_
 clear hB hG
 intro u hB hG
 refine rt Tryz.results134 ?_
 exact ⟨rfl,hG⟩
theorem B1n (x : Ax) (a : Nat) (w : World) : Calls Tryz.prog 134 #[.bool true,nvV x a] w fun e w'=>e = .returned (riV x (sgn true a)) ∧ A3 w w':=by
 rw [A3Q,Bool.true_and]
 have hd : decide (a ≠ 0) = decide (0 < ln a):=by
  have := @A05 a
  rw [decide_eq_decide];exact this.symm
 rw [hd]
 clear hd
 go_enter Tryz.func134,Tryz.ntmps134
 refine en1 ?_
 intro u hG b4 hB hF
 refine r0T ?_
 refine st hB hF hG 0 0 [_,_] ?_
 clear hB hG
 intro u hB hG
 refine rt Tryz.results134 ?_
 exact ⟨rfl,hG⟩
theorem T0 (x : Ax) (neg : Bool) (a : Nat) (w : World) : Calls Tryz.prog 134 #[.bool neg,nvV x a] w fun e w'=>e = .returned (riV x (sgn neg a)) ∧ A3 w w':=by
 cases neg
 ·exact B6Y x a w
 ·exact B1n x a w
theorem B3i (n : Int) (h0 : n < 0) (h1 : -9223372036854775808 ≤ n) (w : World) : Calls Tryz.prog 91 #[.int .i64 n] w (Ret (O1 n) w):=by
 have hw1 : IntKind.u64.wrap n = n + 18446744073709551616:=by
  simp [IntKind.wrap,IntKind.signed,IntKind.bits];omega
 have hw2 : IntKind.u64.wrap (-(n + 18446744073709551616)) = (n.natAbs : Nat):=by
  simp [IntKind.wrap,IntKind.signed,IntKind.bits];omega
 have hlt : n.natAbs < W64:=by unfold W64;omega
 have hd : decide (n < 0) = true:=by simpa using h0
 have hn : sgn true n.natAbs = n:=by rw [B2r];omega
 have Hn:=Lib.hid hn
 clear hn
 go_enter Tryz.func91,Tryz.ntmps91
 refine en1 ?_
 intro u hG b2 hB hF
 refine wp_seq ?_
 refine r0T ?_
 refine wp_cond_true (rfl) ?_
 refine wp_seq (rsC A5 [0,0,0,1,1] hB hG fun K L hN hL=>?_)
 refine gs ?_
 refine grd (I8 n.natAbs) (fun (x8 : Ax)=>?_) (C:=fun v _=>A4n n.natAbs hlt _)
 refine gmd (C:=by (rintro v ⟨⟨hgu,hB,hG,-⟩,hx8⟩;have hx8 : Rn v x8 _:=hx8;exact T0 x8 true n.natAbs _)) ?_
 refine geC hL ?_
 clear hB hG hL L
 rintro u ⟨⟨-,hB,hG,-⟩,hx8⟩
 replace hx8 : Rn u x8 _:=hx8
 refine gtT ?_
 clear hN K
 refine sv hB hF hG 0 0 [_,_] ?_
 intro u hu hBG
 replace hx8:=hx8.put hB 0 rfl (by first | decide | simp) _ _ hu
 clear hB hG hu
 obtain ⟨hB,hG⟩:=hBG
 refine rt Tryz.results91 ?_
 exact ⟨x8,congrArg (fun z : Int=>Ending.returned (riV x8 z)) Hn.out,hx8,hG⟩
theorem B61 (n : Int) (h0 : 0 ≤ n) (h1 : n ≤ 9223372036854775807) (w : World) : Calls Tryz.prog 91 #[.int .i64 n] w (Ret (O1 n) w):=by
 have hw1 : IntKind.u64.wrap n = (n.natAbs : Nat):=by
  simp [IntKind.wrap,IntKind.signed,IntKind.bits];omega
 have hlt : n.natAbs < W64:=by unfold W64;omega
 have hd : decide (n < 0) = false:=by simpa using h0
 have hn : sgn false n.natAbs = n:=by rw [A1J];omega
 have Hn:=Lib.hid hn
 clear hn
 go_enter Tryz.func91,Tryz.ntmps91
 refine en1 ?_
 intro u hG b2 hB hF
 refine wp_seq ?_
 refine r0T ?_
 refine wp_cond_false (rfl) ?_
 refine wp_skip ?_
 refine A4 ?_
 refine wp_seq (rsC A5 [0,0,1,1] hB hG fun K L hN hL=>?_)
 refine gs ?_
 refine grd (I8 n.natAbs) (fun (x12 : Ax)=>?_) (C:=fun v _=>A4n n.natAbs hlt _)
 refine gmd (C:=by (rintro v ⟨⟨hgu,hB,hG,-⟩,hx12⟩;have hx12 : Rn v x12 _:=hx12;exact T0 x12 false n.natAbs _)) ?_
 refine geC hL ?_
 clear hB hG hL L
 rintro u ⟨⟨-,hB,hG,-⟩,hx12⟩
 replace hx12 : Rn u x12 _:=hx12
 refine gtT ?_
 clear hN K
 refine sv hB hF hG 0 0 [_,_] ?_
 intro u hu hBG
 replace hx12:=hx12.put hB 0 rfl (by first | decide | simp) _ _ hu
 clear hB hG hu
 obtain ⟨hB,hG⟩:=hBG
 refine rt Tryz.results91 ?_
 exact ⟨x12,congrArg (fun z : Int=>Ending.returned (riV x12 z)) Hn.out,hx12,hG⟩
theorem A67 (n : Int) (h0 : -9223372036854775808 ≤ n) (h1 : n ≤ 9223372036854775807) (w : World) : Calls Tryz.prog 91 #[.int .i64 n] w (Ret (O1 n) w):=by
 by_cases h : n < 0
 ·exact B3i n h h0 w
 ·exact B61 n (by omega) h1 w
theorem A4j {x y : Ax} {z : Int} {d : Nat} {q : Rat} (h1 : q.num = z) (h2 : q.den = d) : Ending.returned (.agg #[.bool (D2 z),.slice x.1 (ln z.natAbs) x.2,.slice y.1 (ln d) y.2]) = .returned (rqV x y q):=by subst h1;subst h2;rfl
theorem B1F (n d : Int) (h : d ≠ 0) : (D8 n d).num = sgn (D2 n != D2 d) (n.natAbs / Nat.gcd n.natAbs d.natAbs):=by
 have hd : d.natAbs ≠ 0:=by omega
 by_cases hn : d < 0
 ·rw [A52 n d hn,A6C _ _ hd,← A5A]
  have e1 : (X6 n).natAbs = n.natAbs:=by unfold X6;exact Int.natAbs_neg n
  rw [e1]
  have e2 : D2 d = true:=decide_eq_true hn
  rw [e2]
  by_cases h0 : n = 0
  ·subst h0;simp [sgn]
  ·congr 1
   unfold D2 X6
   rw [Bool.eq_iff_iff]
   simp
   omega
 ·rw [A7G n d hn,A6C _ _ hd,← A5A]
  have e2 : D2 d = false:=decide_eq_false hn
  rw [e2]
  simp
theorem A87 (n d : Int) (h : d ≠ 0) : (D8 n d).den = d.natAbs / Nat.gcd n.natAbs d.natAbs:=by
 have hd : d.natAbs ≠ 0:=by omega
 by_cases hn : d < 0
 ·rw [A52 n d hn,A5e _ _ hd]
  unfold X6;rw [Int.natAbs_neg]
 ·rw [A7G n d hn,A5e _ _ hd]
theorem B0c (x y : Ax) (n d : Int) (w : World) (hx : Rn w x n.natAbs) (hy : Rn w y d.natAbs) (h0 : d ≠ 0) (hn : bl n.natAbs ≤ BIG) (hd : bl d.natAbs ≤ BIG) : Calls Tryz.prog 88 #[riV x n,riV y d] w (Ret (G9 (D8 n d)) w):=by
 have He:=Lib.hid (And.intro (B1F n d h0) (A87 n d h0))
 have hd0 : d.natAbs ≠ 0:=by omega
 have g0 : Nat.gcd n.natAbs d.natAbs ≠ 0:=fun e=>hd0 (Nat.eq_zero_of_gcd_eq_zero_right e)
 go_enter Tryz.func88,Tryz.ntmps88
 refine en3 ?_
 intro u hG b4 b3 b2 hB hF
 replace hx:=hx.grow hG
 replace hy:=hy.grow hG
 refine wp_seq (rsE A5 [0,0,0,0,1,0] hB hG fun L hL=>?_)
 refine gs ?_
 refine grd (I8 (Nat.gcd n.natAbs d.natAbs)) (fun (x14 : Ax)=>?_) (C:=by (rintro v ⟨hgu,hB,hG,-⟩;exact B2m x y n.natAbs d.natAbs _ (hx.grow hgu) (hy.grow hgu) hn hd))
 refine gs ?_
 refine geT hL ?_
 clear hB hG hL L
 rintro u ⟨⟨hgu,hB,hG,-⟩,hx14⟩
 replace hx:=hx.grow hgu
 replace hy:=hy.grow hgu
 replace hx14 : Rn u x14 _:=hx14
 clear hgu
 refine wp_seq (rsE A5 [0,0,0,1,0,0,0,0,0] hB hG fun L hL=>?_)
 refine gs ?_
 refine grd (nnR (n.natAbs / Nat.gcd n.natAbs d.natAbs) (n.natAbs % Nat.gcd n.natAbs d.natAbs)) (fun (x19 : Ax × Ax)=>?_) (C:=by (rintro v ⟨hgu,hB,hG,-⟩;exact A5M x x14 n.natAbs _ _ (hx.grow hgu) (hx14.grow hgu) g0 hn))
 refine gs ?_
 refine geT hL ?_
 clear hB hG hL L
 rintro u ⟨⟨hgu,hB,hG,-⟩,hx19⟩
 replace hx:=hx.grow hgu
 replace hy:=hy.grow hgu
 replace hx14:=hx14.grow hgu
 obtain ⟨hx19a,hx19b⟩ : Rn u x19.1 _ ∧ Rn u x19.2 _:=hx19
 clear hgu
 refine wp_seq (rsE A5 [0,0,0,1,0,0,0,0,0] hB hG fun L hL=>?_)
 refine gs ?_
 refine grd (nnR (d.natAbs / Nat.gcd n.natAbs d.natAbs) (d.natAbs % Nat.gcd n.natAbs d.natAbs)) (fun (x26 : Ax × Ax)=>?_) (C:=by (rintro v ⟨hgu,hB,hG,-⟩;exact A5M y x14 d.natAbs _ _ (hy.grow hgu) (hx14.grow hgu) g0 hd))
 refine gs ?_
 refine geT hL ?_
 clear hB hG hL L
 rintro u ⟨⟨hgu,hB,hG,-⟩,hx26⟩
 replace hx:=hx.grow hgu
 replace hy:=hy.grow hgu
 replace hx14:=hx14.grow hgu
 replace hx19a:=hx19a.grow hgu
 replace hx19b:=hx19b.grow hgu
 obtain ⟨hx26a,hx26b⟩ : Rn u x26.1 _ ∧ Rn u x26.2 _:=hx26
 clear hgu
 refine wp_seq (rsC A5 [0,0,0,0,0,0,1,0,0] hB hG fun K L hN hL=>?_)
 refine gs ?_
 refine gmw (C:=fun v=>T0 x19.1 _ (n.natAbs / Nat.gcd n.natAbs d.natAbs) _) ?_
 refine gs ?_
 refine geC hL ?_
 clear hB hG hL L
 rintro u ⟨hgu,hB,hG,-⟩
 replace hx:=hx.grow hgu
 replace hy:=hy.grow hgu
 replace hx14:=hx14.grow hgu
 replace hx19a:=hx19a.grow hgu
 replace hx19b:=hx19b.grow hgu
 replace hx26a:=hx26a.grow hgu
 replace hx26b:=hx26b.grow hgu
 clear hgu
 refine gtT ?_
 clear hN K
 refine sv hB hF hG 2 0 [_,_,_] ?_
 intro u hu hBG
 replace hx:=hx.put hB 2 rfl (by first | decide | simp) _ _ hu
 replace hy:=hy.put hB 2 rfl (by first | decide | simp) _ _ hu
 replace hx14:=hx14.put hB 2 rfl (by first | decide | simp) _ _ hu
 replace hx19a:=hx19a.put hB 2 rfl (by first | decide | simp) _ _ hu
 replace hx19b:=hx19b.put hB 2 rfl (by first | decide | simp) _ _ hu
 replace hx26a:=hx26a.put hB 2 rfl (by first | decide | simp) _ _ hu
 replace hx26b:=hx26b.put hB 2 rfl (by first | decide | simp) _ _ hu
 clear hB hG hu
 obtain ⟨hB,hG⟩:=hBG
 refine rt Tryz.results88 ?_
 exact ⟨(x19.1,x26.1),A4j He.out.1 He.out.2,⟨by rw [He.out.1,R0];exact hx19a,by rw [He.out.2];exact hx26a⟩,hG⟩
theorem B0D (n d : Int) (h0 : -9223372036854775808 ≤ n) (h1 : n ≤ 9223372036854775807) (h2 : -9223372036854775808 ≤ d) (h3 : d ≤ 9223372036854775807) (hd : d ≠ 0) (w : World) : Calls Tryz.prog 82 #[.int .i64 n,.int .i64 d] w (Ret (G9 (D8 n d)) w):=by
 go_enter Tryz.func82,Tryz.ntmps82
 refine en1 ?_
 intro u hG b4 hB hF
 refine wp_seq (rsC A5 [0,1,0,1,1] hB hG fun K L hN hL=>?_)
 refine gs ?_
 refine grd (O1 n) (fun (x6 : Ax)=>?_) (C:=fun v _=>A67 n h0 h1 _)
 refine gs ?_
 refine grd (O1 d) (fun (x8 : Ax)=>?_) (C:=by (rintro v ⟨⟨hgu,hB,hG,-⟩,hx6⟩;have hx6 : Rn v x6 _:=hx6;exact A67 d h2 h3 _))
 refine grd (G9 (D8 n d)) (fun (x9 : Ax × Ax)=>?_) (C:=by (rintro v ⟨⟨⟨hgu,hB,hG,-⟩,hx6⟩,hx8⟩;have hx6 : Rn v x6 _:=hx6;have hx8 : Rn v x8 _:=hx8;exact B0c x6 x8 n d _ hx6 hx8 hd (B0j h0 h1) (B0j h2 h3)))
 refine geC hL ?_
 clear hB hG hL L
 rintro u ⟨⟨⟨⟨-,hB,hG,-⟩,hx6⟩,hx8⟩,hx9⟩
 replace hx6 : Rn u x6 _:=hx6
 replace hx8 : Rn u x8 _:=hx8
 obtain ⟨hx9a,hx9b⟩ : Rn u x9.1 _ ∧ Rn u x9.2 _:=hx9
 refine gtT ?_
 clear hN K
 refine sv hB hF hG 0 0 [_,_,_] ?_
 intro u hu hBG
 replace hx6:=hx6.put hB 0 rfl (by first | decide | simp) _ _ hu
 replace hx8:=hx8.put hB 0 rfl (by first | decide | simp) _ _ hu
 replace hx9a:=hx9a.put hB 0 rfl (by first | decide | simp) _ _ hu
 replace hx9b:=hx9b.put hB 0 rfl (by first | decide | simp) _ _ hu
 clear hB hG hu
 obtain ⟨hB,hG⟩:=hBG
 refine rt Tryz.results82 ?_
 exact ⟨x9,rfl,⟨hx9a,hx9b⟩,hG⟩
theorem B1w (w : World) : Calls Tryz.prog 92 #[.int .u64 1] w (Ret (I8 1) w):=A4n 1 (by unfold W64;omega) w
theorem A0N (n : Int) (h0 : -9223372036854775808 ≤ n) (h1 : n ≤ 9223372036854775807) (w : World) : Calls Tryz.prog 33 #[.int .i64 n] w (Ret (G9 (B1 n)) w):=by
 go_enter Tryz.func33,Tryz.ntmps33
 refine en1 ?_
 intro u hG b2 hB hF
 refine wp_seq (rsC A5 [0,1,1,0] hB hG fun K L hN hL=>?_)
 refine gs ?_
 refine grd (O1 n) (fun (x4 : Ax)=>?_) (C:=fun v _=>A67 n h0 h1 _)
 refine grd (I8 1) (fun (x5 : Ax)=>?_) (C:=by (rintro v ⟨⟨hgu,hB,hG,-⟩,hx4⟩;have hx4 : Rn v x4 _:=hx4;exact B1w _))
 refine gs ?_
 refine geC hL ?_
 clear hB hG hL L
 rintro u ⟨⟨⟨-,hB,hG,-⟩,hx4⟩,hx5⟩
 replace hx4 : Rn u x4 _:=hx4
 replace hx5 : Rn u x5 _:=hx5
 refine gtT ?_
 clear hN K
 refine sv hB hF hG 0 0 [_,_,_] ?_
 intro u hu hBG
 replace hx4:=hx4.put hB 0 rfl (by first | decide | simp) _ _ hu
 replace hx5:=hx5.put hB 0 rfl (by first | decide | simp) _ _ hu
 clear hB hG hu
 obtain ⟨hB,hG⟩:=hBG
 refine rt Tryz.results33 ?_
 exact ⟨(x4,x5),A4j (A5P n) (A5B n),⟨by rw [A5P];exact hx4,by rw [A5B];exact hx5⟩,hG⟩
theorem A9a {x : Ax} {y z : Int} (h : y = z) : Ending.returned (riV x y) = .returned (riV x z):=by rw [h]
theorem B3X {u : World} {x : Ax} {neg : Bool} {n : Nat} {z : Int} (h : sgn neg n = z) (hr : Rn u x n) : Rn u x z.natAbs:=by rw [← h,R0];exact hr
theorem A3a {w u : World} {x : Ax} {neg : Bool} {n : Nat} {z : Int} (h : sgn neg n = z) (hr : Rn u x n) (hG : A3 w u) : Ret (O1 z) w (.returned (riV x (sgn neg n))) u:=⟨x,A9a h,B3X h hr,hG⟩
theorem B10 {a b : Nat} (h : decide (0 ≤ E3 a b) = true) : b ≤ a:=by
 have h:=of_decide_eq_true h
 unfold E3 at h
 split at h
 ·omega
 ·omega
theorem B5Q {a b : Nat} (h : decide (0 ≤ E3 a b) = false) : a < b:=by
 have h:=of_decide_eq_false h
 unfold E3 at h
 split at h
 ·assumption
 ·split at h <;> omega
theorem A7q (a b : Int) : bl (N1 a b).natAbs ≤ bl a.natAbs + bl b.natAbs:=by unfold N1;rw [Int.natAbs_mul];exact M9 _ _
theorem B4C (a b : Int) : bl (T4 a b).natAbs ≤ max (bl a.natAbs) (bl b.natAbs) + 1:=Nat.le_trans (N6 (Int.natAbs_add_le a b)) (A46 _ _)
theorem A8m (x y : Ax) (q : Rat) (w : World) : Calls Tryz.prog 90 #[rqV x y q] w fun e w'=>e = .returned (riV y (sgn false q.den)) ∧ A3 w w':=by
 rw [A3Q,Bool.false_and]
 have hI:=fun W=>T0 y false q.den W
 simp only [A3Q,Bool.false_and] at hI
 go_enter Tryz.func90,Tryz.ntmps90
 refine en2 ?_
 intro u hG b2 b1 hB hF
 refine wp_seq (rsC A5 [0,0,1] hB hG fun K L hN hL=>?_)
 refine gs ?_
 refine gmw (C:=fun v=>hI _) ?_
 refine geC hL ?_
 clear hB hG hL L
 rintro u ⟨-,hB,hG,-⟩
 refine gtT ?_
 clear hN K
 refine st hB hF hG 1 0 [_,_] ?_
 clear hB hG
 intro u hB hG
 refine rt Tryz.results90 ?_
 exact ⟨rfl,hG⟩
theorem B6M (x : Ax) (z : Int) (w : World) : Calls Tryz.prog 110 #[riV x z] w fun e w'=>e = .returned (riV x (X6 z)) ∧ A3 w w':=by
 go_enter Tryz.func110,Tryz.ntmps110
 refine en2 ?_
 intro u hG b2 b1 hB hF
 refine wp_seq (rsC A5 [0,0,0,0,0,1] hB hG fun K L hN hL=>?_)
 refine gs ?_
 refine gmw (C:=fun v=>T0 x _ z.natAbs _) ?_
 refine geC hL ?_
 clear hB hG hL L
 rintro u ⟨-,hB,hG,-⟩
 refine gtT ?_
 clear hN K
 refine st hB hF hG 1 0 [_,_] ?_
 clear hB hG
 intro u hB hG
 refine rt Tryz.results110 ?_
 exact ⟨A9a (A9V z),hG⟩
theorem B2H (x : Ax) (z : Int) (w : World) : Calls Tryz.prog 147 #[riV x z] w fun e w'=>e = .returned (.int .i64 z.sign) ∧ A3 w w':=by
 go_enter Tryz.func147,Tryz.ntmps147
 refine en1 ?_
 intro u hG b1 hB hF
 refine wp_seq ?_
 refine wp_block ?_
 refine r0T ?_
 refine wp_cond_split rfl ?_ ?_
 ·intro ht
  have ht3:=ht
  refine r0T ?_
  refine rt Tryz.results147 ?_
  have h2 : ln z.natAbs = 0:=by simpa using ht3
  have h3 : z = 0:=by have := @A6i z.natAbs;omega
  exact ⟨J6 (by rw [h3];rfl),hG⟩
 ·intro ht
  have ht3:=ht
  refine r0T ?_
  refine wp_cond_split rfl ?_ ?_
  ·intro ht
   have ht8:=ht
   refine r0T ?_
   refine rt Tryz.results147 ?_
   have h : z < 0:=of_decide_eq_true ht8
   exact ⟨J6 (Int.sign_eq_neg_one_of_neg h).symm,hG⟩
  ·intro ht
   have ht8:=ht
   refine wp_skip ?_
   refine D5 ?_
   refine A4 ?_
   refine r0T ?_
   refine rt Tryz.results147 ?_
   have h : ¬ z < 0:=of_decide_eq_false ht8
   have h2 : ¬ ln z.natAbs = 0:=by simpa using ht3
   have h3 : z ≠ 0:=by have := @A6i z.natAbs;omega
   exact ⟨J6 (Int.sign_eq_one_of_pos (by omega)).symm,hG⟩
theorem A9Z (x y : Ax) (a b : Int) (w : World) (hx : Rn w x a.natAbs) (hy : Rn w y b.natAbs) (ha : bl a.natAbs ≤ 1099511627776) (hb : bl b.natAbs ≤ 1099511627776) : Calls Tryz.prog 89 #[riV x a,riV y b] w (Ret (O1 (N1 a b)) w):=by
 go_enter Tryz.func89,Tryz.ntmps89
 refine en3 ?_
 intro u hG b4 b3 b2 hB hF
 replace hx:=hx.grow hG
 replace hy:=hy.grow hG
 refine wp_seq (rdC A5 [] [(0,0),(0,1),(0,2),(0,3),(0,4),(0,5),(0,6),(0,7),(0,8),(1,9),(1,10)] hB hG fun K L hN hL=>?_)
 refine gs ?_
 refine grd (I8 (a.natAbs * b.natAbs)) (fun (x14 : Ax)=>?_) (C:=by (rintro v ⟨hgu,hB,hG,-⟩;exact A6q x y a.natAbs b.natAbs _ (hx.grow hgu) (hy.grow hgu) ha hb))
 refine gmd (C:=by (rintro v ⟨⟨hgu,hB,hG,-⟩,hx14⟩;have hx14 : Rn v x14 _:=hx14;exact T0 x14 _ (a.natAbs * b.natAbs) _)) ?_
 refine geC hL ?_
 clear hB hG hL L
 rintro u ⟨⟨hgu,hB,hG,-⟩,hx14⟩
 replace hx:=hx.grow hgu
 replace hy:=hy.grow hgu
 replace hx14 : Rn u x14 _:=hx14
 clear hgu
 refine gtT ?_
 clear hN K
 refine sv hB hF hG 2 0 [_,_] ?_
 intro u hu hBG
 replace hx:=hx.put hB 2 rfl (by first | decide | simp) _ _ hu
 replace hy:=hy.put hB 2 rfl (by first | decide | simp) _ _ hu
 replace hx14:=hx14.put hB 2 rfl (by first | decide | simp) _ _ hu
 clear hB hG hu
 obtain ⟨hB,hG⟩:=hBG
 refine rt Tryz.results89 ?_
 exact A3a (B0A a b) hx14 hG
theorem B3c (x y : Ax) (a b : Int) (w : World) (hx : Rn w x a.natAbs) (hy : Rn w y b.natAbs) (ha : bl a.natAbs ≤ 1099511627776) (hb : bl b.natAbs ≤ 1099511627776) : Calls Tryz.prog 135 #[riV x a,riV y b] w (Ret (O1 (T4 a b)) w):=by
 go_enter Tryz.func135,Tryz.ntmps135
 refine en3 ?_
 intro u hG b4 b3 b2 hB hF
 replace hx:=hx.grow hG
 replace hy:=hy.grow hG
 refine wp_seq ?_
 refine r0T ?_
 refine wp_cond_split rfl ?_ ?_
 ·intro ht
  have ht9:=ht
  refine wp_seq (rdC A5 [] [(0,0),(0,1),(0,2),(0,3),(0,4),(0,5),(1,6),(1,7)] hB hG fun K L hN hL=>?_)
  refine gs ?_
  refine grd (I8 (a.natAbs + b.natAbs)) (fun (x16 : Ax)=>?_) (C:=by (rintro v ⟨hgu,hB,hG,-⟩;exact B60 x y a.natAbs b.natAbs _ (hx.grow hgu) (hy.grow hgu) ha hb))
  refine gmd (C:=by (rintro v ⟨⟨hgu,hB,hG,-⟩,hx16⟩;have hx16 : Rn v x16 _:=hx16;exact T0 x16 _ (a.natAbs + b.natAbs) _)) ?_
  refine geC hL ?_
  clear hB hG hL L
  rintro u ⟨⟨hgu,hB,hG,-⟩,hx16⟩
  replace hx:=hx.grow hgu
  replace hy:=hy.grow hgu
  replace hx16 : Rn u x16 _:=hx16
  clear hgu
  refine gtT ?_
  clear hN K
  refine sv hB hF hG 2 0 [_,_] ?_
  intro u hu hBG
  replace hx:=hx.put hB 2 rfl (by first | decide | simp) _ _ hu
  replace hy:=hy.put hB 2 rfl (by first | decide | simp) _ _ hu
  replace hx16:=hx16.put hB 2 rfl (by first | decide | simp) _ _ hu
  clear hB hG hu
  obtain ⟨hB,hG⟩:=hBG
  refine rt Tryz.results135 ?_
  exact A3a (A8n (by simpa using ht9)) hx16 hG
 ·intro ht
  have ht9:=ht
  refine wp_skip ?_
  refine A4 ?_
  refine wp_seq ?_
  refine wp_seq (rsE A5 [0,0,0,0,1,0] hB hG fun L hL=>?_)
  refine gs ?_
  refine gmd (C:=fun v ⟨hgu,hB,hG,_⟩=>A2r x y a.natAbs b.natAbs _ (hx.grow hgu) (hy.grow hgu)) ?_
  refine gs ?_
  refine geT hL ?_
  clear hB hG hL L
  rintro u ⟨hgu,hB,hG,-⟩
  replace hx:=hx.grow hgu
  replace hy:=hy.grow hgu
  clear hgu
  refine wp_cond_split rfl ?_ ?_
  ·intro ht
   have ht23:=ht
   have hle:=B10 ht
   refine wp_seq (rdC A5 [] [(0,0),(0,1),(0,2),(0,3),(0,4),(0,5),(1,6),(1,7)] hB hG fun K L hN hL=>?_)
   refine gs ?_
   refine grd (I8 (a.natAbs - b.natAbs)) (fun (x30 : Ax)=>?_) (C:=by (rintro v ⟨hgu,hB,hG,-⟩;exact A83 x y a.natAbs b.natAbs _ (hx.grow hgu) (hy.grow hgu) hle ha))
   refine gmd (C:=by (rintro v ⟨⟨hgu,hB,hG,-⟩,hx30⟩;have hx30 : Rn v x30 _:=hx30;exact T0 x30 _ (a.natAbs - b.natAbs) _)) ?_
   refine geC hL ?_
   clear hB hG hL L
   rintro u ⟨⟨hgu,hB,hG,-⟩,hx30⟩
   replace hx:=hx.grow hgu
   replace hy:=hy.grow hgu
   replace hx30 : Rn u x30 _:=hx30
   clear hgu
   refine gtT ?_
   clear hN K
   refine sv hB hF hG 2 0 [_,_] ?_
   intro u hu hBG
   replace hx:=hx.put hB 2 rfl (by first | decide | simp) _ _ hu
   replace hy:=hy.put hB 2 rfl (by first | decide | simp) _ _ hu
   replace hx30:=hx30.put hB 2 rfl (by first | decide | simp) _ _ hu
   clear hB hG hu
   obtain ⟨hB,hG⟩:=hBG
   refine rt Tryz.results135 ?_
   exact A3a (A5m (by simpa using ht9) hle) hx30 hG
  ·intro ht
   have ht23:=ht
   have hlt:=B5Q ht
   refine wp_skip ?_
   refine A4 ?_
   refine wp_seq (rdC A5 [] [(0,0),(0,1),(0,2),(0,3),(0,4),(0,5),(1,6),(1,7)] hB hG fun K L hN hL=>?_)
   refine gs ?_
   refine grd (I8 (b.natAbs - a.natAbs)) (fun (x38 : Ax)=>?_) (C:=by (rintro v ⟨hgu,hB,hG,-⟩;exact A83 y x b.natAbs a.natAbs _ (hy.grow hgu) (hx.grow hgu) (Nat.le_of_lt hlt) hb))
   refine gmd (C:=by (rintro v ⟨⟨hgu,hB,hG,-⟩,hx38⟩;have hx38 : Rn v x38 _:=hx38;exact T0 x38 _ (b.natAbs - a.natAbs) _)) ?_
   refine geC hL ?_
   clear hB hG hL L
   rintro u ⟨⟨hgu,hB,hG,-⟩,hx38⟩
   replace hx:=hx.grow hgu
   replace hy:=hy.grow hgu
   replace hx38 : Rn u x38 _:=hx38
   clear hgu
   refine gtT ?_
   clear hN K
   refine sv hB hF hG 2 0 [_,_] ?_
   intro u hu hBG
   replace hx:=hx.put hB 2 rfl (by first | decide | simp) _ _ hu
   replace hy:=hy.put hB 2 rfl (by first | decide | simp) _ _ hu
   replace hx38:=hx38.put hB 2 rfl (by first | decide | simp) _ _ hu
   clear hB hG hu
   obtain ⟨hB,hG⟩:=hBG
   refine rt Tryz.results135 ?_
   exact A3a (A7S (by simpa using ht9) (Nat.not_le.2 hlt)) hx38 hG
abbrev Az:=Ax × Ax
def Rz (u : World) (p : Az) (q : Rat) : Prop:=Rn u p.1 q.num.natAbs ∧ Rn u p.2 q.den
theorem Rz.grow {u u' : World} {p : Az} {q : Rat} (h : Rz u p q) (hg : A3 u u') : Rz u' p q:=⟨h.1.grow hg,h.2.grow hg⟩
theorem A7i (x y : Ax) (n : Int) (d : Nat) (q : Rat) (w : World) (hx : Rn w x n.natAbs) (hy : Rn w y d) (h0 : d ≠ 0) (hn : bl n.natAbs ≤ BIG) (hd : bl d ≤ BIG) (he : D8 n (sgn false d) = q) : Calls Tryz.prog 88 #[riV x n,riV y (sgn false d)] w (Ret (G9 q) w):=by
 rw [← he]
 exact B0c x y n (sgn false d) w hx (by rw [R0];exact hy) (by rw [A1J];omega) hn (by rw [R0];exact hd)
theorem B0O (x y : Ax) (a : Int) (d : Nat) (w : World) (hx : Rn w x a.natAbs) (hy : Rn w y d) (ha : bl a.natAbs ≤ 1099511627776) (hb : bl d ≤ 1099511627776) : Calls Tryz.prog 89 #[riV x a,riV y (sgn false d)] w (Ret (O1 (N1 a (sgn false d))) w) :=
 A9Z x y a (sgn false d) w hx (by rw [R0];exact hy) ha (by rw [R0];exact hb)
theorem A3N (q : Rat) : Rat.divInt q.num (q.den : Int) = q:=by rw [Rat.divInt_ofNat];exact Rat.mkRat_self q
theorem B03 (q : Rat) : ((q.den : Nat) : Int) ≠ 0:=by have := q.den_nz;omega
theorem B2Q (a b : Rat) : D8 (T4 (N1 a.num (sgn false b.den)) (N1 b.num (sgn false a.den))) (sgn false (a.den * b.den)) = I7 a b:=by
 unfold D8 T4 N1 I7
 rw [A1J,A1J,A1J,Int.natCast_mul,← Rat.divInt_add_divInt _ _ (B03 a) (B03 b),A3N,A3N]
theorem B2D (a b : Rat) : D8 (N1 a.num b.num) (sgn false (a.den * b.den)) = E2 a b:=by
 unfold D8 N1 E2
 rw [A1J,Int.natCast_mul,← Rat.divInt_mul_divInt,A3N,A3N]
theorem A8L (a : Int) (d : Nat) : bl (N1 a (sgn false d)).natAbs ≤ bl a.natAbs + bl d:=by have := A7q a (sgn false d);rw [R0] at this;exact this
theorem B5p (x1 y1 x2 y2 : Ax) (a b : Rat) (w : World) (h1 : Rn w x1 a.num.natAbs) (h2 : Rn w y1 a.den) (h3 : Rn w x2 b.num.natAbs) (h4 : Rn w y2 b.den) (h : qs a + qs b ≤ BIG) : Calls Tryz.prog 94 #[rqV x1 y1 a,rqV x2 y2 b] w (Ret (G9 (E2 a b)) w):=by
 have z1:=F7 a
 have z2:=F5 a
 have z3:=F7 b
 have z4:=F5 b
 have z5:=A7q a.num b.num
 have z6:=M9 a.den b.den
 have hBl:=K8
 have he:=B2D a b
 have hd0 : a.den * b.den ≠ 0:=Nat.ne_of_gt (Nat.mul_pos a.den_pos b.den_pos)
 go_enter Tryz.func94,Tryz.ntmps94
 refine en3 ?_
 intro u hG b4 b3 b2 hB hF
 replace h1:=h1.grow hG
 replace h2:=h2.grow hG
 replace h3:=h3.grow hG
 replace h4:=h4.grow hG
 refine wp_seq (rdC A5 [] [(0,0),(0,1),(0,2),(0,3),(0,5),(0,6),(0,7),(0,8),(1,4),(1,9),(1,10),(1,11)] hB hG fun K L hN hL=>?_)
 refine gs ?_
 refine grd (O1 (N1 a.num b.num)) (fun (x9 : Ax)=>?_) (C:=by (rintro v ⟨hgu,hB,hG,-⟩;exact A9Z x1 x2 a.num b.num _ (h1.grow hgu) (h3.grow hgu) (by omega) (by omega)))
 refine grd (I8 (a.den * b.den)) (fun (x14 : Ax)=>?_) (C:=by (rintro v ⟨⟨hgu,hB,hG,-⟩,hx9⟩;have hx9 : Rn v x9 _:=hx9;exact A6q y1 y2 a.den b.den _ (h2.grow hgu) (h4.grow hgu) (by omega) (by omega)))
 refine gmd (C:=by (rintro v ⟨⟨⟨hgu,hB,hG,-⟩,hx9⟩,hx14⟩;have hx9 : Rn v x9 _:=hx9;have hx14 : Rn v x14 _:=hx14;exact T0 x14 _ (a.den * b.den) _)) ?_
 refine grd (G9 (E2 a b)) (fun (x16 : Ax × Ax)=>?_) (C:=by (rintro v ⟨⟨⟨hgu,hB,hG,-⟩,hx9⟩,hx14⟩;have hx9 : Rn v x9 _:=hx9;have hx14 : Rn v x14 _:=hx14;exact A7i x9 x14 (N1 a.num b.num) (a.den * b.den) _ _ hx9 hx14 hd0 (by omega) (by omega) he))
 refine geC hL ?_
 clear hB hG hL L
 rintro u ⟨⟨⟨⟨hgu,hB,hG,-⟩,hx9⟩,hx14⟩,hx16⟩
 replace h1:=h1.grow hgu
 replace h2:=h2.grow hgu
 replace h3:=h3.grow hgu
 replace h4:=h4.grow hgu
 replace hx9 : Rn u x9 _:=hx9
 replace hx14 : Rn u x14 _:=hx14
 obtain ⟨hx16a,hx16b⟩ : Rn u x16.1 _ ∧ Rn u x16.2 _:=hx16
 clear hgu
 refine gtT ?_
 clear hN K
 refine sv hB hF hG 2 0 [_,_,_] ?_
 intro u hu hBG
 replace h1:=h1.put hB 2 rfl (by first | decide | simp) _ _ hu
 replace h2:=h2.put hB 2 rfl (by first | decide | simp) _ _ hu
 replace h3:=h3.put hB 2 rfl (by first | decide | simp) _ _ hu
 replace h4:=h4.put hB 2 rfl (by first | decide | simp) _ _ hu
 replace hx9:=hx9.put hB 2 rfl (by first | decide | simp) _ _ hu
 replace hx14:=hx14.put hB 2 rfl (by first | decide | simp) _ _ hu
 replace hx16a:=hx16a.put hB 2 rfl (by first | decide | simp) _ _ hu
 replace hx16b:=hx16b.put hB 2 rfl (by first | decide | simp) _ _ hu
 clear hB hG hu
 obtain ⟨hB,hG⟩:=hBG
 refine rt Tryz.results94 ?_
 exact ⟨x16,rfl,⟨hx16a,hx16b⟩,hG⟩
theorem B3m (x1 y1 x2 y2 : Ax) (a b : Rat) (w : World) (h1 : Rn w x1 a.num.natAbs) (h2 : Rn w y1 a.den) (h3 : Rn w x2 b.num.natAbs) (h4 : Rn w y2 b.den) (h : qs a + qs b + 1 ≤ BIG) : Calls Tryz.prog 84 #[rqV x1 y1 a,rqV x2 y2 b] w (Ret (G9 (I7 a b)) w):=by
 have z1:=F7 a
 have z2:=F5 a
 have z3:=F7 b
 have z4:=F5 b
 have z5:=A8L a.num b.den
 have z5':=A8L b.num a.den
 have z6:=M9 a.den b.den
 have z7:=B4C (N1 a.num (sgn false b.den)) (N1 b.num (sgn false a.den))
 have hBl:=K8
 have he:=B2Q a b
 have hd0 : a.den * b.den ≠ 0:=Nat.ne_of_gt (Nat.mul_pos a.den_pos b.den_pos)
 have hm1:=fun W e1 e2=>B0O x1 y2 a.num b.den W e1 e2 (by omega) (by omega)
 have hm2:=fun W e1 e2=>B0O x2 y1 b.num a.den W e1 e2 (by omega) (by omega)
 generalize N1 a.num (sgn false b.den) = n1 at *
 generalize N1 b.num (sgn false a.den) = n2 at *
 go_enter Tryz.func84,Tryz.ntmps84
 refine en3 ?_
 intro u hG b4 b3 b2 hB hF
 replace h1:=h1.grow hG
 replace h2:=h2.grow hG
 replace h3:=h3.grow hG
 replace h4:=h4.grow hG
 refine wp_seq (rdC A5 [] [(0,0),(0,1),(0,2),(0,5),(0,6),(0,7),(0,11),(0,12),(0,13),(0,14),(1,3),(1,4),(1,8),(1,9),(1,10),(1,15),(1,16),(1,17)] hB hG fun K L hN hL=>?_)
 refine gs ?_
 refine gmw (C:=fun v=>A8m _ _ _ _) ?_
 refine grd (O1 n1) (fun (x9 : Ax)=>?_) (C:=by (rintro v ⟨hgu,hB,hG,-⟩;exact hm1 _ (h1.grow hgu) (h4.grow hgu)))
 refine gmd (C:=by (rintro v ⟨⟨hgu,hB,hG,-⟩,hx9⟩;have hx9 : Rn v x9 _:=hx9;exact A8m _ _ _ _)) ?_
 refine grd (O1 n2) (fun (x14 : Ax)=>?_) (C:=by (rintro v ⟨⟨hgu,hB,hG,-⟩,hx9⟩;have hx9 : Rn v x9 _:=hx9;exact hm2 _ (h3.grow hgu) (h2.grow hgu)))
 refine grd (O1 (T4 n1 n2)) (fun (x15 : Ax)=>?_) (C:=by (rintro v ⟨⟨⟨hgu,hB,hG,-⟩,hx9⟩,hx14⟩;have hx9 : Rn v x9 _:=hx9;have hx14 : Rn v x14 _:=hx14;exact B3c x9 x14 n1 n2 _ hx9 hx14 (by omega) (by omega)))
 refine grd (I8 (a.den * b.den)) (fun (x20 : Ax)=>?_) (C:=by (rintro v ⟨⟨⟨⟨hgu,hB,hG,-⟩,hx9⟩,hx14⟩,hx15⟩;have hx9 : Rn v x9 _:=hx9;have hx14 : Rn v x14 _:=hx14;have hx15 : Rn v x15 _:=hx15;exact A6q y1 y2 a.den b.den _ (h2.grow hgu) (h4.grow hgu) (by omega) (by omega)))
 refine gmd (C:=by (rintro v ⟨⟨⟨⟨⟨hgu,hB,hG,-⟩,hx9⟩,hx14⟩,hx15⟩,hx20⟩;have hx9 : Rn v x9 _:=hx9;have hx14 : Rn v x14 _:=hx14;have hx15 : Rn v x15 _:=hx15;have hx20 : Rn v x20 _:=hx20;exact T0 x20 _ (a.den * b.den) _)) ?_
 refine grd (G9 (I7 a b)) (fun (x22 : Ax × Ax)=>?_) (C:=by (rintro v ⟨⟨⟨⟨⟨hgu,hB,hG,-⟩,hx9⟩,hx14⟩,hx15⟩,hx20⟩;have hx9 : Rn v x9 _:=hx9;have hx14 : Rn v x14 _:=hx14;have hx15 : Rn v x15 _:=hx15;have hx20 : Rn v x20 _:=hx20;exact A7i x15 x20 (T4 n1 n2) (a.den * b.den) _ _ hx15 hx20 hd0 (by omega) (by omega) he))
 refine geC hL ?_
 clear hB hG hL L
 rintro u ⟨⟨⟨⟨⟨⟨hgu,hB,hG,-⟩,hx9⟩,hx14⟩,hx15⟩,hx20⟩,hx22⟩
 replace h1:=h1.grow hgu
 replace h2:=h2.grow hgu
 replace h3:=h3.grow hgu
 replace h4:=h4.grow hgu
 replace hx9 : Rn u x9 _:=hx9
 replace hx14 : Rn u x14 _:=hx14
 replace hx15 : Rn u x15 _:=hx15
 replace hx20 : Rn u x20 _:=hx20
 obtain ⟨hx22a,hx22b⟩ : Rn u x22.1 _ ∧ Rn u x22.2 _:=hx22
 clear hgu
 refine gtT ?_
 clear hN K
 refine sv hB hF hG 2 0 [_,_,_] ?_
 intro u hu hBG
 replace h1:=h1.put hB 2 rfl (by first | decide | simp) _ _ hu
 replace h2:=h2.put hB 2 rfl (by first | decide | simp) _ _ hu
 replace h3:=h3.put hB 2 rfl (by first | decide | simp) _ _ hu
 replace h4:=h4.put hB 2 rfl (by first | decide | simp) _ _ hu
 replace hx9:=hx9.put hB 2 rfl (by first | decide | simp) _ _ hu
 replace hx14:=hx14.put hB 2 rfl (by first | decide | simp) _ _ hu
 replace hx15:=hx15.put hB 2 rfl (by first | decide | simp) _ _ hu
 replace hx20:=hx20.put hB 2 rfl (by first | decide | simp) _ _ hu
 replace hx22a:=hx22a.put hB 2 rfl (by first | decide | simp) _ _ hu
 replace hx22b:=hx22b.put hB 2 rfl (by first | decide | simp) _ _ hu
 clear hB hG hu
 obtain ⟨hB,hG⟩:=hBG
 refine rt Tryz.results84 ?_
 exact ⟨x22,rfl,⟨hx22a,hx22b⟩,hG⟩
theorem B2W (x y : Ax) (q : Rat) (w : World) : Calls Tryz.prog 102 #[rqV x y q] w fun e w'=>e = .returned (.int .i64 q.num.sign) ∧ A3 w w':=by
 go_enter Tryz.func102,Tryz.ntmps102
 refine en1 ?_
 intro u hG b1 hB hF
 refine wp_seq (rsE A5 [0,0,1,0] hB hG fun L hL=>?_)
 refine gs ?_
 refine gmw (C:=fun v=>B2H x q.num _) ?_
 refine gs ?_
 refine geT hL ?_
 clear hB hG hL L
 rintro u ⟨-,hB,hG,-⟩
 refine rt Tryz.results102 ?_
 exact ⟨rfl,hG⟩
theorem B0h (x y : Ax) (q : Rat) (w : World) : Calls Tryz.prog 46 #[rqV x y q] w fun e w'=>e = .returned (rqV x y (G7 q)) ∧ A3 w w':=by
 go_enter Tryz.func46,Tryz.ntmps46
 refine en2 ?_
 intro u hG b2 b1 hB hF
 refine wp_seq (rdC A5 [] [(0,0),(0,1),(0,3),(0,4),(1,2),(0,5)] hB hG fun K L hN hL=>?_)
 refine gs ?_
 refine gmw (C:=fun v=>B6M _ _ _) ?_
 refine gs ?_
 refine geC hL ?_
 clear hB hG hL L
 rintro u ⟨-,hB,hG,-⟩
 refine gtT ?_
 clear hN K
 refine st hB hF hG 1 0 [_,_,_] ?_
 clear hB hG
 intro u hB hG
 refine rt Tryz.results46 ?_
 exact ⟨A4j (q:=G7 q) (Rat.neg_num q) (Rat.neg_den q),hG⟩
theorem B7i (x y : Ax) (q : Rat) (w : World) : Calls Tryz.prog 83 #[rqV x y q] w fun e w'=>e = .returned (rqV x y (I0 q)) ∧ A3 w w':=by
 go_enter Tryz.func83,Tryz.ntmps83
 refine en2 ?_
 intro u hG b2 b1 hB hF
 refine wp_seq (rdC A5 [] [(0,0),(0,1),(0,2),(0,4),(0,5),(1,3),(0,6)] hB hG fun K L hN hL=>?_)
 refine gs ?_
 refine gmw (C:=fun v=>T0 x _ q.num.natAbs _) ?_
 refine gs ?_
 refine geC hL ?_
 clear hB hG hL L
 rintro u ⟨-,hB,hG,-⟩
 refine gtT ?_
 clear hN K
 refine st hB hF hG 1 0 [_,_,_] ?_
 clear hB hG
 intro u hB hG
 refine rt Tryz.results83 ?_
 exact ⟨A4j (q:=I0 q) (A9e q) (A7W q),hG⟩
end Go.Proofs.YtlkniebmjdoopaaGreatDoor
