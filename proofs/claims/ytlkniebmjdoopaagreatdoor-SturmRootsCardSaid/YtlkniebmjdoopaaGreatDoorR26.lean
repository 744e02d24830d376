/- Contracts and laws. -/
import Derived.Test.YtlkniebmjdoopaaGreatDoorR25
import Derived.StillTailTactics
set_option linter.unusedSimpArgs false
set_option linter.unusedVariables false
set_option maxHeartbeats 1000000
set_option maxRecDepth 100000
namespace Go.Proofs.YtlkniebmjdoopaaGreatDoor
open Go.RowKit
theorem B2E (zs : List Nat) (V k y : Nat) (hd : Dig W32 zs) (hk : k / 4 < zs.length) (hv : val W32 zs = V * 256 ^ (k + 1)) (hy : y < 256) :
  dg zs (k / 4) ||| y * 2 ^ (8 * (k % 4)) = dg zs (k / 4) + y * 2 ^ (8 * (k % 4)) ∧ dg zs (k / 4) + y * 2 ^ (8 * (k % 4)) < W32 ∧ val W32 (zs.set (k / 4) (dg zs (k / 4) + y * 2 ^ (8 * (k % 4)))) = (V * 256 + y) * 256 ^ k:=by
 have e1 : (256 : Nat) ^ k = W32 ^ (k / 4) * 2 ^ (8 * (k % 4)):=by
  rw [show W32 = 2 ^ 32 from rfl,show (256 : Nat) = 2 ^ 8 from rfl,← Nat.pow_mul,← Nat.pow_mul,← Nat.pow_add]
  congr 1
  omega
 have hdv : 2 ^ (8 * (k % 4) + 8) ∣ dg zs (k / 4):=by
  have h1 : dg zs (k / 4) = val W32 zs / W32 ^ (k / 4) % W32:=by
   have h2:=K6 W32 zs (k / 4)
   have h3 : val W32 zs = val W32 (zs.take (k / 4 + 1)) + W32 ^ (k / 4 + 1) * val W32 (zs.drop (k / 4 + 1)):=by
    have := V5 W32 (zs.take (k / 4 + 1)) (zs.drop (k / 4 + 1))
    rw [List.take_append_drop,List.length_take,Nat.min_eq_left (by omega)] at this
    exact this
   have h4 : val W32 (zs.take (k / 4)) < W32 ^ (k / 4):=by
    have := I2 (B:=W32) (l:=zs.take (k / 4)) (fun x hx=>hd x (List.mem_of_mem_take hx))
    rwa [List.length_take,Nat.min_eq_left (by omega)] at this
   have h5:=B8 D4 hd (k / 4)
   rw [h3,h2,Nat.pow_succ,Nat.mul_assoc,Nat.add_assoc,← Nat.mul_add,Nat.add_mul_div_left _ _ (Nat.pow_pos D4),Nat.div_eq_of_lt h4,Nat.zero_add,Nat.add_mul_mod_self_left,Nat.mod_eq_of_lt h5]
  rw [h1,hv]
  have e2 : V * 256 ^ (k + 1) = W32 ^ (k / 4) * (V * 2 ^ (8 * (k % 4) + 8)):=by
   rw [Nat.pow_succ,e1,Nat.pow_add]
   simp only [show (256 : Nat) = 2 ^ 8 from rfl]
   grind
  rw [e2,Nat.mul_div_cancel_left _ (Nat.pow_pos D4)]
  refine (Nat.dvd_mod_iff ?_).2 (Nat.dvd_mul_left _ _)
  rw [show W32 = 2 ^ 32 from rfl]
  exact Nat.pow_dvd_pow 2 (by omega)
 have hlt : y * 2 ^ (8 * (k % 4)) < 2 ^ (8 * (k % 4) + 8):=by
  rw [Nat.pow_add,Nat.mul_comm]
  exact Nat.mul_lt_mul_of_pos_left hy (Nat.two_pow_pos _)
 refine ⟨A11 hlt hdv,?_,?_⟩
 ·obtain ⟨c,hc⟩:=hdv
  have h5:=B8 D4 hd (k / 4)
  rw [hc] at h5 ⊢
  have e3 : W32 = 2 ^ (8 * (k % 4) + 8) * 2 ^ (24 - 8 * (k % 4)):=by
   rw [← Nat.pow_add,show W32 = 2 ^ 32 from rfl]
   congr 1
   omega
  rw [e3] at h5 ⊢
  have h6:=Nat.lt_of_mul_lt_mul_left h5
  calc 2 ^ (8 * (k % 4) + 8) * c + y * 2 ^ (8 * (k % 4)) < 2 ^ (8 * (k % 4) + 8) * c + 2 ^ (8 * (k % 4) + 8):=by omega
   _ = 2 ^ (8 * (k % 4) + 8) * (c + 1):=by rw [Nat.mul_add,Nat.mul_one]
   _ ≤ _:=Nat.mul_le_mul_left _ h6
 ·have h7:=S8 W32 zs (k / 4) (dg zs (k / 4) + y * 2 ^ (8 * (k % 4))) hk
  rw [hv,Nat.mul_add] at h7
  have e4 : (V * 256 + y) * 256 ^ k = V * 256 ^ (k + 1) + W32 ^ (k / 4) * (y * 2 ^ (8 * (k % 4))):=by
   rw [Nat.add_mul,Nat.pow_succ,e1]
   grind
  omega
theorem B49 (a b : Nat) (ha : a < 4294967296) (hb : b < 4294967296) : bits .or .u32 (a : Int) (b : Int) = ((a ||| b : Nat) : Int):=by
 have hx : a ||| b < 2 ^ 32:=Nat.or_lt_two_pow (by omega) (by omega)
 have h1 : (BitVec.ofInt 32 (a : Int)).toNat = a:=by
  rw [BitVec.ofInt_natCast,BitVec.toNat_ofNat];exact Nat.mod_eq_of_lt (by omega)
 have h2 : (BitVec.ofInt 32 (b : Int)).toNat = b:=by
  rw [BitVec.ofInt_natCast,BitVec.toNat_ofNat];exact Nat.mod_eq_of_lt (by omega)
 show IntKind.u32.wrap ((BitVec.ofInt 32 (a : Int) ||| BitVec.ofInt 32 (b : Int)).toNat : Int) = _
 rw [BitVec.toNat_or,h1,h2]
 simp [IntKind.wrap,IntKind.signed,IntKind.bits]
 omega
theorem A9m (n : Nat) (h : n < 4294967296) : IntKind.u32.wrap (n : Int) = (n : Int):=by
 simp [IntKind.wrap,IntKind.signed,IntKind.bits];omega
theorem B4g (A : Option Addr) (a : Nat) (w : World) (ha : bl a ≤ 1099511627760) (hA : By w A (byt a).reverse) : Calls Tryz.prog 175 #[.slice A (byt a).length (byt a).length] w (Ret (I8 a) w):=by
 obtain ⟨n,hn⟩ : ∃ n,n = (byt a).length:=⟨_,rfl⟩
 have hnb : n ≤ 137438953471:=by rw [hn,A1m];omega
 obtain ⟨m,hm⟩ : ∃ m,m = (n + 3) / 4:=⟨_,rfl⟩
 have hmi : ((n : Int) + 3) / 4 = (m : Int):=by omega
 have hmt : ((n : Int) + 3).tdiv 4 = (m : Int):=by rw [Int.tdiv_eq_ediv_of_nonneg (by omega)];exact hmi
 have hmk:=A1K m (by omega) (m : Int) rfl
 rw [← hn]
 have HA:=Lib.hid hA
 have Hn:=Lib.hid hn
 have Hm:=Lib.hid hm
 have hmb : m ≤ 34359738368:=by omega
 clear hA hn hm
 go_enter Tryz.func175,Tryz.ntmps175
 go_wp2_with fail
 clear hmk hmi hmt
 go_loopw [4] (fun s wr=>∃ (i : Nat) (zs : List Nat),i ≤ n ∧ s = .int .i64 i ∧ zs.length = m ∧ Dig W32 zs ∧ val W32 zs = a / 256 ^ (n - i) * 256 ^ (n - i) ∧ O8 wr w.heap.size zs ∧ A3 w wr) (fun s _=>n - (intOf s).toNat)
 case atStart=>exact ⟨0,List.replicate m 0,Nat.zero_le _,rfl,by simp,fun z hz=>(by rw [(List.mem_replicate.1 hz).2];exact D4),by
   rw [A0q,Nat.sub_zero,Nat.div_eq_of_lt,Nat.zero_mul]
   have := I2 (A1b a)
   rw [← Hn.out] at this
   unfold byt at this
   rwa [C7 (by omega)] at this,Blk.new w 176 _,A3.alloc _ _⟩
 case round =>
  obtain ⟨i,zs,hi,rfl,hl,hd,hv,hR,hG⟩:=hrel
  have HR:=Lib.hid hR
  have HG:=Lib.hid hG
  have Hd:=Lib.hid hd
  have Hv:=Lib.hid hv
  have Hl:=Lib.hid hl
  clear hl hd hv hR hG
  rcases Nat.lt_or_ge i n with hlt | hge
  ·obtain ⟨k,hk⟩ : ∃ k,k = n - 1 - i:=⟨_,rfl⟩
   have hni : n - i = k + 1:=by omega
   have hki : (n : Int) - 1 - (i : Int) = (k : Int):=by omega
   have hkq : k / 4 < zs.length:=by rw [Hl.out,Hm.out];omega
   obtain ⟨b1,o1,rfl,hc1⟩:=(HA.out.grow HG.out).cell (i:=i) (by rw [List.length_reverse,← Hn.out];exact hlt)
   rw [A8H (by rw [← Hn.out];exact hlt),← Hn.out,← hk] at hc1
   have hby:=B8 (by omega) (A1b a) k
   have hv1:=Hv.out
   rw [hni] at hv1
   obtain ⟨l1,l2,l3⟩:=B2E zs _ k _ Hd.out hkq hv1 hby
   have hc2:=HR.out.cell hkq
   have hf2:=HR.out.frozen (k / 4)
   have hzl:=B8 D4 Hd.out (k / 4)
   have hkm : k / 4 < m:=by rw [← Hl.out];exact hkq
   have hstep : a / 256 ^ (k + 1) * 256 + dg (byt a) k = a / 256 ^ k:=by
    unfold byt
    rw [A3J (by omega),Nat.pow_succ,← Nat.div_div_eq_div_mul]
    omega
   rw [hstep] at l3
   obtain ⟨q,hq⟩ : ∃ q,q = k / 4:=⟨_,rfl⟩
   obtain ⟨r,hr⟩ : ∃ r,r = k % 4:=⟨_,rfl⟩
   have hr8 : r < 4:=by omega
   have hqi : (k : Int) / 4 = (q : Int):=by omega
   have hri : (k : Int) % 4 = (r : Int):=by omega
   obtain ⟨y,hy⟩ : ∃ y,y = dg (byt a) k:=⟨_,rfl⟩
   obtain ⟨x,hx⟩ : ∃ x,x = dg zs (k / 4):=⟨_,rfl⟩
   rw [← hx] at hc2 l1 l2 l3 hzl
   rw [← hy] at hc1 hby l1 l2 l3
   rw [← hq] at hc2 hf2 hkm l3
   rw [← hr] at l1 l2 l3
   have L1:=Lib.hid l1
   have L2:=Lib.hid l2
   have L3:=Lib.hid l3
   unfold W32 at hzl
   have hw1 : IntKind.i64.wrap (q : Int) = (q : Int):=IntWalk.i64_in _ (by omega)
   have hw2 : IntKind.i64.wrap (r : Int) = (r : Int):=IntWalk.i64_in _ (by omega)
   have hw3 : IntKind.i64.wrap (8 * (r : Int)) = 8 * (r : Int):=IntWalk.i64_in _ (by omega)
   have hw4 : IntKind.u64.wrap (8 * (r : Int)) = 8 * (r : Int):=u64_wrap_id (x:=8 * (r : Int)) (by omega) (by omega)
   have hw5 : (8 * (r : Int)).toNat = 8 * r:=by omega
   have hw6 : (k : Int).tmod 4 = (r : Int):=by rw [Int.tmod_eq_emod_of_nonneg (by omega)];exact hri
   have hw7:=A9m y (by omega)
   have hw8 : min (8 * r) 32 = 8 * r:=by omega
   obtain ⟨z,hz⟩ : ∃ z,z = y * 2 ^ (8 * r):=⟨_,rfl⟩
   have hzlt : z < 4294967296:=by unfold W32 at l2;omega
   have hw9 : IntKind.u32.wrap ((y : Int) * 2 ^ (8 * r)) = (z : Int):=by
    rw [show ((y : Int) * 2 ^ (8 * r)) = ((z : Nat) : Int) by rw [hz];simp];exact A9m z hzlt
   rw [← hz] at l1 l2 l3
   have hw10 : bits BinOp.or IntKind.u32 (x : Int) (z : Int) = ((x + z : Nat) : Int):=by
    rw [B49 x z hzl hzlt,l1]
   obtain ⟨s,hs⟩ : ∃ s,s = x + z:=⟨_,rfl⟩
   rw [← hs] at l2 l3 hw10
   have L4:=Lib.hid l3
   have L5:=Lib.hid l2
   clear hk hni hstep hv1 l1 l2 l3 hx hy hq hr hkq hz hs L1 L2 L3
   go_wp2_with fail
   go_still_tail 19,(by kernel_rfl)
   go_wp2_with fail
   have hnk : n - (i + 1) = k:=by omega
   exact ⟨⟨i + 1,zs.set q s,by omega,by go_num,by rw [List.length_set];exact Hl.out,N4 Hd.out q L5.out,by rw [hnk];exact L4.out,(HR.out.set q s).grow (A3.drew _),(HG.out.setCell (p:=⟨w.heap.size,q,none⟩) (Nat.le_refl _) _).trans (A3.drew _)⟩,by simp [intOf];omega⟩
  ·obtain rfl : i = n:=by omega
   have hva : val W32 zs = a:=by have := Hv.out;simpa using this
   have htr : Calls Tryz.prog 142 #[.slice (some ⟨w.heap.size,0,none⟩) m m] wr fun e w'=>e = .returned (.slice (some ⟨w.heap.size,0,none⟩) (ln a) m) ∧ Rn w' (some ⟨w.heap.size,0,none⟩,m) a ∧ A3 w w':=by
    have h1:=A1Q (some ⟨w.heap.size,0,none⟩) zs m wr HR.out.lim (Nat.le_of_eq Hl.out) (by omega)
    rw [Hl.out] at h1
    refine h1.mono fun e w' ⟨he,hg⟩=>?_
    obtain ⟨hr1,hlen⟩:=A3D (a:=a) (c:=m) (HR.out.lim.grow hg) Hd.out hva (Nat.le_of_eq Hl.out) (by omega)
    rw [hlen] at he
    exact ⟨he,hr1,HG.out.trans hg⟩
   have Htr:=Lib.hid htr
   clear htr hva
   go_wp2_with (go_at_call 142;((with_reducible refine (Htr.out).mono ?_);rintro e w1 ⟨rfl,hr1,hg⟩))
   go_ret
   exact ⟨(some ⟨w.heap.size,0,none⟩,m),rfl,hr1,hg⟩
def LIM : Nat:=1099511627760
theorem A9C : ∀ t ∈ [35,37,39,64,66],N5 Tryz.prog t:=by
 intro t ht
 simp only [List.mem_cons,List.not_mem_nil,or_false] at ht
 rcases ht with rfl | rfl | rfl | rfl | rfl
 ·exact fun _ _ _ _ _ _=>by rw [K4];kernel_rfl
 ·exact fun _ _ _ _ _ _=>by rw [A5R];kernel_rfl
 ·exact fun _ _ _ _ _ _=>by rw [O4];kernel_rfl
 ·exact fun _ _ _ _ _ _=>by rw [B2G];kernel_rfl
 ·exact fun _ _ _ _ _ _=>by rw [B1I];kernel_rfl
theorem A8O (a : Nat) (ha : bl a ≤ LIM) (w : World) : Calls Tryz.prog 139 #[A7 a] w (Ret (I8 a) w):=by
 unfold LIM at ha
 have hby : ∀ W,Calls Tryz.prog 176 #[A7 a] W fun e w'=>∃ A,e = .returned (.slice A (byt a).length (byt a).length) ∧ By w' A (byt a).reverse ∧ A3 W w':=fun W=>A7M a ha W
 have hfr : ∀ A W,By W A (byt a).reverse → Calls Tryz.prog 175 #[.slice A (byt a).length (byt a).length] W (Ret (I8 a) W):=fun A W h=>B4g A a W ha h
 obtain ⟨n,hn⟩ : ∃ n,n = (byt a).length:=⟨_,rfl⟩
 rw [← hn] at hby hfr
 have Hby:=Lib.hid hby
 have Hfr:=Lib.hid hfr
 clear hby hfr hn
 go_enter Tryz.func139,Tryz.ntmps139
 go_wp2_with (first
  | (go_at_call 176;((with_reducible refine (Hby.out _).mono ?_);rintro e w1 ⟨A,rfl,hA,hg1⟩))
  | (go_at_call 175;((with_reducible refine (Hfr.out _ _ hA).mono ?_);rintro e w2 ⟨x,rfl,hx,hg2⟩)))
 go_ret
 exact ⟨x,rfl,hx,(A3.alloc _ _).trans (hg1.trans hg2)⟩
theorem B3y (z : Int) (ha : bl z.natAbs ≤ LIM) (w : World) : Calls Tryz.prog 137 #[D3 z] w (Ret (O1 z) w):=by
 have ha' : bl z.natAbs ≤ 1099511627776:=by unfold LIM at ha;omega
 go_enter Tryz.func137,Tryz.ntmps137
 refine en2 ?_
 intro u hG b2 b1 hB hF
 refine wp_seq (rdC A5 [] [(0,0),(0,3),(1,1),(0,2),(1,4),(1,5),(1,6)] hB hG fun K L hN hL=>?_)
 refine gs ?_
 refine gmw (C:=fun v=>A2u _ (by assumption) _) ?_
 refine gs ?_
 refine gmw (C:=fun v=>A2I _ _) ?_
 refine grd (I8 z.natAbs) (fun (x8 : Ax)=>?_) (C:=fun v _=>A8O z.natAbs ha _)
 refine gmd (C:=by (rintro v ⟨⟨hgu,hB,hG,-⟩,hx8⟩;have hx8 : Rn v x8 _:=hx8;exact T0 x8 _ z.natAbs _)) ?_
 refine geC hL ?_
 clear hB hG hL L
 rintro u ⟨⟨-,hB,hG,-⟩,hx8⟩
 replace hx8 : Rn u x8 _:=hx8
 refine gtT ?_
 clear hN K
 refine sv hB hF hG 1 0 [_,_] ?_
 intro u hu hBG
 replace hx8:=hx8.put hB 1 rfl (by first | decide | simp) _ _ hu
 clear hB hG hu
 obtain ⟨hB,hG⟩:=hBG
 refine rt Tryz.results137 ?_
 exact ⟨x8,congrArg (fun y : Int=>Ending.returned (riV x8 y)) (A0h z),hx8,hG⟩
theorem B7E (q : Rat) (ha : qs q ≤ LIM) (w : World) : Calls Tryz.prog 86 #[qV q] w (Ret (G9 q) w):=by
 have h1 : bl q.num.natAbs ≤ LIM:=Nat.le_trans (F7 q) ha
 have h2 : bl q.den ≤ LIM:=Nat.le_trans (F5 q) ha
 have h3 : bl q.den ≤ 1099511627776:=by unfold LIM at h2;omega
 go_enter Tryz.func86,Tryz.ntmps86
 refine en2 ?_
 intro u hG b2 b1 hB hF
 refine wp_seq (rdC A5 [] [(0,0),(0,3),(1,1),(1,2),(1,4),(1,5),(0,6)] hB hG fun K L hN hL=>?_)
 refine gs ?_
 refine gmw (C:=fun v=>B47 _ _) ?_
 refine grd (O1 q.num) (fun (x5 : Ax)=>?_) (C:=fun v _=>B3y q.num h1 _)
 refine gmd (C:=by (rintro v ⟨⟨hgu,hB,hG,-⟩,hx5⟩;have hx5 : Rn v x5 _:=hx5;exact Q6 _ (by assumption) _)) ?_
 refine grd (I8 q.den) (fun (x8 : Ax)=>?_) (C:=by (rintro v ⟨⟨hgu,hB,hG,-⟩,hx5⟩;have hx5 : Rn v x5 _:=hx5;exact A8O q.den h2 _))
 refine gs ?_
 refine geC hL ?_
 clear hB hG hL L
 rintro u ⟨⟨⟨-,hB,hG,-⟩,hx5⟩,hx8⟩
 replace hx5 : Rn u x5 _:=hx5
 replace hx8 : Rn u x8 _:=hx8
 refine gtT ?_
 clear hN K
 refine sv hB hF hG 1 0 [_,_,_] ?_
 intro u hu hBG
 replace hx5:=hx5.put hB 1 rfl (by first | decide | simp) _ _ hu
 replace hx8:=hx8.put hB 1 rfl (by first | decide | simp) _ _ hu
 clear hB hG hu
 obtain ⟨hB,hG⟩:=hBG
 refine rt Tryz.results86 ?_
 exact ⟨(x5,x8),rfl,⟨hx5,hx8⟩,hG⟩
theorem A97 (x y : Ax) (a : Nat) (w : World) (hx : Rn w x a) (hy : Rn w y a) : Calls Tryz.prog 87 #[nvV x a,nvV y a] w fun e w'=>e = .returned (.int .i64 0) ∧ A3 w w':=by
 have := A2r x y a a w hx hy
 rw [A07 rfl] at this
 exact this
theorem B37 (q : Rat) (x y : Ax) (ha : qs q ≤ LIM) (w : World) (hx : Rn w x q.num.natAbs) (hy : Rn w y q.den) : Calls Tryz.prog 29 #[qV q,rqV x y q] w fun e w'=>e = .returned (.bool true) ∧ A3 w w':=by
 have hl : 0 < ln q.den:=A05.2 q.den_nz
 have hlb : ((ln q.den : Int) == 0) = false:=by simp;omega
 go_enter Tryz.func29,Tryz.ntmps29
 refine en2 ?_
 intro u hG b3 b2 hB hF
 replace hx:=hx.grow hG
 replace hy:=hy.grow hG
 refine wp_seq (rsC A9C [0,1,2] hB hG fun K L hN hL=>?_)
 refine gs ?_
 refine grd (G9 q) (fun (x7 : Ax × Ax)=>?_) (C:=fun v _=>B7E q ha _)
 refine gaa (B1I _ _ _ _ _) fun b5 hb5 hn5=>?_
 replace hF:=hF.n1 [] hB hG hb5 hn5
 refine geC hL ?_
 clear hB hG hL L
 rintro u ⟨⟨⟨hgu,hB,hG,-⟩,hx7⟩,h5⟩
 replace hB:=hB.cons' h5
 clear h5
 replace hx:=hx.grow hgu
 replace hy:=hy.grow hgu
 obtain ⟨hx7a,hx7b⟩ : Rn u x7.1 _ ∧ Rn u x7.2 _:=hx7
 clear hb5 hn5
 clear hgu
 refine gtT ?_
 clear hN K
 refine sv hB hF hG 0 0 [_,_,_] ?_
 intro u hu hBG
 replace hx:=hx.put hB 0 rfl (by first | decide | simp) _ _ hu
 replace hy:=hy.put hB 0 rfl (by first | decide | simp) _ _ hu
 replace hx7a:=hx7a.put hB 0 rfl (by first | decide | simp) _ _ hu
 replace hx7b:=hx7b.put hB 0 rfl (by first | decide | simp) _ _ hu
 clear hB hG hu
 obtain ⟨hB,hG⟩:=hBG
 refine wp_seq ?_
 refine r0T ?_
 refine wp_cond_false (rfl) ?_
 refine wp_skip ?_
 refine A4 ?_
 refine wp_seq (rsE A9C [0,0,0,0,0,0,1,0,0,0,0,0,0,0,0,0,0,0,0,0,0,0,1,0,0,0] hB hG fun L hL=>?_)
 refine gs ?_
 refine gmd (C:=fun v ⟨hgu,hB,hG,_⟩=>A97 x7.1 x q.num.natAbs _ (hx7a.grow hgu) (hx.grow hgu)) ?_
 refine gs ?_
 first | refine gmd (C:=fun v ⟨hgu,hB,hG,_⟩=>A97 x7.2 y q.den _ (hx7b.grow hgu) (hy.grow hgu)) ?_ | refine H6 ?_
 refine gs ?_
 refine geT hL ?_
 clear hB hG hL L
 rintro u ⟨hgu,hB,hG,-⟩
 replace hx:=hx.grow hgu
 replace hy:=hy.grow hgu
 replace hx7a:=hx7a.grow hgu
 replace hx7b:=hx7b.grow hgu
 clear hgu
 refine rt Tryz.results29 ?_
 exact ⟨rfl,hG⟩
theorem B4K (n d : Int) (h0 : -9223372036854775808 ≤ n) (h1 : n ≤ 9223372036854775807) (h2 : -9223372036854775808 ≤ d) (h3 : d ≤ 9223372036854775807) (hd : d ≠ 0) (ha : qs (D8 n d) ≤ LIM) (w : World) : Calls Tryz.prog 43 #[qV (D8 n d),.int .i64 n,.int .i64 d] w fun e w'=>e = .returned (.bool true) ∧ A3 w w':=by
 go_enter Tryz.func43,Tryz.ntmps43
 refine en1 ?_
 intro u hG b3 hB hF
 refine wp_seq (rdC A5 [] [(0,0),(0,1),(0,2),(1,3),(1,4)] hB hG fun K L hN hL=>?_)
 refine gs ?_
 refine grd (G9 (D8 n d)) (fun (x10 : Ax × Ax)=>?_) (C:=fun v _=>B0D n d h0 h1 h2 h3 hd _)
 refine gmd (C:=by (rintro v ⟨⟨hgu,hB,hG,-⟩,hx10⟩;obtain ⟨hx10a,hx10b⟩ : Rn v x10.1 _ ∧ Rn v x10.2 _:=hx10;exact B37 (D8 n d) x10.1 x10.2 ha _ hx10a hx10b)) ?_
 refine geC hL ?_
 clear hB hG hL L
 rintro u ⟨⟨-,hB,hG,-⟩,hx10⟩
 obtain ⟨hx10a,hx10b⟩ : Rn u x10.1 _ ∧ Rn u x10.2 _:=hx10
 refine gtT ?_
 clear hN K
 refine rt Tryz.results43 ?_
 exact ⟨rfl,hG⟩
def N0 (n m : Int) : Int:=n % m
theorem A34 (n : Int) {m : Int} (h : 0 < m) : 0 ≤ N0 n m ∧ N0 n m < m:=⟨Int.emod_nonneg _ (by omega),Int.emod_lt_of_pos _ h⟩
theorem B3G (n m : Int) (hm : 0 < m) (hm2 : m ≤ 9223372036854775807) (w : World) : Calls Tryz.prog 31 #[.int .i64 n,.int .i64 m] w fun e w'=>e = .returned (.int .i64 (N0 n m)) ∧ w = w':=by
 have h0 : ¬ m = 0:=by omega
 obtain ⟨t,ht⟩ : ∃ t,t = n.tmod m:=⟨_,rfl⟩
 have hp : N0 n m = if t < 0 then t + m else t:=by
  rw [ht]
  unfold N0
  have h1:=Int.emod_nonneg n (show m ≠ 0 by omega)
  have h2:=Int.emod_lt_of_pos n hm
  rw [Int.tmod_eq_emod]
  split <;> split <;> omega
 have hb : -m < t ∧ t < m:=by
  rw [ht]
  have h1:=Int.emod_nonneg n (show m ≠ 0 by omega)
  have h2:=Int.emod_lt_of_pos n hm
  rw [Int.tmod_eq_emod]
  split <;> omega
 have htm : n.tmod m = t:=ht.symm
 have hw1 : IntKind.i64.wrap t = t:=IntWalk.i64_in _ (by omega)
 clear ht
 by_cases hneg : t < 0
 ·rw [if_pos hneg] at hp
  have hw2 : IntKind.i64.wrap (t + m) = t + m:=IntWalk.i64_in _ (by omega)
  have Hp:=Lib.hid hp
  clear hp
  go_enter Tryz.func31,Tryz.ntmps31
  go_wp2_with fail
  go_ret
  exact ⟨J6 Hp.out.symm,rfl⟩
 ·rw [if_neg hneg] at hp
  have Hp:=Lib.hid hp
  clear hp
  go_enter Tryz.func31,Tryz.ntmps31
  go_wp2_with fail
  go_ret
  exact ⟨J6 Hp.out.symm,rfl⟩
theorem B4s (a k : Nat) : dg (A6 W32 a) (k / 4) / 2 ^ (8 * (k % 4)) % 256 = dg (byt a) k:=by
 unfold byt
 rw [A3J C3,A3J (by omega)]
 have e1 : (256 : Nat) ^ k = W32 ^ (k / 4) * 2 ^ (8 * (k % 4)):=by
  rw [show W32 = 2 ^ 32 from rfl,show (256 : Nat) = 2 ^ 8 from rfl,← Nat.pow_mul,← Nat.pow_mul,← Nat.pow_add]
  congr 1
  omega
 rw [e1,← Nat.div_div_eq_div_mul]
 generalize a / W32 ^ (k / 4) = x
 have hr : k % 4 < 4:=Nat.mod_lt _ (by omega)
 generalize k % 4 = r at hr
 have e2 : W32 = 2 ^ (8 * r) * (256 * 2 ^ (24 - 8 * r)):=by
  rw [show W32 = 2 ^ 32 from rfl,show (256 : Nat) = 2 ^ 8 from rfl,← Nat.pow_add,← Nat.pow_add]
  congr 1
  omega
 rw [e2,Nat.mod_mul_right_div_self,Nat.mod_mul_right_mod]
theorem B1Y (x : Ax) (a : Nat) (w : World) (hx : Rn w x a) (ha : bl a ≤ LIM) : Calls Tryz.prog 146 #[nvV x a] w fun e w'=>∃ b : Nat,e = .returned (.slice (some ⟨b,0,none⟩) (byt a).length (byt a).length) ∧ By w' (some ⟨b,0,none⟩) (byt a).reverse ∧ A3 w w':=by
 unfold LIM at ha
 obtain ⟨A,c⟩:=x
 obtain ⟨n,hn⟩ : ∃ n,n = (byt a).length:=⟨_,rfl⟩
 obtain ⟨m,hm⟩ : ∃ m,m = ln a:=⟨_,rfl⟩
 have hnb : n = (bl a + 7) / 8:=by rw [hn,A1m]
 have hmk:=A64 n (by omega) (n : Int) rfl
 have hbits:=fun W (hg : A3 w W)=>A9c (A,c) a W (hx.grow hg) (by omega)
 show Calls Tryz.prog 146 #[.slice A (ln a) c] w _
 change ∀ W,A3 w W → Calls Tryz.prog 178 #[.slice A (ln a) c] W _ at hbits
 rw [← hm] at hbits
 rw [← hm,← hn]
 have Hx:=Lib.hid hx.1
 obtain ⟨B,hB⟩ : ∃ B,B = bl a:=⟨_,rfl⟩
 rw [← hB] at hbits hnb ha
 have hb1 : IntKind.i64.wrap ((B : Int) + 7) = (B : Int) + 7:=IntWalk.i64_in _ (by omega)
 have hdv : ((B : Int) + 7).tdiv 8 = (n : Int):=by rw [Int.tdiv_eq_ediv_of_nonneg (by omega)];omega
 have hdv2 : ((B : Int) + 7) / 8 = (n : Int):=by omega
 have hnB : n ≤ 137438953471:=by omega
 have fnw : IntKind.i64.wrap (n : Int) = (n : Int):=IntWalk.i64_in _ (by omega)
 have Hbits:=Lib.hid hbits
 have Hn:=Lib.hid hn
 have Hm:=Lib.hid hm
 have Hnb:=Lib.hid (hnb.trans (by rw [hB]))
 clear hbits hn hm hx ha hB hnb
 go_enter Tryz.func146,Tryz.ntmps146
 refine en0 ?_
 intro u hG hB hF
 refine wp_seq (rsE A5 [0,1,0,0,0] hB hG fun L hL=>?_)
 refine gs ?_
 refine gmd (C:=fun v ⟨hgu,hB,hG,_⟩=>Hbits.out _ hG) ?_
 refine gs ?_
 refine geT hL ?_
 clear hB hG hL L
 rintro u ⟨-,hB,hG,-⟩
 refine r0T ?_
 have hbo:=Blk.new u 5 (I6 (List.replicate n 0))
 have hF3:=Fr.new (tk:=[]) hF hB hG (Nat.le_refl u.heap.size) (by simp)
 have hB3:=Bx.cons hbo (hB.grow (A3.alloc u (.cells (I6 (List.replicate n 0)) 5)))
 have hG3:=hG.trans (A3.alloc u (.cells (I6 (List.replicate n 0)) 5))
 simp only [List.cons_append,List.nil_append,List.map_cons,List.map_nil] at hF3
 clear hB hF hG hbo
 generalize World.alloc u _ = v at  hB3 hG3 ⊢
 generalize u.heap.size = b11 at hB3 hF3 ⊢
 have hB:=hB3
 have hF:=hF3
 have hG:=hG3
 clear hB3 hF3 hG3
 obtain ⟨u,rfl⟩ : ∃ x,x = v:=⟨_,rfl⟩
 refine wp_seq ?_
 refine r0T ?_
 refine wp_block ?_
 go_loopw [5] (fun s0 wr=>∃ (k : Nat) (zs : List Nat),k ≤ n ∧ s0 = .int .i64 k ∧ (zs = L9 (byt a) k) ∧ Bx wr [(b11,5,I6 zs)] ∧ A3 w wr) (fun s0 _=>n - (intOf s0).toNat)
 case atStart=>exact ⟨0,List.replicate n 0,Nat.zero_le _,rfl,by unfold L9;rw [← Hn.out];simp,hB,hG⟩
 case round =>
  clear hB hG
  obtain ⟨k,zs,hk,rfl,hrel0,hB,hG⟩:=hrel
  obtain ⟨u,rfl⟩ : ∃ x,x = wr:=⟨_,rfl⟩
  have H0:=Lib.hid hrel0
  clear hrel0
  rcases Nat.lt_or_ge k n with hlt0 | hge0
  ·have hdec : decide ((k : Int) < (n : Int)) = true:=by simp;omega
   have hkl : k < (byt a).length:=by rw [← Hn.out];exact hlt0
   have hwk : k / 4 < (A6 W32 a).length:=by
    refine A4p C3 ?_
    have h1 : k < (bl a + 7) / 8:=by rw [← Hnb.out];exact hlt0
    rw [show W32 = 2 ^ 32 from rfl,← Nat.pow_mul]
    exact A0S.1 (by omega)
   obtain ⟨ba,oa,hAe,-⟩:=Hx.out.cell hwk
   have hcl : ∀ W,A3 w W → W.cell? ⟨ba,oa + k / 4,none⟩ = some (.int .u32 (dg (A6 W32 a) (k / 4) : Nat)):=fun W hg=>by
    obtain ⟨b',o',e,hc⟩:=(Hx.out.grow hg).cell hwk
    rw [hAe] at e
    cases e
    exact hc
   have hby:=B4s a k
   have hbl:=B8 (by omega) (A1b a) k
   have hst:=A5f (byt a) hkl
   have hxl:=dgl a (k / 4)
   have hwm : k / 4 < m:=by rw [Hm.out];exact hwk
   have hzl : zs.length = n:=by rw [H0.out,A6X _ (by omega),← Hn.out]
   rw [← Hn.out,← H0.out] at hst
   obtain ⟨q,hq⟩ : ∃ q,q = k / 4:=⟨_,rfl⟩
   obtain ⟨r,hr⟩ : ∃ r,r = k % 4:=⟨_,rfl⟩
   have hr8 : r < 4:=by omega
   rw [← hq] at hwm hxl hby
   rw [← hr] at hby
   simp only [← hq] at hcl
   obtain ⟨X,hX⟩ : ∃ x,x = dg (A6 W32 a) q:=⟨_,rfl⟩
   obtain ⟨y,hy⟩ : ∃ y,y = dg (byt a) k:=⟨_,rfl⟩
   rw [← hX] at hby hxl
   simp only [← hX] at hcl
   rw [← hy] at hby hbl hst
   obtain ⟨t,ht⟩ : ∃ t,t = n - 1 - k:=⟨_,rfl⟩
   rw [← ht] at hst
   have f1 : (n : Int) - 1 - (k : Int) = (t : Int):=by omega
   have f1' : (n : Int) - 1 = (t : Int) + (k : Int):=by omega
   have f1w : IntKind.i64.wrap ((t : Int) + (k : Int)) = (t : Int) + (k : Int):=IntWalk.i64_in _ (by omega)
   have htn : t < n:=by omega
   have q1 : (k : Int).tdiv 4 = (q : Int):=by rw [Int.tdiv_eq_ediv_of_nonneg (by omega)];omega
   have q2 : (k : Int).tmod 4 = (r : Int):=by rw [Int.tmod_eq_emod_of_nonneg (by omega)];omega
   have q3 : (k : Int) / 4 = (q : Int):=by omega
   have q4 : (k : Int) % 4 = (r : Int):=by omega
   have q5 : IntKind.i64.wrap (8 * (r : Int)) = 8 * (r : Int):=IntWalk.i64_in _ (by omega)
   have q6 : IntKind.u64.wrap (8 * (r : Int)) = 8 * (r : Int):=u64_wrap_id (x:=8 * (r : Int)) (by omega) (by omega)
   have q7 : (8 * (r : Int)).toNat = 8 * r:=by omega
   have q8 : min (8 * r) 32 = 8 * r:=by omega
   obtain ⟨s,hs⟩ : ∃ s,s = X / 2 ^ (8 * r):=⟨_,rfl⟩
   rw [← hs] at hby
   have q9 : (X : Int) / 2 ^ (8 * r) = (s : Int):=by rw [hs];simp
   have q10 : IntKind.u8.wrap (s : Int) = (y : Int):=by rw [← hby];simp [IntKind.wrap,IntKind.signed,IntKind.bits]
   have q11 : (s : Int) % 256 = (y : Int):=by omega
   have g1 : ∃ old,(I6 zs)[t]? = some old:=by rw [A3P,List.getElem?_eq_getElem (by omega)];exact ⟨_,rfl⟩
   obtain ⟨old,g1⟩:=g1
   have G2:=Lib.hid (A5n zs t y)
   have Hcl:=Lib.hid hcl
   have Hst:=Lib.hid hst
   subst hAe
   clear hcl hst hby hq hr hX hy hs ht hkl hwk hzl
   refine wp_seq ?_
   refine r0T ?_
   refine wp_cond_true (rfl) ?_
   refine wp_skip ?_
   refine A4 ?_
   refine wp_seq ?_
   refine wp_block ?_
   have hcb:=Hcl.out u hG
   refine r0E ?_
   generalize hu0 : World.setCell u _ _ = u0
   have hBG:=hB.over hF hG 0 rfl t [_] hu0
   clear hB hG
   simp only [List.modify_succ_cons,List.modify_zero_cons,G5,G2.out] at hBG
   obtain ⟨hB,hG⟩:=hBG
   clear hu0
   obtain ⟨u,rfl⟩ : ∃ x,x = u0:=⟨_,rfl⟩
   refine D5 ?_
   refine A4 ?_
   refine r0E ?_
   refine A4 ?_
   go_roundw
   case rel=>exact ⟨k + 1,zs.set t y,by omega,by go_num,Hst.out,hB,hG⟩
   case measure=>simp [intOf];try omega
  ·obtain rfl : n = k:=by omega
   have hdec : decide ((n : Int) < (n : Int)) = false:=by simp
   skip
   refine wp_seq ?_
   refine r0T ?_
   refine wp_cond_false (rfl) ?_
   refine wp_exit ?_
   refine B4 ?_
   refine B4 ?_
   refine E1 ?_
   refine A4 ?_
   refine r0T ?_
   refine rt Tryz.results146 ?_
   exact ⟨b11,rfl,by have := By.of hB.head;rw [H0.out,Hn.out,A63] at this;exact this,hG⟩
theorem B0Y (x : Ax) (a : Nat) (w : World) (hx : Rn w x a) (ha : bl a ≤ LIM) : Calls Tryz.prog 101 #[nvV x a] w fun e w'=>e = .returned (A7 a) ∧ A3 w w':=by
 have hby:=fun W (hg : A3 w W)=>B1Y x a W (hx.grow hg) ha
 have hfr : ∀ b W,By W (some ⟨b,0,none⟩) (byt a).reverse → Calls Tryz.prog 145 #[.slice (some ⟨b,0,none⟩) (byt a).length (byt a).length] W fun e w'=>e = .returned (A7 a) ∧ A3 W w':=fun b W h=>by
  have h1:=A9k (some ⟨b,0,none⟩) (byt a).reverse (byt a).length (fun y hy=>A1b a y (List.mem_reverse.1 hy)) (by rw [List.length_reverse,A1m];unfold LIM at ha;omega) W h
  rw [List.length_reverse,List.reverse_reverse,show val 256 (byt a) = a from C7 (by omega) a] at h1
  exact h1
 obtain ⟨n,hn⟩ : ∃ n,n = (byt a).length:=⟨_,rfl⟩
 rw [← hn] at hby hfr
 have Hby:=Lib.hid hby
 have Hfr:=Lib.hid hfr
 clear hby hfr hn hx ha
 go_enter Tryz.func101,Tryz.ntmps101
 refine en1 ?_
 intro u hG b2 hB hF
 refine wp_seq (rsC A5 [0,1,1] hB hG fun K L hN hL=>?_)
 refine gs ?_
 refine gxd (X:=Nat) (fun b : Nat=>.slice (some ⟨b,0,none⟩) n n) (fun b W=>By W (some ⟨b,0,none⟩) (byt a).reverse) (fun b u u' hg h=>By.grow h hg) (fun x4=>?_) (C:=by (rintro v ⟨hgu,hB,hG,-⟩;exact Hby.out _ hG))
 refine gmd (C:=fun v ⟨⟨hgu,hB,hG,_⟩,hx4⟩=>Hfr.out x4 _ hx4) ?_
 refine geC hL ?_
 clear hB hG hL L
 rintro u ⟨⟨hgu,hB,hG,-⟩,hx4⟩
 clear hx4
 clear hgu
 refine gtT ?_
 clear hN K
 refine st hB hF hG 0 0 [_,_] ?_
 clear hB hG
 intro u hB hG
 refine rt Tryz.results101 ?_
 exact ⟨rfl,hG⟩
theorem B3Q (x : Ax) (z : Int) (w : World) (hx : Rn w x z.natAbs) (ha : bl z.natAbs ≤ LIM) : Calls Tryz.prog 100 #[riV x z] w fun e w'=>e = .returned (D3 z) ∧ A3 w w':=by
 have ha' : bl z.natAbs ≤ 1099511627776:=by unfold LIM at ha;omega
 go_enter Tryz.func100,Tryz.ntmps100
 refine en2 ?_
 intro u hG b2 b1 hB hF
 replace hx:=hx.grow hG
 refine wp_seq (rdC A5 [] [(0,0),(0,1),(0,2),(0,3),(1,4),(1,5)] hB hG fun K L hN hL=>?_)
 refine gs ?_
 refine gmd (C:=fun v ⟨hgu,hB,hG,_⟩=>B0Y x z.natAbs _ (hx.grow hgu) ha) ?_
 refine gmw (C:=fun v=>O2 _ _ (by assumption) _) ?_
 refine geC hL ?_
 clear hB hG hL L
 rintro u ⟨hgu,hB,hG,-⟩
 replace hx:=hx.grow hgu
 clear hgu
 refine gtT ?_
 clear hN K
 refine sv hB hF hG 1 0 [_,_,_] ?_
 intro u hu hBG
 replace hx:=hx.put hB 1 rfl (by first | decide | simp) _ _ hu
 clear hB hG hu
 obtain ⟨hB,hG⟩:=hBG
 refine rt Tryz.results100 ?_
 exact ⟨A1Y (A0h z),hG⟩
theorem B1B (x y : Ax) (q : Rat) (w : World) (h1 : Rn w x q.num.natAbs) (h2 : Rn w y q.den) (ha : qs q ≤ BIG) (HT : Tab w) : Calls Tryz.prog 38 #[rqV x y q] w fun e w'=>e = .returned (qV q) ∧ A3 w w':=by
 have z1:=F7 q
 have z2:=F5 q
 have hBl : BIG ≤ LIM:=by unfold BIG LIM;omega
 have hBm:=K8
 have hmk:=fun W (hT : Tab W)=>B2M q.num (sgn false q.den) (by omega) (by rw [R0];omega) W hT
 have hq : D8 q.num (sgn false q.den) = q:=A3N q
 rw [hq] at hmk
 have z3 : bl q.den ≤ 1099511627776:=by omega
 go_enter Tryz.func38,Tryz.ntmps38
 refine en2 ?_
 intro u hG b2 b1 hB hF
 replace h1:=h1.grow hG
 replace h2:=h2.grow hG
 refine wp_seq (rdC A5 [10] [(0,0),(0,1),(0,3),(0,4),(1,2),(1,5),(1,6),(1,7),(0,8),(0,9),(0,10),(2,11)] hB hG fun K L hN hL=>?_)
 refine gs ?_
 refine gmd (C:=fun v ⟨hgu,hB,hG,_⟩=>B3Q x q.num _ (h1.grow hgu) (by omega)) ?_
 refine gmd (C:=fun v ⟨hgu,hB,hG,_⟩=>B0Y y q.den _ (h2.grow hgu) (by omega)) ?_
 refine gmw (C:=fun v=>O2 false q.den z3 _) ?_
 refine gmd (C:=fun v ⟨hgu,hB,hG,_⟩=>hmk _ (HT.grow hG)) ?_
 refine gs ?_
 refine gaa (O4 _ _ _ _ _) fun b3 hb3 hn3=>?_
 replace hF:=hF.n1 [] hB hG hb3 hn3
 refine geC hL ?_
 clear hB hG hL L
 rintro u ⟨⟨hgu,hB,hG,-⟩,h3⟩
 replace hB:=hB.cons' h3
 clear h3
 replace h1:=h1.grow hgu
 replace h2:=h2.grow hgu
 clear hb3 hn3
 clear hgu
 refine gtT ?_
 clear hN K
 refine sv hB hF hG 0 0 [_,_,_,_,_] ?_
 intro u hu hBG
 replace h1:=h1.put hB 0 rfl (by first | decide | simp) _ _ hu
 replace h2:=h2.put hB 0 rfl (by first | decide | simp) _ _ hu
 clear hB hG hu
 obtain ⟨hB,hG⟩:=hBG
 refine r0T ?_
 refine sv hB hF hG 2 0 [_,_,_,_,_] ?_
 intro u hu hBG
 replace h1:=h1.put hB 2 rfl (by first | decide | simp) _ _ hu
 replace h2:=h2.put hB 2 rfl (by first | decide | simp) _ _ hu
 clear hB hG hu
 obtain ⟨hB,hG⟩:=hBG
 refine rt Tryz.results38 ?_
 exact ⟨rfl,hG⟩
end Go.Proofs.YtlkniebmjdoopaaGreatDoor
