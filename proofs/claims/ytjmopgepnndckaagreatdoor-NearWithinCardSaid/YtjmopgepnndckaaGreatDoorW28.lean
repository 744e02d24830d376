/- Contracts and laws. -/
import Derived.Test.YtjmopgepnndckaaGreatDoorW27
import Derived.StillTailTactics
set_option linter.unusedSimpArgs false
set_option linter.unusedVariables false
set_option maxHeartbeats 1000000
set_option maxRecDepth 100000
namespace Go.Proofs.YtjmopgepnndckaaGreatDoor
open Go.RowKit
theorem B5S (zs : List Nat) (V k y : Nat) (hd : Dig W32 zs) (hk : k / 4 < zs.length) (hv : val W32 zs = V * 256 ^ (k + 1)) (hy : y < 256) :
  dg zs (k / 4) ||| y * 2 ^ (8 * (k % 4)) = dg zs (k / 4) + y * 2 ^ (8 * (k % 4)) ∧ dg zs (k / 4) + y * 2 ^ (8 * (k % 4)) < W32 ∧ val W32 (zs.set (k / 4) (dg zs (k / 4) + y * 2 ^ (8 * (k % 4)))) = (V * 256 + y) * 256 ^ k:=by
 have e1 : (256 : Nat) ^ k = W32 ^ (k / 4) * 2 ^ (8 * (k % 4)):=by
  rw [show W32 = 2 ^ 32 from rfl,show (256 : Nat) = 2 ^ 8 from rfl,← Nat.pow_mul,← Nat.pow_mul,← Nat.pow_add]
  congr 1
  omega
 have hdv : 2 ^ (8 * (k % 4) + 8) ∣ dg zs (k / 4):=by
  have h1 : dg zs (k / 4) = val W32 zs / W32 ^ (k / 4) % W32:=by
   have h2:=J7 W32 zs (k / 4)
   have h3 : val W32 zs = val W32 (zs.take (k / 4 + 1)) + W32 ^ (k / 4 + 1) * val W32 (zs.drop (k / 4 + 1)):=by
    have := T0 W32 (zs.take (k / 4 + 1)) (zs.drop (k / 4 + 1))
    rw [List.take_append_drop,List.length_take,Nat.min_eq_left (by omega)] at this
    exact this
   have h4 : val W32 (zs.take (k / 4)) < W32 ^ (k / 4):=by
    have := H3 (B:=W32) (l:=zs.take (k / 4)) (fun x hx=>hd x (List.mem_of_mem_take hx))
    rwa [List.length_take,Nat.min_eq_left (by omega)] at this
   have h5:=B4 C7 hd (k / 4)
   rw [h3,h2,Nat.pow_succ,Nat.mul_assoc,Nat.add_assoc,← Nat.mul_add,Nat.add_mul_div_left _ _ (Nat.pow_pos C7),Nat.div_eq_of_lt h4,Nat.zero_add,Nat.add_mul_mod_self_left,Nat.mod_eq_of_lt h5]
  rw [h1,hv]
  have e2 : V * 256 ^ (k + 1) = W32 ^ (k / 4) * (V * 2 ^ (8 * (k % 4) + 8)):=by
   rw [Nat.pow_succ,e1,Nat.pow_add]
   simp only [show (256 : Nat) = 2 ^ 8 from rfl]
   grind
  rw [e2,Nat.mul_div_cancel_left _ (Nat.pow_pos C7)]
  refine (Nat.dvd_mod_iff ?_).2 (Nat.dvd_mul_left _ _)
  rw [show W32 = 2 ^ 32 from rfl]
  exact Nat.pow_dvd_pow 2 (by omega)
 have hlt : y * 2 ^ (8 * (k % 4)) < 2 ^ (8 * (k % 4) + 8):=by
  rw [Nat.pow_add,Nat.mul_comm]
  exact Nat.mul_lt_mul_of_pos_left hy (Nat.two_pow_pos _)
 refine ⟨A1Z hlt hdv,?_,?_⟩
 ·obtain ⟨c,hc⟩:=hdv
  have h5:=B4 C7 hd (k / 4)
  rw [hc] at h5 ⊢
  have e3 : W32 = 2 ^ (8 * (k % 4) + 8) * 2 ^ (24 - 8 * (k % 4)):=by
   rw [← Nat.pow_add,show W32 = 2 ^ 32 from rfl]
   congr 1
   omega
  rw [e3] at h5 ⊢
  have h6:=Nat.lt_of_mul_lt_mul_left h5
  calc 2 ^ (8 * (k % 4) + 8) * c + y * 2 ^ (8 * (k % 4)) < 2 ^ (8 * (k % 4) + 8) * c + 2 ^ (8 * (k % 4) + 8):=by omega
   _ = 2 ^ (8 * (k % 4) + 8) * (c + 1):=by rw [Nat.mul_add,Nat.mul_one]
   _ ≤ _:=Nat.mul_le_mul_left _ h6
 ·have h7:=Q9 W32 zs (k / 4) (dg zs (k / 4) + y * 2 ^ (8 * (k % 4))) hk
  rw [hv,Nat.mul_add] at h7
  have e4 : (V * 256 + y) * 256 ^ k = V * 256 ^ (k + 1) + W32 ^ (k / 4) * (y * 2 ^ (8 * (k % 4))):=by
   rw [Nat.add_mul,Nat.pow_succ,e1]
   grind
  omega
theorem B4h (a b : Nat) (ha : a < 4294967296) (hb : b < 4294967296) : bits .or .u32 (a : Int) (b : Int) = ((a ||| b : Nat) : Int):=by
 have hx : a ||| b < 2 ^ 32:=Nat.or_lt_two_pow (by omega) (by omega)
 have h1 : (BitVec.ofInt 32 (a : Int)).toNat = a:=by
  rw [BitVec.ofInt_natCast,BitVec.toNat_ofNat];exact Nat.mod_eq_of_lt (by omega)
 have h2 : (BitVec.ofInt 32 (b : Int)).toNat = b:=by
  rw [BitVec.ofInt_natCast,BitVec.toNat_ofNat];exact Nat.mod_eq_of_lt (by omega)
 show IntKind.u32.wrap ((BitVec.ofInt 32 (a : Int) ||| BitVec.ofInt 32 (b : Int)).toNat : Int) = _
 rw [BitVec.toNat_or,h1,h2]
 simp [IntKind.wrap,IntKind.signed,IntKind.bits]
 omega
theorem A6z (n : Nat) (h : n < 4294967296) : IntKind.u32.wrap (n : Int) = (n : Int):=by
 simp [IntKind.wrap,IntKind.signed,IntKind.bits];omega
theorem B5i (A : Option Addr) (a : Nat) (w : World) (ha : bl a ≤ 1099511627760) (hA : By w A (byt a).reverse) : Calls Tryz.prog 142 #[.slice A (byt a).length (byt a).length] w (Ret (I2 a) w):=by
 obtain ⟨n,hn⟩ : ∃ n,n = (byt a).length:=⟨_,rfl⟩
 have hnb : n ≤ 137438953471:=by rw [hn,A01];omega
 obtain ⟨m,hm⟩ : ∃ m,m = (n + 3) / 4:=⟨_,rfl⟩
 have hmi : ((n : Int) + 3) / 4 = (m : Int):=by omega
 have hmt : ((n : Int) + 3).tdiv 4 = (m : Int):=by rw [Int.tdiv_eq_ediv_of_nonneg (by omega)];exact hmi
 have hmk:=A0m m (by omega) (m : Int) rfl
 rw [← hn]
 have HA:=Lib.hid hA
 have Hn:=Lib.hid hn
 have Hm:=Lib.hid hm
 have hmb : m ≤ 34359738368:=by omega
 clear hA hn hm
 go_enter Tryz.func142,Tryz.ntmps142
 go_wp2_with fail
 clear hmk hmi hmt
 go_loopw [4] (fun s wr=>∃ (i : Nat) (zs : List Nat),i ≤ n ∧ s = .int .i64 i ∧ zs.length = m ∧ Dig W32 zs ∧ val W32 zs = a / 256 ^ (n - i) * 256 ^ (n - i) ∧ N7 wr w.heap.size zs ∧ A3 w wr) (fun s _=>n - (intOf s).toNat)
 case atStart=>exact ⟨0,List.replicate m 0,Nat.zero_le _,rfl,by simp,fun z hz=>(by rw [(List.mem_replicate.1 hz).2];exact C7),by
   rw [Y9,Nat.sub_zero,Nat.div_eq_of_lt,Nat.zero_mul]
   have := H3 (A0x a)
   rw [← Hn.out] at this
   unfold byt at this
   rwa [C3 (by omega)] at this,Blk.new w 162 _,A3.alloc _ _⟩
 case round =>
  obtain ⟨i,zs,hi,rfl,hl,hd,hv,hR,hG⟩:=hrel
  have HR:=Lib.hid hR
  have HG:=Lib.hid hG
  have Hd:=Lib.hid hd
  have Hv:=Lib.hid hv
  have Hl:=Lib.hid hl
  clear hl hd hv hR hG
  rcases Nat.lt_or_ge i n with hlt | hge
  ·obtain ⟨k,hk⟩ : ∃ k,k = n - 1 - i:=⟨_,rfl⟩
   have hni : n - i = k + 1:=by omega
   have hki : (n : Int) - 1 - (i : Int) = (k : Int):=by omega
   have hkq : k / 4 < zs.length:=by rw [Hl.out,Hm.out];omega
   obtain ⟨b1,o1,rfl,hc1⟩:=(HA.out.grow HG.out).cell (i:=i) (by rw [List.length_reverse,← Hn.out];exact hlt)
   rw [A6p (by rw [← Hn.out];exact hlt),← Hn.out,← hk] at hc1
   have hby:=B4 (by omega) (A0x a) k
   have hv1:=Hv.out
   rw [hni] at hv1
   obtain ⟨l1,l2,l3⟩:=B5S zs _ k _ Hd.out hkq hv1 hby
   have hc2:=HR.out.cell hkq
   have hf2:=HR.out.frozen (k / 4)
   have hzl:=B4 C7 Hd.out (k / 4)
   have hkm : k / 4 < m:=by rw [← Hl.out];exact hkq
   have hstep : a / 256 ^ (k + 1) * 256 + dg (byt a) k = a / 256 ^ k:=by
    unfold byt
    rw [A1c (by omega),Nat.pow_succ,← Nat.div_div_eq_div_mul]
    omega
   rw [hstep] at l3
   obtain ⟨q,hq⟩ : ∃ q,q = k / 4:=⟨_,rfl⟩
   obtain ⟨r,hr⟩ : ∃ r,r = k % 4:=⟨_,rfl⟩
   have hr8 : r < 4:=by omega
   have hqi : (k : Int) / 4 = (q : Int):=by omega
   have hri : (k : Int) % 4 = (r : Int):=by omega
   obtain ⟨y,hy⟩ : ∃ y,y = dg (byt a) k:=⟨_,rfl⟩
   obtain ⟨x,hx⟩ : ∃ x,x = dg zs (k / 4):=⟨_,rfl⟩
   rw [← hx] at hc2 l1 l2 l3 hzl
   rw [← hy] at hc1 hby l1 l2 l3
   rw [← hq] at hc2 hf2 hkm l3
   rw [← hr] at l1 l2 l3
   have L1:=Lib.hid l1
   have L2:=Lib.hid l2
   have L3:=Lib.hid l3
   unfold W32 at hzl
   have hw1 : IntKind.i64.wrap (q : Int) = (q : Int):=IntWalk.i64_in _ (by omega)
   have hw2 : IntKind.i64.wrap (r : Int) = (r : Int):=IntWalk.i64_in _ (by omega)
   have hw3 : IntKind.i64.wrap (8 * (r : Int)) = 8 * (r : Int):=IntWalk.i64_in _ (by omega)
   have hw4 : IntKind.u64.wrap (8 * (r : Int)) = 8 * (r : Int):=u64_wrap_id (x:=8 * (r : Int)) (by omega) (by omega)
   have hw5 : (8 * (r : Int)).toNat = 8 * r:=by omega
   have hw6 : (k : Int).tmod 4 = (r : Int):=by rw [Int.tmod_eq_emod_of_nonneg (by omega)];exact hri
   have hw7:=A6z y (by omega)
   have hw8 : min (8 * r) 32 = 8 * r:=by omega
   obtain ⟨z,hz⟩ : ∃ z,z = y * 2 ^ (8 * r):=⟨_,rfl⟩
   have hzlt : z < 4294967296:=by unfold W32 at l2;omega
   have hw9 : IntKind.u32.wrap ((y : Int) * 2 ^ (8 * r)) = (z : Int):=by
    rw [show ((y : Int) * 2 ^ (8 * r)) = ((z : Nat) : Int) by rw [hz];simp];exact A6z z hzlt
   rw [← hz] at l1 l2 l3
   have hw10 : bits BinOp.or IntKind.u32 (x : Int) (z : Int) = ((x + z : Nat) : Int):=by
    rw [B4h x z hzl hzlt,l1]
   obtain ⟨s,hs⟩ : ∃ s,s = x + z:=⟨_,rfl⟩
   rw [← hs] at l2 l3 hw10
   have L4:=Lib.hid l3
   have L5:=Lib.hid l2
   clear hk hni hstep hv1 l1 l2 l3 hx hy hq hr hkq hz hs L1 L2 L3
   go_wp2_with fail
   go_still_tail 19,(by kernel_rfl)
   go_wp2_with fail
   have hnk : n - (i + 1) = k:=by omega
   exact ⟨⟨i + 1,zs.set q s,by omega,by go_num,by rw [List.length_set];exact Hl.out,M4 Hd.out q L5.out,by rw [hnk];exact L4.out,(HR.out.set q s).grow (A3.drew _),(HG.out.setCell (p:=⟨w.heap.size,q,none⟩) (Nat.le_refl _) _).trans (A3.drew _)⟩,by simp [intOf];omega⟩
  ·obtain rfl : i = n:=by omega
   have hva : val W32 zs = a:=by have := Hv.out;simpa using this
   have htr : Calls Tryz.prog 126 #[.slice (some ⟨w.heap.size,0,none⟩) m m] wr fun e w'=>e = .returned (.slice (some ⟨w.heap.size,0,none⟩) (ln a) m) ∧ Rn w' (some ⟨w.heap.size,0,none⟩,m) a ∧ A3 w w':=by
    have h1:=A0S (some ⟨w.heap.size,0,none⟩) zs m wr HR.out.lim (Nat.le_of_eq Hl.out) (by omega)
    rw [Hl.out] at h1
    refine h1.mono fun e w' ⟨he,hg⟩=>?_
    obtain ⟨hr1,hlen⟩:=A1k (a:=a) (c:=m) (HR.out.lim.grow hg) Hd.out hva (Nat.le_of_eq Hl.out) (by omega)
    rw [hlen] at he
    exact ⟨he,hr1,HG.out.trans hg⟩
   have Htr:=Lib.hid htr
   clear htr hva
   go_wp2_with (go_at_call 126;((with_reducible refine (Htr.out).mono ?_);rintro e w1 ⟨rfl,hr1,hg⟩))
   go_ret
   exact ⟨(some ⟨w.heap.size,0,none⟩,m),rfl,hr1,hg⟩
def LIM : Nat:=1099511627760
theorem A1w : ∀ t ∈ [45,47,49,55,57],K3 Tryz.prog t:=by
 intro t ht
 simp only [List.mem_cons,List.not_mem_nil,or_false] at ht
 rcases ht with rfl | rfl | rfl | rfl | rfl
 ·exact fun _ _ _ _ _ _=>by rw [I3];kernel_rfl
 ·exact fun _ _ _ _ _ _=>by rw [A08];kernel_rfl
 ·exact fun _ _ _ _ _ _=>by rw [Q8];kernel_rfl
 ·exact fun _ _ _ _ _ _=>by rw [B0x];kernel_rfl
 ·exact fun _ _ _ _ _ _=>by rw [A0r];kernel_rfl
theorem A5j (a : Nat) (ha : bl a ≤ LIM) (w : World) : Calls Tryz.prog 100 #[A7 a] w (Ret (I2 a) w):=by
 unfold LIM at ha
 have hby : ∀ W,Calls Tryz.prog 143 #[A7 a] W fun e w'=>∃ A,e = .returned (.slice A (byt a).length (byt a).length) ∧ By w' A (byt a).reverse ∧ A3 W w':=fun W=>A7s a ha W
 have hfr : ∀ A W,By W A (byt a).reverse → Calls Tryz.prog 142 #[.slice A (byt a).length (byt a).length] W (Ret (I2 a) W):=fun A W h=>B5i A a W ha h
 obtain ⟨n,hn⟩ : ∃ n,n = (byt a).length:=⟨_,rfl⟩
 rw [← hn] at hby hfr
 have Hby:=Lib.hid hby
 have Hfr:=Lib.hid hfr
 clear hby hfr hn
 go_enter Tryz.func100,Tryz.ntmps100
 go_wp2_with (first
  | (go_at_call 143;((with_reducible refine (Hby.out _).mono ?_);rintro e w1 ⟨A,rfl,hA,hg1⟩))
  | (go_at_call 142;((with_reducible refine (Hfr.out _ _ hA).mono ?_);rintro e w2 ⟨x,rfl,hx,hg2⟩)))
 go_ret
 exact ⟨x,rfl,hx,(A3.alloc _ _).trans (hg1.trans hg2)⟩
theorem B1D (z : Int) (ha : bl z.natAbs ≤ LIM) (w : World) : Calls Tryz.prog 98 #[C8 z] w (Ret (J6 z) w):=by
 have ha' : bl z.natAbs ≤ 1099511627776:=by unfold LIM at ha;omega
 go_enter Tryz.func98,Tryz.ntmps98
 refine en2 ?_
 intro u hG b2 b1 hB hF
 refine wp_seq (rdC A5 [] [(0,0),(0,3),(1,1),(0,2),(1,4),(1,5),(1,6)] hB hG fun K L hN hL=>?_)
 refine gs ?_
 refine gmw (C:=fun v=>A1g _ (by assumption) _) ?_
 refine gs ?_
 refine gmw (C:=fun v=>A2Y _ _) ?_
 refine grd (I2 z.natAbs) (fun (x8 : Ax)=>?_) (C:=fun v _=>A5j z.natAbs ha _)
 refine gmd (C:=by (rintro v ⟨⟨hgu,hB,hG,-⟩,hx8⟩;have hx8 : Rn v x8 _:=hx8;exact S7 x8 _ z.natAbs _)) ?_
 refine geC hL ?_
 clear hB hG hL L
 rintro u ⟨⟨-,hB,hG,-⟩,hx8⟩
 replace hx8 : Rn u x8 _:=hx8
 refine gtT ?_
 clear hN K
 refine sv hB hF hG 1 0 [_,_] ?_
 intro u hu hBG
 replace hx8:=hx8.put hB 1 rfl (by first | decide | simp) _ _ hu
 clear hB hG hu
 obtain ⟨hB,hG⟩:=hBG
 refine rt Tryz.results98 ?_
 exact ⟨x8,congrArg (fun y : Int=>Ending.returned (riV x8 y)) (A0H z),hx8,hG⟩
theorem B3T (q : Rat) (ha : qs q ≤ LIM) (w : World) : Calls Tryz.prog 58 #[qV q] w (Ret (G5 q) w):=by
 have h1 : bl q.num.natAbs ≤ LIM:=Nat.le_trans (F1 q) ha
 have h2 : bl q.den ≤ LIM:=Nat.le_trans (F0 q) ha
 have h3 : bl q.den ≤ 1099511627776:=by unfold LIM at h2;omega
 go_enter Tryz.func58,Tryz.ntmps58
 refine en2 ?_
 intro u hG b2 b1 hB hF
 refine wp_seq (rdC A5 [] [(0,0),(0,3),(1,1),(1,2),(1,4),(1,5),(0,6)] hB hG fun K L hN hL=>?_)
 refine gs ?_
 refine gmw (C:=fun v=>B4B _ _) ?_
 refine grd (J6 q.num) (fun (x5 : Ax)=>?_) (C:=fun v _=>B1D q.num h1 _)
 refine gmd (C:=by (rintro v ⟨⟨hgu,hB,hG,-⟩,hx5⟩;have hx5 : Rn v x5 _:=hx5;exact O7 _ (by assumption) _)) ?_
 refine grd (I2 q.den) (fun (x8 : Ax)=>?_) (C:=by (rintro v ⟨⟨hgu,hB,hG,-⟩,hx5⟩;have hx5 : Rn v x5 _:=hx5;exact A5j q.den h2 _))
 refine gs ?_
 refine geC hL ?_
 clear hB hG hL L
 rintro u ⟨⟨⟨-,hB,hG,-⟩,hx5⟩,hx8⟩
 replace hx5 : Rn u x5 _:=hx5
 replace hx8 : Rn u x8 _:=hx8
 refine gtT ?_
 clear hN K
 refine sv hB hF hG 1 0 [_,_,_] ?_
 intro u hu hBG
 replace hx5:=hx5.put hB 1 rfl (by first | decide | simp) _ _ hu
 replace hx8:=hx8.put hB 1 rfl (by first | decide | simp) _ _ hu
 clear hB hG hu
 obtain ⟨hB,hG⟩:=hBG
 refine rt Tryz.results58 ?_
 exact ⟨(x5,x8),rfl,⟨hx5,hx8⟩,hG⟩
theorem A65 (x y : Ax) (a : Nat) (w : World) (hx : Rn w x a) (hy : Rn w y a) : Calls Tryz.prog 59 #[nvV x a,nvV y a] w fun e w'=>e = .returned (.int .i64 0) ∧ A3 w w':=by
 have := A2V x y a a w hx hy
 rw [A0O rfl] at this
 exact this
theorem A8y (q : Rat) (x y : Ax) (ha : qs q ≤ LIM) (w : World) (hx : Rn w x q.num.natAbs) (hy : Rn w y q.den) : Calls Tryz.prog 26 #[qV q,rqV x y q] w fun e w'=>e = .returned (.bool true) ∧ A3 w w':=by
 have hl : 0 < ln q.den:=A0T.2 q.den_nz
 have hlb : ((ln q.den : Int) == 0) = false:=by simp;omega
 go_enter Tryz.func26,Tryz.ntmps26
 refine en2 ?_
 intro u hG b3 b2 hB hF
 replace hx:=hx.grow hG
 replace hy:=hy.grow hG
 refine wp_seq (rsC A1w [0,1,2] hB hG fun K L hN hL=>?_)
 refine gs ?_
 refine grd (G5 q) (fun (x7 : Ax × Ax)=>?_) (C:=fun v _=>B3T q ha _)
 refine gaa (A0r _ _ _ _ _) fun b5 hb5 hn5=>?_
 replace hF:=hF.n1 [] hB hG hb5 hn5
 refine geC hL ?_
 clear hB hG hL L
 rintro u ⟨⟨⟨hgu,hB,hG,-⟩,hx7⟩,h5⟩
 replace hB:=hB.cons' h5
 clear h5
 replace hx:=hx.grow hgu
 replace hy:=hy.grow hgu
 obtain ⟨hx7a,hx7b⟩ : Rn u x7.1 _ ∧ Rn u x7.2 _:=hx7
 clear hb5 hn5
 clear hgu
 refine gtT ?_
 clear hN K
 refine sv hB hF hG 0 0 [_,_,_] ?_
 intro u hu hBG
 replace hx:=hx.put hB 0 rfl (by first | decide | simp) _ _ hu
 replace hy:=hy.put hB 0 rfl (by first | decide | simp) _ _ hu
 replace hx7a:=hx7a.put hB 0 rfl (by first | decide | simp) _ _ hu
 replace hx7b:=hx7b.put hB 0 rfl (by first | decide | simp) _ _ hu
 clear hB hG hu
 obtain ⟨hB,hG⟩:=hBG
 refine wp_seq ?_
 refine r0T ?_
 refine wp_cond_false (rfl) ?_
 refine wp_skip ?_
 refine A4 ?_
 refine wp_seq (rsE A1w [0,0,0,0,0,0,1,0,0,0,0,0,0,0,0,0,0,0,0,0,0,0,1,0,0,0] hB hG fun L hL=>?_)
 refine gs ?_
 refine gmd (C:=fun v ⟨hgu,hB,hG,_⟩=>A65 x7.1 x q.num.natAbs _ (hx7a.grow hgu) (hx.grow hgu)) ?_
 refine gs ?_
 first | refine gmd (C:=fun v ⟨hgu,hB,hG,_⟩=>A65 x7.2 y q.den _ (hx7b.grow hgu) (hy.grow hgu)) ?_ | refine E4 ?_
 refine gs ?_
 refine geT hL ?_
 clear hB hG hL L
 rintro u ⟨hgu,hB,hG,-⟩
 replace hx:=hx.grow hgu
 replace hy:=hy.grow hgu
 replace hx7a:=hx7a.grow hgu
 replace hx7b:=hx7b.grow hgu
 clear hgu
 refine rt Tryz.results26 ?_
 exact ⟨rfl,hG⟩
theorem A75 (n d : Int) (h0 : -9223372036854775808 ≤ n) (h1 : n ≤ 9223372036854775807) (h2 : -9223372036854775808 ≤ d) (h3 : d ≤ 9223372036854775807) (hd : d ≠ 0) (ha : qs (E7 n d) ≤ LIM) (w : World) : Calls Tryz.prog 46 #[qV (E7 n d),.int .i64 n,.int .i64 d] w fun e w'=>e = .returned (.bool true) ∧ A3 w w':=by
 go_enter Tryz.func46,Tryz.ntmps46
 refine en1 ?_
 intro u hG b3 hB hF
 refine wp_seq (rdC A5 [] [(0,0),(0,1),(0,2),(1,3),(1,4)] hB hG fun K L hN hL=>?_)
 refine gs ?_
 refine grd (G5 (E7 n d)) (fun (x10 : Ax × Ax)=>?_) (C:=fun v _=>A8X n d h0 h1 h2 h3 hd _)
 refine gmd (C:=by (rintro v ⟨⟨hgu,hB,hG,-⟩,hx10⟩;obtain ⟨hx10a,hx10b⟩ : Rn v x10.1 _ ∧ Rn v x10.2 _:=hx10;exact A8y (E7 n d) x10.1 x10.2 ha _ hx10a hx10b)) ?_
 refine geC hL ?_
 clear hB hG hL L
 rintro u ⟨⟨-,hB,hG,-⟩,hx10⟩
 obtain ⟨hx10a,hx10b⟩ : Rn u x10.1 _ ∧ Rn u x10.2 _:=hx10
 refine gtT ?_
 clear hN K
 refine rt Tryz.results46 ?_
 exact ⟨rfl,hG⟩
def F8 (n m : Int) : Int:=n % m
theorem A0C (n : Int) {m : Int} (h : 0 < m) : 0 ≤ F8 n m ∧ F8 n m < m:=⟨Int.emod_nonneg _ (by omega),Int.emod_lt_of_pos _ h⟩
theorem B5X (n m : Int) (hm : 0 < m) (hm2 : m ≤ 9223372036854775807) (w : World) : Calls Tryz.prog 14 #[.int .i64 n,.int .i64 m] w fun e w'=>e = .returned (.int .i64 (F8 n m)) ∧ w = w':=by
 have h0 : ¬ m = 0:=by omega
 obtain ⟨t,ht⟩ : ∃ t,t = n.tmod m:=⟨_,rfl⟩
 have hp : F8 n m = if t < 0 then t + m else t:=by
  rw [ht]
  unfold F8
  have h1:=Int.emod_nonneg n (show m ≠ 0 by omega)
  have h2:=Int.emod_lt_of_pos n hm
  rw [Int.tmod_eq_emod]
  split <;> split <;> omega
 have hb : -m < t ∧ t < m:=by
  rw [ht]
  have h1:=Int.emod_nonneg n (show m ≠ 0 by omega)
  have h2:=Int.emod_lt_of_pos n hm
  rw [Int.tmod_eq_emod]
  split <;> omega
 have htm : n.tmod m = t:=ht.symm
 have hw1 : IntKind.i64.wrap t = t:=IntWalk.i64_in _ (by omega)
 clear ht
 by_cases hneg : t < 0
 ·rw [if_pos hneg] at hp
  have hw2 : IntKind.i64.wrap (t + m) = t + m:=IntWalk.i64_in _ (by omega)
  have Hp:=Lib.hid hp
  clear hp
  go_enter Tryz.func14,Tryz.ntmps14
  go_wp2_with fail
  go_ret
  exact ⟨I7 Hp.out.symm,rfl⟩
 ·rw [if_neg hneg] at hp
  have Hp:=Lib.hid hp
  clear hp
  go_enter Tryz.func14,Tryz.ntmps14
  go_wp2_with fail
  go_ret
  exact ⟨I7 Hp.out.symm,rfl⟩
end Go.Proofs.YtjmopgepnndckaaGreatDoor
