/- Contracts and laws. -/
import Derived.Test.YtlkniebmjdoopaaGreatDoorK24
set_option linter.unusedSimpArgs false
set_option linter.unusedVariables false
set_option maxHeartbeats 1000000
set_option maxRecDepth 100000
namespace Go.Proofs.YtlkniebmjdoopaaGreatDoor
open Go.RowKit
def A1m (P R : Nat) (l : List Nat) (i : Nat) (zs : List Nat) : Prop:=zs.length = i ∧ ∀ t,t < i → dg zs t = dg l t / P + dg l (t + 1) % P * R
theorem A1m.next {P R : Nat} {l zs : List Nat} {i : Nat} (h : A1m P R l i zs) : A1m P R l (i + 1) (zs ++ [dg l i / P + dg l (i + 1) % P * R]):=by
 refine ⟨by simp [h.1],fun t ht=>?_⟩
 unfold dg
 rcases Nat.lt_or_ge t i with hlt | hge
 ·rw [List.getElem?_append_left (by rw [h.1];exact hlt)]
  exact h.2 t hlt
 ·obtain rfl : t = i:=by omega
  rw [List.getElem?_append_right (by rw [h.1];exact Nat.le_refl _),h.1,Nat.sub_self]
  rfl
theorem A1m.done {P R : Nat} {l zs : List Nat} (h : A1m P R l l.length zs) (hW : W32 = P * R) (hP : 0 < P) (hd : Dig W32 l) : val W32 zs = val W32 l / P ∧ Dig W32 zs :=
 ⟨A3K hW hP E0 l zs hd h.1 h.2,fun x hx=>by
  obtain ⟨t,ht,rfl⟩:=List.getElem_of_mem hx
  rw [← D3 ht,h.2 t (by rw [← h.1];exact ht)]
  exact (A1l hW hP (B9 E0 hd _)).1⟩
theorem B0l {x y P R : Nat} (hW : W32 = P * R) (hP : 0 < P) (hx : x < W32) : (x + y * W32) / P % W32 = x / P + y % P * R:=by
 have h1 : (x + y * W32) / P = x / P + y * R:=by rw [hW,show y * (P * R) = P * (y * R) by grind,Nat.add_mul_div_left _ _ hP]
 rw [h1]
 have h2:=(A1l (y:=y) hW hP hx).1
 have h3 : y * R = y % P * R + (y / P) * W32:=by
  have := Nat.div_add_mod y P
  calc y * R = (P * (y / P) + y % P) * R:=by rw [this]
   _ = y % P * R + (y / P) * W32:=by rw [hW];grind
 rw [h3,← Nat.add_assoc,Nat.add_mul_mod_self_right,Nat.mod_eq_of_lt h2]
theorem B6i (x : Ax) (a n : Nat) (w : World) (hx : Rn w x a) (ha : bl a ≤ 1099511627776) (hn0 : 0 < n) (hn : n < 32) : Calls Tryz.prog 179 #[nvV x a,.int .i64 (-(n : Int))] w (Ret (P4 (a / 2 ^ n)) w):=by
 have hat : ∀ i W,A3 w W → Calls Tryz.prog 199 #[nvV x a,.int .i64 (i : Nat)] W fun e w'=>e = .returned (.int .u64 (dg (A7 W32 a) i : Nat)) ∧ A3 W w':=fun i W hg=>A7b x a i W (hx.grow hg)
 obtain ⟨p,hp⟩ : ∃ p,p = ln a:=⟨_,rfl⟩
 obtain ⟨A,c⟩:=x
 have hpl:=A2N a
 rw [← hp] at hpl
 change ∀ i W,A3 w W → Calls Tryz.prog 199 #[.slice A (ln a) c,.int .i64 (i : Nat)] W _ at hat
 show Calls Tryz.prog 179 #[.slice A (ln a) c,.int .i64 (-(n : Int))] w _
 rw [← hp] at hat
 rw [← hp]
 have q1 : (n : Int).tdiv 32 = 0:=by rw [Int.tdiv_eq_ediv_of_nonneg (by omega)];omega
 have q2 : (n : Int).tmod 32 = (n : Nat):=by rw [Int.tmod_eq_emod_of_nonneg (by omega)];omega
 have q3 : (n : Int) / 32 = 0:=by omega
 have q4 : (n : Int) % 32 = (n : Nat):=by omega
 have q5 : - (-(n : Int)) = (n : Int):=by omega
 have q6 : IntKind.i64.wrap (n : Int) = (n : Int):=IntWalk.i64_in _ (by omega)
 have q7 : IntKind.u64.wrap (n : Int) = (n : Int):=C5 (by omega)
 have q8 : min n 64 = n:=by omega
 have hnz : ¬ n = 0:=by omega
 obtain ⟨t,ht⟩ : ∃ t,t = 32 - n:=⟨_,rfl⟩
 have hpw : W32 = 2 ^ n * 2 ^ t:=by rw [← Nat.pow_add,show n + t = 32 by omega];rfl
 have hpb : p ≤ 34359738400:=by omega
 have Hat:=Lib.hid hat
 have Hp:=Lib.hid hp
 have Hpw:=Lib.hid hpw
 clear hat hp hx hpl ha hpw ht
 go_enter Tryz.func179,Tryz.ntmps179
 refine en0 ?_
 intro u hG hB hF
 refine wp_seq ?_
 refine r0T ?_
 refine wp_cond_false (rfl) ?_
 refine wp_skip ?_
 refine A4 ?_
 refine r0T ?_
 refine r0T ?_
 refine wp_seq ?_
 refine r0T ?_
 refine wp_block ?_
 clear hB hF
 go_loopw [9,8] (fun s0 s2 wr=>∃ (i : Nat) (zs : List Nat),i ≤ p ∧ s0 = .int .i64 i ∧ A1m (2 ^ n) (2 ^ t) (A7 W32 a) i zs ∧ wr.ownsRow w.heap.size 176 1 s2 i (A0A zs) ∧ A3 w wr) (fun s0 _ _=>p - (intOf s0).toNat)
 case atStart=>exact ⟨0,[],Nat.zero_le _,rfl,⟨rfl,fun t ht=>by omega⟩,World.ownsRow_nil _ _ _ _,hG⟩
 case round =>
  clear hG
  obtain ⟨i,zs,hi,rfl,hI,ho,hG⟩:=hrel
  obtain ⟨u,rfl⟩ : ∃ x,x = wr:=⟨_,rfl⟩
  have hB:=Bx.nil u
  have hF:=Fr.nil w
  have HI:=Lib.hid hI
  have Ho:=Lib.hid ho
  clear hI ho
  rcases Nat.lt_or_ge i p with hlt | hge
  ·have hdec : decide ((i : Int) < (p : Int)) = true:=by simp;omega
   have e1:=dgl a i
   have e2:=dgl a (i + 1)
   have hnx:=HI.out.next
   have hat:=Hat.out i
   obtain ⟨i1,hi1⟩ : ∃ j,j = i + 1:=⟨_,rfl⟩
   have hat1:=Hat.out i1
   rw [← hi1] at e2 hnx
   have fi : IntKind.i64.wrap ((i : Int) + 1) = (i1 : Int):=by rw [show (i : Int) + 1 = ((i1 : Nat) : Int) by omega];exact IntWalk.i64_in _ (by omega)
   obtain ⟨X,hX⟩ : ∃ X,X = dg (A7 W32 a) i:=⟨_,rfl⟩
   obtain ⟨Y,hY⟩ : ∃ X,X = dg (A7 W32 a) i1:=⟨_,rfl⟩
   rw [← hX] at e1 hnx
   rw [← hY] at e2 hnx
   simp only [← hX] at hat
   simp only [← hY] at hat1
   obtain ⟨m,hm⟩ : ∃ m,m = Y * 4294967296:=⟨_,rfl⟩
   obtain ⟨s,hs⟩ : ∃ s,s = X + m:=⟨_,rfl⟩
   have f1 : IntKind.u64.wrap ((Y : Int) * 4294967296) = (m : Int):=by rw [show (Y : Int) * 4294967296 = ((m : Nat) : Int) by omega];exact C5 (by omega)
   have f1b : (Y : Int) * 4294967296 = (m : Int):=by omega
   have f1c : IntKind.u64.wrap (m : Int) = (m : Int):=C5 (by omega)
   have f2 : bits BinOp.or IntKind.u64 (X : Int) (m : Int) = (s : Nat):=by rw [u64_or_nat X m (by omega) (by omega),A1T (s:=32) e1 (by rw [hm];exact Nat.dvd_mul_left _ _),hs,Nat.add_comm]
   obtain ⟨g,hg⟩ : ∃ g,g = s / 2 ^ n:=⟨_,rfl⟩
   have f3 : (s : Int) / 2 ^ n = (g : Int):=by rw [hg];simp
   obtain ⟨d,hd⟩ : ∃ d,d = g % 4294967296:=⟨_,rfl⟩
   have f4 : (g : Int) % 4294967296 = (d : Int):=by omega
   have f4' : IntKind.u32.wrap (g : Int) = (d : Int):=by rw [← f4];simp [IntKind.wrap,IntKind.signed,IntKind.bits]
   have hdl : X / 2 ^ n + Y % 2 ^ n * 2 ^ t = d:=by
    rw [hd,hg,hs,hm]
    exact (B0l (x:=X) (y:=Y) Hpw.out (Nat.two_pow_pos n) e1).symm
   rw [hdl,hi1] at hnx
   have Hat0:=Lib.hid hat
   have Hat1:=Lib.hid hat1
   have Hnx:=Lib.hid hnx
   have Hi1:=Lib.hid hi1
   clear hnx hat hat1 hX hY hm hs hg hd hdl hi1
   refine wp_seq ?_
   refine r0T ?_
   refine wp_cond_true (rfl) ?_
   refine wp_skip ?_
   refine A4 ?_
   refine wp_seq ?_
   refine wp_block ?_
   refine wp_seq (rsE A5 [0,0,1,0,0,0,1,0,0,0] hB hG fun L hL=>?_)
   refine gs ?_
   refine gmd (C:=fun v ⟨hgu,hB,hG,_⟩=>Hat0.out _ hG) ?_
   refine gs ?_
   refine gmd (C:=fun v ⟨hgu,hB,hG,_⟩=>Hat1.out _ hG) ?_
   refine gs ?_
   refine geT hL ?_
   clear hB hG hL L
   rintro u ⟨hgu,hB,hG,-⟩
   have Hon:=Lib.hid (F3 Ho.out hgu)
   clear Ho
   have Ho:=Hon
   clear Hon
   clear hgu
   refine A03 (w:=w) A5 7 [0,0,0,0,0,0,0] (by kernel_rfl) (by simp only [List.drop_succ_cons,List.drop_zero];exact rfl) (fun _=>True) noG hB hG trivial ?_
   intro K L hN hL
   simp only [List.zip_cons_cons,List.zip_nil_left]
   refine gs ?_
   refine K8 ?_
   rintro v ⟨hgu,hB1,hG1,-⟩
   have ROWn:=Lib.hid (F3 Ho.out hgu)
   clear Ho
   have Ho:=ROWn
   clear ROWn
   clear hB hG
   have hB:=hB1
   have hG:=hG1
   clear hB1 hG1
   refine hL _ _ ?_
   clear hL L hgu
   obtain ⟨u,rfl⟩ : ∃ x,x = v:=⟨_,rfl⟩
   refine A2J A6O w.heap.size _ _ _ _ [.int .u32 (d : Nat)] rfl rfl (A7Z d u) rfl (fun _=>rfl) (fun _=>rfl) (fun _ _=>rfl) Ho.out (by omega) (by omega) hG.sz fun p v' w' g1 g2 g3=>?_
   have hBn:=Bx.nil w'
   have hGn:=A2K Ho.out hG g2
   clear Ho hB hG
   have Ho:=Lib.hid g1
   have hB:=hBn
   have hG:=hGn
   clear g1 g2 g3 hBn hGn
   obtain ⟨u,rfl⟩ : ∃ x,x = w':=⟨_,rfl⟩
   simp only [Act.put,List.setIfInBounds_toArray,List.set_cons_succ,List.set_cons_zero]
   refine NoK.norm (hN _ _ ?_)
   clear hN K
   refine F0 ?_
   refine A4 ?_
   refine r0E ?_
   refine A4 ?_
   go_roundw
   case rel=>exact ⟨i1,zs ++ [d],by have := Hi1.out;omega,by first | rfl | go_num,by rw [Hi1.out];exact Hnx.out,by have := Ho.out;rw [Hi1.out];simpa using this,hG⟩
   case measure=>have := Hi1.out;simp [intOf];omega
  ·obtain rfl : p = i:=by omega
   have hdec : decide ((p : Int) < (p : Int)) = false:=by simp
   have hvv:=HI.out
   rw [show p = (A7 W32 a).length from Hp.out] at hvv
   obtain ⟨hv2,hdd⟩:=hvv.done Hpw.out (Nat.two_pow_pos n) (F2 D9 a)
   rw [D5 D9] at hv2
   obtain ⟨A',cc,rfl,hcc1,hcc2,hL,hkl⟩:=A8k Ho.out
   have htr : ∀ W,A3 u W → Calls Tryz.prog 142 #[.slice A' p cc] W fun e w'=>e = .returned (.slice A' (ln (a / 2 ^ n)) cc) ∧ A3 W w':=fun W hg=>by
    have h1:=A1I A' zs cc W (hL.grow hg) (by omega) (by unfold maxLen at hcc2;omega)
    have e : C6 zs = A7 W32 (a / 2 ^ n):=by rw [← hv2];exact A6A D9 hdd
    rw [e,← hkl] at h1
    exact h1
   have Htr:=Lib.hid htr
   have HL:=Lib.hid hL
   have Hv2:=Lib.hid hv2
   have Hkl:=Lib.hid hkl
   have Hdd:=Lib.hid hdd
   clear htr hL hv2 hvv hkl hdd
   refine wp_seq ?_
   refine r0T ?_
   refine wp_cond_false (rfl) ?_
   refine wp_exit ?_
   refine D7 ?_
   refine D7 ?_
   refine G8 ?_
   refine A4 ?_
   refine wp_seq ?_
   obtain ⟨V,hV⟩ : ∃ V,V = a / 2 ^ n:=⟨_,rfl⟩
   rw [← hV] at Htr Hv2
   have HV:=Lib.hid hV
   clear hV
   refine rsE A5 [0,1,0] hB hG fun L hL=>?_
   refine gs ?_
   refine gmd (C:=fun v ⟨hgu,hB,hG,_⟩=>Htr.out _ hgu) ?_
   refine gs ?_
   refine geT hL ?_
   clear hB hG hL L
   rintro u ⟨hgu,hB,hG,-⟩
   have hgf:=hgu
   clear hgu
   refine rt Tryz.results179 ?_
   exact ⟨(A',cc),by rw [← HV.out];rfl,by rw [← HV.out];exact (A4U HL.out Hdd.out Hv2.out (by have := Hkl.out;omega) (by unfold maxLen at hcc2;omega) (by have := Hkl.out;omega)).1.grow hgf,hG⟩
end Go.Proofs.YtlkniebmjdoopaaGreatDoor
namespace Go.Proofs.YtlkniebmjdoopaaGreatDoor
def GJ (W u2 u1 u0 v1 v0 g r : Nat) : Prop:=g ≤ W + 1 ∧ r < W ∧ g * v1 + r = u2 * W + u1 ∧ ∀ g',g' < W → g' * (v1 * W + v0) ≤ (u2 * W + u1) * W + u0 → g' ≤ g
theorem GJ.start {W u2 u1 u0 v1 v0 : Nat} (hW : 0 < W) (h : u2 ≤ v1) (hv : W ≤ 2 * v1) (hvW : v1 < W) (h1 : u1 < W) (h0 : u0 < W) : GJ W u2 u1 u0 v1 v0 ((u2 * W + u1) / v1) ((u2 * W + u1) % v1):=by
 have hp : 0 < v1:=by omega
 have e1 : u2 * W ≤ v1 * W:=Nat.mul_le_mul_right _ h
 refine ⟨?_,Nat.lt_trans (Nat.mod_lt _ hp) hvW,by rw [Nat.mul_comm];exact Nat.div_add_mod _ _,fun g' _ hg=>?_⟩
 ·have : (u2 * W + u1) / v1 < W + 2:=(Nat.div_lt_iff_lt_mul hp).2 (by rw [Nat.add_mul,Nat.mul_comm W v1];omega)
  omega
 ·rw [Nat.le_div_iff_mul_le hp]
  have h2 : g' * v1 * W ≤ g' * (v1 * W + v0):=by rw [Nat.mul_add,Nat.mul_assoc];omega
  have h3 : g' * v1 * W < (u2 * W + u1 + 1) * W:=by rw [Nat.add_mul (u2 * W + u1),Nat.one_mul];omega
  have := Nat.lt_of_mul_lt_mul_right h3
  omega
theorem GJ.small {W u2 u1 u0 v1 v0 g r : Nat} (h : GJ W u2 u1 u0 v1 v0 g r) (hg : g < W) : GI W u2 u1 u0 v1 v0 g r:=⟨hg,h.2.2.1,h.2.2.2⟩
theorem GI.back {W u2 u1 u0 v1 v0 g r : Nat} (h : GI W u2 u1 u0 v1 v0 g r) (hr : r < W) : GJ W u2 u1 u0 v1 v0 g r:=⟨by have := h.1;omega,hr,h.2.1,h.2.2⟩
theorem GJ.big {W u2 u1 u0 v1 v0 g r : Nat} (h : GJ W u2 u1 u0 v1 v0 g r) (hg : W ≤ g) (hu : u2 ≤ v1) (h1 : u1 < W) (h0 : v0 < W) (hW : 0 < W) :
  (W ≤ r + v1 → GW W u2 u1 u0 v1 v0 (g - 1)) ∧ (r + v1 < W → GJ W u2 u1 u0 v1 v0 (g - 1) (r + v1)):=by
 obtain ⟨k,rfl⟩ : ∃ k,g = k + 1:=⟨g - 1,by omega⟩
 obtain ⟨a1,a2,a3,a4⟩:=h
 rw [Nat.add_sub_cancel]
 have e1 : k * v1 + (r + v1) = u2 * W + u1:=by rw [Nat.add_mul,Nat.one_mul] at a3;omega
 refine ⟨fun hr=>?_,fun hr=>⟨by omega,hr,e1,fun g' hg' _=>by omega⟩⟩
 have hk : k < W:=by
  rcases Nat.lt_or_ge k W with h | h
  ·exact h
  ·exfalso
   have e2 : W * v1 ≤ k * v1:=Nat.mul_le_mul_right _ h
   have e3 : u2 * W ≤ v1 * W:=Nat.mul_le_mul_right _ hu
   rw [Nat.mul_comm v1] at e3
   omega
 exact GI.over (r:=r + v1) ⟨hk,e1,fun g' hg' _=>by omega⟩ h0 hr
theorem GJ.less {W u2 u1 u0 v1 v0 g r : Nat} (h : GJ W u2 u1 u0 v1 v0 g r) (hg : g < W) (hs : ¬ g * v0 ≤ r * W + u0) (h0 : v0 < W) :
  0 < g ∧ (W ≤ r + v1 → GW W u2 u1 u0 v1 v0 (g - 1)) ∧ (r + v1 < W → GJ W u2 u1 u0 v1 v0 (g - 1) (r + v1)):=by
 obtain ⟨a1,a2⟩:=(h.small hg).next hs
 exact ⟨a1,fun hr=>a2.over h0 hr,fun hr=>a2.back hr⟩
theorem GJ.stop {W u2 u1 u0 v1 v0 g r : Nat} (h : GJ W u2 u1 u0 v1 v0 g r) (hg : g < W) (hs : g * v0 ≤ r * W + u0) : GW W u2 u1 u0 v1 v0 g:=(h.small hg).stop hs
theorem B4G {a n : Nat} (h1 : W32 ^ n ≤ a) (h2 : a < W32 ^ (n + 1)) : ln a = n + 1:=by
 have e1:=H5 (F2 D9 a)
 rw [D5 D9] at e1
 have hl : n < ln a:=by
  rcases Nat.lt_or_ge n (ln a) with h | h
  ·exact h
  ·exfalso
   have : W32 ^ ln a ≤ W32 ^ n:=Nat.pow_le_pow_right E0 h
   change a < W32 ^ ln a at e1
   omega
 rcases Nat.lt_or_ge (n + 1) (ln a) with h | h
 ·exfalso
  have h0 : a ≠ 0:=by
   have : 0 < W32 ^ n:=Nat.pow_pos E0
   omega
  have e3:=I7 W32 (A7 W32 a) (ln a - 1)
  rw [show ln a - 1 + 1 = ln a by omega,show ln a = (A7 W32 a).length from rfl,List.take_length,D5 D9] at e3
  have e4:=A3B h0
  rw [show ln a = (A7 W32 a).length from rfl] at e4
  have e5 : W32 ^ ((A7 W32 a).length - 1) * 1 ≤ W32 ^ ((A7 W32 a).length - 1) * dg (A7 W32 a) ((A7 W32 a).length - 1):=Nat.mul_le_mul_left _ (by omega)
  have e6 : W32 ^ (n + 1) ≤ W32 ^ ((A7 W32 a).length - 1):=Nat.pow_le_pow_right E0 (by change n + 1 < (A7 W32 a).length at h;omega)
  omega
 ·omega
theorem B4n {b n1 s : Nat} (hl : ln b = n1 + 1) (hs : s = 32 * ln b - bl b) : s < 32 ∧ bl b + s = 32 * (n1 + 1) ∧ ln (b * 2 ^ s) = n1 + 1 ∧ b * 2 ^ s < W32 ^ (n1 + 1) ∧ W32 ^ n1 * 2147483648 ≤ b * 2 ^ s ∧ 2147483648 ≤ dg (A7 W32 (b * 2 ^ s)) n1:=by
 have h0 : b ≠ 0:=by intro e;rw [e,A5W] at hl;omega
 have hb:=A9h (F2 D9 b) (by change 0 < ln b;omega) (A3B h0)
 rw [D5 D9] at hb
 change bl b = 32 * (ln b - 1) + bl (dg (A7 W32 b) (ln b - 1)) at hb
 have ht:=P6.2 (A3B h0)
 have hd : bl (dg (A7 W32 b) (ln b - 1)) ≤ 32:=J9.2 (dgl b _)
 rw [hl] at hb hs ht hd
 have e1 : bl b + s = 32 * (n1 + 1):=by omega
 have e2 : W32 ^ (n1 + 1) = 2 ^ (32 * (n1 + 1)):=by rw [show W32 = 2 ^ 32 from rfl,← Nat.pow_mul]
 have e3 : b * 2 ^ s < W32 ^ (n1 + 1):=by
  rw [e2,← e1,Nat.pow_add]
  exact Nat.mul_lt_mul_of_pos_right (V7 b) (Nat.two_pow_pos s)
 have e4 : W32 ^ n1 * 2147483648 ≤ b * 2 ^ s:=by
  have h1 : 2 ^ (bl b - 1) ≤ b:=Z6.1 (by omega)
  rw [show W32 ^ n1 = 2 ^ (32 * n1) by rw [show W32 = 2 ^ 32 from rfl,← Nat.pow_mul],show 2147483648 = 2 ^ 31 from rfl,← Nat.pow_add,show 32 * n1 + 31 = bl b - 1 + s by omega,Nat.pow_add]
  exact Nat.mul_le_mul_right _ h1
 have e5 : ln (b * 2 ^ s) = n1 + 1:=B4G (by have : W32 ^ n1 * 1 ≤ W32 ^ n1 * 2147483648:=Nat.mul_le_mul_left _ (by omega);omega) e3
 refine ⟨by omega,e1,e5,e3,e4,?_⟩
 have h3:=I7 W32 (A7 W32 (b * 2 ^ s)) n1
 rw [show (A7 W32 (b * 2 ^ s)).take (n1 + 1) = A7 W32 (b * 2 ^ s) by rw [← e5];exact List.take_length,D5 D9] at h3
 have h4:=A56 E0 (F2 D9 (b * 2 ^ s)) n1
 rcases Nat.lt_or_ge (dg (A7 W32 (b * 2 ^ s)) n1) 2147483648 with h | h
 ·exfalso
  have h5 : W32 ^ n1 * (dg (A7 W32 (b * 2 ^ s)) n1 + 1) ≤ W32 ^ n1 * 2147483648:=Nat.mul_le_mul_left _ h
  rw [Nat.mul_add,Nat.mul_one] at h5
  omega
 ·exact h
theorem B3f {a V n1 k0 : Nat} (hV : W32 ^ n1 ≤ V) (hk : n1 + 1 + k0 = ln a + 2) : DvI W32 V a k0 (A7 W32 a ++ [0,0]) (List.replicate k0 0):=by
 have hv : val W32 (A7 W32 a ++ [0,0]) = a:=by rw [S7,D5 D9];simp [val]
 refine ⟨fun x hx=>?_,fun x hx=>by rw [(List.mem_replicate.1 hx).2];exact E0,by rw [A0c,hv];simp,?_,fun t _=>by unfold dg;rw [List.getElem?_replicate];split <;> rfl⟩
 ·rcases List.mem_append.1 hx with h | h
  ·exact F2 D9 a x h
  ·have : x = 0:=by simpa using h
   rw [this];exact E0
 ·rw [hv]
  have e1:=H5 (F2 D9 a)
  rw [D5 D9] at e1
  change a < W32 ^ ln a at e1
  calc a < W32 ^ ln a:=e1
   _ ≤ W32 ^ (n1 + k0):=Nat.pow_le_pow_right E0 (by omega)
   _ = W32 ^ n1 * W32 ^ k0:=Nat.pow_add _ _ _
   _ ≤ V * W32 ^ k0:=Nat.mul_le_mul_right _ hV
theorem DvI.top' {W X j n2 : Nat} {us qs vs : List Nat} (hW : 0 < W) (h : DvI W (val W vs) X (j + 1) us qs) (hv : Dig W vs) (hvW : val W vs < W ^ (n2 + 2)) :
  Dig W (us.drop j) ∧ (∀ t,n2 + 3 ≤ t → dg (us.drop j) t = 0) ∧ (∀ t,n2 + 2 ≤ t → dg vs t = 0) ∧ val W (us.drop j) < val W vs * W ∧ (∀ t,j + n2 + 3 ≤ t → dg us t = 0):=by
 have hp : 0 < W ^ j:=Nat.pow_pos hW
 have h1 : val W us < W ^ (j + n2 + 3):=by
  refine Nat.lt_of_lt_of_le h.2.2.2.1 ?_
  calc val W vs * W ^ (j + 1) ≤ W ^ (n2 + 2) * W ^ (j + 1):=Nat.mul_le_mul_right _ (Nat.le_of_lt hvW)
   _ = W ^ (j + n2 + 3):=by rw [← Nat.pow_add];congr 1;omega
 have h2:=A2V hW h.1 h1
 refine ⟨fun x hx=>h.1 x (List.mem_of_mem_drop hx),fun t ht=>by rw [A0L];exact h2 _ (by omega),A2V hW hv hvW,?_,h2⟩
 rw [← A2m hW h.1,Nat.div_lt_iff_lt_mul hp,Nat.mul_assoc,Nat.mul_comm W,← Nat.pow_succ]
 exact h.2.2.2.1
theorem B3V {W g x cy : Nat} (hW : 0 < W) : g * x / W + (g * x % W + cy) / W = (cy + g * x) / W ∧ (g * x % W + cy) % W = (cy + g * x) % W:=by
 have e1:=Nat.div_add_mod (g * x) W
 constructor
 ·have : cy + g * x = g * x % W + cy + W * (g * x / W):=by omega
  rw [this,Nat.add_mul_div_left _ _ hW];omega
 ·have : cy + g * x = g * x % W + cy + W * (g * x / W):=by omega
  rw [this,Nat.add_mul_mod_self_left]
end Go.Proofs.YtlkniebmjdoopaaGreatDoor
namespace Go.Proofs.YtlkniebmjdoopaaGreatDoor
open Go.RowKit
theorem B4l {w w1 w2 : World} {x : Ax} {X : Nat} (hX : X ≠ 0) (hg1 : A3 w w1) (hg2 : A3 (w1.alloc (.cells #[] 176)) w2) (hx : Rn w2 x X) (hl : ln X ≤ 34359738500) :
  ∃ v1 w3,(Builtin.append_ #[62,62] 62 #[.slice (some ⟨w1.heap.size,0,none⟩) 0 0,.slice x.1 (ln X) x.2]).run Tryz.prog w2 = .ok v1 w3 ∧
  ∃ (g cap : Nat) (J : Array Value) (w4 : World),(Builtin.append_ #[62,62] 62 #[v1,.slice (some ⟨w3.heap.size,0,none⟩) 2 2]).run Tryz.prog (w3.alloc (.cells #[.int .u32 0,.int .u32 0] 176)) = .ok (.slice (some ⟨g,0,none⟩) (ln X + 2) cap) w4 ∧
   ln X + 2 ≤ cap ∧ cap ≤ maxLen ∧ Blk w4 g 176 (D8 (A7 W32 X ++ [0,0]) ++ J) ∧ A3 w w4 ∧ w1.heap.size ≤ g ∧ g < w4.heap.size ∧ A3 w1 w4:=by
 obtain ⟨A,c⟩:=x
 obtain ⟨hund,⟨i0,z0,hi0,hz0,hz1,hz2,hz3⟩,hpos⟩:=A6O
 have hlp:=A0s.2 hX
 obtain ⟨b,o,hA,-⟩:=hx.1.cell (i:=0) hlp
 have hA : A = some ⟨b,o,none⟩:=hA
 subst hA
 have hown0 : w2.ownsRow w1.heap.size 176 1 (.slice (some ⟨w1.heap.size,0,none⟩) 0 0) 0 [] :=
  ⟨rfl,.inr ⟨w1.heap.size,0,#[],rfl,Nat.le_refl _,Blk.grow hg2 (Blk.new w1 176 #[]),Nat.le_refl _,Nat.zero_le _,rfl,rfl⟩⟩
 have hs2:=hg2.size
 rw [H8] at hs2
 obtain ⟨v1,w3,r1,o1,g1,-,k1⟩:=run_append_own_at (P:=Tryz.prog) (w:=w2) w1.heap.size 62 62 176 i0 z0 1 4 hund hi0 hz0 hz1 hz2 hz3 hpos _ 0 [] hown0 ⟨b,o,none⟩ (ln X) c (A0A (A7 W32 X)) (by simp [ln]) (fun j v hj=>by
  rw [List.getElem?_map] at hj
  obtain ⟨hjl,-⟩ : ∃ h : j < (A7 W32 X).length,True:=by
   rcases Nat.lt_or_ge j (A7 W32 X).length with h | h
   ·exact ⟨h,trivial⟩
   ·rw [List.getElem?_eq_none h] at hj;cases hj
  obtain ⟨b',o',e,hc⟩:=hx.1.cell hjl
  cases e
  rw [Go.WideShapes.add_plain,hc,← hj,List.getElem?_eq_getElem hjl,D3 hjl]
  rfl) (fun v hv=>by
  obtain ⟨y,_,rfl⟩:=List.mem_map.1 hv
  rfl) (by unfold maxLen;omega) (by omega) (by omega)
 have hG3 : A3 w1 w3:=((A3.alloc w1 _).trans hg2).grown g1 fun k hk=>by
  cases hk;exact Nat.le_refl _
 refine ⟨v1,w3,r1,?_⟩
 have o1':=o1.alloc (.cells #[.int .u32 0,.int .u32 0] 176)
 obtain ⟨v2,w4,r2,o2,g2,n2,k2⟩:=run_append_own_at (P:=Tryz.prog) (w:=w3.alloc (.cells #[.int .u32 0,.int .u32 0] 176)) w1.heap.size 62 62 176 i0 z0 1 4 hund hi0 hz0 hz1 hz2 hz3 hpos v1 _ _ o1' ⟨w3.heap.size,0,none⟩ 2 2 (A0A [0,0]) rfl (fun j v hj=>by
  rw [Go.WideShapes.add_plain,Nat.zero_add,Blk.cell (Blk.new w3 176 #[.int .u32 0,.int .u32 0]) j]
  rw [← hj];simp [A0A]) (fun v hv=>by
  obtain ⟨y,_,rfl⟩:=List.mem_map.1 hv
  rfl) (by unfold maxLen;omega) (by omega) (by have := hG3.size;rw [H8];omega)
 have hG4 : A3 w1 w4:=(hG3.trans (A3.alloc w3 _)).grown g2 fun k hk=>(o1.lt k hk).1
 obtain ⟨ol,h | ⟨g,cap,cur,rfl,hb,hh,hn,hc,hsz,ht⟩⟩:=o2
 ·omega
 ·rw [Nat.zero_add] at r2 hn ht
  refine ⟨g,cap,(cur.toList.drop ((ln X + 2) * 1)).toArray,w4,r2,hn,hc,?_,hg1.trans hG4,hb,Q8 hh,hG4⟩
  have e : D8 (A7 W32 X ++ [0,0]) ++ (cur.toList.drop ((ln X + 2) * 1)).toArray = cur:=by
   apply Array.toList_inj.1
   rw [Array.toList_append,show (D8 (A7 W32 X ++ [0,0])).toList = cur.toList.take ((ln X + 2) * 1) by rw [ht];simp [D8,A0A]]
   simp
  rw [e]
  exact hh
end Go.Proofs.YtlkniebmjdoopaaGreatDoor
