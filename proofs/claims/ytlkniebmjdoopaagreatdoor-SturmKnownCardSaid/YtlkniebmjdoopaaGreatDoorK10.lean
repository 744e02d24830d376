/- Contracts and laws. -/
import Derived.Test.YtlkniebmjdoopaaGreatDoorK9
import Derived.Laws.BitsAllLaws
set_option linter.unusedSimpArgs false
set_option linter.unusedVariables false
set_option maxHeartbeats 2000000
set_option maxRecDepth 100000
namespace Go.Proofs.YtlkniebmjdoopaaGreatDoor
open Go.RowKit
theorem bits_LeadingZeros64 (x : Nat) (hx : x < W64) (w : World) :
  Calls Tryz.prog 191 #[.int .u64 x] w fun e w'=>e = .returned (.int .i64 (64 - bl x : Nat)) ∧ w' = w :=
 (Tryz.bits_LeadingZeros64 (x : Int) w (by omega) (by unfold W64 at hx;omega)).mono fun e w' ⟨he,hw⟩=>⟨by
  rw [he,Int.toNat_natCast,A6q _ (by unfold W64 at hx;omega)]
  have := W5 hx
  rw [Int.ofNat_sub this];rfl,hw⟩
theorem C5 {a : Nat} (h : a < 18446744073709551616) : IntKind.u64.wrap (a : Int) = (a : Nat):=by rw [IntKind.wrap_u64];omega
theorem A2Y {a : Nat} : IntKind.u64.wrap (a : Int) = ((a % 18446744073709551616 : Nat) : Int):=by rw [IntKind.wrap_u64];omega
theorem B0n (lo y : Nat) (hp : 0 < y) (hlo : lo < W64) (w : World) :
  Calls Tryz.prog 190 #[.int .u64 0,.int .u64 lo,.int .u64 y] w fun e w'=>e = .returned (.tuple #[.int .u64 (lo / y : Nat),.int .u64 (lo % y : Nat)]) ∧ A3 w w':=by
 have h1 : ((y : Int) == 0) = false:=by simp;omega
 have h1' : (y : Int) ≠ 0:=by omega
 have h3 : decide ((y : Int) ≤ (0 : Int)) = false:=by simp;omega
 have hq : IntKind.u64.wrap ((lo : Int) / (y : Int)) = (lo : Int) / (y : Int):=by
  rw [← Int.natCast_ediv]
  exact C5 (Nat.lt_of_le_of_lt (Nat.div_le_self _ _) hlo)
 go_enter Tryz.func190,Tryz.ntmps190
 go_wp2_with fail
 go_quiet (fail)
 go_wp2
 go_ret2
 exact ⟨by simp,O1 _ _⟩
theorem A9z (u n q Y r : Nat) (h : u * 4294967296 + n = q * Y + r) (hr : r < 18446744073709551616) :
  IntKind.u64.wrap (IntKind.u64.wrap (IntKind.u64.wrap ((u : Int) * 4294967296) + (n : Int)) - IntKind.u64.wrap ((q : Int) * (Y : Int))) = (r : Nat):=by
 have h' : (u : Int) * 4294967296 + n = (q : Int) * Y + r :=
  calc (u : Int) * 4294967296 + n = ((u * 4294967296 + n : Nat) : Int):=by rw [Int.natCast_add,Int.natCast_mul];rfl
   _ = ((q * Y + r : Nat) : Int):=by rw [h]
   _ = _:=by rw [Int.natCast_add,Int.natCast_mul]
 simp only [IntKind.wrap_u64]
 rw [Int.emod_add_emod,← Int.sub_emod,h',show (q : Int) * Y + r - (q : Int) * Y = r by generalize (q : Int) * Y = m;omega]
 omega
theorem A4v {y1 y0 u n q r : Nat} (h : DG 4294967296 y1 y0 u n q r) (hy0 : y0 < 4294967296) (hn : n < 4294967296) :
  ∃ m1 m2 m3 : Nat,IntKind.u64.wrap (4294967296 * (r : Int)) = (m1 : Nat) ∧ IntKind.u64.wrap ((m1 : Int) + (n : Int)) = (m3 : Nat) ∧ (q < 4294967296 → IntKind.u64.wrap ((q : Int) * (y0 : Int)) = (m2 : Nat)) ∧ m3 = 4294967296 * r + n ∧ m2 = q * y0:=by
 have hr:=h.2.2.1
 refine ⟨4294967296 * r,q * y0,4294967296 * r + n,?_,?_,fun hq=>?_,rfl,rfl⟩
 ·rw [show (4294967296 * (r : Int)) = ((4294967296 * r : Nat) : Int) by simp];exact C5 (by omega)
 ·rw [show (((4294967296 * r : Nat) : Int) + (n : Int)) = ((4294967296 * r + n : Nat) : Int) by omega];exact C5 (by omega)
 ·rw [show ((q : Int) * (y0 : Int)) = ((q * y0 : Nat) : Int) by simp]
  exact C5 (Nat.lt_of_le_of_lt (Nat.mul_le_mul (Nat.le_of_lt_succ hq) (Nat.le_of_lt_succ hy0)) (by omega))
theorem B3Q {y : Nat} (h : y ≠ 0) (h64 : bl y ≤ 64) : y * 2 ^ (64 - bl y) < 18446744073709551616 ∧ 9223372036854775808 ≤ y * 2 ^ (64 - bl y):=by
 have h1:=V7 y
 have h2 : 2 ^ (bl y - 1) ≤ y:=Z6.1 (by have := P6.2 h;omega)
 have e1 : 2 ^ bl y * 2 ^ (64 - bl y) = 18446744073709551616:=by rw [← Nat.pow_add,show bl y + (64 - bl y) = 64 by omega]
 have e2 : 2 ^ (bl y - 1) * 2 ^ (64 - bl y) = 9223372036854775808:=by rw [← Nat.pow_add,show bl y - 1 + (64 - bl y) = 63 by have := P6.2 h;omega]
 have hp : 0 < 2 ^ (64 - bl y):=Nat.two_pow_pos _
 exact ⟨by rw [← e1];exact Nat.mul_lt_mul_of_pos_right h1 hp,by rw [← e2];exact Nat.mul_le_mul_right _ h2⟩
theorem B4X (hi lo y : Nat) (hy : y < W64) (hhi : hi < y) (hlo : lo < W64) (hp : 0 < hi) (w : World) :
    Calls Tryz.prog 190 #[.int .u64 hi,.int .u64 lo,.int .u64 y] w fun e w'=>e = .returned (.tuple #[.int .u64 ((hi * W64 + lo) / y : Nat),.int .u64 ((hi * W64 + lo) % y : Nat)]) ∧ A3 w w':=by
  have h1 : ((y : Int) == 0) = false:=by simp;omega
  have h2 : ((hi : Int) == 0) = false:=by simp;omega
  have h3 : decide ((y : Int) ≤ (hi : Int)) = false:=by simp;omega
  have hlz:=bits_LeadingZeros64 y hy
  have hb64:=W5 hy
  obtain ⟨hY1,hY2⟩:=B3Q (y:=y) (by omega) hb64
  have hb0:=P6.2 (show y ≠ 0 by omega)
  obtain ⟨s,hs⟩ : ∃ s,s = 64 - bl y:=⟨_,rfl⟩
  rw [← hs] at hlz hY1 hY2
  have hs64 : s < 64:=by omega
  obtain ⟨Y,hY⟩ : ∃ Y,Y = y * 2 ^ s:=⟨_,rfl⟩
  rw [← hY] at hY1 hY2
  obtain ⟨y1,hy1⟩ : ∃ q,q = Y / 4294967296:=⟨_,rfl⟩
  obtain ⟨y0,hy0⟩ : ∃ q,q = Y % 4294967296:=⟨_,rfl⟩
  obtain ⟨u,hu⟩ : ∃ q,q = hi * 2 ^ s + lo / 2 ^ (64 - s):=⟨_,rfl⟩
  obtain ⟨v,hv⟩ : ∃ q,q = lo * 2 ^ s % 18446744073709551616:=⟨_,rfl⟩
  obtain ⟨n1,hn1⟩ : ∃ q,q = v / 4294967296:=⟨_,rfl⟩
  obtain ⟨n0,hn0⟩ : ∃ q,q = v % 4294967296:=⟨_,rfl⟩
  have hpw : 2 ^ s * 2 ^ (64 - s) = 18446744073709551616:=by rw [← Nat.pow_add,show s + (64 - s) = 64 by omega]
  have hlod : lo / 2 ^ (64 - s) < 2 ^ s:=by
    rw [Nat.div_lt_iff_lt_mul (Nat.two_pow_pos _),hpw];exact hlo
  have huY : u < Y:=by
    rw [hu,hY]
    calc hi * 2 ^ s + lo / 2 ^ (64 - s) < (hi + 1) * 2 ^ s:=by rw [Nat.add_mul];omega
      _ ≤ y * 2 ^ s:=Nat.mul_le_mul_right _ hhi
  have hXU : (hi * W64 + lo) * 2 ^ s = u * 18446744073709551616 + v:=by
    obtain ⟨e1,e2⟩:=A3H lo 18446744073709551616 (2 ^ s) (Nat.two_pow_pos _) (2 ^ (64 - s)) hpw.symm (Nat.two_pow_pos _)
    have e3:=Nat.div_add_mod (lo * 2 ^ s) 18446744073709551616
    rw [e1,← hv] at e3
    rw [hu,Nat.add_mul,← e3,show W64 = 18446744073709551616 from rfl]
    grind
  have hy1b : y1 < 4294967296:=by omega
  have hy1h : 4294967296 ≤ 2 * y1:=by omega
  have hy0b : y0 < 4294967296:=by omega
  have hn1b : n1 < 4294967296:=by omega
  have hn0b : n0 < 4294967296:=by omega
  have hYs : y1 * 4294967296 + y0 = Y:=by rw [hy1,hy0,Nat.div_add_mod']
  have hvs : n1 * 4294967296 + n0 = v:=by rw [hn1,hn0,Nat.div_add_mod']
  obtain ⟨t,ht⟩ : ∃ t,t = 64 - s:=⟨_,rfl⟩
  obtain ⟨H,hH⟩ : ∃ H,H = hi * 2 ^ s:=⟨_,rfl⟩
  obtain ⟨L,hL⟩ : ∃ L,L = lo / 2 ^ t:=⟨_,rfl⟩
  rw [← ht] at hlod hu hpw
  rw [← hL] at hlod hu
  rw [← hH] at hu
  have fs : IntKind.u64.wrap (s : Int) = s:=C5 (by omega)
  have fsm : min s 64 = s:=by omega
  have ftm : min t 64 = t:=by omega
  have ft : IntKind.u64.wrap (64 - (s : Int)) = (t : Nat):=by rw [show (64 - (s : Int)) = (t : Nat) by omega];exact C5 (by omega)
  have fY : IntKind.u64.wrap ((y : Int) * 2 ^ s) = (Y : Nat):=by
    rw [show ((y : Int) * 2 ^ s) = ((Y : Nat) : Int) by rw [hY];simp];exact C5 hY1
  have fH : IntKind.u64.wrap ((hi : Int) * 2 ^ s) = (H : Nat):=by
    rw [show ((hi : Int) * 2 ^ s) = ((H : Nat) : Int) by rw [hH];simp];exact C5 (by omega)
  have fv : IntKind.u64.wrap ((lo : Int) * 2 ^ s) = (v : Nat):=by
    rw [show ((lo : Int) * 2 ^ s) = ((lo * 2 ^ s : Nat) : Int) by simp,hv];exact A2Y
  have fL : (lo : Int) / 2 ^ t = (L : Nat):=by rw [hL];simp
  have for_ : bits .or .u64 (H : Int) (L : Int) = (u : Nat):=by
    rw [u64_or_nat _ _ (by omega) (by omega),A1z hlod (by rw [hH];exact Nat.dvd_mul_left _ _),hu]
  have fy1 : (Y : Int) / 4294967296 = (y1 : Nat):=by omega
  have fy0 : bits .and .u64 (Y : Int) 4294967295 = (y0 : Nat):=by
    rw [show (4294967295 : Int) = ((4294967295 : Nat) : Int) from rfl,u64_and_nat _ _ (by omega) (by omega),hy0]
    exact congrArg _ (Nat.and_two_pow_sub_one_eq_mod Y 32)
  have fn1 : (v : Int) / 4294967296 = (n1 : Nat):=by omega
  have fn0 : bits .and .u64 (v : Int) 4294967295 = (n0 : Nat):=by
    rw [show (4294967295 : Int) = ((4294967295 : Nat) : Int) from rfl,u64_and_nat _ _ (by omega) (by omega),hn0]
    exact congrArg _ (Nat.and_two_pow_sub_one_eq_mod v 32)
  have fz : ((y1 : Int) == 0) = false:=by simp;omega
  have fz' : (y1 : Int) ≠ 0:=by omega
  have hD:=DG.start hy1b hy1h hy0b hn1b (show u < y1 * 4294967296 + y0 by omega)
  obtain ⟨q,hq⟩ : ∃ q,q = u / y1:=⟨_,rfl⟩
  obtain ⟨r,hr⟩ : ∃ q,q = u % y1:=⟨_,rfl⟩
  rw [← hq,← hr] at hD
  have fq : IntKind.u64.wrap ((u : Int) / (y1 : Int)) = (q : Nat):=by
    rw [← Int.natCast_ediv,← hq]
    exact C5 (by have := hD.2.2.2;omega)
  have fr : IntKind.u64.wrap ((u : Int) - IntKind.u64.wrap ((q : Int) * (y1 : Int))) = (r : Nat):=by
    have h:=hD.1
    have h' : q * y1 ≤ u:=by omega
    rw [show (q : Int) * (y1 : Int) = ((q * y1 : Nat) : Int) by simp,C5 (show q * y1 < _ by omega),show (u : Int) - ((q * y1 : Nat) : Int) = (r : Nat) by omega]
    exact C5 (by have := hD.2.2.1;omega)
  obtain ⟨Q1,hQ1⟩ : ∃ q,q = (u * 4294967296 + n1) / Y:=⟨_,rfl⟩
  obtain ⟨U2,hU2⟩ : ∃ q,q = (u * 4294967296 + n1) % Y:=⟨_,rfl⟩
  have hYp : 0 < Y:=by omega
  have hU2l : U2 < Y:=by rw [hU2];exact Nat.mod_lt _ hYp
  have hQ1l : Q1 < 4294967296:=by rw [hQ1];exact A2z huY hn1b
  have f21:=A9z u n1 Q1 Y U2 (by rw [hQ1,hU2,Nat.mul_comm _ Y,Nat.div_add_mod]) (by omega)
  have hD2:=DG.start (n:=n0) hy1b hy1h hy0b hn0b (show U2 < y1 * 4294967296 + y0 by omega)
  obtain ⟨q2,hq2⟩ : ∃ q,q = U2 / y1:=⟨_,rfl⟩
  obtain ⟨r2,hr2⟩ : ∃ q,q = U2 % y1:=⟨_,rfl⟩
  rw [← hq2,← hr2] at hD2
  have fq2 : IntKind.u64.wrap ((U2 : Int).tdiv (y1 : Int)) = (q2 : Nat):=by
    rw [show (U2 : Int).tdiv (y1 : Int) = ((U2 / y1 : Nat) : Int) from rfl,← hq2]
    exact C5 (by have := hD2.2.2.2;omega)
  have fq2' : IntKind.u64.wrap ((U2 : Int) / (y1 : Int)) = (q2 : Nat):=by
    rw [← Int.natCast_ediv,← hq2]
    exact C5 (by have := hD2.2.2.2;omega)
  have fr2 : IntKind.u64.wrap ((U2 : Int) - IntKind.u64.wrap ((q2 : Int) * (y1 : Int))) = (r2 : Nat):=by
    have h:=hD2.1
    have h' : q2 * y1 ≤ U2:=by omega
    rw [show (q2 : Int) * (y1 : Int) = ((q2 * y1 : Nat) : Int) by simp,C5 (show q2 * y1 < _ by omega),show (U2 : Int) - ((q2 * y1 : Nat) : Int) = (r2 : Nat) by omega]
    exact C5 (by have := hD2.2.2.1;omega)
  obtain ⟨Q2,hQ2⟩ : ∃ q,q = (U2 * 4294967296 + n0) / Y:=⟨_,rfl⟩
  obtain ⟨R,hR⟩ : ∃ q,q = (U2 * 4294967296 + n0) % Y:=⟨_,rfl⟩
  have hRl : R < Y:=by rw [hR];exact Nat.mod_lt _ hYp
  have hQ2l : Q2 < 4294967296:=by rw [hQ2];exact A2z hU2l hn0b
  have f31:=A9z U2 n0 Q2 Y R (by rw [hQ2,hR,Nat.mul_comm _ Y,Nat.div_add_mod]) (by omega)
  have f32 : IntKind.u64.wrap (IntKind.u64.wrap ((Q1 : Int) * 4294967296) + (Q2 : Int)) = (Q1 * 4294967296 + Q2 : Nat):=by
    rw [show (Q1 : Int) * 4294967296 = ((Q1 * 4294967296 : Nat) : Int) by omega,C5 (by omega),show (((Q1 * 4294967296 : Nat) : Int) + (Q2 : Int)) = ((Q1 * 4294967296 + Q2 : Nat) : Int) by omega]
    exact C5 (by omega)
  have f33 : (R : Int) / 2 ^ s = (R / 2 ^ s : Nat):=by simp
  have hjoin:=B2P (X:=hi * W64 + lo) (p:=2 ^ s) (u:=u) (n1:=n1) (n0:=n0) (y:=y) (b:=4294967296) (Nat.two_pow_pos _) (by omega) (by rw [hXU,← hvs,Nat.add_mul,Nat.mul_assoc,show (4294967296 : Nat) * 4294967296 = 18446744073709551616 from rfl,Nat.add_assoc])
  rw [← hY,← hQ1,← hU2,← hQ2,← hR] at hjoin
  obtain ⟨A,hA⟩ : ∃ A,A = (hi * W64 + lo) / y:=⟨_,rfl⟩
  obtain ⟨B,hB⟩ : ∃ A,A = (hi * W64 + lo) % y:=⟨_,rfl⟩
  rw [← hA,← hB] at hjoin ⊢
  rw [← hjoin.1] at f32
  have f34 : (Q1 : Int) * 4294967296 + (Q2 : Int) = (A : Nat):=by rw [hjoin.1];omega
  rw [← hjoin.2] at f33
  have HD:=Lib.hid hD
  have HD2:=Lib.hid hD2
  have HQ1:=Lib.hid hQ1
  have HQ2:=Lib.hid hQ2
  have hu' : u < y1 * 4294967296 + y0:=by omega
  have hu2' : U2 < y1 * 4294967296 + y0:=by omega
  have Hu:=Lib.hid hu'
  have Hu2:=Lib.hid hu2'
  have HYs:=Lib.hid hYs
  clear hD hXU hY huY hlod hu hpw hL hH ht hq hr hn1 hn0 hv hy1 hy0 hb0 hb64 hs hD2 hQ1 hQ2 hjoin hA hB hR hU2 hq2 hr2 hu' hu2' hYs
  go_enter Tryz.func190,Tryz.ntmps190
  go_wp2_with (go_at_call 191;refine (hlz _).mono ?_;rintro e w1 ⟨rfl,rfl⟩)
  go_loopw [15,16] (fun a b wi=>∃ q r : Nat,a = .int .u64 q ∧ b = .int .u64 r ∧ DG 4294967296 y1 y0 u n1 q r ∧ wi = w1) (fun a _ _=>(intOf a).toNat)
  case atStart=>exact ⟨q,r,rfl,rfl,HD.out,rfl⟩
  case round =>
    clear fq fr HD
    obtain ⟨q',r',rfl,rfl,hD,rfl⟩:=hrel
    have hqb:=hD.2.2.2
    have hrb:=hD.2.2.1
    obtain ⟨m1,m2,m3,k1,k2,k3,k4,k5⟩:=A4v hD hy0b hn1b
    have hcases : (q' < 4294967296 ∧ m2 ≤ m3) ∨ ((4294967296 ≤ q' ∨ q' < 4294967296 ∧ m3 < m2) ∧ 4294967296 ≤ r' + y1) ∨ ((4294967296 ≤ q' ∨ q' < 4294967296 ∧ m3 < m2) ∧ r' + y1 < 4294967296):=by omega
    have fadd : IntKind.u64.wrap ((r' : Int) + (y1 : Int)) = (r' + y1 : Nat):=by
      rw [← Int.natCast_add];exact C5 (by omega)
    have hmuch : (4294967296 ≤ q' ∨ q' < 4294967296 ∧ m3 < m2) → 0 < q':=fun h=>(hD.much hn1b Hu.out (by omega)).1
    have hnext : (4294967296 ≤ q' ∨ q' < 4294967296 ∧ m3 < m2) → r' + y1 < 4294967296 → DG 4294967296 y1 y0 u n1 (q' - 1) (r' + y1):=fun h h'=>hD.next hn1b Hu.out (by omega) h'
    have hbroke : (4294967296 ≤ q' ∨ q' < 4294967296 ∧ m3 < m2) → 4294967296 ≤ r' + y1 → Q1 = q' - 1:=fun h h'=>by
      rw [HQ1.out,← HYs.out];exact hD.broke hn1b hy0b Hu.out (by omega) h'
    have hstop : m2 ≤ m3 → Q1 = q':=fun h=>by
      rw [HQ1.out,← HYs.out];exact hD.stop (by omega)
    have Hnext:=Lib.hid hnext
    clear k4 k5 hD hnext
    obtain ⟨m5,hm5⟩ : ∃ m,m = r' + y1:=⟨_,rfl⟩
    rw [← hm5] at fadd hcases hbroke
    rcases hcases with hc | hc | hc
    · replace k3:=k3 hc.1
      have g1 : decide ((4294967296 : Int) ≤ (q' : Int)) = false:=by simp;omega
      have g2 : decide ((m3 : Int) < (m2 : Int)) = false:=by simp;omega
      obtain rfl:=hstop hc.2
      clear hstop hbroke hmuch
      go_wp2_with fail
      clear k1 k2 k3 g1 g2 fadd Hnext hc hm5
      go_loopw [18,16] (fun a b wi=>∃ q r : Nat,a = .int .u64 q ∧ b = .int .u64 r ∧ DG 4294967296 y1 y0 U2 n0 q r ∧ wi = wr) (fun a _ _=>(intOf a).toNat)
      case atStart=>exact ⟨q2,r2,rfl,rfl,HD2.out,rfl⟩
      case round =>
        obtain ⟨q3,r3,rfl,rfl,hD,rfl⟩:=hrel
        have hqb:=hD.2.2.2
        have hrb:=hD.2.2.1
        obtain ⟨l1,l2,l3,k1,k2,k3,k4,k5⟩:=A4v hD hy0b hn0b
        have hcases : (q3 < 4294967296 ∧ l2 ≤ l3) ∨ ((4294967296 ≤ q3 ∨ q3 < 4294967296 ∧ l3 < l2) ∧ 4294967296 ≤ r3 + y1) ∨ ((4294967296 ≤ q3 ∨ q3 < 4294967296 ∧ l3 < l2) ∧ r3 + y1 < 4294967296):=by omega
        have fadd : IntKind.u64.wrap ((r3 : Int) + (y1 : Int)) = (r3 + y1 : Nat):=by
          rw [← Int.natCast_add];exact C5 (by omega)
        have hmuch : (4294967296 ≤ q3 ∨ q3 < 4294967296 ∧ l3 < l2) → 0 < q3:=fun h=>(hD.much hn0b Hu2.out (by omega)).1
        have hnext : (4294967296 ≤ q3 ∨ q3 < 4294967296 ∧ l3 < l2) → r3 + y1 < 4294967296 → DG 4294967296 y1 y0 U2 n0 (q3 - 1) (r3 + y1):=fun h h'=>hD.next hn0b Hu2.out (by omega) h'
        have hbroke : (4294967296 ≤ q3 ∨ q3 < 4294967296 ∧ l3 < l2) → 4294967296 ≤ r3 + y1 → Q2 = q3 - 1:=fun h h'=>by
          rw [HQ2.out,← HYs.out];exact hD.broke hn0b hy0b Hu2.out (by omega) h'
        have hstop : l2 ≤ l3 → Q2 = q3:=fun h=>by
          rw [HQ2.out,← HYs.out];exact hD.stop (by omega)
        have Hnext:=Lib.hid hnext
        clear k4 k5 hD hnext
        obtain ⟨m5,hm5⟩ : ∃ m,m = r3 + y1:=⟨_,rfl⟩
        rw [← hm5] at fadd hcases hbroke
        rcases hcases with hc | hc | hc
        · replace k3:=k3 hc.1
          have g1 : decide ((4294967296 : Int) ≤ (q3 : Int)) = false:=by simp;omega
          have g2 : decide ((l3 : Int) < (l2 : Int)) = false:=by simp;omega
          obtain rfl:=hstop hc.2
          clear hstop hbroke hmuch
          go_wp2_with fail
          go_ret2
          exact ⟨rfl,A3.refl _⟩
        · have hq0:=hmuch hc.1
          have hqe : q3 = Q2 + 1:=by have := hbroke hc.1 hc.2;omega
          have fdec : IntKind.u64.wrap ((q3 : Int) - 1) = (Q2 : Nat):=by
            rw [show (q3 : Int) - 1 = (Q2 : Nat) by omega];exact C5 (by omega)
          clear hqe
          have g3 : decide ((4294967296 : Int) ≤ (m5 : Int)) = true:=by simp;omega
          rcases hc.1 with h | h
          · have g1 : decide ((4294967296 : Int) ≤ (q3 : Int)) = true:=by simp only [decide_eq_true_eq];omega
            clear hstop hbroke hmuch hc k3 hm5 h
            go_wp2_with fail
            go_ret2
            exact ⟨rfl,A3.refl _⟩
          · replace k3:=k3 h.1
            have g1 : decide ((4294967296 : Int) ≤ (q3 : Int)) = false:=by simp only [decide_eq_false_iff_not];omega
            have g2 : l3 < l2:=h.2
            clear hstop hbroke hmuch hc hm5 h
            go_wp2_with fail
            go_ret2
            exact ⟨rfl,A3.refl _⟩
        · have hq0:=hmuch hc.1
          have hDn:=Hnext.out hc.1 (by omega)
          obtain ⟨q4,hq4⟩ : ∃ q4,q4 = q3 - 1:=⟨_,rfl⟩
          have fdec : IntKind.u64.wrap ((q3 : Int) - 1) = (q4 : Nat):=by
            rw [show (q3 : Int) - 1 = (q4 : Nat) by omega];exact C5 (by omega)
          have Hq4:=Lib.hid hq4
          have g3 : decide ((4294967296 : Int) ≤ (m5 : Int)) = false:=by simp;omega
          rw [← hm5,← hq4] at hDn
          have HDn:=Lib.hid hDn
          clear hDn hq4
          rcases hc.1 with h | h
          · have g1 : decide ((4294967296 : Int) ≤ (q3 : Int)) = true:=by simp only [decide_eq_true_eq];omega
            clear hstop hbroke hmuch hc k3 hm5 h
            go_wp2_with fail
            go_round
            case rel=>exact ⟨q4,m5,rfl,rfl,HDn.out,by first | rfl | trivial⟩
            case measure =>
              have := Hq4.out
              simp [intOf]
              omega
          · replace k3:=k3 h.1
            have g1 : decide ((4294967296 : Int) ≤ (q3 : Int)) = false:=by simp only [decide_eq_false_iff_not];omega
            have g2 : l3 < l2:=h.2
            clear hstop hbroke hmuch hc hm5 h
            go_wp2_with fail
            go_round
            case rel=>exact ⟨q4,m5,rfl,rfl,HDn.out,by first | rfl | trivial⟩
            case measure =>
              have := Hq4.out
              simp [intOf]
              omega
    · have hq0:=hmuch hc.1
      have hqe : q' = Q1 + 1:=by have := hbroke hc.1 hc.2;omega
      have fdec : IntKind.u64.wrap ((q' : Int) - 1) = (Q1 : Nat):=by
        rw [show (q' : Int) - 1 = (Q1 : Nat) by omega];exact C5 (by omega)
      clear hqe
      have g3 : decide ((4294967296 : Int) ≤ (m5 : Int)) = true:=by simp;omega
      have hg : (decide ((4294967296 : Int) ≤ (q' : Int)) = true) ∨ (decide ((4294967296 : Int) ≤ (q' : Int)) = false ∧ m3 < m2 ∧ IntKind.u64.wrap ((q' : Int) * (y0 : Int)) = (m2 : Nat)):=by
        rcases hc.1 with h | h
        · exact .inl (by simp only [decide_eq_true_eq];omega)
        · exact .inr ⟨by simp only [decide_eq_false_iff_not];omega,h.2,k3 h.1⟩
      clear hstop hbroke hmuch hc k3 hm5
      rcases hg with g1 | ⟨g1,g2,g4⟩
      all_goals
        go_wp2_with fail
        clear k1 k2 g1 g3 fadd Hnext hqb hrb fdec
        go_loopw [18,16] (fun a b wi=>∃ q r : Nat,a = .int .u64 q ∧ b = .int .u64 r ∧ DG 4294967296 y1 y0 U2 n0 q r ∧ wi = wr) (fun a _ _=>(intOf a).toNat)
        case atStart=>exact ⟨q2,r2,rfl,rfl,HD2.out,rfl⟩
        case round =>
          obtain ⟨q3,r3,rfl,rfl,hD,rfl⟩:=hrel
          have hqb:=hD.2.2.2
          have hrb:=hD.2.2.1
          obtain ⟨l1,l2,l3,k1,k2,k3,k4,k5⟩:=A4v hD hy0b hn0b
          have hcases : (q3 < 4294967296 ∧ l2 ≤ l3) ∨ ((4294967296 ≤ q3 ∨ q3 < 4294967296 ∧ l3 < l2) ∧ 4294967296 ≤ r3 + y1) ∨ ((4294967296 ≤ q3 ∨ q3 < 4294967296 ∧ l3 < l2) ∧ r3 + y1 < 4294967296):=by omega
          have fadd : IntKind.u64.wrap ((r3 : Int) + (y1 : Int)) = (r3 + y1 : Nat):=by
            rw [← Int.natCast_add];exact C5 (by omega)
          have hmuch : (4294967296 ≤ q3 ∨ q3 < 4294967296 ∧ l3 < l2) → 0 < q3:=fun h=>(hD.much hn0b Hu2.out (by omega)).1
          have hnext : (4294967296 ≤ q3 ∨ q3 < 4294967296 ∧ l3 < l2) → r3 + y1 < 4294967296 → DG 4294967296 y1 y0 U2 n0 (q3 - 1) (r3 + y1):=fun h h'=>hD.next hn0b Hu2.out (by omega) h'
          have hbroke : (4294967296 ≤ q3 ∨ q3 < 4294967296 ∧ l3 < l2) → 4294967296 ≤ r3 + y1 → Q2 = q3 - 1:=fun h h'=>by
            rw [HQ2.out,← HYs.out];exact hD.broke hn0b hy0b Hu2.out (by omega) h'
          have hstop : l2 ≤ l3 → Q2 = q3:=fun h=>by
            rw [HQ2.out,← HYs.out];exact hD.stop (by omega)
          have Hnext:=Lib.hid hnext
          clear k4 k5 hD hnext
          obtain ⟨m5,hm5⟩ : ∃ m,m = r3 + y1:=⟨_,rfl⟩
          rw [← hm5] at fadd hcases hbroke
          rcases hcases with hc | hc | hc
          · replace k3:=k3 hc.1
            have g1 : decide ((4294967296 : Int) ≤ (q3 : Int)) = false:=by simp;omega
            have g2 : decide ((l3 : Int) < (l2 : Int)) = false:=by simp;omega
            obtain rfl:=hstop hc.2
            clear hstop hbroke hmuch
            go_wp2_with fail
            go_ret2
            exact ⟨rfl,A3.refl _⟩
          · have hq0:=hmuch hc.1
            have hqe : q3 = Q2 + 1:=by have := hbroke hc.1 hc.2;omega
            have fdec : IntKind.u64.wrap ((q3 : Int) - 1) = (Q2 : Nat):=by
              rw [show (q3 : Int) - 1 = (Q2 : Nat) by omega];exact C5 (by omega)
            clear hqe
            have g3 : decide ((4294967296 : Int) ≤ (m5 : Int)) = true:=by simp;omega
            rcases hc.1 with h | h
            · have g1 : decide ((4294967296 : Int) ≤ (q3 : Int)) = true:=by simp only [decide_eq_true_eq];omega
              clear hstop hbroke hmuch hc k3 hm5 h
              go_wp2_with fail
              go_ret2
              exact ⟨rfl,A3.refl _⟩
            · replace k3:=k3 h.1
              have g1 : decide ((4294967296 : Int) ≤ (q3 : Int)) = false:=by simp only [decide_eq_false_iff_not];omega
              have g2 : l3 < l2:=h.2
              clear hstop hbroke hmuch hc hm5 h
              go_wp2_with fail
              go_ret2
              exact ⟨rfl,A3.refl _⟩
          · have hq0:=hmuch hc.1
            have hDn:=Hnext.out hc.1 (by omega)
            obtain ⟨q4,hq4⟩ : ∃ q4,q4 = q3 - 1:=⟨_,rfl⟩
            have fdec : IntKind.u64.wrap ((q3 : Int) - 1) = (q4 : Nat):=by
              rw [show (q3 : Int) - 1 = (q4 : Nat) by omega];exact C5 (by omega)
            have Hq4:=Lib.hid hq4
            have g3 : decide ((4294967296 : Int) ≤ (m5 : Int)) = false:=by simp;omega
            rw [← hm5,← hq4] at hDn
            have HDn:=Lib.hid hDn
            clear hDn hq4
            rcases hc.1 with h | h
            · have g1 : decide ((4294967296 : Int) ≤ (q3 : Int)) = true:=by simp only [decide_eq_true_eq];omega
              clear hstop hbroke hmuch hc k3 hm5 h
              go_wp2_with fail
              go_round
              case rel=>exact ⟨q4,m5,rfl,rfl,HDn.out,by first | rfl | trivial⟩
              case measure =>
              have := Hq4.out
              simp [intOf]
              omega
            · replace k3:=k3 h.1
              have g1 : decide ((4294967296 : Int) ≤ (q3 : Int)) = false:=by simp only [decide_eq_false_iff_not];omega
              have g2 : l3 < l2:=h.2
              clear hstop hbroke hmuch hc hm5 h
              go_wp2_with fail
              go_round
              case rel=>exact ⟨q4,m5,rfl,rfl,HDn.out,by first | rfl | trivial⟩
              case measure =>
              have := Hq4.out
              simp [intOf]
              omega
    · have hq0:=hmuch hc.1
      have hDn:=Hnext.out hc.1 (by omega)
      obtain ⟨q4,hq4⟩ : ∃ q4,q4 = q' - 1:=⟨_,rfl⟩
      have fdec : IntKind.u64.wrap ((q' : Int) - 1) = (q4 : Nat):=by
        rw [show (q' : Int) - 1 = (q4 : Nat) by omega];exact C5 (by omega)
      have Hq4:=Lib.hid hq4
      have g3 : decide ((4294967296 : Int) ≤ (m5 : Int)) = false:=by simp;omega
      rw [← hm5,← hq4] at hDn
      have HDn:=Lib.hid hDn
      clear hDn hq4
      rcases hc.1 with h | h
      · have g1 : decide ((4294967296 : Int) ≤ (q' : Int)) = true:=by simp only [decide_eq_true_eq];omega
        clear hstop hbroke hmuch hc k3 hm5 h
        go_wp2_with fail
        go_round
        case rel=>exact ⟨q4,m5,rfl,rfl,HDn.out,by first | rfl | trivial⟩
        case measure =>
              have := Hq4.out
              simp [intOf]
              omega
      · replace k3:=k3 h.1
        have g1 : decide ((4294967296 : Int) ≤ (q' : Int)) = false:=by simp only [decide_eq_false_iff_not];omega
        have g2 : m3 < m2:=h.2
        clear hstop hbroke hmuch hc hm5 h
        go_wp2_with fail
        go_round
        case rel=>exact ⟨q4,m5,rfl,rfl,HDn.out,by first | rfl | trivial⟩
        case measure =>
              have := Hq4.out
              simp [intOf]
              omega
theorem A9N (hi lo y : Nat) (hy : y < W64) (hhi : hi < y) (hlo : lo < W64) (w : World) :
  Calls Tryz.prog 190 #[.int .u64 hi,.int .u64 lo,.int .u64 y] w fun e w'=>e = .returned (.tuple #[.int .u64 ((hi * W64 + lo) / y : Nat),.int .u64 ((hi * W64 + lo) % y : Nat)]) ∧ A3 w w':=by
 rcases Nat.eq_zero_or_pos hi with rfl | hp
 ·rw [Nat.zero_mul,Nat.zero_add]
  exact B0n lo y hhi hlo w
 ·exact B4X hi lo y hy hhi hlo hp w
end Go.Proofs.YtlkniebmjdoopaaGreatDoor
