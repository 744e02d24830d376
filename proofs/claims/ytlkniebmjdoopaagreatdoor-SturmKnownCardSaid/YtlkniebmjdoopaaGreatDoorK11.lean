/- Contracts and laws. -/
import Derived.Test.YtlkniebmjdoopaaGreatDoorK10
import Derived.StillTailTactics
set_option linter.unusedSimpArgs false
set_option linter.unusedVariables false
set_option maxHeartbeats 2000000
set_option maxRecDepth 100000
namespace Go.Proofs.YtlkniebmjdoopaaGreatDoor
open Go.RowKit
def DwI (W d : Nat) (l : List Nat) (k r : Nat) (zs : List Nat) : Prop :=
 zs.length = l.length ∧ Dig W zs ∧ (∀ i,i < k → dg zs i = dg l i) ∧ r < d ∧ val W (zs.drop k) * d + r = val W (l.drop k)
theorem A0Y {l : List Nat} {k : Nat} (h : k < l.length) : l.drop k = dg l k :: l.drop (k + 1):=by
 rw [List.drop_eq_getElem_cons h,D3 h]
theorem A8B {l : List Nat} {k : Nat} (h : k < l.length) (y : Nat) : dg (l.set k y) k = y:=by
 unfold dg;rw [List.getElem?_set_self h];rfl
theorem DwI.next {W d : Nat} {l : List Nat} {k r : Nat} {zs : List Nat} (h : DwI W d l (k + 1) r zs) (hk : k < l.length) (hd : Dig W l) (hW : 0 < W) :
  DwI W d l k ((r * W + dg l k) % d) (zs.set k ((r * W + dg l k) / d)):=by
 obtain ⟨h1,h2,h3,h4,h5⟩:=h
 have hk' : k < zs.length:=by rw [h1];exact hk
 have hx:=B9 hW hd k
 refine ⟨by rw [List.length_set,h1],M3 h2 _ (A2z h4 hx),fun i hi=>?_,Nat.mod_lt _ (by omega),?_⟩
 ·rw [L9 _ _ (by omega)];exact h3 i (by omega)
 ·rw [A0Y (l:=zs.set k _) (by rw [List.length_set];exact hk'),A8B hk',A0Y hk,K3,K3,List.drop_set_of_lt (by omega),← h5]
  have e:=Nat.div_add_mod (r * W + dg l k) d
  generalize (r * W + dg l k) / d = q at *
  generalize (r * W + dg l k) % d = m at *
  generalize val W (zs.drop (k + 1)) = V at *
  grind
theorem B6U (b : Nat) (l : List Nat) (d : Nat) (w0 w : World) (hr : C4 w b l) (hdl : Dig W64 l) (hd0 : 0 < d) (hdW : d < W64) (hm : l.length ≤ 34359738368) (hg0 : A3 w0 w) (hb0 : w0.heap.size ≤ b) :
  Calls Tryz.prog 156 #[.slice (some ⟨b,0,none⟩) l.length l.length,.int .u64 d] w fun e w'=>∃ zs : List Nat,e = .returned (.tuple #[.slice (some ⟨b,0,none⟩) (C6 zs).length zs.length,.int .u64 (val W64 l % d : Nat)]) ∧ C4 w' b zs ∧ zs.length = l.length ∧ Dig W64 zs ∧ val W64 zs = val W64 l / d ∧ A3 w0 w':=by
 obtain ⟨n,hn⟩ : ∃ n,n = l.length:=⟨_,rfl⟩
 rw [← hn] at hm
 rw [← hn]
 have hs0 : DwI W64 d l n 0 l:=⟨rfl,hdl,fun _ _=>rfl,hd0,by rw [hn,List.drop_length];simp [val]⟩
 have Hs0:=Lib.hid hs0
 have Hr:=Lib.hid hr
 have Hdl:=Lib.hid hdl
 have Hn:=Lib.hid hn
 have Hg0:=Lib.hid hg0
 clear hs0 hr hdl hn hg0
 go_enter Tryz.func156,Tryz.ntmps156
 go_wp2_with fail
 go_loopw [6,7] (fun r i wr=>∃ (k r' : Nat) (zs : List Nat),k ≤ n ∧ i = .int .i64 ((k : Int) - 1) ∧ r = .int .u64 r' ∧ DwI W64 d l k r' zs ∧ C4 wr b zs ∧ A3 w0 wr) (fun _ i _=>(intOf i + 1).toNat)
 case atStart=>exact ⟨n,0,l,Nat.le_refl _,rfl,rfl,Hs0.out,Hr.out,Hg0.out⟩
 case round =>
  obtain ⟨k,r',zs,hk,rfl,rfl,hI,hR,hG⟩:=hrel
  have HI:=Lib.hid hI
  have HG:=Lib.hid hG
  have HR:=Lib.hid hR
  clear hI hG hR
  rcases Nat.eq_zero_or_pos k with rfl | hpos
  ·have hval : val W64 zs * d + r' = val W64 l:=by have := HI.out.2.2.2.2;simpa using this
   have hres : val W64 l % d = r' ∧ val W64 l / d = val W64 zs:=by
    have := HI.out.2.2.2.1
    rw [← hval,Nat.mul_comm,Nat.mul_add_mod,Nat.mod_eq_of_lt this,Nat.mul_add_div hd0,Nat.div_eq_of_lt this]
    simp
   have htrim : ∀ W : World,A3 wr W → Calls Tryz.prog 165 #[.slice (some ⟨b,0,none⟩) n n] W fun e w'=>e = .returned (.slice (some ⟨b,0,none⟩) (C6 zs).length zs.length) ∧ W = w':=fun W hW=>by
    have hl:=HI.out.1
    rw [← Hn.out] at hl
    rw [← hl]
    exact A3I _ zs zs.length W (fun _=>⟨_,_,rfl,(HR.out.grow hW).wds⟩) (Nat.le_refl _) (by omega)
   have Hres:=Lib.hid hres
   have Htrim:=Lib.hid htrim
   clear hval hres htrim
   have hc : decide ((0 : Int) ≤ ((0 : Nat) : Int) - 1) = false:=by decide
   go_wp2_with (go_at_call 165;refine (Htrim.out _ (A3.refl _)).mono ?_;rintro e w1 ⟨rfl,rfl⟩)
   go_ret2
   exact ⟨zs,by rw [Hres.out.1];rfl,HR.out,by rw [Hn.out];exact HI.out.1,HI.out.2.1,Hres.out.2.symm,HG.out⟩
  ·obtain ⟨j,rfl⟩ : ∃ j,k = j + 1:=⟨k - 1,by omega⟩
   have hjn : j < n:=by omega
   have hjl : j < l.length:=by rw [← Hn.out];exact hjn
   have hnx:=HI.out.next hjl Hdl.out B6
   have hjz : j < zs.length:=by rw [HI.out.1];exact hjl
   have hc:=HR.out.cell j
   have hf:=HR.out.frozen j
   rw [List.getElem?_eq_getElem hjz,← D3 hjz,HI.out.2.2.1 j (by omega)] at hc
   have hx:=B9 B6 Hdl.out j
   have hrd:=HI.out.2.2.2.1
   obtain ⟨x,hxd⟩ : ∃ x,x = dg l j:=⟨_,rfl⟩
   rw [← hxd] at hc hx hnx
   have hdiv:=A9N r' x d hdW hrd hx
   obtain ⟨q,hq⟩ : ∃ q,q = (r' * W64 + x) / d:=⟨_,rfl⟩
   obtain ⟨m,hm'⟩ : ∃ q,q = (r' * W64 + x) % d:=⟨_,rfl⟩
   rw [← hq,← hm'] at hdiv hnx
   have Hdiv:=Lib.hid hdiv
   have Hnx:=Lib.hid hnx
   clear hdiv hnx hq hm' hxd
   have e1 : ((j + 1 : Nat) : Int) - 1 = (j : Nat):=by omega
   rw [e1]
   simp only [Option.map_some] at hc
   have hc0 : decide ((0 : Int) ≤ (j : Int)) = true:=by simp
   go_wp2_with (go_at_call 190;((with_reducible refine (Hdiv.out _).mono ?_);rintro e w1 ⟨rfl,hg⟩);have hc2 : w1.cell? ⟨b,j,none⟩ = some (.int .u64 x):=(hg.cell (p:=⟨b,j,none⟩) HR.out.lt).trans hc;have hf:=(HR.out.grow hg).frozen j;have HR1:=Lib.hid (HR.out.grow hg);have HG1:=Lib.hid (HG.out.trans hg))
   go_roundw
   case rel=>exact ⟨j,m,zs.set j q,by omega,by go_num,rfl,Hnx.out,HR1.out.set j q,HG1.out.setCell (p:=⟨b,j,none⟩) hb0 _⟩
   case measure=>simp [intOf]
theorem B3d (u2 u1 u0 v1 v0 : Nat) (h2 : u2 ≤ v1) (h1 : u1 < 18446744073709551616) (h0 : u0 < 18446744073709551616) (hv1 : v1 < 18446744073709551616) (hv0 : v0 < 18446744073709551616) (w : World) :
  Calls Tryz.prog 193 #[.int .u64 u2,.int .u64 u1,.int .u64 u0,.int .u64 v1,.int .u64 v0] w fun e w'=>∃ g : Nat,e = .returned (.int .u64 g) ∧ GW W64 u2 u1 u0 v1 v0 g ∧ A3 w w':=by
 rcases Nat.lt_or_ge u2 v1 with hlt | hge
 ·have hdv:=A9N u2 u1 v1 hv1 hlt h1
  have hst : GI W64 u2 u1 u0 v1 v0 ((u2 * W64 + u1) / v1) (0 * W64 + (u2 * W64 + u1) % v1):=by rw [Nat.zero_mul,Nat.zero_add];exact GI.quo B6 hlt h1 h0
  obtain ⟨g0,hg0⟩ : ∃ g,g = (u2 * W64 + u1) / v1:=⟨_,rfl⟩
  obtain ⟨r0,hr0⟩ : ∃ g,g = (u2 * W64 + u1) % v1:=⟨_,rfl⟩
  have hr1 : r0 < 18446744073709551616:=by rw [hr0];exact Nat.lt_trans (Nat.mod_lt _ (by omega)) hv1
  rw [← hg0,← hr0] at hdv hst
  have Hdv:=Lib.hid hdv
  have Hst:=Lib.hid (And.intro hst (And.intro hr1 (Nat.zero_le 1)))
  clear hdv hst hg0 hr0 hr1
  have hc : ((u2 : Int) == (v1 : Int)) = false:=by simp;omega
  go_enter Tryz.func193,Tryz.ntmps193
  go_wp2_with (go_at_call 190;((with_reducible refine (Hdv.out _).mono ?_);rintro e w1 ⟨rfl,hg1⟩))
  have Hw:=Lib.hid hg1
  clear hg1 hlt hc
  go_loopw [11,12,13] (fun x y z wr=>∃ (g r o : Nat),x = .int .u64 g ∧ y = .int .u64 r ∧ z = .int .u64 o ∧ (GI W64 u2 u1 u0 v1 v0 g (o * W64 + r) ∧ r < 18446744073709551616 ∧ o ≤ 1) ∧ A3 w wr) (fun x _ _ _=>(intOf x).toNat)
  case atStart=>exact ⟨_,_,_,rfl,rfl,rfl,Hst.out,Hw.out⟩
  case round =>
   clear Hst Hw
   obtain ⟨g,r,o,rfl,rfl,rfl,⟨hI,hr,ho⟩,hG⟩:=hrel
   have hgW : g < 18446744073709551616:=hI.1
   have HI:=Lib.hid hI
   have HG:=Lib.hid hG
   clear hI hG
   rcases Nat.eq_zero_or_pos o with rfl | hpos
   ·rw [Nat.zero_mul,Nat.zero_add] at HI
    have hmul : ∀ W : World,Calls Tryz.prog 123 #[.int .u64 (g : Int),.int .u64 (v0 : Int)] W fun e w'=>e = .returned (.tuple #[.int .u64 ((g * v0 / W64 : Nat) : Int),.int .u64 ((g * v0 % W64 : Nat) : Int)]) ∧ W = w':=by
     intro W
     refine (Tryz.bits_Mul64 g v0 hgW hv0 W).mono fun e w' ⟨he,hw⟩=>⟨?_,hw.symm⟩
     rw [he];rfl
    have htw:=B0J (W:=W64) (p:=g * v0) (r:=r) (u0:=u0) B6 h0
    obtain ⟨hi,hhi⟩ : ∃ q,q = g * v0 / W64:=⟨_,rfl⟩
    obtain ⟨lo,hlo⟩ : ∃ q,q = g * v0 % W64:=⟨_,rfl⟩
    rw [← hhi,← hlo] at hmul htw
    have Hmul:=Lib.hid hmul
    clear hmul hhi hlo
    by_cases hgo : g * v0 ≤ r * W64 + u0
    ·have hs:=HI.out.stop hgo
     have HS:=Lib.hid hs
     rw [htw] at hgo
     clear htw hs
     rcases Nat.lt_or_ge hi r with hhr | hhr
     ·have c1 : decide ((hi : Int) < (r : Int)) = true:=by simp;omega
      clear hgo
      go_wp2_with (go_at_call 123;((with_reducible refine (Hmul.out _).mono ?_);rintro e w1 ⟨rfl,rfl⟩))
      go_ret
      exact ⟨g,rfl,HS.out,HG.out⟩
     ·obtain ⟨rfl,hlu⟩ : hi = r ∧ lo ≤ u0:=by omega
      have c1 : decide ((hi : Int) < (hi : Int)) = false:=by simp
      have c2 : decide ((lo : Int) ≤ (u0 : Int)) = true:=by simp;omega
      have c3 : ((hi : Int) == (hi : Int)) = true:=by simp
      clear hgo
      go_wp2_with (go_at_call 123;((with_reducible refine (Hmul.out _).mono ?_);rintro e w1 ⟨rfl,rfl⟩))
      go_ret
      exact ⟨g,rfl,HS.out,HG.out⟩
    ·obtain ⟨hgp,hnx⟩:=HI.out.next hgo
     rw [htw] at hgo
     obtain ⟨k,rfl⟩ : ∃ k,g = k + 1:=⟨g - 1,by omega⟩
     rw [Nat.add_sub_cancel] at hnx
     have hadd:=R4 r v1 0 (by omega) (r : Int) (v1 : Int) 0 rfl rfl rfl
     rw [Nat.add_zero] at hadd
     have hre : (r + v1) / 18446744073709551616 * W64 + (r + v1) % 18446744073709551616 = r + v1:=by rw [Nat.mul_comm];exact Nat.div_add_mod _ _
     have hr1 : (r + v1) % 18446744073709551616 < 18446744073709551616:=Nat.mod_lt _ (by omega)
     have ho1 : (r + v1) / 18446744073709551616 ≤ 1:=by omega
     rw [← hre] at hnx
     obtain ⟨r0,hr0⟩ : ∃ g,g = (r + v1) % 18446744073709551616:=⟨_,rfl⟩
     obtain ⟨o0,ho0⟩ : ∃ g,g = (r + v1) / 18446744073709551616:=⟨_,rfl⟩
     rw [← hr0,← ho0] at hnx hadd
     rw [← hr0] at hr1
     rw [← ho0] at ho1
     have Hnx:=Lib.hid (And.intro hnx (And.intro hr1 ho1))
     have e1 : ((k + 1 : Nat) : Int) = (k : Int) + 1:=by omega
     rw [e1] at Hmul ⊢
     clear hnx hr0 ho0 hr1 ho1 hre htw e1
     rcases Nat.lt_or_ge r hi with hhr | hhr
     ·have c1 : decide ((hi : Int) < (r : Int)) = false:=by simp;omega
      have c3 : ((hi : Int) == (r : Int)) = false:=by simp;omega
      clear hgo
      go_wp2_with (go_at_call 123;((with_reducible refine (Hmul.out _).mono ?_);rintro e w1 ⟨rfl,rfl⟩))
      go_roundw
      case rel=>exact ⟨k,r0,o0,by go_num,rfl,rfl,Hnx.out,HG.out⟩
      case measure=>simp [intOf]
     ·obtain ⟨rfl,hlu⟩ : hi = r ∧ u0 < lo:=by omega
      have c1 : decide ((hi : Int) < (hi : Int)) = false:=by simp
      have c2 : decide ((lo : Int) ≤ (u0 : Int)) = false:=by simp;omega
      have c3 : ((hi : Int) == (hi : Int)) = true:=by simp
      clear hgo
      go_wp2_with (go_at_call 123;((with_reducible refine (Hmul.out _).mono ?_);rintro e w1 ⟨rfl,rfl⟩))
      go_roundw
      case rel=>exact ⟨k,r0,o0,by go_num,rfl,rfl,Hnx.out,HG.out⟩
      case measure=>simp [intOf]
   ·obtain rfl : o = 1:=by omega
    have hs:=HI.out.over hv0 (by omega)
    have HS:=Lib.hid hs
    clear hs
    go_wp2_with fail
    go_ret
    exact ⟨g,rfl,HS.out,HG.out⟩
 ·obtain rfl : v1 = u2:=by omega
  have hadd:=R4 u1 v1 0 (by omega) (u1 : Int) (v1 : Int) 0 rfl rfl rfl
  rw [Nat.add_zero] at hadd
  have hst : GI W64 v1 u1 u0 v1 v0 18446744073709551615 ((u1 + v1) / 18446744073709551616 * W64 + (u1 + v1) % 18446744073709551616):=by
   have := GI.full (W:=W64) (u1:=u1) (u0:=u0) (v0:=v0) B6 (rfl : v1 = v1)
   rw [show W64 - 1 = 18446744073709551615 from rfl] at this
   rw [show (u1 + v1) / 18446744073709551616 * W64 + (u1 + v1) % 18446744073709551616 = u1 + v1 from by rw [Nat.mul_comm];exact Nat.div_add_mod _ _]
   exact this
  have hr1 : (u1 + v1) % 18446744073709551616 < 18446744073709551616:=Nat.mod_lt _ (by omega)
  have ho1 : (u1 + v1) / 18446744073709551616 ≤ 1:=by omega
  obtain ⟨r0,hr0⟩ : ∃ g,g = (u1 + v1) % 18446744073709551616:=⟨_,rfl⟩
  obtain ⟨o0,ho0⟩ : ∃ g,g = (u1 + v1) / 18446744073709551616:=⟨_,rfl⟩
  rw [← hr0,← ho0] at hst hadd
  rw [← hr0] at hr1
  rw [← ho0] at ho1
  have Hst:=Lib.hid (And.intro hst (And.intro hr1 ho1))
  clear hst hr0 ho0 hr1 ho1
  have hc : ((v1 : Int) == (v1 : Int)) = true:=by simp
  go_enter Tryz.func193,Tryz.ntmps193
  go_wp2_with fail
  have Hw:=Lib.hid (A3.refl w)
  clear hadd hc hge h2
  have h2:=hv1
  go_loopw [11,12,13] (fun x y z wr=>∃ (g r o : Nat),x = .int .u64 g ∧ y = .int .u64 r ∧ z = .int .u64 o ∧ (GI W64 v1 u1 u0 v1 v0 g (o * W64 + r) ∧ r < 18446744073709551616 ∧ o ≤ 1) ∧ A3 w wr) (fun x _ _ _=>(intOf x).toNat)
  case atStart=>exact ⟨_,_,_,rfl,rfl,rfl,Hst.out,Hw.out⟩
  case round =>
   clear Hst Hw
   obtain ⟨g,r,o,rfl,rfl,rfl,⟨hI,hr,ho⟩,hG⟩:=hrel
   have hgW : g < 18446744073709551616:=hI.1
   have HI:=Lib.hid hI
   have HG:=Lib.hid hG
   clear hI hG
   rcases Nat.eq_zero_or_pos o with rfl | hpos
   ·rw [Nat.zero_mul,Nat.zero_add] at HI
    have hmul : ∀ W : World,Calls Tryz.prog 123 #[.int .u64 (g : Int),.int .u64 (v0 : Int)] W fun e w'=>e = .returned (.tuple #[.int .u64 ((g * v0 / W64 : Nat) : Int),.int .u64 ((g * v0 % W64 : Nat) : Int)]) ∧ W = w':=by
     intro W
     refine (Tryz.bits_Mul64 g v0 hgW hv0 W).mono fun e w' ⟨he,hw⟩=>⟨?_,hw.symm⟩
     rw [he];rfl
    have htw:=B0J (W:=W64) (p:=g * v0) (r:=r) (u0:=u0) B6 h0
    obtain ⟨hi,hhi⟩ : ∃ q,q = g * v0 / W64:=⟨_,rfl⟩
    obtain ⟨lo,hlo⟩ : ∃ q,q = g * v0 % W64:=⟨_,rfl⟩
    rw [← hhi,← hlo] at hmul htw
    have Hmul:=Lib.hid hmul
    clear hmul hhi hlo
    by_cases hgo : g * v0 ≤ r * W64 + u0
    ·have hs:=HI.out.stop hgo
     have HS:=Lib.hid hs
     rw [htw] at hgo
     clear htw hs
     rcases Nat.lt_or_ge hi r with hhr | hhr
     ·have c1 : decide ((hi : Int) < (r : Int)) = true:=by simp;omega
      clear hgo
      go_wp2_with (go_at_call 123;((with_reducible refine (Hmul.out _).mono ?_);rintro e w1 ⟨rfl,rfl⟩))
      go_ret
      exact ⟨g,rfl,HS.out,HG.out⟩
     ·obtain ⟨rfl,hlu⟩ : hi = r ∧ lo ≤ u0:=by omega
      have c1 : decide ((hi : Int) < (hi : Int)) = false:=by simp
      have c2 : decide ((lo : Int) ≤ (u0 : Int)) = true:=by simp;omega
      have c3 : ((hi : Int) == (hi : Int)) = true:=by simp
      clear hgo
      go_wp2_with (go_at_call 123;((with_reducible refine (Hmul.out _).mono ?_);rintro e w1 ⟨rfl,rfl⟩))
      go_ret
      exact ⟨g,rfl,HS.out,HG.out⟩
    ·obtain ⟨hgp,hnx⟩:=HI.out.next hgo
     rw [htw] at hgo
     obtain ⟨k,rfl⟩ : ∃ k,g = k + 1:=⟨g - 1,by omega⟩
     rw [Nat.add_sub_cancel] at hnx
     have hadd:=R4 r v1 0 (by omega) (r : Int) (v1 : Int) 0 rfl rfl rfl
     rw [Nat.add_zero] at hadd
     have hre : (r + v1) / 18446744073709551616 * W64 + (r + v1) % 18446744073709551616 = r + v1:=by rw [Nat.mul_comm];exact Nat.div_add_mod _ _
     have hr1 : (r + v1) % 18446744073709551616 < 18446744073709551616:=Nat.mod_lt _ (by omega)
     have ho1 : (r + v1) / 18446744073709551616 ≤ 1:=by omega
     rw [← hre] at hnx
     obtain ⟨r0,hr0⟩ : ∃ g,g = (r + v1) % 18446744073709551616:=⟨_,rfl⟩
     obtain ⟨o0,ho0⟩ : ∃ g,g = (r + v1) / 18446744073709551616:=⟨_,rfl⟩
     rw [← hr0,← ho0] at hnx hadd
     rw [← hr0] at hr1
     rw [← ho0] at ho1
     have Hnx:=Lib.hid (And.intro hnx (And.intro hr1 ho1))
     have e1 : ((k + 1 : Nat) : Int) = (k : Int) + 1:=by omega
     rw [e1] at Hmul ⊢
     clear hnx hr0 ho0 hr1 ho1 hre htw e1
     rcases Nat.lt_or_ge r hi with hhr | hhr
     ·have c1 : decide ((hi : Int) < (r : Int)) = false:=by simp;omega
      have c3 : ((hi : Int) == (r : Int)) = false:=by simp;omega
      clear hgo
      go_wp2_with (go_at_call 123;((with_reducible refine (Hmul.out _).mono ?_);rintro e w1 ⟨rfl,rfl⟩))
      go_roundw
      case rel=>exact ⟨k,r0,o0,by go_num,rfl,rfl,Hnx.out,HG.out⟩
      case measure=>simp [intOf]
     ·obtain ⟨rfl,hlu⟩ : hi = r ∧ u0 < lo:=by omega
      have c1 : decide ((hi : Int) < (hi : Int)) = false:=by simp
      have c2 : decide ((lo : Int) ≤ (u0 : Int)) = false:=by simp;omega
      have c3 : ((hi : Int) == (hi : Int)) = true:=by simp
      clear hgo
      go_wp2_with (go_at_call 123;((with_reducible refine (Hmul.out _).mono ?_);rintro e w1 ⟨rfl,rfl⟩))
      go_roundw
      case rel=>exact ⟨k,r0,o0,by go_num,rfl,rfl,Hnx.out,HG.out⟩
      case measure=>simp [intOf]
   ·obtain rfl : o = 1:=by omega
    have hs:=HI.out.over hv0 (by omega)
    have HS:=Lib.hid hs
    clear hs
    go_wp2_with fail
    go_ret
    exact ⟨g,rfl,HS.out,HG.out⟩
theorem A6G (A : Option Addr) (l : List Nat) (c n : Nat) (hd : Dig W64 l) (hm : l.length ≤ 34359738368) (hn : n ≤ 1099511627776) (w : World) (hr : Rd w A l) :
  Calls Tryz.prog 192 #[.slice A l.length c,.int .i64 n] w fun e w'=>∃ zs : List Nat,e = .returned (.slice (some ⟨w.heap.size,0,none⟩) zs.length zs.length) ∧ C4 w' w.heap.size zs ∧ zs.length = l.length + n / 64 + 1 ∧ Dig W64 zs ∧ val W64 zs = val W64 l * 2 ^ n ∧ A3 w w':=by
 have hps:=A6F n
 obtain ⟨wh,hwh⟩ : ∃ q,q = n / 64:=⟨_,rfl⟩
 obtain ⟨p,hp⟩ : ∃ q,q = n % 64:=⟨_,rfl⟩
 rw [← hwh,← hp] at hps
 rw [← hwh,← hps]
 have hp64 : p < 64:=by omega
 have hwhm : wh ≤ 17179869184:=by omega
 have q1 : (n : Int).tdiv 64 = (wh : Nat):=by rw [Int.tdiv_eq_ediv_of_nonneg (by omega)];omega
 have q2 : (n : Int).tmod 64 = (p : Nat):=by rw [Int.tmod_eq_emod_of_nonneg (by omega)];omega
 have q3 : (n : Int) / 64 = (wh : Nat):=by omega
 have q4 : (n : Int) % 64 = (p : Nat):=by omega
 obtain ⟨m,hml⟩ : ∃ m,m = l.length:=⟨_,rfl⟩
 have hs0:=ShU.start (W:=W64) (P:=2 ^ p) (wh:=wh) l B6 (Nat.two_pow_pos _)
 rw [← hml] at hm hs0
 rw [← hml]
 obtain ⟨t,ht⟩ : ∃ t,t = 64 - p:=⟨_,rfl⟩
 have hpw : W64 = 2 ^ p * 2 ^ t:=by rw [← Nat.pow_add,show p + t = 64 by omega];rfl
 have fs : IntKind.u64.wrap (p : Int) = p:=C5 (by omega)
 have fsm : min p 64 = p:=by omega
 have ftm : min t 64 = t:=by omega
 have ft : IntKind.u64.wrap (64 - (p : Int)) = (t : Nat):=by rw [show (64 - (p : Int)) = (t : Nat) by omega];exact C5 (by omega)
 have hmk:=A0f (m + wh + 1) (by omega) ((m : Int) + (wh : Int) + 1) (by omega)
 have Hr:=Lib.hid hr
 have Hd:=Lib.hid hd
 have Hml:=Lib.hid hml
 have Hs0:=Lib.hid hs0
 have Hpw:=Lib.hid hpw
 have hb0:=Blk.new w 33 (C0 (List.replicate (m + wh + 1) 0))
 have Hb0:=Lib.hid hb0
 clear hr hd hml hs0 hpw hb0 hps hwh hp ht
 go_enter Tryz.func192,Tryz.ntmps192
 go_wp2_with fail
 clear hmk
 go_loopw [23] (fun i wr=>∃ (k : Nat) (zs : List Nat),k ≤ m ∧ i = .int .i64 k ∧ ShU W64 (2 ^ p) wh l k zs ∧ C4 wr w.heap.size zs ∧ A3 w wr) (fun i _=>m - (intOf i).toNat)
 case atStart=>exact ⟨0,_,by omega,rfl,Hs0.out,Hb0.out,A3.alloc _ _⟩
 case round =>
  obtain ⟨k,zs,hk,rfl,hI,hR,hG⟩:=hrel
  have HI:=Lib.hid hI
  have HG:=Lib.hid hG
  have HR:=Lib.hid hR
  clear hI hG hR
  rcases Nat.lt_or_ge k m with hkm | hkm
  ·have hkl : k < l.length:=by rw [← Hml.out];exact hkm
   obtain ⟨b1,o1,rfl,hw1⟩:=(Hr.out.grow HG.out) (by rintro rfl;simp at hkl)
   have hc:=hw1.cell hkl
   rw [← D3 hkl] at hc
   have hz:=HI.out.1
   have hkz : k + wh < zs.length:=by rw [hz,← Hml.out];omega
   have hkz1 : k + wh + 1 < zs.length:=by rw [hz,← Hml.out];omega
   have hc1:=HR.out.cell (k + wh)
   rw [List.getElem?_eq_getElem hkz,← D3 hkz] at hc1
   have hf1:=HR.out.frozen (k + wh)
   have hnx:=HI.out.next (R:=2 ^ t) Hpw.out (Nat.two_pow_pos _) hkl Hd.out B6
   have hxW:=B9 B6 Hd.out k
   have hcP:=HI.out.2.2.2.1
   obtain ⟨x,hx⟩ : ∃ x,x = dg l k:=⟨_,rfl⟩
   obtain ⟨y,hy⟩ : ∃ x,x = dg zs (k + wh):=⟨_,rfl⟩
   rw [← hx] at hc hnx hxW
   rw [← hy] at hc1 hnx hcP
   simp only [Option.map_some] at hc1
   obtain ⟨L,hL⟩ : ∃ L,L = x % 2 ^ t * 2 ^ p:=⟨_,rfl⟩
   obtain ⟨Hh,hH⟩ : ∃ L,L = x / 2 ^ t:=⟨_,rfl⟩
   rw [← hL,← hH] at hnx
   have hlh:=A7c (c:=y) Hpw.out (Nat.two_pow_pos _) hcP hxW
   rw [← hL,← hH] at hlh
   obtain ⟨S,hS⟩ : ∃ S,S = y + L:=⟨_,rfl⟩
   rw [← hS] at hnx
   have fL : IntKind.u64.wrap ((x : Int) * 2 ^ p) = (L : Nat):=by
    have e:=(A3H x W64 (2 ^ p) (Nat.two_pow_pos _) (2 ^ t) Hpw.out (Nat.two_pow_pos _)).2
    rw [show ((x : Int) * 2 ^ p) = ((x * 2 ^ p : Nat) : Int) by simp,hL,← e];exact A2Y
   have fH : (x : Int) / 2 ^ t = (Hh : Nat):=by rw [hH];simp
   have fo : bits .or .u64 (y : Int) (L : Int) = (S : Nat):=by
    rw [hS]
    have hyW : y < 18446744073709551616:=by have := hlh.1;unfold W64 at this;omega
    rw [u64_or_nat _ _ hyW (by have := hlh.1;unfold W64 at this;omega),A1T hcP (by rw [hL];exact Nat.dvd_mul_left _ _),Nat.add_comm]
   have hset1:=HR.out.set (k + wh) S
   have hc2:=hset1.cell (k + wh + 1)
   have hf2:=hset1.frozen (k + wh + 1)
   rw [List.getElem?_eq_getElem (by rw [List.length_set];exact hkz1)] at hc2
   simp only [Option.map_some] at hc2
   obtain ⟨old,hold⟩ : ∃ v,v = Value.int .u64 ((zs.set (k + wh) S)[k + wh + 1]'(by rw [List.length_set];exact hkz1) : Nat):=⟨_,rfl⟩
   rw [← hold] at hc2
   clear hold
   have hset2:=hset1.set (k + wh + 1) Hh
   have Hset2:=Lib.hid hset2
   have Hnx:=Lib.hid hnx
   clear hS hset1 hset2 hnx hlh hx hy hL hH hw1 hz hkz hkz1
   have hdj : decide ((k : Int) < (m : Int)) = true:=by simp;omega
   have hcs : ((k + wh : Nat) : Int) = (k : Int) + (wh : Int):=by omega
   go_wp2_with fail
   go_roundw
   case rel=>exact ⟨k + 1,_,by omega,by go_num,Hnx.out,Hset2.out,(HG.out.setCell (p:=⟨w.heap.size,k + wh,none⟩) (Nat.le_refl _) _).setCell (p:=⟨w.heap.size,k + wh + 1,none⟩) (Nat.le_refl _) _⟩
   case measure=>simp [intOf];omega
  ·obtain rfl : k = m:=by omega
   have hdn:=HI.out
   rw [Hml.out] at hdn
   have hdn2:=hdn.done
   have Hdn:=Lib.hid hdn2
   clear hdn hdn2
   have hdj : decide ((k : Int) < (k : Int)) = false:=by simp
   go_wp2_with fail
   go_ret
   exact ⟨zs,by rw [HI.out.1,← Hml.out];rfl,HR.out,by rw [HI.out.1,Hml.out],HI.out.2.1,Hdn.out,HG.out⟩
theorem B03 (A : Option Addr) (l : List Nat) (c n : Nat) (hd : Dig W64 l) (hm : l.length ≤ 34359738368) (hn : n / 64 < l.length) (w : World) (hr : Rd w A l) :
  Calls Tryz.prog 194 #[.slice A l.length c,.int .i64 n] w fun e w'=>∃ zs : List Nat,e = .returned (.slice (some ⟨w.heap.size,0,none⟩) zs.length zs.length) ∧ C4 w' w.heap.size zs ∧ zs.length = l.length - n / 64 ∧ Dig W64 zs ∧ val W64 zs = val W64 l / 2 ^ n ∧ A3 w w':=by
 have hps:=A6F n
 obtain ⟨wh,hwh⟩ : ∃ q,q = n / 64:=⟨_,rfl⟩
 obtain ⟨p,hp⟩ : ∃ q,q = n % 64:=⟨_,rfl⟩
 have hp64 : p < 64:=by omega
 have hn2 : n < 2199023255616:=by omega
 have q1 : (n : Int).tdiv 64 = (wh : Nat):=by rw [Int.tdiv_eq_ediv_of_nonneg (by omega)];omega
 have q2 : (n : Int).tmod 64 = (p : Nat):=by rw [Int.tmod_eq_emod_of_nonneg (by omega)];omega
 have q3 : (n : Int) / 64 = (wh : Nat):=by omega
 have q4 : (n : Int) % 64 = (p : Nat):=by omega
 rw [← hwh,← hp] at hps
 rw [← hwh] at hn
 rw [← hwh,← hps]
 obtain ⟨m,hml⟩ : ∃ m,m = l.length:=⟨_,rfl⟩
 obtain ⟨t,ht⟩ : ∃ t,t = 64 - p:=⟨_,rfl⟩
 have hs0:=ShD.start (W:=W64) (P:=2 ^ p) (R:=2 ^ t) (wh:=wh) l
 rw [← hml] at hm hs0 hn
 rw [← hml]
 obtain ⟨k0,hk0⟩ : ∃ k,k = m - wh:=⟨_,rfl⟩
 rw [← hk0] at hs0
 rw [← hk0]
 have hpw : W64 = 2 ^ p * 2 ^ t:=by rw [← Nat.pow_add,show p + t = 64 by omega];rfl
 have fs : IntKind.u64.wrap (p : Int) = p:=C5 (by omega)
 have fsm : min p 64 = p:=by omega
 have ftm : min t 64 = t:=by omega
 have ft : IntKind.u64.wrap (64 - (p : Int)) = (t : Nat):=by rw [show (64 - (p : Int)) = (t : Nat) by omega];exact C5 (by omega)
 have fk : (m : Int) - (wh : Int) = (k0 : Nat):=by omega
 have fw : IntKind.i64.wrap ((m : Int) - (wh : Int)) = (k0 : Nat):=by rw [fk];exact IntWalk.i64_in _ (by omega)
 have hmk:=A0f k0 (by omega) (k0 : Int) rfl
 have hge : decide ((m : Int) ≤ (wh : Int)) = false:=by simp;omega
 have Hr:=Lib.hid hr
 have Hd:=Lib.hid hd
 have Hml:=Lib.hid hml
 have Hs0:=Lib.hid hs0
 have Hpw:=Lib.hid hpw
 have Hk0:=Lib.hid hk0
 have hb0:=Blk.new w 33 (C0 (List.replicate k0 0))
 have Hb0:=Lib.hid hb0
 have hk0p : k0 ≤ 34359738368:=by omega
 have hwm : wh ≤ 34359738368:=by omega
 clear hr hd hml hs0 hpw hb0 hps hwh hp ht hk0
 go_enter Tryz.func194,Tryz.ntmps194
 go_wp2_with fail
 rw [show decide (m ≤ wh) = false by simp;omega]
 clear hmk hge
 go_loopw [25] (fun i wr=>∃ (k : Nat) (zs : List Nat),k ≤ k0 ∧ i = .int .i64 k ∧ ShD W64 (2 ^ p) (2 ^ t) wh l k zs ∧ C4 wr w.heap.size zs ∧ A3 w wr) (fun i _=>k0 - (intOf i).toNat)
 case atStart=>exact ⟨0,_,by omega,rfl,Hs0.out,Hb0.out,A3.alloc _ _⟩
 case round =>
  obtain ⟨k,zs,hk,rfl,hI,hR,hG⟩:=hrel
  have HI:=Lib.hid hI
  have HG:=Lib.hid hG
  have HR:=Lib.hid hR
  clear hI hG hR
  rcases Nat.lt_or_ge k k0 with hkm | hkm
  ·have hkl : k + wh < l.length:=by rw [← Hml.out];have := Hk0.out;omega
   obtain ⟨b1,o1,rfl,hw1⟩:=(Hr.out.grow HG.out) (by rintro rfl;simp at hkl)
   have hb1 : b1 < w.heap.size:=by
    obtain ⟨b2,o2,e2,h2⟩:=Hr.out (by rintro rfl;simp at hkl)
    injection e2 with e2
    injection e2 with e3
    rw [e3]
    exact h2.lt
   have hc:=hw1.cell hkl
   rw [← D3 hkl] at hc
   have hnx:=HI.out.next (i:=k) (by rw [← Hml.out,← Hk0.out];exact hkm)
   have hz:=HI.out.1
   rw [← Hml.out,← Hk0.out] at hz
   have hkz : k < zs.length:=by omega
   have hc1:=HR.out.cell k
   rw [List.getElem?_eq_getElem hkz] at hc1
   have hf1:=HR.out.frozen k
   simp only [Option.map_some] at hc1
   obtain ⟨old,hold⟩ : ∃ v,v = Value.int .u64 (zs[k]'hkz : Nat):=⟨_,rfl⟩
   rw [← hold] at hc1
   clear hold
   have hxW:=B9 B6 Hd.out (k + wh)
   have hyW:=B9 B6 Hd.out (k + wh + 1)
   obtain ⟨x,hx⟩ : ∃ x,x = dg l (k + wh):=⟨_,rfl⟩
   obtain ⟨y,hy⟩ : ∃ x,x = dg l (k + wh + 1):=⟨_,rfl⟩
   rw [← hx] at hc hnx hxW
   rw [← hy] at hnx hyW
   obtain ⟨q,hq⟩ : ∃ q,q = x / 2 ^ p:=⟨_,rfl⟩
   obtain ⟨L,hL⟩ : ∃ q,q = y % 2 ^ p * 2 ^ t:=⟨_,rfl⟩
   have hdd:=A1l (y:=y) Hpw.out (Nat.two_pow_pos _) hxW
   rw [← hq,← hL] at hnx hdd
   have fq : (x : Int) / 2 ^ p = (q : Nat):=by rw [hq];simp
   have hdj : decide ((k : Int) < (k0 : Int)) = true:=by simp;omega
   rcases Nat.lt_or_ge (k + wh + 1) m with hin | hin
   ·have hin2 : k + wh + 1 < l.length:=by rw [← Hml.out];exact hin
    have hcy:=hw1.cell hin2
    rw [← D3 hin2,← hy] at hcy
    obtain ⟨S,hS⟩ : ∃ S,S = q + L:=⟨_,rfl⟩
    rw [← hS] at hnx
    have fL : IntKind.u64.wrap ((y : Int) * 2 ^ t) = (L : Nat):=by
     have e:=(A3H y W64 (2 ^ t) (Nat.two_pow_pos _) (2 ^ p) (by rw [Nat.mul_comm];exact Hpw.out) (Nat.two_pow_pos _)).2
     rw [show ((y : Int) * 2 ^ t) = ((y * 2 ^ t : Nat) : Int) by simp,hL,← e];exact A2Y
    have fo : bits .or .u64 (q : Int) (L : Int) = (S : Nat):=by
     rw [hS]
     have hyW : q < 18446744073709551616:=by have := hdd.1;unfold W64 at this;omega
     rw [u64_or_nat _ _ hyW (by have := hdd.1;unfold W64 at this;omega),A1T hdd.2 (by rw [hL];exact Nat.dvd_mul_left _ _),Nat.add_comm]
    have hset1:=HR.out.set k q
    have hc2:=hset1.cell k
    have hf2:=hset1.frozen k
    rw [List.getElem?_set_self hkz] at hc2
    simp only [Option.map_some] at hc2
    have hc3 : (wr.setCell ⟨w.heap.size,k,none⟩ (.int .u64 q)).cell? ⟨b1,o1 + (k + wh + 1),none⟩ = some (.int .u64 y):=by
     rw [← hcy]
     exact World.cell?_of_block (Below.heap_setCell wr ⟨w.heap.size,k,none⟩ _ b1 (by show b1 ≠ w.heap.size;omega))
    have hset2:=hset1.set k S
    rw [List.set_set] at hset2
    have Hset2:=Lib.hid hset2
    have Hnx:=Lib.hid hnx
    have hc9 : decide ((k : Int) + (wh : Int) + 1 < (m : Int)) = true:=by simp;omega
    clear hS hset1 hset2 hnx hdd hx hy hq hL hw1 hz hkz hcy
    go_wp2_with fail
    have hG1:=HG.out.setCell (p:=⟨w.heap.size,k,none⟩) (Nat.le_refl _) (.int .u64 q)
    have hset2:=Hset2.out
    clear Hset2
    generalize wr.setCell ⟨w.heap.size,k,none⟩ (.int .u64 q) = w1 at hc2 hf2 hc3 hset2 hG1 ⊢
    have Hset2:=Lib.hid hset2
    have HG1:=Lib.hid hG1
    clear hset2 hG1 hc hc1 hf1 hc9 hdj
    obtain ⟨K0,hK0⟩ : ∃ K,K = k + wh:=⟨_,rfl⟩
    obtain ⟨K1,hK1⟩ : ∃ K,K = k + wh + 1:=⟨_,rfl⟩
    have f0 : IntKind.i64.wrap ((k : Int) + (wh : Int)) = (K0 : Nat):=by rw [show ((k : Int) + (wh : Int)) = (K0 : Nat) by omega];exact IntWalk.i64_in _ (by omega)
    have f1 : IntKind.i64.wrap ((K0 : Int) + 1) = (K1 : Nat):=by rw [show ((K0 : Int) + 1) = (K1 : Nat) by omega];exact IntWalk.i64_in _ (by omega)
    have hK1m : K1 < m:=by omega
    rw [← hK1] at hc3
    clear hK0 hK1 hin hin2 hkl
    go_still_tail 15,(by kernel_rfl)
    go_wp2_with fail
    go_roundw
    case rel=>exact ⟨k + 1,_,by omega,by go_num,Hnx.out,Hset2.out.grow (A3.drew _),(HG1.out.setCell (p:=⟨w.heap.size,k,none⟩) (Nat.le_refl _) _).trans (A3.drew _)⟩
    case measure=>simp [intOf];omega
   ·have hy0 : y = 0:=by rw [hy];exact X1 (by rw [← Hml.out];exact hin)
    have hL0 : L = 0:=by rw [hL,hy0,Nat.zero_mod,Nat.zero_mul]
    rw [hL0,Nat.add_zero] at hnx
    have hset1:=HR.out.set k q
    have Hset1:=Lib.hid hset1
    have Hnx:=Lib.hid hnx
    have hc9 : decide ((k : Int) + (wh : Int) + 1 < (m : Int)) = false:=by simp;omega
    clear hset1 hnx hdd hx hy hq hL hw1 hz hkz hy0 hL0
    go_wp2_with fail
    go_roundw
    case rel=>exact ⟨k + 1,_,by omega,by go_num,Hnx.out,Hset1.out,HG.out.setCell (p:=⟨w.heap.size,k,none⟩) (Nat.le_refl _) _⟩
    case measure=>simp [intOf];omega
  ·obtain rfl : k = k0:=by omega
   have hdn:=HI.out
   rw [Hk0.out,Hml.out] at hdn
   have hdn2:=hdn.done Hpw.out (Nat.two_pow_pos _) B6 Hd.out
   have hdn3:=hdn.dig Hpw.out (Nat.two_pow_pos _) B6 Hd.out
   have Hdn:=Lib.hid hdn2
   have Hdg:=Lib.hid hdn3
   clear hdn hdn2 hdn3
   have hdj : decide ((k : Int) < (k : Int)) = false:=by simp
   go_wp2_with fail
   go_ret
   have hz:=HI.out.1
   rw [← Hml.out,← Hk0.out] at hz
   exact ⟨zs,by rw [hz];rfl,HR.out,hz,Hdg.out,Hdn.out,HG.out⟩
end Go.Proofs.YtlkniebmjdoopaaGreatDoor
