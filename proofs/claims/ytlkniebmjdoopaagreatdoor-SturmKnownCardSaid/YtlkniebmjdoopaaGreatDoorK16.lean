/- Contracts and laws. -/
import Derived.Test.YtlkniebmjdoopaaGreatDoorK15
import Derived.BigQuiet
import Derived.StillTailTactics
set_option linter.unusedSimpArgs false
set_option linter.unusedVariables false
set_option maxHeartbeats 1000000
set_option maxRecDepth 100000
namespace Go.Proofs.YtlkniebmjdoopaaGreatDoor
open Go.RowKit
theorem A3r {B : Nat} {la lb : List Nat} (hB : 2 ≤ B) (h1 : Dig B la) (h3 : Q3 lb) (h2 : Dig B lb) (h : la.length < lb.length) : val B la < val B lb:=by
 have e1:=H5 h1
 rcases (A4W h2).1 h3 with h4 | h4
 ·rw [h4] at h;simp at h
 ·exact Nat.lt_of_lt_of_le e1 (Nat.le_trans (Nat.pow_le_pow_right (by omega) (by omega)) h4)
theorem I5 {x y : Int} (h : x = y) : Ending.returned (.int .i64 x) = .returned (.int .i64 y):=by rw [h]
theorem A7n (A : Option Addr) (l : List Nat) (c : Nat) (w : World) (h : Rd w A l) (hc : l.length ≤ c) (hm : c ≤ 9223372036854775807) :
  Calls Tryz.prog 196 #[.slice A l.length c] w fun e w'=>e = .returned (.slice A (C6 l).length c) ∧ w = w':=by
 have H:=Lib.hid h
 clear h
 obtain ⟨n,hn⟩ : ∃ n,n = l.length:=⟨_,rfl⟩
 rw [← hn]
 rw [← hn] at hc
 have Hn:=Lib.hid hn
 clear hn
 go_enter Tryz.func196,Tryz.ntmps196
 go_wp2
 go_loop [0] (fun s=>∃ k : Nat,k ≤ n ∧ s = .slice A k c ∧ C6 (l.take k) = C6 l) (fun s=>match s with | .slice _ k _=>k | _=>0)
 case atStart=>exact ⟨n,Nat.le_refl _,rfl,by rw [List.take_of_length_le (by rw [Hn.out];exact Nat.le_refl _)]⟩
 case round =>
  obtain ⟨k,hk,rfl,ht⟩:=hrel
  have Ht:=Lib.hid ht
  clear ht
  rcases Nat.eq_zero_or_pos k with rfl | hpos
  ·go_wp2
   go_ret
   refine ⟨?_,rfl⟩
   have : C6 l = []:=by rw [← Ht.out];rfl
   rw [this]
   rfl
  ·have hkl : k - 1 < l.length:=by rw [← Hn.out];omega
   obtain ⟨b,off,rfl,hw⟩:=H.out (by rintro rfl;simp at hkl)
   have hcell:=hw.cell hkl
   have Hw:=Lib.hid hw
   clear hw
   have hsn : l.take k = l.take (k - 1) ++ [l[k - 1]]:=by
    have := List.take_succ_eq_append_getElem hkl
    rw [show k - 1 + 1 = k by omega] at this
    exact this
   have Hsn:=Lib.hid hsn
   clear hsn
   obtain ⟨x,hx⟩ : ∃ x,x = l[k - 1]:=⟨_,rfl⟩
   rw [← hx] at hcell
   have Hx:=Lib.hid hx
   clear hx
   have hidx : (0 : Int) ≤ (k : Int) - 1:=by omega
   by_cases h0 : x = 0
   ·subst h0
    go_wp2
    go_round
    case rel=>exact ⟨k - 1,by omega,by go_num,by rw [← Ht.out,Hsn.out,← Hx.out,A6b]⟩
    case measure=>simp;omega
   ·have hb : ((x : Int) == 0) = false:=by simpa using h0
    go_wp2
    go_ret
    refine ⟨?_,rfl⟩
    have : C6 l = l.take k:=by rw [← Ht.out,Hsn.out,A4j _ (by rw [← Hx.out];exact h0)]
    rw [this,List.length_take,Nat.min_eq_left (by omega)]
    rfl
theorem B2S (b1 o1 b2 o2 : Nat) (l1 l2 : List Nat) (c1 c2 : Nat) (w : World) (h1 : Wds w b1 o1 l1) (h2 : Wds w b2 o2 l2) (hd1 : Dig W64 l1) (hd2 : Dig W64 l2) (hl : l1.length = l2.length) (hm : l1.length ≤ 34359738368) :
  Calls Tryz.prog 161 #[.slice (some ⟨b1,o1,none⟩) l1.length c1,.slice (some ⟨b2,o2,none⟩) l2.length c2] w fun e w'=>e = .returned (.int .i64 (E6 (val W64 l1) (val W64 l2))) ∧ A3 w w':=by
 have H1:=Lib.hid h1
 have H2:=Lib.hid h2
 have Hd1:=Lib.hid hd1
 have Hd2:=Lib.hid hd2
 obtain ⟨n,hn⟩ : ∃ n,n = l1.length:=⟨_,rfl⟩
 rw [← hl,← hn]
 rw [← hn] at hm
 have Hn1:=Lib.hid hn
 have Hn2:=Lib.hid (hn.trans hl)
 clear h1 h2 hd1 hd2 hl hn
 go_enter Tryz.func161,Tryz.ntmps161
 go_wp2_with fail
 go_loopw [5] (fun s wr=>∃ k : Nat,k ≤ n ∧ s = .int .i64 ((k : Int) - 1) ∧ l1.drop k = l2.drop k ∧ A3 w wr) (fun s _=>(intOf s + 1).toNat)
 case atStart=>exact ⟨n,Nat.le_refl _,rfl,by rw [List.drop_of_length_le (Nat.le_of_eq Hn1.out.symm),List.drop_of_length_le (Nat.le_of_eq Hn2.out.symm)],A3.refl _⟩
 case round =>
  obtain ⟨k,hk,rfl,hd,hG⟩:=hrel
  have Hd:=Lib.hid hd
  clear hd
  rcases Nat.eq_zero_or_pos k with rfl | hpos
  ·have hc : decide ((0 : Int) ≤ ((0 : Nat) : Int) - 1) = false:=by decide
   go_wp2_with fail
   go_ret
   refine ⟨I5 ?_,hG⟩
   have := Hd.out
   simp only [List.drop_zero] at this
   rw [this,A0v rfl]
  ·obtain ⟨j,rfl⟩ : ∃ j,k = j + 1:=⟨k - 1,by omega⟩
   have e1 : ((j + 1 : Nat) : Int) - 1 = (j : Nat):=by omega
   rw [e1]
   have hj1 : j < l1.length:=by have := Hn1.out;omega
   have hj2 : j < l2.length:=by have := Hn2.out;omega
   have hc1:=(H1.out.grow hG).cell hj1
   have hc2:=(H2.out.grow hG).cell hj2
   rw [← D3 hj1] at hc1
   rw [← D3 hj2] at hc2
   obtain ⟨p,hp⟩ : ∃ p,p = dg l1 j:=⟨_,rfl⟩
   obtain ⟨q,hq⟩ : ∃ q,q = dg l2 j:=⟨_,rfl⟩
   rw [← hp] at hc1
   rw [← hq] at hc2
   have Hp:=Lib.hid hp
   have Hq:=Lib.hid hq
   clear hp hq e1
   have hc0 : decide ((0 : Int) ≤ (j : Int)) = true:=by simp
   rcases Nat.lt_trichotomy p q with hlt | heq | hgt
   ·have hb1 : ((p : Int) != (q : Int)) = true:=by simp;omega
    have hb2 : decide ((p : Int) < (q : Int)) = true:=by simp;omega
    go_wp2_with fail
    go_quiet (fail)
    go_wp2_with fail
    go_quiet (fail)
    go_wp2_with fail
    go_ret
    refine ⟨I5 ?_,hG.trans ((O1 _ _).trans (O1 _ _))⟩
    have h1:=A1n Hd1.out (Hn1.out.symm.trans Hn2.out) hj1 Hd.out (by rw [← Hp.out,← Hq.out];exact hlt)
    rw [O6 h1]
   ·subst heq
    go_wp2_with fail
    go_quiet (fail)
    go_wp2_with fail
    exact ⟨⟨j,by omega,rfl,by rw [A0Y hj1,A0Y hj2,Hd.out,← Hp.out,← Hq.out],hG.trans (O1 _ _)⟩,by simp [intOf]⟩
   ·have hb1 : ((p : Int) != (q : Int)) = true:=by simp;omega
    have hb2 : decide ((p : Int) < (q : Int)) = false:=by simp;omega
    go_wp2_with fail
    go_quiet (fail)
    go_wp2_with fail
    go_quiet (fail)
    go_wp2_with fail
    go_ret
    refine ⟨I5 ?_,hG.trans ((O1 _ _).trans (O1 _ _))⟩
    have h1:=A1n Hd2.out (Hn2.out.symm.trans Hn1.out) hj2 Hd.out.symm (by rw [← Hp.out,← Hq.out];exact hgt)
    rw [W6 h1]
theorem B3U (b1 o1 b2 o2 : Nat) (l1 l2 : List Nat) (c1 c2 : Nat) (w : World) (h1 : Wds w b1 o1 l1) (h2 : Wds w b2 o2 l2) (hd1 : Dig W64 l1) (hd2 : Dig W64 l2) (ht1 : Q3 l1) (ht2 : Q3 l2) (hm : l1.length ≤ 34359738368) :
  Calls Tryz.prog 161 #[.slice (some ⟨b1,o1,none⟩) l1.length c1,.slice (some ⟨b2,o2,none⟩) l2.length c2] w fun e w'=>e = .returned (.int .i64 (E6 (val W64 l1) (val W64 l2))) ∧ A3 w w':=by
 rcases Nat.lt_trichotomy l1.length l2.length with h | h | h
 ·rw [O6 (A3r C7 hd1 ht2 hd2 h)]
  generalize l1.length = x at *
  generalize l2.length = y at *
  clear h1 h2 hd1 hd2 ht1 ht2
  have hb : ((x : Int) != (y : Int)) = true:=by simp;omega
  have hb2 : decide ((x : Int) < (y : Int)) = true:=by simp;omega
  go_enter Tryz.func161,Tryz.ntmps161
  go_wp2_with fail
  go_ret
  exact ⟨rfl,A3.refl _⟩
 ·exact B2S b1 o1 b2 o2 l1 l2 c1 c2 w h1 h2 hd1 hd2 h hm
 ·rw [W6 (A3r C7 hd2 ht1 hd1 h)]
  generalize l1.length = x at *
  generalize l2.length = y at *
  clear h1 h2 hd1 hd2 ht1 ht2
  have hb : ((x : Int) != (y : Int)) = true:=by simp;omega
  have hb2 : decide ((x : Int) < (y : Int)) = false:=by simp;omega
  go_enter Tryz.func161,Tryz.ntmps161
  go_wp2_with fail
  go_ret
  exact ⟨rfl,A3.refl _⟩
theorem B0b (b1 o1 b2 o2 : Nat) (lx ly : List Nat) (c1 c2 : Nat) (w0 w : World) (h1 : Wds w b1 o1 lx) (h2 : Wds w b2 o2 ly) (hne : b1 ≠ b2) (hdx : Dig W64 lx) (hdy : Dig W64 ly) (hl : ly.length ≤ lx.length) (hle : val W64 ly ≤ val W64 lx) (hm : lx.length ≤ 34359738368)
  (hc : lx.length ≤ c1) (hcm : c1 ≤ 9223372036854775807) (hg0 : A3 w0 w) (hb0 : w0.heap.size ≤ b1) :
  Calls Tryz.prog 162 #[.slice (some ⟨b1,o1,none⟩) lx.length c1,.slice (some ⟨b2,o2,none⟩) ly.length c2] w fun e w'=>∃ zs : List Nat,e = .returned (.slice (some ⟨b1,o1,none⟩) (C6 zs).length c1) ∧ (Wds w' b1 o1 zs ∧ zs.length = lx.length ∧ Dig W64 zs ∧ val W64 zs = val W64 lx - val W64 ly ∧ Wds w' b2 o2 ly) ∧ A3 w0 w':=by
 obtain ⟨n,hn⟩ : ∃ n,n = lx.length:=⟨_,rfl⟩
 obtain ⟨m,hmm⟩ : ∃ n,n = ly.length:=⟨_,rfl⟩
 rw [← hn] at hm hc
 rw [← hn,← hmm]
 have hmn : m ≤ n:=by omega
 have Hs0:=Lib.hid (SbI.start W64 ly hdx)
 have H1:=Lib.hid h1
 have H2:=Lib.hid h2
 have Hdx:=Lib.hid hdx
 have Hdy:=Lib.hid hdy
 have Hn:=Lib.hid hn
 have Hmm:=Lib.hid hmm
 have Hl:=Lib.hid hl
 have Hle:=Lib.hid hle
 have Hg0:=Lib.hid hg0
 clear h1 h2 hdx hdy hn hmm hl hle hg0
 go_enter Tryz.func162,Tryz.ntmps162
 go_wp2_with fail
 go_loopw [5,10] (fun r i wr=>∃ (k br : Nat) (zs : List Nat),k ≤ n ∧ i = .int .i64 k ∧ r = .int .u64 br ∧ SbI W64 lx ly k br zs ∧ Wds wr b1 o1 zs ∧ Wds wr b2 o2 ly ∧ A3 w0 wr) (fun _ i _=>n - (intOf i).toNat)
 case atStart=>exact ⟨0,0,lx,by omega,rfl,rfl,Hs0.out,H1.out,H2.out,Hg0.out⟩
 case round =>
  clear Hs0 H1 H2 Hg0
  obtain ⟨k,br,zs,hk,rfl,rfl,hI,hR,hR2,hG⟩:=hrel
  have hbr : br ≤ 1:=hI.2.2.1
  have HI:=Lib.hid hI
  have HG:=Lib.hid hG
  have HR:=Lib.hid hR
  have HR2:=Lib.hid hR2
  clear hI hG hR hR2
  rcases Nat.lt_or_ge k n with hkn | hkn
  ·have hkl : k < lx.length:=by rw [← Hn.out];exact hkn
   have hkz : k < zs.length:=by rw [HI.out.1];exact hkl
   have hc1:=HR.out.cell hkz
   have hf1:=HR.out.frozen (o1 + k)
   rw [← D3 hkz,HI.out.2.2.2.1 k (Nat.le_refl _)] at hc1
   have hnx:=HI.out.next B6 Hdx.out Hdy.out hkl
   obtain ⟨x,hx⟩ : ∃ x,x = dg lx k:=⟨_,rfl⟩
   obtain ⟨o,ho⟩ : ∃ o,o = dg ly k:=⟨_,rfl⟩
   rw [← hx,← ho] at hnx
   rw [← hx] at hc1
   obtain ⟨sm,hsm⟩ : ∃ sm,sm = (x + W64 - o - br) % W64:=⟨_,rfl⟩
   obtain ⟨t,ht⟩ : ∃ t,t = (if x < o + br then 1 else 0):=⟨_,rfl⟩
   rw [← hsm,← ht] at hnx
   have Hnx:=Lib.hid hnx
   have Hset:=Lib.hid (HR.out.set k sm hkz)
   have Hfar:=Lib.hid (HR2.out.far (p:=⟨b1,o1 + k,none⟩) (fun e=>hne e.symm) (.int .u64 (sm : Nat)))
   clear hnx hkz
   have hdk : decide ((k : Int) < (n : Int)) = true:=by simp;omega
   by_cases hky : k < m
   ·have hc2:=HR2.out.cell (i:=k) (by rw [← Hmm.out];exact hky)
    rw [← D3 (by rw [← Hmm.out];exact hky),← ho] at hc2
    have hadd:=A1M x o br hbr (x : Int) (o : Int) (br : Int) rfl rfl rfl
    rw [show (x + 18446744073709551616 - o - br) % 18446744073709551616 = sm from hsm.symm,show (if x < o + br then 1 else 0) = t from ht.symm] at hadd
    clear hsm ht hx ho
    go_wp2
    go_roundw
    case rel=>exact ⟨k + 1,t,_,by omega,by go_num,rfl,Hnx.out,Hset.out,Hfar.out,HG.out.setCell (p:=⟨b1,o1 + k,none⟩) hb0 _⟩
    case measure=>simp [intOf];omega
   ·have hz : o = 0:=by rw [ho];exact X1 (by rw [← Hmm.out];omega)
    have hadd:=A1M x o br hbr (x : Int) 0 (br : Int) rfl (by rw [hz];rfl) rfl
    rw [show (x + 18446744073709551616 - o - br) % 18446744073709551616 = sm from hsm.symm,show (if x < o + br then 1 else 0) = t from ht.symm] at hadd
    clear hsm ht hx ho hz
    go_wp2
    go_roundw
    case rel=>exact ⟨k + 1,t,_,by omega,by go_num,rfl,Hnx.out,Hset.out,Hfar.out,HG.out.setCell (p:=⟨b1,o1 + k,none⟩) hb0 _⟩
    case measure=>simp [intOf];omega
  ·obtain rfl : n = k:=by omega
   have htr : Calls Tryz.prog 196 #[.slice (some ⟨b1,o1,none⟩) n c1] wr fun e w'=>e = .returned (.slice (some ⟨b1,o1,none⟩) (C6 zs).length c1) ∧ wr = w':=by
    have hl:=HI.out.1
    rw [← Hn.out] at hl
    have := A7n (some ⟨b1,o1,none⟩) zs c1 wr (fun _=>⟨_,_,rfl,HR.out⟩) (by omega) hcm
    rw [hl] at this
    exact this
   have Htr:=Lib.hid htr
   clear htr
   have hdk : decide ((n : Int) < (n : Int)) = false:=by simp
   go_wp2_with (go_at_call 196;((with_reducible refine (Htr.out).mono ?_);rintro e w1 ⟨rfl,rfl⟩))
   go_ret
   exact ⟨zs,rfl,⟨HR.out,by rw [HI.out.1,Hn.out],HI.out.2.1,HI.out.done Hn.out Hl.out Hle.out,HR2.out⟩,HG.out⟩
def Oth (b : Nat) (w w' : World) : Prop:=∀ b2 o2 l2,b2 ≠ b → Wds w b2 o2 l2 → Wds w' b2 o2 l2
theorem Oth.set {b : Nat} {w w' : World} (h : Oth b w w') (i : Nat) (v : Value) : Oth b w (w'.setCell ⟨b,i,none⟩ v):=fun b2 o2 l2 hn hw=>(h b2 o2 l2 hn hw).far (p:=⟨b,i,none⟩) hn v
theorem Oth.grow {b : Nat} {w w' w'' : World} (h : Oth b w w') (hg : A3 w' w'') : Oth b w w'':=fun b2 o2 l2 hn hw=>(h b2 o2 l2 hn hw).grow hg
theorem Oth.refl (b : Nat) (w : World) : Oth b w w:=fun _ _ _ _ h=>h
theorem Oth.trans {b : Nat} {w w' w'' : World} (h : Oth b w w') (k : Oth b w' w'') : Oth b w w'':=fun b2 o2 l2 hn hw=>k b2 o2 l2 hn (h b2 o2 l2 hn hw)
theorem B2Q {l zs : List Nat} {z : Nat} (hz : Tz (val W64 l) z) (hd : Dig W64 l) (h : val W64 zs = val W64 (l.drop (z / 64)) / 2 ^ (z % 64)) : val W64 l = 2 ^ z * val W64 zs ∧ val W64 zs % 2 = 1:=by
 obtain ⟨m,hm⟩:=hz
 rw [h,A4c B6 hd,Nat.div_div_eq_div_mul,show W64 ^ (z / 64) * 2 ^ (z % 64) = 2 ^ z from A6F z,hm,Nat.mul_div_cancel_left _ (Nat.two_pow_pos z)]
 exact ⟨rfl,by omega⟩
theorem B3N (b off : Nat) (l : List Nat) (c : Nat) (w0 w : World) (h : Wds w b off l) (hd : Dig W64 l) (hv : val W64 l ≠ 0) (hm : l.length ≤ 34359738368) (hc : l.length ≤ c) (hcm : c ≤ 1099511627776) (hT : Tab w0) (hg0 : A3 w0 w) (hb0 : w0.heap.size ≤ b) :
  Calls Tryz.prog 160 #[.slice (some ⟨b,off,none⟩) l.length c] w fun e w'=>∃ (o' c' : Nat) (zs : List Nat),e = .returned (.slice (some ⟨b,o',none⟩) (C6 zs).length c') ∧ (Wds w' b o' zs ∧ Dig W64 zs ∧ zs.length ≤ l.length ∧ zs.length ≤ c' ∧ c' ≤ c ∧ (∃ z,Tz (val W64 l) z ∧ val W64 l = 2 ^ z * val W64 zs) ∧ val W64 zs % 2 = 1 ∧ Oth b w w') ∧ A3 w0 w':=by
 have hzs:=A4g b off l c hd hv hm w h (hT.grow hg0)
 obtain ⟨n,hn⟩ : ∃ n,n = l.length:=⟨_,rfl⟩
 rw [← hn] at hm hc hzs
 rw [← hn]
 have H:=Lib.hid h
 have Hzs:=Lib.hid hzs
 have Hn:=Lib.hid hn
 have Hd:=Lib.hid hd
 have Hg0:=Lib.hid hg0
 clear h hzs hn hd hg0 hT hv
 go_enter Tryz.func160,Tryz.ntmps160
 go_wp2_with (go_at_call 159;((with_reducible refine (Hzs.out).mono ?_);rintro e w1 ⟨z,rfl,htz,hzn,rfl⟩;have Htz:=Lib.hid htz;clear htz;obtain ⟨wh,hwh⟩ : ∃ q,q = z / 64:=⟨_,rfl⟩;obtain ⟨p,hp⟩ : ∃ q,q = z % 64:=⟨_,rfl⟩;have hp64 : p < 64:=(by omega);have q1 : (z : Int).tdiv 64 = (wh : Nat):=(by rw [Int.tdiv_eq_ediv_of_nonneg (by omega)];omega);have q2 : (z : Int).tmod 64 = (p : Nat):=(by rw [Int.tmod_eq_emod_of_nonneg (by omega)];omega);have q3 : (z : Int) / 64 = (wh : Nat):=(by omega);have q4 : (z : Int) % 64 = (p : Nat):=(by omega);have hwn : wh < n:=(by omega);have Hwh:=Lib.hid hwh;have Hp:=Lib.hid hp;clear hwh hp hzn))
 obtain ⟨m,hmm⟩ : ∃ m,m = n - wh:=⟨_,rfl⟩
 obtain ⟨O,hO⟩ : ∃ O,O = off + wh:=⟨_,rfl⟩
 obtain ⟨C,hC⟩ : ∃ C,C = c - wh:=⟨_,rfl⟩
 obtain ⟨l',hl'⟩ : ∃ l',l' = l.drop wh:=⟨_,rfl⟩
 rw [← hmm,← hO,← hC]
 have hW : Wds w1 b O l':=by rw [hO,hl'];exact H.out.drop wh
 have hl'n : m = l'.length:=by rw [hl',List.length_drop,hmm,Hn.out]
 have hd' : Dig W64 l':=fun x hx=>Hd.out x (by rw [hl'] at hx;exact List.mem_of_mem_drop hx)
 obtain ⟨t,ht⟩ : ∃ t,t = 64 - p:=⟨_,rfl⟩
 have hpw : W64 = 2 ^ p * 2 ^ t:=by rw [← Nat.pow_add,show p + t = 64 by omega];rfl
 have fsm : min p 64 = p:=by omega
 have ftm : min t 64 = t:=by omega
 have ft : (64 - (p : Int)) = (t : Nat):=by omega
 have ft2 : IntKind.i64.wrap (64 - (p : Int)) = (t : Nat):=by rw [ft];exact IntWalk.i64_in _ (by omega)
 have ft3 : IntKind.i64.wrap (t : Int) = (t : Nat):=IntWalk.i64_in _ (by omega)
 have hm2 : m ≤ 34359738368:=by omega
 have hCm : m ≤ C:=by omega
 have hCc : C ≤ c:=by omega
 have HW:=Lib.hid hW
 have Hl'n:=Lib.hid hl'n
 have Hl':=Lib.hid hl'
 have Hd':=Lib.hid hd'
 have Hpw:=Lib.hid hpw
 have Hmm:=Lib.hid hmm
 clear hW hl'n hl' hd' hpw hmm hO hC ht q1 q2 q3 q4 H Hzs
 go_loopw [16] (fun i wr=>∃ (k : Nat) (zs : List Nat),k ≤ m ∧ i = .int .i64 k ∧ DnI (2 ^ p) (2 ^ t) l' k zs ∧ Wds wr b O zs ∧ Oth b w1 wr ∧ A3 w0 wr) (fun i _=>m - (intOf i).toNat)
 case atStart=>exact ⟨0,l',by omega,rfl,DnI.start _ _ _,HW.out,Oth.refl _ _,Hg0.out⟩
 case round =>
  obtain ⟨k,zs,hk,rfl,hI,hR,hO,hG⟩:=hrel
  have HI:=Lib.hid hI
  have HG:=Lib.hid hG
  have HR:=Lib.hid hR
  have HO:=Lib.hid hO
  clear hI hG hR hO
  rcases Nat.lt_or_ge k m with hkm | hkm
  ·have hkl : k < l'.length:=by rw [← Hl'n.out];exact hkm
   have hkz : k < zs.length:=by rw [HI.out.1];exact hkl
   have hc1:=HR.out.cell hkz
   have hf1:=HR.out.frozen (O + k)
   rw [← D3 hkz,HI.out.2.2 k (Nat.le_refl _)] at hc1
   have hnx:=HI.out.next hkl
   have hxW:=B9 B6 Hd'.out k
   have hyW:=B9 B6 Hd'.out (k + 1)
   have hy1:=HI.out.2.2 (k + 1) (by omega)
   obtain ⟨x,hx⟩ : ∃ x,x = dg l' k:=⟨_,rfl⟩
   obtain ⟨y,hy⟩ : ∃ x,x = dg l' (k + 1):=⟨_,rfl⟩
   rw [← hx] at hc1 hnx hxW
   rw [← hy] at hnx hyW hy1
   obtain ⟨q,hq⟩ : ∃ q,q = x / 2 ^ p:=⟨_,rfl⟩
   obtain ⟨L,hL⟩ : ∃ q,q = y % 2 ^ p * 2 ^ t:=⟨_,rfl⟩
   have hdd:=A1l (y:=y) Hpw.out (Nat.two_pow_pos _) hxW
   rw [← hq,← hL] at hnx hdd
   have fq : (x : Int) / 2 ^ p = (q : Nat):=by rw [hq];simp
   have hdj : decide ((k : Int) < (m : Int)) = true:=by simp;omega
   rcases Nat.lt_or_ge (k + 1) m with hin | hin
   ·obtain ⟨S,hS⟩ : ∃ S,S = q + L:=⟨_,rfl⟩
    rw [← hS] at hnx
    have fL : IntKind.u64.wrap ((y : Int) * 2 ^ t) = (L : Nat):=by
     have e:=(A3H y W64 (2 ^ t) (Nat.two_pow_pos _) (2 ^ p) (by rw [Nat.mul_comm];exact Hpw.out) (Nat.two_pow_pos _)).2
     rw [show ((y : Int) * 2 ^ t) = ((y * 2 ^ t : Nat) : Int) by simp,hL,← e];exact A2Y
    have fo : bits .or .u64 (q : Int) (L : Int) = (S : Nat):=by
     rw [hS]
     have hyW : q < 18446744073709551616:=by have := hdd.1;unfold W64 at this;omega
     rw [u64_or_nat _ _ hyW (by have := hdd.1;unfold W64 at this;omega),A1T hdd.2 (by rw [hL];exact Nat.dvd_mul_left _ _),Nat.add_comm]
    have hset1:=HR.out.set k q hkz
    have hc2:=hset1.cell (i:=k) (by rw [List.length_set];exact hkz)
    have hf2:=hset1.frozen (O + k)
    rw [List.getElem_set_self] at hc2
    have hk1z : k + 1 < (zs.set k q).length:=by rw [List.length_set,HI.out.1,← Hl'n.out];exact hin
    have hc3:=hset1.cell hk1z
    rw [← D3 hk1z,L9 _ _ (by omega),hy1] at hc3
    have hset2:=hset1.set k S (by rw [List.length_set];exact hkz)
    rw [List.set_set] at hset2
    have Hset2:=Lib.hid hset2
    have Hnx:=Lib.hid hnx
    have hO1:=HO.out.set (O + k) (.int .u64 (q : Nat))
    have hG1:=HG.out.setCell (p:=⟨b,O + k,none⟩) hb0 (.int .u64 (q : Nat))
    have hc9 : decide ((k : Int) + 1 < (m : Int)) = true:=by simp;omega
    have HO1:=Lib.hid hO1
    have HG1:=Lib.hid hG1
    clear hS hset1 hset2 hnx hdd hx hy hq hL hkz hk1z hy1 hO1 hG1
    go_wp2_with fail
    have hset2:=Hset2.out
    have hO1:=HO1.out
    have hG1:=HG1.out
    clear Hset2 HO1 HG1
    generalize wr.setCell ⟨b,O + k,none⟩ (.int .u64 q) = w2 at hc2 hf2 hc3 hset2 hG1 hO1 ⊢
    have Hset2:=Lib.hid hset2
    have HG1:=Lib.hid hG1
    have HO1:=Lib.hid hO1
    clear hset2 hG1 hO1 hc1 hf1 hc9 hdj
    obtain ⟨K1,hK1⟩ : ∃ K,K = k + 1:=⟨_,rfl⟩
    have f1 : IntKind.i64.wrap ((k : Int) + 1) = (K1 : Nat):=by rw [show ((k : Int) + 1) = (K1 : Nat) by omega];exact IntWalk.i64_in _ (by omega)
    have hK1m : K1 < m:=by omega
    rw [← hK1] at hc3
    have HK1:=Lib.hid hK1
    clear hK1 hin hkl
    go_still_tail 13,(by kernel_rfl)
    go_wp2_with fail
    go_roundw
    case rel=>exact ⟨K1,_,by omega,rfl,by rw [HK1.out];exact Hnx.out,Hset2.out.grow (A3.drew _),(HO1.out.set (O + k) _).grow (A3.drew _),(HG1.out.setCell (p:=⟨b,O + k,none⟩) hb0 _).trans (A3.drew _)⟩
    case measure=>have := HK1.out;simp [intOf];omega
   ·have hy0 : y = 0:=by rw [hy];exact X1 (by rw [← Hl'n.out];exact hin)
    have hL0 : L = 0:=by rw [hL,hy0,Nat.zero_mod,Nat.zero_mul]
    rw [hL0,Nat.add_zero] at hnx
    have Hset1:=Lib.hid (HR.out.set k q hkz)
    have Hnx:=Lib.hid hnx
    have hc9 : decide ((k : Int) + 1 < (m : Int)) = false:=by simp;omega
    clear hnx hdd hx hy hq hL hkz hy0 hL0 hy1
    go_wp2_with fail
    go_roundw
    case rel=>exact ⟨k + 1,_,by omega,by go_num,Hnx.out,Hset1.out,HO.out.set (O + k) _,HG.out.setCell (p:=⟨b,O + k,none⟩) hb0 _⟩
    case measure=>simp [intOf];omega
  ·obtain rfl : m = k:=by omega
   have hdn:=HI.out
   rw [Hl'n.out] at hdn
   obtain ⟨hv1,hd1⟩:=hdn.done Hpw.out (Nat.two_pow_pos _) B6 Hd'.out
   have hzl : zs.length = m:=by rw [HI.out.1,Hl'n.out]
   have htr : Calls Tryz.prog 196 #[.slice (some ⟨b,O,none⟩) m C] wr fun e w'=>e = .returned (.slice (some ⟨b,O,none⟩) (C6 zs).length C) ∧ wr = w':=by
    have := A7n (some ⟨b,O,none⟩) zs C wr (fun _=>⟨_,_,rfl,HR.out⟩) (by omega) (by omega)
    rw [hzl] at this
    exact this
   have hvv:=B2Q Htz.out Hd.out (zs:=zs) (by rw [← Hwh.out,← Hp.out,← Hl'.out];exact hv1)
   have Htr:=Lib.hid htr
   have Hvv:=Lib.hid hvv
   have Hd1:=Lib.hid hd1
   have Hzl:=Lib.hid hzl
   clear hdn hv1 hd1 htr hvv hzl
   have hdj : decide ((m : Int) < (m : Int)) = false:=by simp
   go_wp2_with (go_at_call 196;((with_reducible refine (Htr.out).mono ?_);rintro e w1 ⟨rfl,rfl⟩))
   go_ret
   exact ⟨O,C,zs,rfl,⟨HR.out,Hd1.out,by rw [Hzl.out,Hmm.out];omega,by rw [Hzl.out];exact hCm,hCc,⟨z,Htz.out,Hvv.out.1⟩,Hvv.out.2,HO.out⟩,HG.out⟩
end Go.Proofs.YtlkniebmjdoopaaGreatDoor
