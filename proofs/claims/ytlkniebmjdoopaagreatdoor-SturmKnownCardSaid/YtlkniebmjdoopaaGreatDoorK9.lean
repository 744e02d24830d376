/- Contracts and laws. -/
import Derived.Test.YtlkniebmjdoopaaGreatDoorK8
set_option linter.unusedSimpArgs false
set_option linter.unusedVariables false
set_option maxHeartbeats 2000000
set_option maxRecDepth 100000
namespace Go.Proofs.YtlkniebmjdoopaaGreatDoor
open Go.RowKit
def A2l (wr : World) (b : Nat) (l1 l2 : List Nat) (i : Nat) (zs : List Nat) : Prop :=
 zs.length = l1.length + l2.length ∧ Dig W64 zs ∧ val W64 zs = val W64 (l1.take i) * val W64 l2 ∧ (∀ t,i + l2.length ≤ t → dg zs t = 0) ∧ C4 wr b zs
def A0K (wr : World) (b : Nat) (l1 l2 : List Nat) (i j c : Nat) (zs : List Nat) : Prop :=
 zs.length = l1.length + l2.length ∧ Dig W64 zs ∧ c < W64 ∧ val W64 zs + c * W64 ^ (i + j) = val W64 (l1.take i) * val W64 l2 + W64 ^ i * (dg l1 i * val W64 (l2.take j)) ∧ (∀ t,i + l2.length ≤ t → dg zs t = 0) ∧ C4 wr b zs
theorem A2l.inner {wr : World} {b : Nat} {l1 l2 : List Nat} {i : Nat} {zs : List Nat} (h : A2l wr b l1 l2 i zs) : A0K wr b l1 l2 i 0 0 zs :=
 ⟨h.1,h.2.1,B6,by rw [h.2.2.1];simp [val],h.2.2.2⟩
theorem A0K.cell {wr : World} {b : Nat} {l1 l2 : List Nat} {i j c : Nat} {zs : List Nat} (h : A0K wr b l1 l2 i j c zs) {t : Nat} (ht : t < l1.length + l2.length) :
  wr.cell? ⟨b,t,none⟩ = some (.int .u64 (dg zs t : Nat)) ∧ wr.frozen? ⟨b,t,none⟩ = false:=by
 obtain ⟨hl,hd,hc,hv,hz,hr⟩:=h
 have ht' : t < zs.length:=by rw [hl];exact ht
 refine ⟨?_,hr.frozen t⟩
 rw [hr.cell,List.getElem?_eq_getElem ht',D3 ht']
 rfl
theorem A0K.next {wr : World} {b : Nat} {l1 l2 : List Nat} {i j c : Nat} {zs : List Nat} (h : A0K wr b l1 l2 i j c zs) (h1 : Dig W64 l1) (h2 : Dig W64 l2) (hi : i < l1.length) (hj : j < l2.length) :
  A0K (wr.setCell ⟨b,i + j,none⟩ (.int .u64 ((dg l1 i * dg l2 j + dg zs (i + j) + c) % W64 : Nat))) b l1 l2 i (j + 1) ((dg l1 i * dg l2 j + dg zs (i + j) + c) / W64) (zs.set (i + j) ((dg l1 i * dg l2 j + dg zs (i + j) + c) % W64)):=by
 obtain ⟨hl,hd,hc,hv,hz,hr⟩:=h
 refine ⟨by rw [List.length_set,hl],M3 hd _ (Nat.mod_lt _ B6),(A50 (B9 B6 h1 i) (B9 B6 h2 j) (B9 B6 hd _) hc).2.2,?_,fun t ht=>?_,hr.set _ _⟩
 ·rw [← Nat.add_assoc]
  exact A8a (by rw [hl];omega) hv
 ·rw [L9 _ _ (by omega)]
  exact hz t ht
theorem A0K.outer {wr : World} {b : Nat} {l1 l2 : List Nat} {i c : Nat} {zs : List Nat} (h : A0K wr b l1 l2 i l2.length c zs) (hi : i < l1.length) :
  A2l (wr.setCell ⟨b,i + l2.length,none⟩ (.int .u64 (c : Nat))) b l1 l2 (i + 1) (zs.set (i + l2.length) c):=by
 obtain ⟨hl,hd,hc,hv,hz,hr⟩:=h
 have hlt : i + l2.length < zs.length:=by rw [hl];omega
 refine ⟨by rw [List.length_set,hl],M3 hd _ hc,?_,fun t ht=>?_,hr.set _ _⟩
 ·have h1:=S3 W64 zs (i + l2.length) c hlt
  rw [hz _ (Nat.le_refl _),Nat.mul_zero,Nat.add_zero] at h1
  rw [U6 W64 l2 _ (Nat.le_refl _)] at hv
  rw [h1,I7,Nat.add_mul,Nat.mul_comm (W64 ^ (i + l2.length)) c,hv]
  grind
 ·rw [L9 _ _ (by omega)]
  exact hz t (by omega)
theorem B56 (A1 A2 : Option Addr) (l1 l2 : List Nat) (c1 c2 : Nat) (w : World) (hr1 : Rd w A1 l1) (hr2 : Rd w A2 l2) (hd1 : Dig W64 l1) (hd2 : Dig W64 l2) (hm : l1.length + l2.length ≤ 34359738368) :
  Calls Tryz.prog 125 #[.slice A1 l1.length c1,.slice A2 l2.length c2] w fun e w'=>∃ zs,e = .returned (.slice (some ⟨w.heap.size,0,none⟩) zs.length zs.length) ∧ C4 w' w.heap.size zs ∧ zs.length = l1.length + l2.length ∧ Dig W64 zs ∧ val W64 zs = val W64 l1 * val W64 l2 ∧ A3 w w':=by
 obtain ⟨n1,hn1⟩ : ∃ n,n = l1.length:=⟨_,rfl⟩
 obtain ⟨n2,hn2⟩ : ∃ n,n = l2.length:=⟨_,rfl⟩
 rw [← hn1,← hn2] at hm
 rw [← hn1,← hn2]
 have hmk:=A0f (n1 + n2) (by omega) ((n1 : Int) + (n2 : Int)) (by omega)
 have Hr1:=Lib.hid hr1
 have Hr2:=Lib.hid hr2
 have Hd1:=Lib.hid hd1
 have Hd2:=Lib.hid hd2
 have Hn1:=Lib.hid hn1
 have Hn2:=Lib.hid hn2
 have hs0 : A2l (w.alloc (.cells (C0 (List.replicate (n1 + n2) 0)) 33)) w.heap.size l1 l2 0 (List.replicate (n1 + n2) 0) :=
  ⟨by simp [hn1,hn2],fun x hx=>by rw [(List.mem_replicate.1 hx).2];exact B6,by simp [A0c,val],fun t _=>by
   unfold dg;rw [List.getElem?_replicate];split <;> rfl,Blk.new w 33 _⟩
 have Hs0:=Lib.hid hs0
 clear hr1 hr2 hd1 hd2 hn1 hn2 hs0
 go_enter Tryz.func125,Tryz.ntmps125
 go_wp2_with fail
 clear hmk
 go_loopw [23] (fun i wr=>∃ (k : Nat) (zs : List Nat),k ≤ n1 ∧ i = .int .i64 k ∧ A2l wr w.heap.size l1 l2 k zs ∧ A3 w wr) (fun i _=>n1 - (intOf i).toNat)
 case atStart=>exact ⟨0,_,by omega,rfl,Hs0.out,A3.alloc _ _⟩
 case round =>
  obtain ⟨k,zs,hk,rfl,hI,hG⟩:=hrel
  have HI:=Lib.hid hI
  have HG:=Lib.hid hG
  clear hI hG
  rcases Nat.lt_or_ge k n1 with hkl | hkg
  ·have hk1 : k < l1.length:=by rw [← Hn1.out];exact hkl
   obtain ⟨b1,o1,rfl,hw1⟩:=(Hr1.out.grow HG.out) (by rintro rfl;simp at hk1)
   have hc:=hw1.cell hk1
   rw [← D3 hk1] at hc
   obtain ⟨m,hmd⟩ : ∃ m,m = dg l1 k:=⟨_,rfl⟩
   rw [← hmd] at hc
   have hmW : m < 18446744073709551616:=by rw [hmd];exact B9 B6 Hd1.out k
   have Hmd:=Lib.hid hmd
   clear hmd hw1
   have hdj : decide ((k : Int) < (n1 : Int)) = true:=by simp;omega
   go_wp2_with fail
   go_loopw [8,30] (fun cy i wi=>∃ (j c : Nat) (zs : List Nat),j ≤ n2 ∧ i = .int .i64 j ∧ cy = .int .u64 c ∧ A0K wi w.heap.size l1 l2 k j c zs ∧ A3 w wi) (fun _ i _=>n2 - (intOf i).toNat)
   case atStart=>exact ⟨0,0,zs,by omega,rfl,rfl,HI.out.inner,HG.out⟩
   case round =>
    obtain ⟨j,c,zs,hj,rfl,rfl,hJ,hG⟩:=hrel
    have HJ:=Lib.hid hJ
    have HG2:=Lib.hid hG
    clear hJ hG
    rcases Nat.lt_or_ge j n2 with hjl | hjg
    ·have hj2 : j < l2.length:=by rw [← Hn2.out];exact hjl
     obtain ⟨b2,o2,rfl,hw2⟩:=(Hr2.out.grow HG2.out) (by rintro rfl;simp at hj2)
     have hcy:=hw2.cell hj2
     rw [← D3 hj2] at hcy
     obtain ⟨hco,hfo⟩:=HJ.out.cell (t:=k + j) (by rw [← Hn1.out,← Hn2.out];omega)
     have hnext:=HJ.out.next Hd1.out Hd2.out hk1 hj2
     have hdig:=A50 (B9 B6 Hd1.out k) (B9 B6 Hd2.out j) (B9 B6 HJ.out.2.1 (k + j)) HJ.out.2.2.1
     have hyW:=B9 B6 Hd2.out j
     have hdW:=B9 B6 HJ.out.2.1 (k + j)
     have hcW:=HJ.out.2.2.1
     rw [← Hmd.out] at hnext hdig
     obtain ⟨y,hy⟩ : ∃ y,y = dg l2 j:=⟨_,rfl⟩
     obtain ⟨d,hd⟩ : ∃ d,d = dg zs (k + j):=⟨_,rfl⟩
     rw [← hy] at hcy hnext hdig hyW
     rw [← hd] at hco hnext hdig hdW
     obtain ⟨hi,hhi⟩ : ∃ q,q = m * y / W64:=⟨_,rfl⟩
     obtain ⟨lo,hlo⟩ : ∃ q,q = m * y % W64:=⟨_,rfl⟩
     rw [← hhi,← hlo] at hdig
     obtain ⟨s1,hs1⟩ : ∃ q,q = (lo + d) % W64:=⟨_,rfl⟩
     obtain ⟨e1,he1⟩ : ∃ q,q = (lo + d) / W64:=⟨_,rfl⟩
     rw [← hs1,← he1] at hdig
     obtain ⟨s2,hs2⟩ : ∃ q,q = (s1 + c) % W64:=⟨_,rfl⟩
     obtain ⟨e2,he2⟩ : ∃ q,q = (s1 + c) / W64:=⟨_,rfl⟩
     rw [← hs2,← he2] at hdig
     rw [← hdig.1,← hdig.2.1] at hnext
     have hsum : hi + e1 + e2 < 18446744073709551616:=by rw [hdig.2.1];exact hdig.2.2
     have hmul : ∀ W : World,Calls Tryz.prog 123 #[.int .u64 (m : Int),.int .u64 (y : Int)] W fun e w'=>e = .returned (.tuple #[.int .u64 (hi : Int),.int .u64 (lo : Int)]) ∧ W = w':=by
      intro W
      refine (Tryz.bits_Mul64 m y hmW hyW W).mono fun e w' ⟨he,hw⟩=>⟨?_,hw.symm⟩
      rw [he,hhi,hlo]
      rfl
     have hadd1:=R4 lo d 0 (by omega) (lo : Int) (d : Int) 0 rfl rfl rfl
     rw [show (lo + d + 0) % 18446744073709551616 = s1 from hs1.symm,show (lo + d + 0) / 18446744073709551616 = e1 from he1.symm] at hadd1
     have hadd2:=R4 s1 c 0 (by omega) (s1 : Int) (c : Int) 0 rfl rfl rfl
     rw [show (s1 + c + 0) % 18446744073709551616 = s2 from hs2.symm,show (s1 + c + 0) / 18446744073709551616 = e2 from he2.symm] at hadd2
     have Hnext:=Lib.hid hnext
     have Hmul:=Lib.hid hmul
     clear hhi hlo hs1 he1 hs2 he2 hy hd hdig hnext hmul hw2 hyW hdW hcW hmW
     go_wp2_with (go_at_call 123;((with_reducible refine (Hmul.out _).mono ?_);rintro e w1 ⟨rfl,rfl⟩))
     go_roundw
     case rel=>exact ⟨j + 1,hi + e1 + e2,_,by omega,by go_num,by go_num,Hnext.out,HG2.out.setCell (p:=⟨w.heap.size,k + j,none⟩) (Nat.le_refl _) _⟩
     case measure=>simp [intOf];omega
    ·obtain rfl : n2 = j:=by omega
     obtain ⟨hco,hfo⟩:=HJ.out.cell (t:=k + n2) (by rw [← Hn1.out,← Hn2.out];omega)
     have hJ:=HJ.out
     rw [Hn2.out] at hJ
     have hout:=hJ.outer hk1
     rw [← Hn2.out] at hout
     have Hout:=Lib.hid hout
     clear hout hJ
     go_wp2_with fail
     go_roundw
     case rel=>exact ⟨k + 1,_,by omega,by go_num,Hout.out,HG2.out.setCell (p:=⟨w.heap.size,k + n2,none⟩) (Nat.le_refl _) _⟩
     case measure=>simp [intOf];omega
  ·obtain rfl : n1 = k:=by omega
   go_wp2_with fail
   go_ret
   obtain ⟨h1,h2,h3,h4,h5⟩:=HI.out
   refine ⟨zs,?_,h5,by rw [h1,Hn1.out,Hn2.out],h2,by rw [h3,U6 _ _ _ (by rw [Hn1.out];exact Nat.le_refl _)],HG.out⟩
   rw [h1,← Hn1.out,← Hn2.out]
   rfl
theorem B4x (a b : Nat) (ha : a < W64) (hb : b < W64) (hs : a * b < W64) (w : World) : Calls Tryz.prog 65 #[A6 a,A6 b] w fun e w'=>e = .returned (A6 (a * b)) ∧ A3 w w':=by
 have hmul : ∀ W : World,Calls Tryz.prog 123 #[.int .u64 (a : Int),.int .u64 (b : Int)] W fun e w'=>e = .returned (.tuple #[.int .u64 0,.int .u64 ((a * b : Nat) : Int)]) ∧ W = w':=by
  intro W
  refine (Tryz.bits_Mul64 a b ha hb W).mono fun e w' ⟨he,hw⟩=>⟨?_,hw.symm⟩
  unfold W64 at hs
  rw [he,Nat.div_eq_of_lt hs,Nat.mod_eq_of_lt hs]
  rfl
 rw [Q5 ha,Q5 hb,Q5 hs]
 have Hmul:=Lib.hid hmul
 clear hmul ha hb hs
 go_enter Tryz.func65,Tryz.ntmps65
 go_wp2_with (go_at_call 123;((with_reducible refine (Hmul.out _).mono ?_);rintro e w1 ⟨rfl,rfl⟩))
 exact bodyPost_ret (v:=.agg #[.int .u64 ((a * b : Nat) : Int),.string ⟨#[]⟩]) (by simp [results,Tryz.results65,go_sem]) rfl ⟨rfl,((A3.alloc _ _).trans (A3.alloc _ _)).trans (A3.alloc _ _)⟩
theorem B1e (a b : Nat) (ha : a < W64) (hb : b < W64) (hs : W64 ≤ a * b) (w : World) : Calls Tryz.prog 65 #[A6 a,A6 b] w fun e w'=>e = .returned (A6 (a * b)) ∧ A3 w w':=by
 rw [Q5 ha,Q5 hb]
 obtain ⟨s,hs1⟩ : ∃ s,s = a * b % W64:=⟨_,rfl⟩
 obtain ⟨t,ht1⟩ : ∃ t,t = a * b / W64:=⟨_,rfl⟩
 have hv : val W64 [s,t] = a * b:=by rw [K3,K3,A5s,Nat.mul_zero,Nat.add_zero,hs1,ht1,Nat.mod_add_div]
 have hd : Dig W64 [s,t]:=by
  intro x hx
  simp only [List.mem_cons,List.not_mem_nil,or_false] at hx
  rcases hx with h | h
  ·rw [h,hs1];exact Nat.mod_lt _ B6
  ·rw [h,ht1]
   refine Nat.div_lt_of_lt_mul ?_
   exact Nat.lt_of_lt_of_le (Nat.mul_lt_mul_of_lt_of_le ha (Nat.le_of_lt hb) B6) (Nat.le_refl _)
 have ht0 : ((t : Int) == 0) = false:=by
  have : t ≠ 0:=by
   rw [ht1]
   intro h
   rcases Nat.div_eq_zero_iff.1 h with h | h
   ·have := B6;omega
   ·omega
  simpa using this
 have hmul : ∀ W : World,Calls Tryz.prog 123 #[.int .u64 (a : Int),.int .u64 (b : Int)] W fun e w'=>e = .returned (.tuple #[.int .u64 (t : Int),.int .u64 (s : Int)]) ∧ W = w':=by
  intro W
  refine (Tryz.bits_Mul64 a b ha hb W).mono fun e w' ⟨he,hw⟩=>⟨?_,hw.symm⟩
  rw [he,hs1,ht1]
  rfl
 have Hmul:=Lib.hid hmul
 have hfw : ∀ W : World,C4 W (w.heap.size + 1 + 1 + 1) [s,t] → Calls Tryz.prog 124 #[.slice (some ⟨w.heap.size + 1 + 1 + 1,0,none⟩) 2 2] W fun e w'=>e = .returned (A6 (a * b)) ∧ A3 W w':=by
  intro W hW
  rw [← hv]
  exact R8 _ [s,t] 2 W (fun _=>⟨_,_,rfl,hW.wds⟩) hd (by simp) (by simp) (by omega)
 have Hfw:=Lib.hid hfw
 clear hfw hv hd hs1 ht1 hs ha hb hmul
 go_enter Tryz.func65,Tryz.ntmps65
 go_wp2_with (go_at_call 123;((with_reducible refine (Hmul.out _).mono ?_);rintro e w1 ⟨rfl,rfl⟩))
 have hbox : ∀ u : World,A3 ((((w.alloc (.cells #[.int .u64 a,.string ⟨#[]⟩] 35)).alloc (.cells #[.int .u64 b,.string ⟨#[]⟩] 35)).alloc (.cells #[.int .u64 0,.string ⟨#[]⟩] 35)).alloc (.cells #[.int .u64 s,.int .u64 t] 33)) u → Blk u (w.heap.size + 1 + 1) 35 #[.int .u64 0,.string ⟨#[]⟩]:=by
  intro u hu
  have h:=((Blk.new ((w.alloc (.cells #[.int .u64 a,.string ⟨#[]⟩] 35)).alloc (.cells #[.int .u64 b,.string ⟨#[]⟩] 35)) 35 #[.int .u64 0,.string ⟨#[]⟩]).grow (A3.alloc _ _)).grow hu
  rw [H8,H8] at h
  exact h
 have Hbox:=Lib.hid hbox
 clear hbox
 refine (Hfw.out _ ?_).mono ?_
 ·have h:=Blk.new (((w.alloc (.cells #[.int .u64 a,.string ⟨#[]⟩] 35)).alloc (.cells #[.int .u64 b,.string ⟨#[]⟩] 35)).alloc (.cells #[.int .u64 0,.string ⟨#[]⟩] 35)) 33 #[.int .u64 s,.int .u64 t]
  rw [H8,H8,H8] at h
  exact h
 rintro e w1 ⟨rfl,hg⟩
 have hb:=Hbox.out w1 hg
 have hc:=hb.cell
 have hf:=hb.frozen
 have HG:=Lib.hid ((((A3.alloc w _).trans (A3.alloc _ _)).trans ((A3.alloc _ _).trans (A3.alloc _ _))).trans hg)
 have Hb:=Lib.hid hb
 clear hb hg
 go_wp2_with fail
 have h6:=((Hb.out.set_ 0 (.int .u64 (B3 (a * b)))).set_ 1 (.string (B1 (a * b)))).cell
 simp only [List.setIfInBounds_toArray,List.set_cons_zero,List.set_cons_succ] at h6
 exact bodyPost_ret (v:=A6 (a * b)) (by simp [results,Tryz.results65,go_sem,h6]) rfl ⟨rfl,(HG.out.setCell (p:=⟨w.heap.size + 1 + 1,0,none⟩) (by show _ ≤ w.heap.size + 1 + 1;omega) _).setCell (p:=⟨w.heap.size + 1 + 1,1,none⟩) (by show _ ≤ w.heap.size + 1 + 1;omega) _⟩
theorem B0W (a b : Nat) (ha : bl a ≤ 1099511627776) (hb : bl b ≤ 1099511627776) (hs : ¬ (a < W64 ∧ b < W64)) (w : World) : Calls Tryz.prog 65 #[A6 a,A6 b] w fun e w'=>e = .returned (A6 (a * b)) ∧ A3 w w':=by
  have hT : ∃ b1 b2 : Bool,(B1 a).toList.isEmpty = b1 ∧ (B1 b).toList.isEmpty = b2 ∧ (b1 && b2) = false:=by
    refine ⟨_,_,rfl,rfl,?_⟩
    rw [L7,L7,Bool.and_eq_false_iff,decide_eq_false_iff_not,decide_eq_false_iff_not]
    omega
  obtain ⟨b1,b2,hb1,hb2,hb12⟩:=hT
  obtain ⟨la,hla⟩ : ∃ la,la = A7 W64 a:=⟨_,rfl⟩
  obtain ⟨lb,hlb⟩ : ∃ lb,lb = A7 W64 b:=⟨_,rfl⟩
  have hwa : ∀ W : World,Calls Tryz.prog 126 #[A6 a] W fun e w'=>∃ A,e = .returned (.slice A la.length la.length) ∧ Own W w' A la ∧ A3 W w':=by
    intro W;rw [hla];exact Y8 a ha W
  have hwb : ∀ W : World,Calls Tryz.prog 126 #[A6 b] W fun e w'=>∃ A,e = .returned (.slice A lb.length lb.length) ∧ Own W w' A lb ∧ A3 W w':=by
    intro W;rw [hlb];exact Y8 b hb W
  have hm1 : la.length ≤ 17179869184:=by rw [hla];exact Z4 (by omega)
  have hm2 : lb.length ≤ 17179869184:=by rw [hlb];exact Z4 (by omega)
  have hda : Dig W64 la:=by rw [hla];exact F2 C7 a
  have hdb : Dig W64 lb:=by rw [hlb];exact F2 C7 b
  have hv : val W64 la * val W64 lb = a * b:=by rw [hla,hlb,D5 C7,D5 C7]
  have Hwa:=Lib.hid hwa
  have Hwb:=Lib.hid hwb
  have Hda:=Lib.hid hda
  have Hdb:=Lib.hid hdb
  have Hv:=Lib.hid hv
  clear hwa hwb hla hlb ha hb hs hda hdb hv
  cases b1 <;> cases b2 <;> first | (exact absurd hb12 (by decide)) | skip
  all_goals
    clear hb12
    go_enter Tryz.func65,Tryz.ntmps65
    go_wp2_with fail
    clear hb1 hb2
    generalize hu : World.alloc (World.alloc (World.alloc w _) _) _ = u
    obtain ⟨hB,hG⟩:=R6 [(_,_),(_,_),(_,_)] w u hu
    have hF:=U9 w [(35,#[]),(35,#[]),(35,#[])]
    simp only [K4,List.map_cons,List.map_nil] at hB hF
    clear hu
    generalize w.heap.size + 1 + 1 = b4 at hB hF ⊢
    generalize w.heap.size + 1 = b3 at hB hF ⊢
    generalize w.heap.size = b2 at hB hF ⊢
    refine A17 (w:=w) A5 6 [(0,0),(0,2),(1,1),(1,3),(1,4),(1,5)] (by kernel_rfl) (by kernel_rfl) hB hG ?_
    simp only [E8,List.getElem?_toArray,List.getElem?_cons_zero,List.getElem?_cons_succ]
    (apply gy
     · exact rfl
     · (rintro v ⟨-,hB,-⟩ N hN;have r:=hB.r;simp only [BxR] at r;go_simp;exact hN))
    (apply gy
     · exact rfl
     · (rintro v ⟨-,hB,-⟩ N hN;have r:=hB.r;simp only [BxR] at r;go_simp;exact hN))
    refine gx (Option Addr) (fun A=>.slice A la.length la.length) (fun A v=>Rd v A la) (fun A v v' hg h=>h.grow hg) rfl ?_ (fun A1=>?_)
    · rintro v - N hN
      go_simp
      ((with_reducible refine (Hwa.out _).mono ?_);rintro e w1 ⟨A,rfl,hown,hg⟩;exact ⟨_,rfl,hN A w1 hown.rd hg⟩)
    refine gx (Option Addr) (fun A=>.slice A lb.length lb.length) (fun A v=>Rd v A lb) (fun A v v' hg h=>h.grow hg) rfl ?_ (fun A2=>?_)
    · rintro v - N hN
      go_simp
      ((with_reducible refine (Hwb.out _).mono ?_);rintro e w1 ⟨A,rfl,hown,hg⟩;exact ⟨_,rfl,hN A w1 hown.rd hg⟩)
    refine gx (Nat × List Nat) (fun x=>.slice (some ⟨x.1,0,none⟩) x.2.length x.2.length) (fun x v=>C4 v x.1 x.2 ∧ x.2.length = la.length + lb.length ∧ Dig W64 x.2 ∧ val W64 x.2 = a * b) (fun x v v' hg h=>⟨h.1.grow hg,h.2⟩) rfl ?_ (fun ⟨bz,zs⟩=>?_)
    · rintro v ⟨⟨-,hr1⟩,hr2⟩ N hN
      go_simp
      ((with_reducible refine (B56 A1 A2 la lb _ _ v hr1 hr2 Hda.out Hdb.out (by omega)).mono ?_);rintro e w1 ⟨zs,rfl,hrow,hl,hd,hvl,hg⟩;exact ⟨_,rfl,hN (v.heap.size,zs) w1 ⟨hrow,hl,hd,by rw [hvl,Hv.out]⟩ hg⟩)
    refine gm (A6 (a * b)) rfl ?_ ?_
    · rintro v ⟨-,hrow,hl,hd,hvl⟩ N hN
      replace hrow : C4 v bz zs:=hrow
      replace hl : zs.length = la.length + lb.length:=hl
      replace hd : Dig W64 zs:=hd
      replace hvl : val W64 zs = a * b:=hvl
      have hrd : Rd v (some ⟨bz,0,none⟩) zs:=fun _=>⟨_,_,rfl,hrow.wds⟩
      have hfw : Calls Tryz.prog 124 #[.slice (some ⟨bz,0,none⟩) zs.length zs.length] v fun e w'=>e = .returned (A6 (a * b)) ∧ A3 v w':=by
        rw [← hvl];exact R8 _ zs _ v hrd hd (Nat.le_refl _) (by omega) (by omega)
      clear hvl hl hd hrd hrow
      go_simp
      ((with_reducible refine hfw.mono ?_);rintro e w1 ⟨rfl,hg⟩;exact ⟨_,rfl,hN _ hg⟩)
    refine K8 ?_
    rintro v ⟨⟨⟨⟨-,hB1,hG1⟩,-⟩,-⟩,-⟩
    clear hB hG
    have hbb:=hB1.tail.tail.head
    have hc:=hbb.cell
    have hf:=hbb.frozen
    simp only [List.drop_succ_cons,List.drop_zero]
    go_wp2_with fail
    refine NoP.norm ?_
    go_wp2_with fail
    have h6:=((hbb.set_ 0 (.int .u64 (B3 (a * b)))).set_ 1 (.string (B1 (a * b)))).cell
    simp only [List.setIfInBounds_toArray,List.set_cons_zero,List.set_cons_succ] at h6
    have hwb4 : w.heap.size ≤ b4:=hF.1 b4 (by simp)
    exact bodyPost_ret (v:=A6 (a * b)) (by simp [results,Tryz.results65,go_sem,h6]) rfl ⟨rfl,(hG1.setCell (p:=⟨b4,0,none⟩) hwb4 _).setCell (p:=⟨b4,1,none⟩) hwb4 _⟩
theorem A4m (a b : Nat) (ha : bl a ≤ 1099511627776) (hb : bl b ≤ 1099511627776) (w : World) : Calls Tryz.prog 65 #[A6 a,A6 b] w fun e w'=>e = .returned (A6 (a * b)) ∧ A3 w w':=by
 by_cases hs : a < W64 ∧ b < W64
 ·rcases Nat.lt_or_ge (a * b) W64 with h | h
  ·exact B4x a b hs.1 hs.2 h w
  ·exact B1e a b hs.1 hs.2 h w
 ·exact B0W a b ha hb hs w
end Go.Proofs.YtlkniebmjdoopaaGreatDoor
