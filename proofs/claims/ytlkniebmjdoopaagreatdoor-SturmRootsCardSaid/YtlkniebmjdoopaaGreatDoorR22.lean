/- Contracts and laws. -/
import Derived.Test.YtlkniebmjdoopaaGreatDoorR21
set_option linter.unusedSimpArgs false
set_option linter.unusedVariables false
set_option maxHeartbeats 1000000
set_option maxRecDepth 100000
namespace Go.Proofs.YtlkniebmjdoopaaGreatDoor
open Go.RowKit
def SdI (W N : Nat) (la lb : List Nat) (k br : Nat) (zs : List Nat) : Prop:=zs.length = N ∧ Dig W zs ∧ br ≤ 1 ∧ val W (zs.take k) + val W (lb.take k) = val W (la.take k) + br * W ^ k
theorem SdI.start {W : Nat} (N : Nat) (la lb : List Nat) (hW : 0 < W) : SdI W N la lb 0 0 (List.replicate N 0) :=
 ⟨by simp,fun z hz=>by rw [(List.mem_replicate.1 hz).2];exact hW,by omega,by simp [val]⟩
theorem SdI.next {W N : Nat} {la lb zs : List Nat} {k br : Nat} (h : SdI W N la lb k br zs) (hW : 0 < W) (ha : Dig W la) (hb : Dig W lb) (hk : k < N) :
  SdI W N la lb (k + 1) (if dg la k < dg lb k + br then 1 else 0) (zs.set k ((dg la k + W - dg lb k - br) % W)):=by
 obtain ⟨h1,h2,h3,h4⟩:=h
 refine ⟨by rw [List.length_set];exact h1,N4 h2 _ (Nat.mod_lt _ hW),by split <;> omega,?_⟩
 rw [A5g (by omega)]
 exact A6O h3 (B8 hW ha k) (B8 hW hb k) (by rw [List.length_take];omega) h4
theorem SdI.done {W N : Nat} {la lb zs : List Nat} {br : Nat} (h : SdI W N la lb N br zs) (hla : la.length = N) (hlb : lb.length ≤ N) (hle : val W lb ≤ val W la) : val W zs = val W la - val W lb:=by
 obtain ⟨h1,h2,h3,h4⟩:=h
 rw [List.take_of_length_le (by omega),List.take_of_length_le (by omega),List.take_of_length_le (by omega)] at h4
 have h6:=I2 h2
 rw [h1] at h6
 rcases Nat.eq_zero_or_pos br with rfl | hc
 ·omega
 ·obtain rfl : br = 1:=by omega
  omega
theorem A83 (x y : Ax) (a b : Nat) (w : World) (hx : Rn w x a) (hy : Rn w y b) (hle : b ≤ a) (ha : bl a ≤ 1099511627776) : Calls Tryz.prog 174 #[nvV x a,nvV y b] w (Ret (I8 (a - b)) w):=by
 have hat2 : ∀ i W,A3 w W → Calls Tryz.prog 199 #[nvV y b,.int .i64 (i : Nat)] W fun e w'=>e = .returned (.int .u64 (dg (A6 W32 b) i : Nat)) ∧ A3 W w':=fun i W hg=>A3G y b i W (hy.grow hg)
 obtain ⟨p,hp⟩ : ∃ n,n = ln a:=⟨_,rfl⟩
 obtain ⟨q,hq⟩ : ∃ n,n = ln b:=⟨_,rfl⟩
 obtain ⟨A1,c1⟩:=x
 obtain ⟨A2,c2⟩:=y
 have hpl:=Z3 a
 have hqp : q ≤ p:=by rw [hp,hq];exact A6W hle
 rw [← hp] at hpl
 have hmk:=A1K p (by omega) (p : Int) rfl
 have hNb : p ≤ 34359738400:=by omega
 show Calls Tryz.prog 174 #[.slice A1 (ln a) c1,.slice A2 (ln b) c2] w _
 rw [← hp,← hq]
 change ∀ i W,A3 w W → Calls Tryz.prog 199 #[.slice A2 (ln b) c2,.int .i64 (i : Nat)] W _ at hat2
 rw [← hq] at hat2
 have Hat2:=Lib.hid hat2
 have Hx:=Lib.hid hx.1
 have Hp:=Lib.hid hp
 have Hq:=Lib.hid hq
 have Hle:=Lib.hid hle
 clear hat2 hp hq hx hy hpl ha hle
 go_enter Tryz.func174,Tryz.ntmps174
 refine en0 ?_
 intro u hG hB hF
 refine r0T ?_
 have hbo:=Blk.new u 176 (C2 (List.replicate p 0))
 have hF3:=Fr.new (tk:=[]) hF hB hG (Nat.le_refl u.heap.size) (by simp)
 have hB3:=Bx.cons hbo (hB.grow (A3.alloc u (.cells (C2 (List.replicate p 0)) 176)))
 have hG3:=hG.trans (A3.alloc u (.cells (C2 (List.replicate p 0)) 176))
 simp only [List.cons_append,List.nil_append,List.map_cons,List.map_nil] at hF3
 clear hB hF hG hbo
 generalize World.alloc u _ = v at  hB3 hG3 ⊢
 generalize u.heap.size = b5 at hB3 hF3 ⊢
 have hB:=hB3
 have hF:=hF3
 have hG:=hG3
 clear hB3 hF3 hG3
 obtain ⟨u,rfl⟩ : ∃ x,x = v:=⟨_,rfl⟩
 refine r0T ?_
 refine wp_seq ?_
 refine r0T ?_
 refine wp_block ?_
 go_loopw [7,6] (fun s0 s1 wr=>∃ (i : Nat) (br : Nat) (zs : List Nat),i ≤ p ∧ s0 = .int .i64 i ∧ s1 = .int .u64 (br : Nat) ∧ (SdI W32 p (A6 W32 a) (A6 W32 b) i br zs) ∧ Bx wr [(b5,176,C2 zs)] ∧ A3 w wr) (fun s0 _ _=>p - (intOf s0).toNat)
 case atStart=>exact ⟨0,0,List.replicate p 0,Nat.zero_le _,rfl,rfl,SdI.start p _ _ D4,hB,hG⟩
 case round =>
  clear hB hG
  obtain ⟨i,br,zs,hi,rfl,rfl,hrel0,hB,hG⟩:=hrel
  obtain ⟨u,rfl⟩ : ∃ x,x = wr:=⟨_,rfl⟩
  have H0:=Lib.hid hrel0
  clear hrel0
  rcases Nat.lt_or_ge i p with hlt0 | hge0
  ·have hdec : decide ((i : Int) < (p : Int)) = true:=by simp;omega
   have hc1:=H0.out.2.2.1
   have hnx:=H0.out.next D4 (E7 C3 a) (E7 C3 b) hlt0
   have hz:=H0.out.1
   have e1:=dgl a i
   have e2:=dgl b i
   have ha2:=Hat2.out i
   have hil : i < (A6 W32 a).length:=by rw [show (A6 W32 a).length = p from Hp.out.symm];exact hlt0
   obtain ⟨ba,oa,hAe,-⟩:=Hx.out.cell hil
   have hcl : ∀ W,A3 w W → W.cell? ⟨ba,oa + i,none⟩ = some (.int .u32 (dg (A6 W32 a) i : Nat)):=fun W hg=>by
    obtain ⟨b',o',e,hc⟩:=(Hx.out.grow hg).cell hil
    rw [hAe] at e
    cases e
    exact hc
   obtain ⟨X,hX⟩ : ∃ X,X = dg (A6 W32 a) i:=⟨_,rfl⟩
   obtain ⟨Y,hY⟩ : ∃ X,X = dg (A6 W32 b) i:=⟨_,rfl⟩
   rw [← hX] at e1 hnx
   rw [← hY] at e2 hnx
   simp only [← hX] at hcl
   simp only [← hY] at ha2
   obtain ⟨s1,hs1⟩ : ∃ s : Nat,(s : Int) = ((X : Int) - (Y : Int)) % 18446744073709551616:=⟨(((X : Int) - (Y : Int)) % 18446744073709551616).toNat,by omega⟩
   obtain ⟨s2,hs2⟩ : ∃ s : Nat,(s : Int) = ((s1 : Int) - (br : Int)) % 18446744073709551616:=⟨(((s1 : Int) - (br : Int)) % 18446744073709551616).toNat,by omega⟩
   obtain ⟨d,hd⟩ : ∃ d,d = s2 % 4294967296:=⟨_,rfl⟩
   obtain ⟨c',hc'⟩ : ∃ d,d = s2 / 9223372036854775808:=⟨_,rfl⟩
   have hd2 : (X + W32 - Y - br) % W32 = d:=by unfold W32;omega
   have hc2 : (if X < Y + br then 1 else 0) = c':=by split <;> omega
   rw [hd2,hc2] at hnx
   have f1 : IntKind.u64.wrap ((X : Int) - (Y : Int)) = (s1 : Int):=by rw [IntKind.wrap_u64];exact hs1.symm
   have f2 : IntKind.u64.wrap ((s1 : Int) - (br : Int)) = (s2 : Int):=by rw [IntKind.wrap_u64];exact hs2.symm
   have f3 : (s2 : Int) % 4294967296 = (d : Int):=by omega
   have f3' : IntKind.u32.wrap (s2 : Int) = (d : Int):=by rw [← f3];simp [IntKind.wrap,IntKind.signed,IntKind.bits]
   have f4 : (s2 : Int) / 9223372036854775808 = (c' : Int):=by omega
   have f5 : (X : Int) % 18446744073709551616 = (X : Int):=by omega
   have f5' : IntKind.u64.wrap (X : Int) = (X : Int):=C1 (by omega)
   have g1 : ∃ old,(C2 zs)[i]? = some old:=by rw [A0r,List.getElem?_eq_getElem (by rw [hz];exact hlt0)];exact ⟨_,rfl⟩
   obtain ⟨old,g1⟩:=g1
   have G2:=Lib.hid (A1P zs i d)
   have Ha2:=Lib.hid ha2
   have Hcl:=Lib.hid hcl
   have Hnx:=Lib.hid hnx
   subst hAe
   clear hnx ha2 hcl hX hY hs1 hs2 hd hc' hz hc1 hd2 hc2 hil
   refine wp_seq ?_
   refine r0T ?_
   refine wp_cond_true (rfl) ?_
   refine wp_skip ?_
   refine A4 ?_
   refine wp_seq ?_
   refine wp_block ?_
   refine wp_seq (rdC A5 [] [(0,0),(0,1),(0,2),(0,3),(0,4),(0,5),(0,6),(0,9),(1,7),(0,8),(0,10)] hB hG fun K L hN hL=>?_)
   repeat first | refine gya ?_ | refine gyr ?_ | refine gna ?_ | refine gyb (by (rintro v ⟨hgu,hB,hG,-⟩ N hN;have r:=hB.r;simp only [BxR] at r;have hcb:=Hcl.out v hG;go_simp;exact hN)) ?_
   refine gmd (C:=fun v ⟨hgu,hB,hG,_⟩=>Ha2.out _ hG) ?_
   refine gs ?_
   refine geC hL ?_
   clear hB hG hL L
   rintro u ⟨-,hB,hG,-⟩
   refine gtT ?_
   clear hN K
   refine r0T ?_
   generalize hu0 : World.setCell u _ _ = u0
   have hBG:=hB.over hF hG 0 rfl i [_] hu0
   clear hB hG
   simp only [List.modify_succ_cons,List.modify_zero_cons,G5,G2.out] at hBG
   obtain ⟨hB,hG⟩:=hBG
   clear hu0
   obtain ⟨u,rfl⟩ : ∃ x,x = u0:=⟨_,rfl⟩
   refine r0E ?_
   refine D5 ?_
   refine A4 ?_
   refine r0E ?_
   refine A4 ?_
   go_roundw
   case rel=>exact ⟨i + 1,c',zs.set i d,by omega,by go_num,rfl,Hnx.out,hB,hG⟩
   case measure=>simp [intOf];try omega
  ·obtain rfl : p = i:=by omega
   have hdec : decide ((p : Int) < (p : Int)) = false:=by simp
   have hvv:=H0.out.done Hp.out.symm (by rw [show (A6 W32 b).length = q from Hq.out.symm];exact hqp) (by rw [C7 C3,C7 C3];exact Hle.out)
   rw [C7 C3,C7 C3] at hvv
   have Htr:=Lib.hid (A3c hG hB.head H0.out.1 H0.out.2.1 hvv (by omega))
   have Hvv:=Lib.hid hvv
   clear hvv
   refine wp_seq ?_
   refine r0T ?_
   refine wp_cond_false (rfl) ?_
   refine wp_exit ?_
   refine B4 ?_
   refine B4 ?_
   refine E1 ?_
   refine A4 ?_
   refine wp_seq ?_
   obtain ⟨V,hV⟩ : ∃ V,V = a - b:=⟨_,rfl⟩
   rw [← hV] at Htr
   have HV:=Lib.hid hV
   clear hV
   refine rsE A5 [0,1,0] hB hG fun L hL=>?_
   refine gs ?_
   refine gmd (C:=fun v ⟨hgu,hB,hG,_⟩=>Htr.out _ hgu) ?_
   refine gs ?_
   refine geT hL ?_
   clear hB hG hL L
   rintro u ⟨-,hB,hG,-⟩
   refine rt Tryz.results174 ?_
   exact ⟨(some ⟨b5,0,none⟩,p),by rw [← HV.out];rfl,A4b hB.head H0.out.1 H0.out.2.1 Hvv.out (by omega),hG⟩
def MlI (W N : Nat) (l1 l2 : List Nat) (i : Nat) (zs : List Nat) : Prop :=
 zs.length = N ∧ Dig W zs ∧ val W zs = val W (l1.take i) * val W l2 ∧ ∀ t,i + l2.length ≤ t → dg zs t = 0
def MlJ (W N : Nat) (l1 l2 : List Nat) (i j c : Nat) (zs : List Nat) : Prop :=
 zs.length = N ∧ Dig W zs ∧ c < W ∧ val W zs + c * W ^ (i + j) = val W (l1.take i) * val W l2 + W ^ i * (dg l1 i * val W (l2.take j)) ∧ ∀ t,i + l2.length ≤ t → dg zs t = 0
theorem MlI.start {W : Nat} (N : Nat) (l1 l2 : List Nat) (hW : 0 < W) : MlI W N l1 l2 0 (List.replicate N 0) :=
 ⟨by simp,fun z hz=>by rw [(List.mem_replicate.1 hz).2];exact hW,by simp [A0q,val],fun t _=>by unfold dg;rw [List.getElem?_replicate];split <;> rfl⟩
theorem MlI.inner {W N : Nat} {l1 l2 : List Nat} {i : Nat} {zs : List Nat} (h : MlI W N l1 l2 i zs) (hW : 0 < W) : MlJ W N l1 l2 i 0 0 zs :=
 ⟨h.1,h.2.1,hW,by rw [h.2.2.1];simp [val],h.2.2.2⟩
theorem MlJ.next {W N : Nat} {l1 l2 : List Nat} {i j c : Nat} {zs : List Nat} (h : MlJ W N l1 l2 i j c zs) (hN : N = l1.length + l2.length) (h1 : Dig W l1) (h2 : Dig W l2) (hW : 0 < W) (hi : i < l1.length) (hj : j < l2.length) :
  MlJ W N l1 l2 i (j + 1) ((dg l1 i * dg l2 j + dg zs (i + j) + c) / W) (zs.set (i + j) ((dg l1 i * dg l2 j + dg zs (i + j) + c) % W)):=by
 obtain ⟨hl,hd,hc,hv,hz⟩:=h
 refine ⟨by rw [List.length_set,hl],N4 hd _ (Nat.mod_lt _ hW),(A6T (B8 hW h1 i) (B8 hW h2 j) (B8 hW hd _) hc).2.2,?_,fun t ht=>?_⟩
 ·rw [← Nat.add_assoc]
  exact A7x (by rw [hl];omega) hv
 ·rw [N2 _ _ (by omega)]
  exact hz t ht
theorem MlJ.outer {W N : Nat} {l1 l2 : List Nat} {i c : Nat} {zs : List Nat} (h : MlJ W N l1 l2 i l2.length c zs) (hN : N = l1.length + l2.length) (hi : i < l1.length) : MlI W N l1 l2 (i + 1) (zs.set (i + l2.length) c):=by
 obtain ⟨hl,hd,hc,hv,hz⟩:=h
 have hlt : i + l2.length < zs.length:=by rw [hl];omega
 refine ⟨by rw [List.length_set,hl],N4 hd _ hc,?_,fun t ht=>?_⟩
 ·have h1:=S8 W zs (i + l2.length) c hlt
  rw [hz _ (Nat.le_refl _),Nat.mul_zero,Nat.add_zero] at h1
  rw [V6 W l2 _ (Nat.le_refl _)] at hv
  rw [h1,K6,Nat.add_mul,Nat.mul_comm (W ^ (i + l2.length)) c,hv]
  grind
 ·rw [N2 _ _ (by omega)]
  exact hz t (by omega)
theorem A6q (x y : Ax) (a b : Nat) (w : World) (hx : Rn w x a) (hy : Rn w y b) (ha : bl a ≤ 1099511627776) (hb : bl b ≤ 1099511627776) : Calls Tryz.prog 136 #[nvV x a,nvV y b] w (Ret (I8 (a * b)) w):=by
 obtain ⟨p,hp⟩ : ∃ n,n = ln a:=⟨_,rfl⟩
 obtain ⟨q,hq⟩ : ∃ n,n = ln b:=⟨_,rfl⟩
 obtain ⟨A1,c1⟩:=x
 obtain ⟨A2,c2⟩:=y
 have hpl:=Z3 a
 have hql:=Z3 b
 rw [← hp] at hpl
 rw [← hq] at hql
 obtain ⟨N,hN⟩ : ∃ N,N = p + q:=⟨_,rfl⟩
 have fN : (p : Int) + (q : Int) = (N : Int):=by omega
 have fN2 : IntKind.i64.wrap ((p : Int) + (q : Int)) = (N : Int):=by rw [fN];exact IntWalk.i64_in _ (by omega)
 have hmk:=A1K N (by omega) (N : Int) rfl
 have hpb : p ≤ 34359738400:=by omega
 have hqb : q ≤ 34359738400:=by omega
 have hN1 : N ≤ p + q:=by omega
 have hN2 : p + q ≤ N:=by omega
 have hNl : N = (A6 W32 a).length + (A6 W32 b).length:=by rw [hN,hp,hq];rfl
 show Calls Tryz.prog 136 #[.slice A1 (ln a) c1,.slice A2 (ln b) c2] w _
 rw [← hp,← hq]
 have Hx:=Lib.hid hx.1
 have Hy:=Lib.hid hy.1
 have Hp:=Lib.hid hp
 have Hq:=Lib.hid hq
 have HNl:=Lib.hid hNl
 clear hp hq hx hy hN hpl hql ha hb hNl
 go_enter Tryz.func136,Tryz.ntmps136
 refine en0 ?_
 intro u hG hB hF
 refine r0T ?_
 have hbo:=Blk.new u 176 (C2 (List.replicate N 0))
 have hF3:=Fr.new (tk:=[]) hF hB hG (Nat.le_refl u.heap.size) (by simp)
 have hB3:=Bx.cons hbo (hB.grow (A3.alloc u (.cells (C2 (List.replicate N 0)) 176)))
 have hG3:=hG.trans (A3.alloc u (.cells (C2 (List.replicate N 0)) 176))
 simp only [List.cons_append,List.nil_append,List.map_cons,List.map_nil] at hF3
 clear hB hF hG hbo
 generalize World.alloc u _ = v at  hB3 hG3 ⊢
 generalize u.heap.size = b5 at hB3 hF3 ⊢
 have hB:=hB3
 have hF:=hF3
 have hG:=hG3
 clear hB3 hF3 hG3
 obtain ⟨u,rfl⟩ : ∃ x,x = v:=⟨_,rfl⟩
 refine wp_seq ?_
 refine r0T ?_
 refine wp_block ?_
 go_loopw [6] (fun s0 wr=>∃ (i : Nat) (zs : List Nat),i ≤ p ∧ s0 = .int .i64 i ∧ (MlI W32 N (A6 W32 a) (A6 W32 b) i zs) ∧ Bx wr [(b5,176,C2 zs)] ∧ A3 w wr) (fun s0 _=>p - (intOf s0).toNat)
 case atStart=>exact ⟨0,List.replicate N 0,Nat.zero_le _,rfl,MlI.start N _ _ D4,hB,hG⟩
 case round =>
  clear hB hG
  obtain ⟨i,zs,hi,rfl,hrel0,hB,hG⟩:=hrel
  obtain ⟨u,rfl⟩ : ∃ x,x = wr:=⟨_,rfl⟩
  have H0:=Lib.hid hrel0
  clear hrel0
  rcases Nat.lt_or_ge i p with hlt0 | hge0
  ·have hdec : decide ((i : Int) < (p : Int)) = true:=by simp;omega
   have hil : i < (A6 W32 a).length:=by rw [show (A6 W32 a).length = p from Hp.out.symm];exact hlt0
   obtain ⟨ba,oa,hAe,-⟩:=Hx.out.cell hil
   have hcl : ∀ W,A3 w W → W.cell? ⟨ba,oa + i,none⟩ = some (.int .u32 (dg (A6 W32 a) i : Nat)):=fun W hg=>by
    obtain ⟨b',o',e,hc⟩:=(Hx.out.grow hg).cell hil
    rw [hAe] at e
    cases e
    exact hc
   have e1:=dgl a i
   obtain ⟨X,hX⟩ : ∃ X,X = dg (A6 W32 a) i:=⟨_,rfl⟩
   rw [← hX] at e1
   simp only [← hX] at hcl
   have Hcl:=Lib.hid hcl
   have HX:=Lib.hid hX
   have Hil:=Lib.hid hil
   subst hAe
   clear hcl hX hil
   refine wp_seq ?_
   refine r0T ?_
   refine wp_cond_true (rfl) ?_
   refine wp_skip ?_
   refine A4 ?_
   refine wp_seq ?_
   refine wp_block ?_
   refine r0T ?_
   refine wp_seq ?_
   refine r0T ?_
   refine wp_block ?_
   go_loopw [8,7] (fun s0 s1 wr=>∃ (j : Nat) (c : Nat) (zs : List Nat),j ≤ q ∧ s0 = .int .i64 j ∧ s1 = .int .u64 (c : Nat) ∧ (MlJ W32 N (A6 W32 a) (A6 W32 b) i j c zs) ∧ Bx wr [(b5,176,C2 zs)] ∧ A3 w wr) (fun s0 _ _=>q - (intOf s0).toNat)
   case atStart=>exact ⟨0,0,zs,Nat.zero_le _,rfl,rfl,H0.out.inner D4,hB,hG⟩
   case round =>
    clear hB hG
    obtain ⟨j,c,zs,hj,rfl,rfl,hrel0,hB,hG⟩:=hrel
    obtain ⟨u,rfl⟩ : ∃ x,x = wr:=⟨_,rfl⟩
    have H1:=Lib.hid hrel0
    clear hrel0
    rcases Nat.lt_or_ge j q with hlt1 | hge1
    ·have hdec : decide ((j : Int) < (q : Int)) = true:=by simp;omega
     have hjl : j < (A6 W32 b).length:=by rw [show (A6 W32 b).length = q from Hq.out.symm];exact hlt1
     obtain ⟨bb,ob,hBe,-⟩:=Hy.out.cell hjl
     have hcl2 : ∀ W,A3 w W → W.cell? ⟨bb,ob + j,none⟩ = some (.int .u32 (dg (A6 W32 b) j : Nat)):=fun W hg=>by
      obtain ⟨b',o',e,hc⟩:=(Hy.out.grow hg).cell hjl
      rw [hBe] at e
      cases e
      exact hc
     have e2:=dgl b j
     have hnx:=H1.out.next HNl.out (E7 C3 a) (E7 C3 b) D4 Hil.out hjl
     have hz:=H1.out.1
     have hcW : c < 4294967296:=H1.out.2.2.1
     obtain ⟨t,ht⟩ : ∃ t,t = i + j:=⟨_,rfl⟩
     have htN : t < N:=by omega
     have htz : t < zs.length:=by rw [hz];exact htN
     have e3 : dg zs t < 4294967296:=B8 D4 H1.out.2.1 t
     obtain ⟨Y,hY⟩ : ∃ X,X = dg (A6 W32 b) j:=⟨_,rfl⟩
     obtain ⟨Z,hZ⟩ : ∃ X,X = dg zs t:=⟨_,rfl⟩
     rw [← ht,← HX.out,← hY,← hZ] at hnx
     rw [← hY] at e2
     rw [← hZ] at e3
     simp only [← hY] at hcl2
     obtain ⟨m,hm⟩ : ∃ m,m = X * Y:=⟨_,rfl⟩
     have hmb : m ≤ 4294967295 * 4294967295:=by rw [hm];exact Nat.mul_le_mul (by omega) (by omega)
     obtain ⟨s1,hs1⟩ : ∃ s,s = c + Z:=⟨_,rfl⟩
     obtain ⟨s2,hs2⟩ : ∃ s,s = c + Z + m:=⟨_,rfl⟩
     obtain ⟨d,hd⟩ : ∃ d,d = s2 % 4294967296:=⟨_,rfl⟩
     obtain ⟨c',hc'⟩ : ∃ d,d = s2 / 4294967296:=⟨_,rfl⟩
     have hnx2 : MlJ W32 N (A6 W32 a) (A6 W32 b) i (j + 1) c' (zs.set t d):=by
      rw [hc',hd,hs2,show c + Z + m = m + Z + c by omega,hm]
      exact hnx
     have f0 : (i : Int) + (j : Int) = (t : Int):=by omega
     have f0' : IntKind.i64.wrap ((i : Int) + (j : Int)) = (t : Int):=by rw [f0];exact IntWalk.i64_in _ (by omega)
     have f0w : IntKind.i64.wrap (t : Int) = (t : Int):=IntWalk.i64_in _ (by omega)
     have f1 : IntKind.u64.wrap ((c : Int) + (Z : Int)) = (s1 : Int):=by rw [show (c : Int) + (Z : Int) = ((s1 : Nat) : Int) by omega];exact C1 (by omega)
     have fm : IntKind.u64.wrap ((X : Int) * (Y : Int)) = (m : Int):=by rw [show (X : Int) * (Y : Int) = ((m : Nat) : Int) by rw [hm];simp];exact C1 (by omega)
     have f2 : IntKind.u64.wrap ((s1 : Int) + (m : Int)) = (s2 : Int):=by rw [show (s1 : Int) + (m : Int) = ((s2 : Nat) : Int) by omega];exact C1 (by omega)
     have f3 : (s2 : Int) % 4294967296 = (d : Int):=by omega
     have f3' : IntKind.u32.wrap (s2 : Int) = (d : Int):=by rw [← f3];simp [IntKind.wrap,IntKind.signed,IntKind.bits]
     have f4 : (s2 : Int) / 4294967296 = (c' : Int):=by omega
     have f5' : IntKind.u64.wrap (X : Int) = (X : Int):=C1 (by omega)
     have f6' : IntKind.u64.wrap (Y : Int) = (Y : Int):=C1 (by omega)
     have f7' : IntKind.u64.wrap (Z : Int) = (Z : Int):=C1 (by omega)
     have g1 : (C2 zs)[t]? = some (.int .u32 (Z : Nat)):=by rw [A0r,List.getElem?_eq_getElem htz,hZ,D1 htz];rfl
     have G2:=Lib.hid (A1P zs t d)
     have Hcl2:=Lib.hid hcl2
     have Hnx:=Lib.hid hnx2
     subst hBe
     clear hnx hnx2 hcl2 hY hZ hs1 hs2 hd hc' hz hcW htz hjl hm ht
     refine wp_seq ?_
     refine r0T ?_
     refine wp_cond_true (rfl) ?_
     refine wp_skip ?_
     refine A4 ?_
     refine wp_seq ?_
     refine wp_block ?_
     refine wp_seq (rdC A5 [] [(0,0),(0,1),(0,2),(0,3),(0,4),(0,5),(0,6),(0,7),(0,8),(0,9),(0,10),(0,11),(0,12),(0,13),(0,14),(0,15),(0,16),(0,17),(0,18),(0,19),(0,20)] hB hG fun K L hN hL=>?_)
     repeat first | refine gya ?_ | refine gyr ?_ | refine gna ?_ | refine gyb (by (rintro v ⟨hgu,hB,hG,-⟩ N hN;have r:=hB.r;simp only [BxR] at r;have hcb:=Hcl2.out v hG;have hcb2:=Hcl.out v hG;go_simp;exact hN)) ?_
     refine geC hL ?_
     clear hB hG hL L
     rintro u ⟨-,hB,hG,-⟩
     refine gtT ?_
     clear hN K
     refine r0T ?_
     generalize hu0 : World.setCell u _ _ = u0
     have hBG:=hB.over hF hG 0 rfl t [_] hu0
     clear hB hG
     simp only [List.modify_succ_cons,List.modify_zero_cons,G5,G2.out] at hBG
     obtain ⟨hB,hG⟩:=hBG
     clear hu0
     obtain ⟨u,rfl⟩ : ∃ x,x = u0:=⟨_,rfl⟩
     refine r0E ?_
     refine D5 ?_
     refine A4 ?_
     refine r0E ?_
     refine A4 ?_
     go_roundw
     case rel=>exact ⟨j + 1,c',zs.set t d,by omega,by go_num,rfl,Hnx.out,hB,hG⟩
     case measure=>simp [intOf];try omega
    ·obtain rfl : q = j:=by omega
     have hdec : decide ((q : Int) < (q : Int)) = false:=by simp
     have hou : MlI W32 N (A6 W32 a) (A6 W32 b) (i + 1) (zs.set (i + q) c):=by
      have := H1.out
      rw [show q = (A6 W32 b).length from Hq.out] at this ⊢
      exact this.outer HNl.out Hil.out
     have hcW : c < 4294967296:=H1.out.2.2.1
     obtain ⟨t,ht⟩ : ∃ t,t = i + q:=⟨_,rfl⟩
     rw [← ht] at hou
     have htN : t < N:=by omega
     have f0 : (i : Int) + (q : Int) = (t : Int):=by omega
     have f0' : IntKind.i64.wrap ((i : Int) + (q : Int)) = (t : Int):=by rw [f0];exact IntWalk.i64_in _ (by omega)
     have f0w : IntKind.i64.wrap (t : Int) = (t : Int):=IntWalk.i64_in _ (by omega)
     have f3 : (c : Int) % 4294967296 = (c : Int):=by omega
     have f3' : IntKind.u32.wrap (c : Int) = (c : Int):=by rw [← f3];simp [IntKind.wrap,IntKind.signed,IntKind.bits]
     have g1 : ∃ old,(C2 zs)[t]? = some old:=by rw [A0r,List.getElem?_eq_getElem (by rw [H1.out.1];exact htN)];exact ⟨_,rfl⟩
     obtain ⟨old,g1⟩:=g1
     have G3:=Lib.hid (A1P zs t c)
     have Hou:=Lib.hid hou
     clear hou ht
     refine wp_seq ?_
     refine r0T ?_
     refine wp_cond_false (rfl) ?_
     refine wp_exit ?_
     refine B4 ?_
     refine B4 ?_
     refine E1 ?_
     refine A4 ?_
     refine r0E ?_
     generalize hu0 : World.setCell u _ _ = u0
     have hBG:=hB.over hF hG 0 rfl t [_] hu0
     clear hB hG
     simp only [List.modify_succ_cons,List.modify_zero_cons,G5,G3.out] at hBG
     obtain ⟨hB,hG⟩:=hBG
     clear hu0
     obtain ⟨u,rfl⟩ : ∃ x,x = u0:=⟨_,rfl⟩
     refine D5 ?_
     refine A4 ?_
     refine r0E ?_
     refine A4 ?_
     go_roundw
     case rel=>exact ⟨i + 1,zs.set t c,by omega,by go_num,Hou.out,hB,hG⟩
     case measure=>simp [intOf];try omega
  ·obtain rfl : p = i:=by omega
   have hdec : decide ((p : Int) < (p : Int)) = false:=by simp
   have hvv:=H0.out.2.2.1
   rw [V6 W32 (A6 W32 a) p (Nat.le_of_eq Hp.out.symm),C7 C3,C7 C3] at hvv
   have Htr:=Lib.hid (A3c hG hB.head H0.out.1 H0.out.2.1 hvv (by omega))
   have Hvv:=Lib.hid hvv
   clear hvv
   refine wp_seq ?_
   refine r0T ?_
   refine wp_cond_false (rfl) ?_
   refine wp_exit ?_
   refine B4 ?_
   refine B4 ?_
   refine E1 ?_
   refine A4 ?_
   refine wp_seq ?_
   obtain ⟨V,hV⟩ : ∃ V,V = a * b:=⟨_,rfl⟩
   rw [← hV] at Htr
   have HV:=Lib.hid hV
   clear hV
   refine rsE A5 [0,1,0] hB hG fun L hL=>?_
   refine gs ?_
   refine gmd (C:=fun v ⟨hgu,hB,hG,_⟩=>Htr.out _ hgu) ?_
   refine gs ?_
   refine geT hL ?_
   clear hB hG hL L
   rintro u ⟨-,hB,hG,-⟩
   refine rt Tryz.results136 ?_
   exact ⟨(some ⟨b5,0,none⟩,N),by rw [← HV.out];rfl,A4b hB.head H0.out.1 H0.out.2.1 Hvv.out (by omega),hG⟩
end Go.Proofs.YtlkniebmjdoopaaGreatDoor
