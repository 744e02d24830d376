/- Contracts and laws. -/
import Derived.Test.YtlkniebmjdoopaaGreatDoorK14
import Derived.StillTailTactics
import Derived.Deep.RegionWith
set_option linter.unusedSimpArgs false
set_option linter.unusedVariables false
set_option maxHeartbeats 2000000
set_option maxRecDepth 100000
namespace Go.Proofs.YtlkniebmjdoopaaGreatDoor
open Go.RowKit
def I1 {X : Type} (f : X → Value) (T : X → World → Prop) (w : World) (e : Ending) (w' : World) : Prop:=∃ x,e = .returned (f x) ∧ T x w' ∧ A3 w w'
theorem A80 {l : List Nat} {i : Nat} (h : i < l.length) : dg l.reverse i = dg l (l.length - 1 - i):=by
 rw [D3 (by simpa using h),D3 (by omega),List.getElem_reverse]
def V6 (m : Nat) (l : List Nat) (i : Nat) (zs : List Nat) : Prop:=zs.length = m ∧ Dig W64 zs ∧ val W64 zs = val 256 (l.reverse.take i)
theorem V6.start (m : Nat) (l : List Nat) : V6 m l 0 (List.replicate m 0) :=
 ⟨by simp,fun z hz=>(by rw [(List.mem_replicate.1 hz).2];exact B6),by rw [A0c];rfl⟩
theorem V6.next {m : Nat} {l zs : List Nat} {i : Nat} (h : V6 m l i zs) (hd : Dig 256 l) (hi : i < l.length) (hm : l.length ≤ 8 * m) :
  dg zs (i / 8) ||| dg l (l.length - 1 - i) * 2 ^ (8 * (i % 8)) = dg zs (i / 8) + dg l (l.length - 1 - i) * 2 ^ (8 * (i % 8)) ∧ dg zs (i / 8) + dg l (l.length - 1 - i) * 2 ^ (8 * (i % 8)) < W64 ∧
  V6 m l (i + 1) (zs.set (i / 8) (dg zs (i / 8) + dg l (l.length - 1 - i) * 2 ^ (8 * (i % 8)))):=by
 obtain ⟨h1,h2,h3⟩:=h
 have hdr : Dig 256 l.reverse:=fun x hx=>hd x (List.mem_reverse.1 hx)
 have hv : val W64 zs < 256 ^ i:=by rw [h3];exact A56 (by omega) hdr i
 obtain ⟨e1,e2,e3⟩:=B2O (zs:=zs) (i:=i) (y:=dg l (l.length - 1 - i)) (by omega) hv (B9 (by omega) hd _)
 refine ⟨e1,e2,by rw [List.length_set];exact h1,M3 h2 _ e2,?_⟩
 rw [e3,I7,← h3,A80 hi,Nat.mul_comm]
theorem V6.done {m : Nat} {l zs : List Nat} {i : Nat} (h : V6 m l i zs) (hi : i = l.length) : val W64 zs = val 256 l.reverse:=by
 rw [h.2.2,List.take_of_length_le (by simp;omega)]
theorem A8s (A : Option Addr) (l : List Nat) (c : Nat) (hd : Dig 256 l) (hm : l.length ≤ 137438953471) (w : World) (hA : By w A l) :
  Calls Tryz.prog 145 #[.slice A l.length c] w fun e w'=>e = .returned (A6 (val 256 l.reverse)) ∧ A3 w w':=by
 obtain ⟨n,hn⟩ : ∃ n,n = l.length:=⟨_,rfl⟩
 obtain ⟨m,hmm⟩ : ∃ m,m = (n + 7) / 8:=⟨_,rfl⟩
 have hmi : ((n : Int) + 7) / 8 = (m : Int):=by omega
 have hmt : ((n : Int) + 7).tdiv 8 = (m : Int):=by rw [Int.tdiv_eq_ediv_of_nonneg (by omega)];exact hmi
 rw [← hn]
 rw [← hn] at hm
 have hw0 : IntKind.i64.wrap ((n : Int) + 7) = (n : Int) + 7:=IntWalk.i64_in _ (by omega)
 have hmk:=A0f m (by omega) (m : Int) rfl
 have hmb : m ≤ 34359738368:=by omega
 have hn8 : n ≤ 8 * m:=by omega
 have HA:=Lib.hid hA
 have Hn:=Lib.hid hn
 have Hd:=Lib.hid hd
 clear hA hn hd hmm
 go_enter Tryz.func145,Tryz.ntmps145
 refine en1 ?_
 intro u hG b2 hB hF
 refine r0T ?_
 have hbo:=Blk.new u 33 (C0 (List.replicate m 0))
 have hF3:=Fr.new (tk:=[]) hF hB hG (Nat.le_refl u.heap.size) (by simp)
 have hB3:=Bx.cons hbo (hB.grow (A3.alloc u (.cells (C0 (List.replicate m 0)) 33)))
 have hG3:=hG.trans (A3.alloc u (.cells (C0 (List.replicate m 0)) 33))
 simp only [List.cons_append,List.nil_append,List.map_cons,List.map_nil] at hF3
 clear hB hF hG hbo
 generalize World.alloc u _ = v at  hB3 hG3 ⊢
 generalize u.heap.size = b3 at hB3 hF3 ⊢
 have hB:=hB3
 have hF:=hF3
 have hG:=hG3
 clear hB3 hF3 hG3
 obtain ⟨u,rfl⟩ : ∃ x,x = v:=⟨_,rfl⟩
 refine wp_seq ?_
 refine r0T ?_
 refine wp_block ?_
 go_loopw [12] (fun s0 wr=>∃ (i : Nat) (zs : List Nat),i ≤ n ∧ s0 = .int .i64 i ∧ (V6 m l i zs) ∧ Bx wr [(b3,33,C0 zs),(b2,35,#[.int .u64 0,.string ⟨#[]⟩])] ∧ A3 w wr) (fun s0 _=>n - (intOf s0).toNat)
 case atStart=>exact ⟨0,List.replicate m 0,Nat.zero_le _,rfl,V6.start m l,hB,hG⟩
 case round =>
  clear hB hG
  obtain ⟨i,zs,hi,rfl,hrel0,hB,hG⟩:=hrel
  obtain ⟨u,rfl⟩ : ∃ x,x = wr:=⟨_,rfl⟩
  have H0:=Lib.hid hrel0
  clear hrel0
  rcases Nat.lt_or_ge i n with hlt0 | hge0
  ·have hdec : decide ((i : Int) < (n : Int)) = true:=by simp;omega
   obtain ⟨l1,l2,l3⟩:=H0.out.next Hd.out (by rw [← Hn.out];exact hlt0) (by rw [← Hn.out];exact hn8)
   obtain ⟨k,hk⟩ : ∃ k,k = n - 1 - i:=⟨_,rfl⟩
   rw [← Hn.out,← hk] at l1 l2 l3
   have hbk:=B9 (by omega) Hd.out k
   have hkl : k < l.length:=by rw [← Hn.out];omega
   have hki : (n : Int) - 1 - (i : Int) = (k : Int):=by omega
   have hqz : i / 8 < zs.length:=by rw [H0.out.1];omega
   have hzl:=B9 B6 H0.out.2.1 (i / 8)
   obtain ⟨q,hq⟩ : ∃ q,q = i / 8:=⟨_,rfl⟩
   obtain ⟨p,hr⟩ : ∃ r,r = i % 8:=⟨_,rfl⟩
   obtain ⟨y,hy⟩ : ∃ y,y = dg l k:=⟨_,rfl⟩
   obtain ⟨x,hx⟩ : ∃ x,x = dg zs (i / 8):=⟨_,rfl⟩
   obtain ⟨z,hz⟩ : ∃ z,z = y * 2 ^ (8 * p):=⟨_,rfl⟩
   obtain ⟨s,hs⟩ : ∃ s,s = x + z:=⟨_,rfl⟩
   have hr8 : p < 8:=by omega
   have hqm : q < m:=by omega
   rw [← hx,← hr,← hy,← hz,← hs] at l1 l2 l3
   rw [← hq] at l3 hqz
   rw [← hx] at hzl
   rw [← hy] at hbk
   unfold W64 at hzl
   have hz64 : z < 18446744073709551616:=by unfold W64 at l2;omega
   have g1 : (C0 zs)[q]? = some (.int .u64 (x : Nat)):=by rw [T6,List.getElem?_eq_getElem hqz,hx,← hq,D3 hqz];rfl
   have G2:=Lib.hid (A1v zs q s)
   obtain ⟨b1,o1,hAe,-⟩:=HA.out.cell hkl
   have hby : ∀ W,A3 w W → W.cell? ⟨b1,o1 + k,none⟩ = some (.int .u8 (y : Nat)):=fun W hg=>by
    obtain ⟨b',o',e,hc⟩:=(HA.out.grow hg).cell hkl
    rw [hAe] at e
    cases e
    rw [hy]
    exact hc
   have Hby:=Lib.hid hby
   subst hAe
   have L3:=Lib.hid l3
   have f1 : (i : Int).tdiv 8 = (q : Int):=by rw [Int.tdiv_eq_ediv_of_nonneg (by omega)];omega
   have f2 : (i : Int).tmod 8 = (p : Int):=by rw [Int.tmod_eq_emod_of_nonneg (by omega)];omega
   have f3 : (i : Int) / 8 = (q : Int):=by omega
   have f4 : (i : Int) % 8 = (p : Int):=by omega
   have f5 : IntKind.u64.wrap ((y : Int) * 2 ^ (8 * p)) = (z : Int):=by
    rw [show ((y : Int) * 2 ^ (8 * p)) = ((z : Nat) : Int) by rw [hz];simp];exact C5 hz64
   have f6 : bits BinOp.or IntKind.u64 (x : Int) (z : Int) = (s : Nat):=by rw [u64_or_nat x z hzl hz64,l1]
   have f7 : (8 * (p : Int)).toNat = 8 * p:=by omega
   have f8 : min (8 * p) 64 = 8 * p:=by omega
   have f9 : IntKind.u64.wrap (y : Int) = (y : Int):=C5 (by omega)
   have f10 : IntKind.i64.wrap (q : Int) = (q : Int):=IntWalk.i64_in _ (by omega)
   have f11 : IntKind.i64.wrap (p : Int) = (p : Int):=IntWalk.i64_in _ (by omega)
   have f12 : IntKind.i64.wrap (8 * (p : Int)) = 8 * (p : Int):=IntWalk.i64_in _ (by omega)
   have f13 : IntKind.i64.wrap ((n : Int) - 1) = (n : Int) - 1:=IntWalk.i64_in _ (by omega)
   have f14 : IntKind.i64.wrap (k : Int) = (k : Int):=IntWalk.i64_in _ (by omega)
   have f15 : k < n:=by omega
   clear l1 l2 l3 hq hr hy hx hz hs hk hkl hqz hby
   refine r0T ?_
   refine wp_seq ?_
   refine wp_cond_true (rfl) ?_
   refine wp_skip ?_
   refine A4 ?_
   refine wp_seq ?_
   refine wp_block ?_
   refine r0T ?_
   refine rdC A5 [] [(0,0),(0,1),(0,2),(0,3),(0,4),(0,5),(0,6),(0,7),(0,8),(0,9),(0,10),(0,11),(0,12),(0,13),(0,14),(0,15),(0,16),(0,17),(0,18),(0,19)] hB hG fun K L hN hL=>?_
   repeat first | refine gya ?_ | refine gyr ?_ | refine gna ?_ | refine gyb (by (rintro v ⟨hgu,hB,hG,-⟩ N hN;have r:=hB.r;simp only [BxR] at r;have hcb:=Hby.out v hG;go_simp;exact hN)) ?_
   refine geC hL ?_
   clear hB hG hL L
   rintro u ⟨-,hB,hG,-⟩
   refine gt ?_
   clear hN K
   generalize hu0 : World.setCell u _ _ = u0
   have hBG:=hB.over hF hG 0 rfl q [_] hu0
   clear hB hG
   simp only [List.modify_succ_cons,List.modify_zero_cons,G6,G2.out] at hBG
   obtain ⟨hB,hG⟩:=hBG
   clear hu0
   obtain ⟨u,rfl⟩ : ∃ x,x = u0:=⟨_,rfl⟩
   refine F0 ?_
   refine A4 ?_
   refine r0E ?_
   refine A4 ?_
   go_roundw
   case rel=>exact ⟨i + 1,zs.set q s,by omega,by go_num,L3.out,hB,hG⟩
   case measure=>simp [intOf];try omega
  ·obtain rfl : n = i:=by omega
   have hdec : decide ((n : Int) < (n : Int)) = false:=by simp
   have hfw : ∀ W,A3 w W → Blk W b3 33 (C0 zs) → Calls Tryz.prog 124 #[.slice (some ⟨b3,0,none⟩) m m] W fun e w'=>e = .returned (A6 (val 256 l.reverse)) ∧ A3 W w':=fun W hg hw=>by
    have := R8 (some ⟨b3,0,none⟩) zs m W (fun _=>⟨b3,0,rfl,C4.wds hw⟩) H0.out.2.1 (by rw [H0.out.1];exact Nat.le_refl _) (by rw [H0.out.1];exact hmb) (by omega)
    rw [H0.out.done Hn.out,H0.out.1] at this
    exact this
   have Hfw:=Lib.hid hfw
   clear hfw
   refine r0T ?_
   refine wp_seq ?_
   refine wp_cond_false (rfl) ?_
   refine wp_exit ?_
   refine D7 ?_
   refine D7 ?_
   refine G8 ?_
   refine A4 ?_
   refine wp_seq (rsC A5 [0,1] hB hG fun K L hN hL=>?_)
   refine gs ?_
   refine gmd (C:=fun v ⟨hgu,hB,hG,_⟩=>Hfw.out _ hG hB.head) ?_
   refine geC hL ?_
   clear hB hG hL L
   rintro u ⟨-,hB,hG,-⟩
   refine gtT ?_
   clear hN K
   refine st hB hF hG 1 0 [_,_] ?_
   clear hB hG
   intro u hB hG
   refine rt Tryz.results145 ?_
   exact ⟨rfl,hG⟩
theorem B6u (a : Nat) (ha : bl a ≤ 1099511627520) (w : World) :
  Calls Tryz.prog 158 #[A6 a] w fun e w'=>∃ (b : Nat) (zs : List Nat),e = .returned (.slice (some ⟨b,0,none⟩) zs.length zs.length) ∧ (w.heap.size ≤ b ∧ C4 w' b zs ∧ Dig W64 zs ∧ val W64 zs = a ∧ zs.length ≤ 17179869180) ∧ A3 w w':=by
 obtain ⟨l,hl⟩ : ∃ l,l = (byt a).reverse:=⟨_,rfl⟩
 obtain ⟨n,hn⟩ : ∃ n,n = l.length:=⟨_,rfl⟩
 have hd : Dig 256 l:=fun x hx=>by rw [hl] at hx;exact A1K a x (List.mem_reverse.1 hx)
 have hnb : n = (byt a).length:=by rw [hn,hl,List.length_reverse]
 have hm : l.length ≤ 137438953440:=by rw [← hn,hnb,A1u];omega
 have hlv : val 256 l.reverse = a:=by rw [hl,List.reverse_reverse];exact D5 (by omega) a
 have hbytes : ∀ W,Calls Tryz.prog 176 #[A6 a] W (I1 (fun A : Option Addr=>.slice A n n) (fun A W=>By W A l) W):=fun W =>
  (A9v a (by omega) W).mono fun e w' ⟨A,he,hb,hg⟩=>⟨A,by rw [he,hnb],by rw [hl];exact hb,hg⟩
 obtain ⟨m,hmm⟩ : ∃ m,m = (n + 7) / 8:=⟨_,rfl⟩
 have hmi : ((n : Int) + 7) / 8 = (m : Int):=by omega
 have hmt : ((n : Int) + 7).tdiv 8 = (m : Int):=by rw [Int.tdiv_eq_ediv_of_nonneg (by omega)];exact hmi
 rw [← hn] at hm
 have hw0 : IntKind.i64.wrap ((n : Int) + 7) = (n : Int) + 7:=IntWalk.i64_in _ (by omega)
 have hmk:=A0f m (by omega) (m : Int) rfl
 have hmb : m ≤ 17179869180:=by omega
 have hn8 : n ≤ 8 * m:=by omega
 have Hbytes:=Lib.hid hbytes
 have Hlv:=Lib.hid hlv
 have Hn:=Lib.hid hn
 have Hd:=Lib.hid hd
 clear hbytes hn hd hmm hl hnb hlv ha
 go_enter Tryz.func158,Tryz.ntmps158
 refine en1 ?_
 intro u hG b1 hB hF
 refine wp_seq (rsE A5 [0,1,0] hB hG fun L hL=>?_)
 refine gs ?_
 refine gxd (X:=Option Addr) (fun A=>.slice A n n) (fun A W=>By W A l) (fun _ _ _ hg h=>h.grow hg) (fun x7=>?_) (C:=fun v _=>Hbytes.out _)
 refine gs ?_
 refine geT hL ?_
 clear hB hG hL L
 rintro u ⟨⟨-,hB,hG,-⟩,hx7⟩
 have HG0:=Lib.hid hG
 clear hB hF hG
 obtain ⟨w0,rfl⟩ : ∃ x,x = w:=⟨_,rfl⟩
 obtain ⟨w,hwu⟩ : ∃ x,x = u:=⟨_,rfl⟩
 rw [← hwu] at HG0 hx7
 have hB:=Bx.nil u
 have hF:=Fr.nil w
 have hG : A3 w u:=hwu ▸ A3.refl u
 clear hwu
 obtain ⟨A,rfl⟩ : ∃ A,A = x7:=⟨_,rfl⟩
 have HA:=Lib.hid hx7
 clear hx7
 refine r0T ?_
 have hbo:=Blk.new u 33 (C0 (List.replicate m 0))
 have hF3:=Fr.new (tk:=[]) hF hB hG (Nat.le_refl u.heap.size) (by simp)
 have hB3:=Bx.cons hbo (hB.grow (A3.alloc u (.cells (C0 (List.replicate m 0)) 33)))
 have hG3:=hG.trans (A3.alloc u (.cells (C0 (List.replicate m 0)) 33))
 simp only [List.cons_append,List.nil_append,List.map_cons,List.map_nil] at hF3
 clear hB hF hG hbo
 generalize World.alloc u _ = v at  hB3 hG3 ⊢
 generalize u.heap.size = b4 at hB3 hF3 ⊢
 have hB:=hB3
 have hF:=hF3
 have hG:=hG3
 clear hB3 hF3 hG3
 obtain ⟨u,rfl⟩ : ∃ x,x = v:=⟨_,rfl⟩
 refine wp_seq ?_
 refine r0T ?_
 refine wp_block ?_
 go_loopw [15] (fun s0 wr=>∃ (i : Nat) (zs : List Nat),i ≤ n ∧ s0 = .int .i64 i ∧ (V6 m l i zs) ∧ Bx wr [(b4,33,C0 zs)] ∧ A3 w wr) (fun s0 _=>n - (intOf s0).toNat)
 case atStart=>exact ⟨0,List.replicate m 0,Nat.zero_le _,rfl,V6.start m l,hB,hG⟩
 case round =>
  clear hB hG
  obtain ⟨i,zs,hi,rfl,hrel0,hB,hG⟩:=hrel
  obtain ⟨u,rfl⟩ : ∃ x,x = wr:=⟨_,rfl⟩
  have H0:=Lib.hid hrel0
  clear hrel0
  rcases Nat.lt_or_ge i n with hlt0 | hge0
  ·have hdec : decide ((i : Int) < (n : Int)) = true:=by simp;omega
   obtain ⟨l1,l2,l3⟩:=H0.out.next Hd.out (by rw [← Hn.out];exact hlt0) (by rw [← Hn.out];exact hn8)
   obtain ⟨k,hk⟩ : ∃ k,k = n - 1 - i:=⟨_,rfl⟩
   rw [← Hn.out,← hk] at l1 l2 l3
   have hbk:=B9 (by omega) Hd.out k
   have hkl : k < l.length:=by rw [← Hn.out];omega
   have hki : (n : Int) - 1 - (i : Int) = (k : Int):=by omega
   have hqz : i / 8 < zs.length:=by rw [H0.out.1];omega
   have hzl:=B9 B6 H0.out.2.1 (i / 8)
   obtain ⟨q,hq⟩ : ∃ q,q = i / 8:=⟨_,rfl⟩
   obtain ⟨p,hr⟩ : ∃ r,r = i % 8:=⟨_,rfl⟩
   obtain ⟨y,hy⟩ : ∃ y,y = dg l k:=⟨_,rfl⟩
   obtain ⟨x,hx⟩ : ∃ x,x = dg zs (i / 8):=⟨_,rfl⟩
   obtain ⟨z,hz⟩ : ∃ z,z = y * 2 ^ (8 * p):=⟨_,rfl⟩
   obtain ⟨s,hs⟩ : ∃ s,s = x + z:=⟨_,rfl⟩
   have hr8 : p < 8:=by omega
   have hqm : q < m:=by omega
   rw [← hx,← hr,← hy,← hz,← hs] at l1 l2 l3
   rw [← hq] at l3 hqz
   rw [← hx] at hzl
   rw [← hy] at hbk
   unfold W64 at hzl
   have hz64 : z < 18446744073709551616:=by unfold W64 at l2;omega
   have g1 : (C0 zs)[q]? = some (.int .u64 (x : Nat)):=by rw [T6,List.getElem?_eq_getElem hqz,hx,← hq,D3 hqz];rfl
   have G2:=Lib.hid (A1v zs q s)
   obtain ⟨b1,o1,hAe,-⟩:=HA.out.cell hkl
   have hby : ∀ W,A3 w W → W.cell? ⟨b1,o1 + k,none⟩ = some (.int .u8 (y : Nat)):=fun W hg=>by
    obtain ⟨b',o',e,hc⟩:=(HA.out.grow hg).cell hkl
    rw [hAe] at e
    cases e
    rw [hy]
    exact hc
   have Hby:=Lib.hid hby
   subst hAe
   have L3:=Lib.hid l3
   have f1 : (i : Int).tdiv 8 = (q : Int):=by rw [Int.tdiv_eq_ediv_of_nonneg (by omega)];omega
   have f2 : (i : Int).tmod 8 = (p : Int):=by rw [Int.tmod_eq_emod_of_nonneg (by omega)];omega
   have f3 : (i : Int) / 8 = (q : Int):=by omega
   have f4 : (i : Int) % 8 = (p : Int):=by omega
   have f5 : IntKind.u64.wrap ((y : Int) * 2 ^ (8 * p)) = (z : Int):=by
    rw [show ((y : Int) * 2 ^ (8 * p)) = ((z : Nat) : Int) by rw [hz];simp];exact C5 hz64
   have f6 : bits BinOp.or IntKind.u64 (x : Int) (z : Int) = (s : Nat):=by rw [u64_or_nat x z hzl hz64,l1]
   have f7 : (8 * (p : Int)).toNat = 8 * p:=by omega
   have f8 : min (8 * p) 64 = 8 * p:=by omega
   have f9 : IntKind.u64.wrap (y : Int) = (y : Int):=C5 (by omega)
   have f10 : IntKind.i64.wrap (q : Int) = (q : Int):=IntWalk.i64_in _ (by omega)
   have f11 : IntKind.i64.wrap (p : Int) = (p : Int):=IntWalk.i64_in _ (by omega)
   have f12 : IntKind.i64.wrap (8 * (p : Int)) = 8 * (p : Int):=IntWalk.i64_in _ (by omega)
   have f13 : IntKind.i64.wrap ((n : Int) - 1) = (n : Int) - 1:=IntWalk.i64_in _ (by omega)
   have f14 : IntKind.i64.wrap (k : Int) = (k : Int):=IntWalk.i64_in _ (by omega)
   have f15 : k < n:=by omega
   clear l1 l2 l3 hq hr hy hx hz hs hk hkl hqz hby
   refine r0T ?_
   refine wp_seq ?_
   refine wp_cond_true (rfl) ?_
   refine wp_skip ?_
   refine A4 ?_
   refine wp_seq ?_
   refine wp_block ?_
   refine r0T ?_
   refine rdC A5 [] [(0,0),(0,1),(0,2),(0,3),(0,4),(0,5),(0,6),(0,7),(0,8),(0,9),(0,10),(0,11),(0,12),(0,13),(0,14),(0,15),(0,16),(0,17),(0,18),(0,19)] hB hG fun K L hN hL=>?_
   repeat first | refine gya ?_ | refine gyr ?_ | refine gna ?_ | refine gyb (by (rintro v ⟨hgu,hB,hG,-⟩ N hN;have r:=hB.r;simp only [BxR] at r;have hcb:=Hby.out v hG;go_simp;exact hN)) ?_
   refine geC hL ?_
   clear hB hG hL L
   rintro u ⟨-,hB,hG,-⟩
   refine gt ?_
   clear hN K
   generalize hu0 : World.setCell u _ _ = u0
   have hBG:=hB.over hF hG 0 rfl q [_] hu0
   clear hB hG
   simp only [List.modify_succ_cons,List.modify_zero_cons,G6,G2.out] at hBG
   obtain ⟨hB,hG⟩:=hBG
   clear hu0
   obtain ⟨u,rfl⟩ : ∃ x,x = u0:=⟨_,rfl⟩
   refine F0 ?_
   refine A4 ?_
   refine r0E ?_
   refine A4 ?_
   go_roundw
   case rel=>exact ⟨i + 1,zs.set q s,by omega,by go_num,L3.out,hB,hG⟩
   case measure=>simp [intOf];try omega
  ·obtain rfl : n = i:=by omega
   have hdec : decide ((n : Int) < (n : Int)) = false:=by simp
   skip
   refine r0T ?_
   refine wp_seq ?_
   refine wp_cond_false (rfl) ?_
   refine wp_exit ?_
   refine D7 ?_
   refine D7 ?_
   refine G8 ?_
   refine A4 ?_
   refine r0T ?_
   refine rt Tryz.results158 ?_
   exact ⟨b4,zs,by rw [H0.out.1],⟨Nat.le_trans HG0.out.size (hF.1 b4 (by simp)),hB.head,H0.out.2.1,by rw [H0.out.done Hn.out];exact Hlv.out,by rw [H0.out.1];exact hmb⟩,HG0.out.trans hG⟩
theorem A5C (a : Nat) (ha : bl a ≤ 1099511627776) (n : Nat) (hn : n = (A7 W64 a).length) (w : World) : Calls Tryz.prog 126 #[A6 a] w (I1 (fun A : Option Addr=>.slice A n n) (fun A W=>Rd W A (A7 W64 a)) w) :=
 (Y8 a ha w).mono fun e w' ⟨A,he,ho,hg⟩=>⟨A,by rw [he,hn],ho.rd,hg⟩
theorem B6W (a b : Nat) (ha : bl a ≤ 1099511627776) (hb : bl b ≤ 1099511627776) (hs : ¬ (a < W64 ∧ b < W64)) (hlt : a < b) (w : World) : Calls Tryz.prog 119 #[A6 a,A6 b] w fun e w'=>e = .returned (.tuple #[A6 (a / b),A6 (a % b),.bool true]) ∧ A3 w w':=by
 have hT : ∃ b1 b2 : Bool,(B1 a).toList.isEmpty = b1 ∧ (B1 b).toList.isEmpty = b2 ∧ (b1 && b2) = false:=by
  refine ⟨_,_,rfl,rfl,?_⟩
  rw [L7,L7,Bool.and_eq_false_iff,decide_eq_false_iff_not,decide_eq_false_iff_not]
  omega
 obtain ⟨b1,b2,hb1,hb2,hb12⟩:=hT
 have hbits : ∀ W : World,Calls Tryz.prog 117 #[A6 b] W fun e w'=>e = .returned (.int .i64 (bl b)) ∧ A3 W w':=fun W=>M1 b hb W
 have hcmp : ∀ W : World,Calls Tryz.prog 118 #[A6 a,A6 b] W fun e w'=>e = .returned (.int .i64 (-1)) ∧ A3 W w':=fun W=>by
  have := T7 a b ha W
  rw [O6 hlt] at this
  exact this
 have hne : ((bl b : Int) == 0) = false:=by have := P6.2 (show b ≠ 0 by omega);simp;omega
 have Hq:=Lib.hid (And.intro (Nat.div_eq_of_lt hlt) (Nat.mod_eq_of_lt hlt))
 have Hbits:=Lib.hid hbits
 have Hcmp:=Lib.hid hcmp
 clear hbits hcmp hs ha hb hlt
 cases b1 <;> cases b2 <;> first | (exact absurd hb12 (by decide)) | skip
 all_goals clear hb12
 all_goals
  go_enter Tryz.func119,Tryz.ntmps119
  refine en4 ?_
  intro u hG b5 b4 b3 b2 hB hF
  refine wp_seq ?_
  refine wp_seq (rsE A5 [0,1,0] hB hG fun L hL=>?_)
  refine gs ?_
  refine gmw (C:=fun v=>Hbits.out _) ?_
  refine gs ?_
  refine geT hL ?_
  clear hB hG hL L
  rintro u ⟨-,hB,hG,-⟩
  refine wp_cond_false (rfl) ?_
  refine wp_skip ?_
  refine A4 ?_
  refine wp_seq ?_
  refine r0T ?_
  refine wp_cond_false (rfl) ?_
  refine wp_skip ?_
  refine A4 ?_
  refine wp_seq ?_
  refine wp_seq (rsE A5 [0,0,1,0] hB hG fun L hL=>?_)
  refine gs ?_
  refine gmw (C:=fun v=>Hcmp.out _) ?_
  refine gs ?_
  refine geT hL ?_
  clear hB hG hL L
  rintro u ⟨-,hB,hG,-⟩
  refine wp_cond_true (rfl) ?_
  refine wp_seq ?_
  refine Code.wp_mono NoP.up ?_
  have r:=hB.r
  simp only [BxR] at r
  have hD : b2 ≠ b4 ∧ b2 ≠ b5 ∧ b3 ≠ b4 ∧ b3 ≠ b5 ∧ b4 ≠ b2 ∧ b4 ≠ b3 ∧ b4 ≠ b5 ∧ b5 ≠ b2 ∧ b5 ≠ b3 ∧ b5 ≠ b4:=⟨hF.ne 0 2 rfl rfl (by decide),hF.ne 0 3 rfl rfl (by decide),hF.ne 1 2 rfl rfl (by decide),hF.ne 1 3 rfl rfl (by decide),hF.ne 2 0 rfl rfl (by decide),hF.ne 2 1 rfl rfl (by decide),hF.ne 2 3 rfl rfl (by decide),hF.ne 3 0 rfl rfl (by decide),hF.ne 3 1 rfl rfl (by decide),hF.ne 3 2 rfl rfl (by decide)⟩
  go_region
  clear r hD
  generalize hu0 : World.setCell (World.setCell u _ _) _ _ = u0
  have hBG:=S6 hB hF hG 2 rfl 0 [_,_] hu0
  clear hB hG hu0
  obtain ⟨hB,hG⟩:=hBG
  clear u
  generalize hu1 : World.setCell (World.setCell u0 _ _) _ _ = u1
  have hBG:=S6 hB hF hG 3 rfl 0 [_,_] hu1
  clear hB hG hu1
  obtain ⟨hB,hG⟩:=hBG
  clear u0
  obtain ⟨u,rfl⟩ : ∃ x,x = u1:=⟨_,rfl⟩
  replace hB:=hB.grow (A3.drew u)
  replace hG:=hG.trans (A3.drew u)
  obtain ⟨u,rfl⟩ : ∃ x,x = u.drew:=⟨_,rfl⟩
  refine NoP.norm ?_
  refine A4 ?_
  refine rt Tryz.results119 ?_
  refine And.intro ?_ hG
  rw [Hq.out.1,Hq.out.2]
  rfl
theorem B1S {w2 : World} {b1 q : Nat} {zs : List Nat} (hz1 : C4 w2 b1 zs) (hz3 : Dig W64 zs) (hz4 : val W64 zs = q) (hl : zs.length ≤ 34359738368) :
  ∀ W,A3 w2 W → Calls Tryz.prog 124 #[.slice (some ⟨b1,0,none⟩) (C6 zs).length zs.length] W fun e w'=>e = .returned (A6 q) ∧ A3 W w':=fun W hg=>by
 have := R8 (some ⟨b1,0,none⟩) (C6 zs) zs.length W (fun _=>⟨b1,0,rfl,by rw [A1g];exact ((hz1.grow hg).wds).take _⟩) (A0j hz3) (A1w _) (Nat.le_trans (A1w _) (by omega)) (by omega)
 rw [A0M,hz4] at this
 exact this
theorem B6a (a b : Nat) (ha : bl a ≤ 1099511627776) (haW : ¬ a < W64) (hbW : b < W64) (h0 : b ≠ 0) (w : World) : Calls Tryz.prog 119 #[A6 a,A6 b] w fun e w'=>e = .returned (.tuple #[A6 (a / b),A6 (a % b),.bool true]) ∧ A3 w w':=by
 have hE1 : (B1 a).toList.isEmpty = false:=by rw [L7];simpa using haW
 have hE2 : (B1 b).toList.isEmpty = true:=by rw [L7];simpa using hbW
 have hbits : ∀ W : World,Calls Tryz.prog 117 #[A6 b] W fun e w'=>e = .returned (.int .i64 (bl b)) ∧ A3 W w':=fun W=>M1 b (Nat.le_trans (W5 hbW) (by omega)) W
 obtain ⟨c,hcd,hcmp⟩ : ∃ c : Int,decide (c < 0) = false ∧ ∀ W : World,Calls Tryz.prog 118 #[A6 a,A6 b] W fun e w'=>e = .returned (.int .i64 c) ∧ A3 W w':=⟨E6 a b,by
  unfold E6;rw [if_neg (by omega)];split <;> rfl,fun W=>T7 a b ha W⟩
 have hne : ((bl b : Int) == 0) = false:=by have := P6.2 h0;simp;omega
 obtain ⟨n,hn⟩ : ∃ n,n = (A7 W64 a).length:=⟨_,rfl⟩
 have hn0 : (A7 W64 a) ≠ []:=fun h=>by
  have := D5 C7 a
  rw [h] at this
  have h1 : a = 0:=this.symm
  exact haW (h1 ▸ B6)
 have hnl : n ≤ 34359738360:=by rw [hn];have := Z4 (a:=a) (k:=17179869184) (by omega);omega
 have hwords : ∀ W : World,Calls Tryz.prog 126 #[A6 a] W fun e w'=>∃ b1,e = .returned (.slice (some ⟨b1,0,none⟩) n n) ∧ W.heap.size ≤ b1 ∧ C4 w' b1 (A7 W64 a) ∧ A3 W w':=fun W =>
  (Y8 a ha W).mono fun e w' ⟨A,he,ho,hg⟩=>by
   obtain ⟨b1,h1,rfl,h3⟩:=ho hn0
   exact ⟨b1,by rw [he,hn],h1,h3,hg⟩
 have hdw : ∀ (W0 W : World) (b1 : Nat),A3 W0 W → W0.heap.size ≤ b1 → C4 W b1 (A7 W64 a) → Calls Tryz.prog 156 #[.slice (some ⟨b1,0,none⟩) n n,.int .u64 (B3 b)] W fun e w'=>∃ zs : List Nat,e = .returned (.tuple #[.slice (some ⟨b1,0,none⟩) (C6 zs).length zs.length,.int .u64 (B3 (a % b))]) ∧ C4 w' b1 zs ∧ zs.length = n ∧ Dig W64 zs ∧ val W64 zs = a / b ∧ A3 W0 w':=fun W0 W b1 hg hb1 hr=>by
  have := B6U b1 (A7 W64 a) b W0 W hr (F2 C7 a) (by omega) hbW (by omega) hg hb1
  rw [← hn,D5 C7] at this
  rw [J6 hbW,J6 (Nat.lt_trans (Nat.mod_lt a (Nat.pos_of_ne_zero h0)) hbW)]
  exact this
 have hmo:=A1U (Nat.lt_trans (Nat.mod_lt a (Nat.pos_of_ne_zero h0)) hbW)
 have Hbits:=Lib.hid hbits
 have Hcmp:=Lib.hid hcmp
 have Hwords:=Lib.hid hwords
 have Hdw:=Lib.hid hdw
 have Hmo:=Lib.hid hmo
 clear hbits hcmp hwords hdw ha haW hbW hn hn0 hmo
 go_enter Tryz.func119,Tryz.ntmps119
 refine en4 ?_
 intro u hG b5 b4 b3 b2 hB hF
 refine wp_seq ?_
 refine wp_seq (rsE A5 [0,1,0] hB hG fun L hL=>?_)
 refine gs ?_
 refine gmw (C:=fun v=>Hbits.out _) ?_
 refine gs ?_
 refine geT hL ?_
 clear hB hG hL L
 rintro u ⟨-,hB,hG,-⟩
 refine wp_cond_false (rfl) ?_
 refine wp_skip ?_
 refine A4 ?_
 refine wp_seq ?_
 refine r0T ?_
 refine wp_cond_false (rfl) ?_
 refine wp_skip ?_
 refine A4 ?_
 refine wp_seq ?_
 refine wp_seq (rsE A5 [0,0,1,0] hB hG fun L hL=>?_)
 refine gs ?_
 refine gmw (C:=fun v=>Hcmp.out _) ?_
 refine gs ?_
 refine geT hL ?_
 clear hB hG hL L
 rintro u ⟨-,hB,hG,-⟩
 refine wp_cond_false (rfl) ?_
 refine wp_skip ?_
 refine A4 ?_
 refine wp_seq ?_
 refine r0T ?_
 refine wp_cond_true (rfl) ?_
 refine wp_seq ?_
 refine Code.wp_mono NoP.up ?_
 have r:=hB.r
 simp only [BxR] at r
 go_region_with (first
  | (go_at_call 126;((with_reducible refine (Hwords.out _).mono ?_);rintro e w1 ⟨b1,rfl,hb1,hr1,hg1⟩;have r1:=(hB.grow hg1).r;simp only [BxR] at r1))
  | (go_at_call 156;((with_reducible refine (Hdw.out _ _ _ hg1 hb1 hr1).mono ?_);rintro e w2 ⟨zs,rfl,hz⟩;have Hz:=Lib.hid hz;clear hz)))
 all_goals clear r r1
 all_goals obtain ⟨hz1,hz2,hz3,hz4,hz5⟩:=Hz.out
 all_goals have hfw:=B1S hz1 hz3 hz4 (by omega)
 all_goals have Hfw:=Lib.hid hfw
 all_goals replace hB:=hB.grow ((A3.drew u).trans hz5)
 all_goals replace hG:=hG.trans ((A3.drew u).trans hz5)
 all_goals clear hfw Hz hz1 hz2 hz3 hz4 hz5 hr1 hg1 hb1
 all_goals obtain ⟨u,rfl⟩ : ∃ x,x = w2:=⟨_,rfl⟩
 all_goals refine NoP.norm ?_
 all_goals
  refine A4 ?_
  refine wp_seq (rsC A5 [0,1,0,0] hB hG fun K L hN hL=>?_)
  refine gs ?_
  refine gmd (C:=fun v ⟨hgu,hB,hG,_⟩=>Hfw.out _ hgu) ?_
  refine gs ?_
  refine geC hL ?_
  clear hB hG hL L
  rintro u ⟨-,hB,hG,-⟩
  have hD : b4 ≠ b5 ∧ b5 ≠ b4:=⟨hF.ne 2 3 rfl rfl (by decide),hF.ne 3 2 rfl rfl (by decide)⟩
  refine gtT ?_
  clear hN K
  clear hD
  refine st2 hB hF hG 2 0 [_,_] 3 0 [_,_] ?_
  clear hB hG
  intro u hB hG
  refine rt Tryz.results119 ?_
  refine And.intro ?_ hG
  rw [show A6 (a % b) = .agg #[.int .u64 (B3 (a % b)),.string ⟨#[]⟩] by show Value.agg #[_,.string (B1 (a % b))] = _;rw [Hmo.out]]
abbrev DW:=Nat × Nat × List Nat × List Nat
def dwV (x : DW) : Value:=.tuple #[.slice (some ⟨x.1,0,none⟩) x.2.2.1.length x.2.2.1.length,.slice (some ⟨x.2.1,0,none⟩) x.2.2.2.length x.2.2.2.length]
def DWT (a b m : Nat) (x : DW) (W : World) : Prop:=C4 W x.1 x.2.2.1 ∧ C4 W x.2.1 x.2.2.2 ∧ Dig W64 x.2.2.1 ∧ Dig W64 x.2.2.2 ∧ x.2.2.1.length ≤ m ∧ x.2.2.2.length ≤ m ∧ val W64 x.2.2.1 = a / b ∧ val W64 x.2.2.2 = a % b
theorem DWT.grow {a b m : Nat} {x : DW} {W W' : World} (hg : A3 W W') (h : DWT a b m x W) : DWT a b m x W':=⟨h.1.grow hg,h.2.1.grow hg,h.2.2⟩
theorem B3C (a b : Nat) (ha : bl a ≤ 1099511627776) (hbW : ¬ b < W64) (hle : b ≤ a) (w : World) : Calls Tryz.prog 119 #[A6 a,A6 b] w fun e w'=>e = .returned (.tuple #[A6 (a / b),A6 (a % b),.bool true]) ∧ A3 w w':=by
 have hb : bl b ≤ 1099511627776:=Nat.le_trans (N8 hle) ha
 have hE1 : (B1 a).toList.isEmpty = false:=by rw [L7];simp;omega
 have hE2 : (B1 b).toList.isEmpty = false:=by rw [L7];simpa using hbW
 have hbits : ∀ W : World,Calls Tryz.prog 117 #[A6 b] W fun e w'=>e = .returned (.int .i64 (bl b)) ∧ A3 W w':=fun W=>M1 b hb W
 obtain ⟨c,hcd,hcmp⟩ : ∃ c : Int,decide (c < 0) = false ∧ ∀ W : World,Calls Tryz.prog 118 #[A6 a,A6 b] W fun e w'=>e = .returned (.int .i64 c) ∧ A3 W w':=⟨E6 a b,by
  unfold E6;rw [if_neg (by omega)];split <;> rfl,fun W=>T7 a b ha W⟩
 have h0 : b ≠ 0:=fun h=>hbW (h ▸ B6)
 have ha0 : a ≠ 0:=by omega
 have hne : ((bl b : Int) == 0) = false:=by have := P6.2 h0;simp;omega
 obtain ⟨n,hn⟩ : ∃ n,n = (A7 W64 a).length:=⟨_,rfl⟩
 obtain ⟨m,hm⟩ : ∃ m,m = (A7 W64 b).length:=⟨_,rfl⟩
 have hnl : n ≤ 34359738360:=by rw [hn];have := Z4 (a:=a) (k:=17179869184) (by omega);omega
 have hm2 : 2 ≤ m:=by
  rw [hm]
  exact A4N (n:=1) C7 (by rw [Nat.pow_one];omega)
 have hmn : m ≤ n:=by
  rw [hm,hn]
  rcases Nat.lt_or_ge (A7 W64 a).length (A7 W64 b).length with h | h
  ·have h1:=H5 (F2 C7 a)
   rw [D5 C7] at h1
   have h2:=(A4W (F2 C7 b)).1 (A1A C7 b)
   rw [D5 C7] at h2
   rcases h2 with h2 | h2
   ·rw [h2] at h;simp at h
   ·have h3 : W64 ^ (A7 W64 a).length ≤ W64 ^ ((A7 W64 b).length - 1):=Nat.pow_le_pow_right B6 (by omega)
    omega
  ·exact h
 have htop : dg (A7 W64 b) (m - 1) ≠ 0:=by
  have ht:=A1A C7 b
  have hl : m - 1 < (A7 W64 b).length:=by omega
  rcases ht with ht | ht
  ·rw [ht] at hm;simp at hm;omega
  ·rw [D3 hl]
   intro h
   apply ht
   rw [List.getLast?_eq_getElem?,← hm,List.getElem?_eq_getElem hl,h]
 have hdw : ∀ (W : World) (A1 A2 : Option Addr),Rd W A1 (A7 W64 a) → Rd W A2 (A7 W64 b) → Calls Tryz.prog 157 #[.slice A1 n n,.slice A2 m m] W (I1 dwV (DWT a b n) W):=fun W A1 A2 h1 h2=>by
  have := B43 A1 A2 (A7 W64 a) (A7 W64 b) n m (F2 C7 a) (F2 C7 b) (by omega) (by omega) (by rw [← hm];exact htop) (by omega) W h1 h2
  rw [← hn,← hm,D5 C7,D5 C7] at this
  refine this.mono fun e w' ⟨bq,br,qs,rs,he,k1,k2,k3,k4,k5,k6,k7,k8,k9⟩=>⟨(bq,br,qs,rs),he,⟨k1,k2,k3,k4,k5,k6,k7,k8⟩,k9⟩
 have Hw1:=Lib.hid (A5C a ha n hn)
 have Hw2:=Lib.hid (A5C b hb m hm)
 have Hbits:=Lib.hid hbits
 have Hcmp:=Lib.hid hcmp
 have Hdw:=Lib.hid hdw
 clear hbits hcmp hdw ha hb hbW hn hm htop ha0 hle
 go_enter Tryz.func119,Tryz.ntmps119
 refine en4 ?_
 intro u hG b5 b4 b3 b2 hB hF
 refine wp_seq ?_
 refine wp_seq (rsE A5 [0,1,0] hB hG fun L hL=>?_)
 refine gs ?_
 refine gmw (C:=fun v=>Hbits.out _) ?_
 repeat first | refine gya ?_ | refine gyr ?_ | refine gna ?_ | refine gyb (by (rintro v - N hN;(try unfold dwV);go_simp;exact hN)) ?_
 refine geT hL ?_
 clear hB hG hL L
 rintro u ⟨-,hB,hG,-⟩
 refine wp_cond_false (rfl) ?_
 refine wp_skip ?_
 refine A4 ?_
 refine wp_seq ?_
 refine r0T ?_
 refine wp_cond_false (rfl) ?_
 refine wp_skip ?_
 refine A4 ?_
 refine wp_seq ?_
 refine wp_seq (rsE A5 [0,0,1,0] hB hG fun L hL=>?_)
 refine gs ?_
 refine gmw (C:=fun v=>Hcmp.out _) ?_
 repeat first | refine gya ?_ | refine gyr ?_ | refine gna ?_ | refine gyb (by (rintro v - N hN;(try unfold dwV);go_simp;exact hN)) ?_
 refine geT hL ?_
 clear hB hG hL L
 rintro u ⟨-,hB,hG,-⟩
 refine wp_cond_false (rfl) ?_
 refine wp_skip ?_
 refine A4 ?_
 refine wp_seq ?_
 refine r0T ?_
 refine wp_cond_false (rfl) ?_
 refine wp_skip ?_
 refine A4 ?_
 refine wp_seq (rdC A5 [] [(0,0),(0,2),(1,1),(1,3),(1,4),(0,5),(0,6),(0,7),(0,8)] hB hG fun K L hN hL=>?_)
 refine gs ?_
 refine gxd (X:=Option Addr) (fun A=>.slice A n n) (fun A W=>Rd W A (A7 W64 a)) (fun _ _ _ hg h=>h.grow hg) (fun x59=>?_) (C:=fun v _=>Hw1.out _)
 refine gxd (X:=Option Addr) (fun A=>.slice A m m) (fun A W=>Rd W A (A7 W64 b)) (fun _ _ _ hg h=>h.grow hg) (fun x61=>?_) (C:=fun v _=>Hw2.out _)
 refine gxd (X:=DW) (dwV) (DWT a b n) (fun _ _ _ hg h=>h.grow hg) (fun x62=>?_) (C:=by (rintro v ⟨⟨⟨hgu,hB,hG,-⟩,hx59⟩,hx61⟩;exact Hdw.out _ _ _ hx59 hx61))
 repeat first | refine gya ?_ | refine gyr ?_ | refine gna ?_ | refine gyb (by (rintro v - N hN;(try unfold dwV);go_simp;exact hN)) ?_
 refine geC hL ?_
 clear hB hG hL L
 rintro u ⟨⟨⟨⟨-,hB,hG,-⟩,hx59⟩,hx61⟩,hx62⟩
 refine gtT ?_
 clear hN K
 obtain ⟨bq,br,qs,rs⟩:=x62
 obtain ⟨k1,k2,k3,k4,k5,k6,k7,k8⟩:=hx62
 dsimp only at k1 k2 k3 k4 k5 k6 k7 k8
 have hfw1 : ∀ W,A3 u W → Calls Tryz.prog 124 #[.slice (some ⟨bq,0,none⟩) qs.length qs.length] W fun e w'=>e = .returned (A6 (a / b)) ∧ A3 W w':=fun W hg=>by
  have := R8 (some ⟨bq,0,none⟩) qs qs.length W (fun _=>⟨bq,0,rfl,(k1.grow hg).wds⟩) k3 (Nat.le_refl _) (by omega) (by omega)
  rw [k7] at this
  exact this
 have hfw2 : ∀ W,A3 u W → Calls Tryz.prog 124 #[.slice (some ⟨br,0,none⟩) rs.length rs.length] W fun e w'=>e = .returned (A6 (a % b)) ∧ A3 W w':=fun W hg=>by
  have := R8 (some ⟨br,0,none⟩) rs rs.length W (fun _=>⟨br,0,rfl,(k2.grow hg).wds⟩) k4 (Nat.le_refl _) (by omega) (by omega)
  rw [k8] at this
  exact this
 have Hfw1:=Lib.hid hfw1
 have Hfw2:=Lib.hid hfw2
 clear hfw1 hfw2 k1 k2 k3 k4 k7 k8 hx59 hx61
 refine wp_seq (rsC A5 [0,1,0,1] hB hG fun K L hN hL=>?_)
 repeat first | refine gya ?_ | refine gyr ?_ | refine gna ?_ | refine gyb (by (rintro v - N hN;(try unfold dwV);go_simp;exact hN)) ?_
 refine gmd (C:=fun v ⟨hgu,hB,hG,_⟩=>Hfw1.out _ hgu) ?_
 repeat first | refine gya ?_ | refine gyr ?_ | refine gna ?_ | refine gyb (by (rintro v - N hN;(try unfold dwV);go_simp;exact hN)) ?_
 refine gmd (C:=fun v ⟨hgu,hB,hG,_⟩=>Hfw2.out _ hgu) ?_
 refine geC hL ?_
 clear hB hG hL L
 rintro u ⟨-,hB,hG,-⟩
 have hD : b4 ≠ b5 ∧ b5 ≠ b4:=⟨hF.ne 2 3 rfl rfl (by decide),hF.ne 3 2 rfl rfl (by decide)⟩
 refine gtT ?_
 clear hN K
 clear hD
 refine st2 hB hF hG 2 0 [_,_] 3 0 [_,_] ?_
 clear hB hG
 intro u hB hG
 refine rt Tryz.results119 ?_
 exact ⟨rfl,hG⟩
theorem A11 (a b : Nat) (ha : bl a ≤ BIG) (hb : bl b ≤ BIG) (h0 : b ≠ 0) (w : World) : Calls Tryz.prog 119 #[A6 a,A6 b] w fun e w'=>e = .returned (.tuple #[A6 (a / b),A6 (a % b),.bool true]) ∧ A3 w w':=by
 have ha':=M7 ha
 have hb':=M7 hb
 by_cases hs : a < W64 ∧ b < W64
 ·exact B2Y a b hs.1 hs.2 h0 w
 ·by_cases hlt : a < b
  ·exact B6W a b ha' hb' hs hlt w
  ·by_cases hb1 : b < W64
   ·exact B6a a b ha' (fun h=>hs ⟨h,hb1⟩) hb1 h0 w
   ·exact B3C a b ha' hb1 (by omega) w
end Go.Proofs.YtlkniebmjdoopaaGreatDoor
